/- Part of a proof. -/
import Derived.IntWalk
import Derived.Test.YtfeddmfijllgmaaGreatDoorZ5
set_option linter.all false
open Option renaming some->S,none->Y
open Bool renaming true->G,false->Z
open List renaming length->X
namespace Go.Pm
open Go Go.RowKit
variable(M:bl)(g:Pi)(v:List Pi)(r:Option (Prop×V))(l:de)(H:bU)(R:List (List Pi×Pi×List Pi))(B:ar)(y:List Pi)(w:Nat)(F:ai)(j:Func)(E:Array Value)(x:St){a:I}{T:List O}{f:Nat}{q:Nat×Bool}{b:O}{p:St}{J i:ai}{Q D:ar}{e:bG}{o:bK}{N:bU}{U:bl}{d:de}{s:fu}
inductive Rs where
 |t (n:Nat)
 |c (n:Nat) (k:de)
structure pK where
 nt:Nat
 rs:List Rs
 c:bK
def cRs(P:bl):List ResultVar->Option (List Rs)
 |[]=>S []
 |.tmp t::r=>(cRs P r).map (.t t::·)
 |.cell t T::r=>match k8 P T,P.info? T,cRs P r with
  |some G,S b,S a=>S (.c t (S b.size)::a)
  |some Z,S _,S a=>S (.c t Y::a)
  |_,_,_=>Y
def gd:Option pK :=
 match j.body with
 |some a=>match iC M a,cRs M j.results.toList with
  |some c,S b=>S ⟨j.ntmps,b,c⟩
  |_,_=>Y
 |none=>Y
def vf:Rs->Option V
 |.t n=>S (x.fr.getD n .u)
 |.c n k=>match x.fr.getD n .u with
  |.ptr id off=>match x.J[id]? with
   |some (.box _ cs)=>match k with
    |none=>cs[off]?
    |some m=>if off+m<=X cs then S (.agg ((cs.drop off).take m))else Y
   |_=>Y
  |_=>Y
def lG(a:St):List Rs->Option (ar)
 |[]=>S []
 |r::rs=>match vf a r,lG a rs with
  |some x,S b=>S (x::b)
  |_,_=>Y
def cM:ar->V|[x]=>x|xs=>.iS xs
def wF(d:List Rs)(Q:V->ai->Prop)(e:Exit)(c:St):Prop :=(e=.normal\/e=.ret)/\∃a,lG c d=S a/\∃r b,Wk M w [cM a] c.J [r] b/\Q r b
def RR:ResultVar->Sem Value
 |.tmp t=>pure (E.getD t undef)
 |.cell a t=>do loadVar t (<- asAddr (E.getD a undef))
def RP:results j E=(do let vs <- j.results.mapM (RR E);pure (if h:vs.size=1 then vs[0]else .tuple vs)):=rfl
def CS{P:bl}{B:Nat}{w0 w:bF}{f:St}{μ:Mem}{a:Act}(K:kN P B w0 w f.J μ)(E:FR w f.J μ f.fr a):∀(l:List ResultVar) (s:List Rs) (u:ar),cRs P l=S s->lG f s=S u ->
  ∃p:List Value,(l.mapM (RR a.tmps)).run P w=.ok p w/\X p=X u/\∀(i:Nat) (x:V),u[i]?=S x->VR w f.J μ x (p.getD i undef)
 |[],s,u,hc,hx=>by
  simp only[cRs,aa]at hc;subst hc;simp only[lG,aa]at hx;subst hx;exact⟨[],by simp,rfl,by simp⟩
 |r::l,s,u,hc,hx=>by
  have F:∃D d,s=D::d/\cRs P l=S d/\∀x,vf f D=S x->∃v,(RR a.tmps r).run P w=.ok v w/\VR w f.J μ x v:=by
   cases r with
   |tmp t =>
    simp only[cRs,aH]at hc;obtain⟨d,m,rfl⟩:=hc;refine⟨.t t,d,rfl,m,λx h=>⟨_,rfl,?_⟩⟩;simp only[vf,aa]at h;subst h;exact E.at t
   |cell t T =>
    simp only[cRs]at hc
    have inner:∀(g:Bool) (n:TypeInfo),k8 P T=S g->P.info? T=S n->∀x,vf f (.c t (if g then S n.size else Y))=S x->∃v,(do loadVar T (<- asAddr (a.tmps.getD t undef)):Sem Value).run P w=.ok v w/\VR w f.J μ x v:=by
     intro g n q e x h;simp only[vf]at h;split at h
     .rename_i id off hp;have m:=hp▸E.at t;obtain⟨b,hm,hv,_⟩:=m.vn;split at h
      .rename_i T' Q N;obtain⟨b',p,o,hB,hh,iz,L⟩:=K.QQ N;rw[hm]at o;simp only[Value.pointer.injEq,aa,Addr.mk.injEq,dm]at o;subst o;have C:=PQ (P:=P) (J:=f.J) (μ:=μ) (row:=Q) (k:=if g then S n.size else Y) (b:=b) (off:=off) e (PY q) off (λj z U=>L _ z U)
       have he:(do loadVar T (<- asAddr (a.tmps.getD t undef)):Sem Value).run P w=(Instr.loadAt T (.pointer (S ⟨b,off,Y⟩))).run P w:=by
        rw[hv];rfl
       rw[he];cases g
       .simp only[aI,bo]at h C;exact C.1 trivial x h
       .simp only[aR]at h C;split at h<;>simp only[aa,reduceCtorEq]at h;rename_i I;subst h;exact C.2 _ rfl I
      .simp at h
     .simp at h
    split at hc<;>simp only[aa,reduceCtorEq]at hc
    .rename_i n d q e m;exact⟨_,d,hc.symm,m,λx h=>inner G n q e x h⟩
    .rename_i n d q e m;exact⟨_,d,hc.symm,m,λx h=>inner Z n q e x h⟩
  obtain⟨D,d,rfl,m,M⟩:=F;simp only[lG]at hx;split at hx<;>simp only[aa,reduceCtorEq]at hx;rename_i x ys R EK;subst hx;obtain⟨v,W,O⟩:=M x R;obtain⟨p,h5,h6,h7⟩:=CS K E l d ys m EK;refine⟨v::p,?_,by simp[h6],λi y H=>?_⟩
  .simp only[List.mapM_cons,Sem.run_bind,W,Result.andThen_ok,h5,Sem.run_pure]
  .cases i with
   |zero=>simp only[aG,aa]at H;subst H;simpa using O
   |succ i=>simpa using h7 i y (by simpa using H)
abbrev bh(P:Program)(f:Nat)(a:List V)(J:ai)(y:V):Prop:=PC P f a J λr b=>r=y/\b=J
def aT{P:bl}{f:Nat}{j:Func}{E:pK}{a:ar}{J:ai}{Q:V->ai->Prop}(hf:P.funcs[f]?=some j)(n:gd P j=some E) (h:bW J->(∀(i:Nat) (x:V),a[i]?=some x->x.Wf/\x.Lt (X J))->cD (X J) P E.c (wF P (X J) E.rs Q) ⟨a++List.replicate (E.nt - X a) .u,J⟩):PC P f a J Q:=by
 unfold gd at n;split at n
 .rename_i p hb;split at n<;>simp only[aa,reduceCtorEq]at n;rename_i c rs Eh Vu;subst n;intro B R w L l hS s;refine calls_of_wp hf hb ?_;have hF:FR w J L (a++List.replicate (j.ntmps - X a) .u) { tmps:=l++Array.replicate (j.ntmps - l.size) undef,defers:=[] }:=by
   refine⟨rfl,by simp[s.1],λi x b=>?_⟩;by_cases W:i<X a
   .rw[bc W]at b;have N:=s.2 i x b;have IX:i<l.size:=by rw[s.1];exact W
    have e:(l++Array.replicate (j.ntmps - l.size) undef).getD i undef=l.getD i undef:=by simp only[cC,kP IX]
    simp only[e];exact N
   rw[bB (by omega)]at b;have:x=.u:=by have:=(ag.1 b).2;simpa using this.symm
   subst this;exact .u _
  refine wp_mono (h hS.closed (λi x b=>⟨(s.2 i x b).wf,(s.2 i x b).lt⟩) p Eh B R w L _ hS hF) ?_;rintro e U g ⟨O,d,hK,D,k,hk⟩;obtain⟨he,H,Bi,r,o,hw,hQ⟩:=hK;obtain⟨m,N,K,q⟩:=CS D k j.results.toList rs H Vu Bi;have I:∃v,(results j U.tmps).run P g=.ok v g/\VR g O.J d (cM H) v:=by
   have F:(results j U.tmps).run P g=.ok (if h:m.toArray.size=1 then m.toArray[0]else .tuple m.toArray) g:=by rw[RP,Array.mapM_eq_mapM_toList];simp only[Sem.run_bind,Sem.run_map,N,Result.andThen_ok,Sem.run_pure]
   refine⟨_,F,?_⟩;match H,m,K,q with
   |[x],[u],_,q=>have:=q 0 x rfl;exact this
   |[],[],_,_=>exact .iS [] #[] rfl (by simp)
   |x::y::H,u::v::m,K,q =>
    have iV:¬((u::v::m).toArray.size=1):=by simp
    rw[dif_neg iV];exact .iS _ _ (by simpa using K.symm) λi z hz=>by have:=q i z hz;simpa[ax]using this
  obtain⟨v,F,M⟩:=I;obtain⟨T,h4,h5,h6⟩:=hw B R g d #[v] D ⟨rfl,λi x b=>by
   cases i with
   |zero=>simp only[aG,aa]at b;subst b;simpa using M
   |succ i=>simp at b⟩;have t:∃r C o d,Ending.returned v=.returned C/\Q r o/\kN P B R g o d/\VR g o d r C/\rJ w J L g o d :=
   ⟨r,v,o,T,rfl,hQ,h4,by have:=h5.2 0 r rfl;simpa using this,λx u b=>h6 x u (hk x u b b.lt) b.lt⟩;rcases he with rfl|rfl;.exact⟨k.1,v,F,t⟩
  exact⟨k.1,v,F,t⟩
 simp at n
def gF(n:Nat)(P:bl)(c:bK)(K:bG):Nat->bU
 |0,_=>False
 |N+1,st=>cD n P c (λe=>match e with
  |.normal=>gF n P c K N
  |e=>K e) st
def cD.mM(h:gF f U o e w p):cD f U (.loop o) e p:=by
 intro t s;cases t;case loop c' =>
  simp only[iC,aH,bK.loop.injEq]at s;obtain⟨F,K,rfl⟩:=s;intro B E c D a L H;refine vL w (λk C x=>∃st2 m,gF f U F e k st2/\kN U B E x st2.J m/\FR x st2.J m st2.fr C/\iL f c p.J D x st2.J m) ⟨p,D,h,L,H,iL.refl _ _ _ _⟩ ?_;rintro k C x ⟨st2,m,u,y,z,r⟩;cases k with
  |zero=>exact u.elim
  |succ k =>refine wp_mono (u c' K B E x m C y z) ?_;rintro b N M ⟨j,i,q,d,g,n⟩;cases b with|normal=>exact⟨k,Nat.lt_succ_self k,j,i,q,d,g,r.trans n⟩|exit id=>exact⟨j,i,q,d,g,r.trans n⟩|goto l=>exact⟨j,i,q,d,g,r.trans n⟩|ret=>exact⟨j,i,q,d,g,r.trans n⟩|panic o=>exact⟨j,i,q,d,g,r.trans n⟩|outgrown=>exact⟨j,i,q,d,g,r.trans n⟩
 all_goals first|(exfalso;revert s;simp only[iC];try ((repeat' split)<;>simp);done)|(rename_i _ I v;exfalso;cases v<;>simp only[iC]at s<;>first|(obtain⟨_,_,_,h⟩:=ln s;simp at h;done)|(rcases jY s with⟨_,_,_,_,h,_⟩|⟨_,_,h,_⟩|⟨_,_,_,_,_,_,h,_⟩<;>simp at h;done))
def HV(id:Nat)(K:bG):bG|.exit id'=>if id'=id then K .normal else K (.exit id')|e=>K e
def alf(P:bl)(c:bK)(K:bG)(N:Nat):bG|.normal=>gF w P c K N|e=>K e
def Zj(K:bG):bG|.normal=>H|e=>K e
def VM:bK->(bU)->bU|.tQ ds last gs tail,k,st=>vX M ds last (mG M gs tail k) st|_,_,_=>False
def Qy(h:VM U o N p):∃c last b a,o=.tQ c last b a/\vX U c last (mG U b a N) p:=by cases o with|tQ c last b a=>exact⟨c,last,b,a,rfl,h⟩|_=>exact h.elim
def DV(n:Nat)(P:bl):bK->(bG)->bU
 |.skip,K,st=>K .normal st
 |.pF gs is,K,st=>mG P gs is (K .normal) st
 |.tQ ds last gs tail,K,st=>vX P ds last (mG P gs tail (K .normal)) st
 |.seq a b,K,st=>DV n P a (Zj (DV n P b K) K) st
 |.ite c a b,K,st=>match ev st.fr c with
  |.b x=>(x=G->DV n P a K st)/\(x=Z->DV n P b K st)
  |_=>False
 |.block id c,K,st=>DV n P c (HV id K) st
 |.loop c,K,st=>cD n P (.loop c) K st
 |.exit id,K,st=>K (.exit id) st
 |.ret,K,st=>K .ret st
 |.both a b,K,st=>VM P a (K .normal) st/\VM P b (K .normal) st
 |.YI fls ds1 ds2 last gs tail,K,st=>BX P (QO fls) ds1 ds2 last (mG P gs tail (K .normal)) (As (X st.J) fls st.fr) st.J []
def an{n:Nat}{P:bl}:∀{c:bK} {K:bG} {f:St},DV n P c K f->cD n P c K f
 |.skip,_,_,h=>cD.skip h
 |.pF _ _,_,_,h=>cD.pF h
 |.tQ _ _ _ _,_,_,h=>cD.tQ h
 |.seq a b,K,f,h=>cD.seq ((an (c:=a) h).mono λe g d=>by
   cases e with
   |normal=>exact an (c:=b) d
   |_=>exact d)
 |.ite c a b,K,f,h=>by
  simp only[DV]at h;split at h;.rename_i x l;exact cD.ite l (λi=>an (h.1 i)) λi=>an (h.2 i)
  exact h.elim
 |.block id c,K,f,h=>cD.block ((an (c:=c) h).mono λe g d=>by
   cases e with
   |exit k =>simp only[HV]at d;simp only[CE];split at d<;>rename_i j<;>simp only[j,aR,bo]<;>exact d
   |_=>exact d)
 |.loop _,_,_,h=>h
 |.exit _,_,_,h=>cD.exit h
 |.ret,_,_,h=>cD.ret h
 |.both _ _,_,_,h=>cD.both (Qy h.1) (Qy h.2)
 |.YI ..,_,_,h=>cD.YI h
def acC:QO []=[]:=rfl
def Yh(d T:Nat)(zs:ar)(r:List (Nat×Nat×ar)):QO ((d,T,zs)::r)=.box T zs::QO r:=rfl
def X1:mr []=[]:=rfl
def Tf(o:Ob)(r:List Ob):mr (o::r)=.dead::mr r:=rfl
def Zg(n:Nat)(fr:ar):As n [] fr=fr:=rfl
def Wg(n d T:Nat)(zs:ar)(r:List (Nat×Nat×ar))(fr:ar):As n ((d,T,zs)::r) fr=As (n+1) r (fr.set d (.ptr n 0)):=rfl
def Zq{N:Nat}(h:DV f U o (alf f U o e N) p):gF f U o e (N+1) p:=by simp only[gF];exact(an h).mono λa c b=>by cases a<;>exact b
def QS{id:Nat}{K:bG}:HV id K .normal=K .normal:=rfl
def acH{id:Nat}{K:bG}:HV id K .ret=K .ret:=rfl
def Yk{id:Nat}{K:bG}:HV id K (.exit id)=K .normal:=by simp only[HV,aR]
def Yl{id a:Nat}{K:bG}:HV id K (.exit a)=if a=id then K .normal else K (.exit a):=rfl
def OG{k:bU}{K:bG}:Zj k K .normal=k:=rfl
def Zi{k:bU}{K:bG}:Zj k K .ret=K .ret:=rfl
def Wh{k:bU}{K:bG}{id:Nat}:Zj k K (.exit id)=K (.exit id):=rfl
def pI:Prop :=
 match r with|some (a,v)=>a/\H ⟨gN B l v,F⟩|none=>False
def xI(r:Option (Prop×V×ai))(d:de)(K:bU)(fr:ar):Prop :=
 match r with|some (a,v,b)=>a/\K ⟨gN fr d v,b⟩|none=>False
def qI(c:Bool)(d:de)(K:bU)(fr:ar)(J:ai):Prop :=
 match r with|some (a,v)=>(c=G->a)/\K ⟨gN fr d v,J⟩|none=>False
def ad0{a:Prop}{v:V}{d:de}{K:bU}{fr:ar}{J:ai}:pI (S (a,v)) d K fr J=(a/\K ⟨gN fr d v,J⟩):=rfl
def adr{a:Prop}{v:V}{d:de}{K:bU}{fr:ar}{b:ai}:xI (S (a,v,b)) d K fr=(a/\K ⟨gN fr d v,b⟩):=rfl
def adX{a:Prop}{v:V}{c:Bool}{d:de}{K:bU}{fr:ar}{J:ai}:qI (S (a,v)) c d K fr J=((c=G->a)/\K ⟨gN fr d v,J⟩):=rfl
def mC{fr:ar}{J:ai}(b:a.eV=G):gI U ⟨d,[],a⟩ N ⟨fr,J⟩=pI (ca fr J a) d N fr J:=by
 have c:=Al (fr:=fr) (J:=J) b;simp only[gI];cases a<;>first|(simp[I.eV]at b;done)|skip
 all_goals
  simp only[mV,pI,c];generalize ca fr J _=r;cases r<;>rfl
def yQ(c:a.eV=Z)(i:∀f b,a≠.call f b)(g:∀x b,a≠.tE x b):gI U ⟨d,[],a⟩ N ⟨Q,J⟩=xI (dY Q J a) d N Q:=by
 have e:ca Q J a=Y:=by cases h:ca Q J a with|none=>rfl|some r=>rw[A4 h]at c;simp at c
 simp only[gI];cases a<;>first|(simp[I.eV]at c;done)|exact absurd rfl (i _ _)|exact absurd rfl (g _ _)|skip
 all_goals
  simp only[mV,xI,e];generalize dY Q J _=r;cases r<;>rfl
def ajR{P:bl}{d:de}{K:bU}{fr:ar}{J:ai}{x:O}:gI P ⟨d,[],.yk x⟩ K ⟨fr,J⟩=pI (ca fr J (.yk x)) d K fr J:=mC rfl
def af9{P:bl}{d:de}{K:bU}{fr:ar}{J:ai}{c a b:O}:gI P ⟨d,[],.pick c a b⟩ K ⟨fr,J⟩=pI (ca fr J (.pick c a b)) d K fr J:=mC rfl
def abX{P:bl}{d:de}{K:bU}{fr:ar}{J:ai}{zs:ar}{a:List (Nat×Nat×O)}:gI P ⟨d,[],.build zs a⟩ K ⟨fr,J⟩=pI (ca fr J (.build zs a)) d K fr J:=mC rfl
def XQ{P:bl}{d:de}{K:bU}{fr:ar}{J:ai}{c:Nat}{a:List (de)}{b:List O}:gI P ⟨d,[],.fT c a b⟩ K ⟨fr,J⟩=pI (ca fr J (.fT c a b)) d K fr J:=mC rfl
def agf{P:bl}{d:de}{K:bU}{fr:ar}{J:ai}{k:de}{a:O}:gI P ⟨d,[],.load k a⟩ K ⟨fr,J⟩=pI (ca fr J (.load k a)) d K fr J:=mC rfl
def abV{P:bl}{d:de}{K:bU}{fr:ar}{J:ai}{x:O}:gI P ⟨d,[],.zo x⟩ K ⟨fr,J⟩=pI (ca fr J (.zo x)) d K fr J:=mC rfl
def aj0{P:bl}{d:de}{K:bU}{fr:ar}{J:ai}{a:BinOp}{x y:O}:gI P ⟨d,[],.bin a x y⟩ K ⟨fr,J⟩=pI (ca fr J (.bin a x y)) d K fr J:=mC rfl
def aj1{P:bl}{d:de}{K:bU}{fr:ar}{J:ai}{a:Bool}{b:ed}{x y:O}:gI P ⟨d,[],.beq a b x y⟩ K ⟨fr,J⟩=pI (ca fr J (.beq a b x y)) d K fr J:=mC rfl
def aj2{P:bl}{d:de}{K:bU}{fr:ar}{J:ai}{a:Bool}{x y:O}:gI P ⟨d,[],.bbq a x y⟩ K ⟨fr,J⟩=pI (ca fr J (.bbq a x y)) d K fr J:=mC rfl
def apy{P:bl}{d:de}{K:bU}{fr:ar}{J:ai}{a:UnOp}{x:O}:gI P ⟨d,[],.un a x⟩ K ⟨fr,J⟩=pI (ca fr J (.un a x)) d K fr J:=mC rfl
def ajW{P:bl}{d:de}{K:bU}{fr:ar}{J:ai}{k:IntKind}{x:O}:gI P ⟨d,[],.cvi k x⟩ K ⟨fr,J⟩=pI (ca fr J (.cvi k x)) d K fr J:=mC rfl
def aj3{P:bl}{d:de}{K:bU}{fr:ar}{J:ai}{x:O}:gI P ⟨d,[],.b2s x⟩ K ⟨fr,J⟩=pI (ca fr J (.b2s x)) d K fr J:=mC rfl
def abU{P:bl}{d:de}{K:bU}{fr:ar}{J:ai}{a:Nat}{x:O}{b c:Option O}:gI P ⟨d,[],.slice a x b c⟩ K ⟨fr,J⟩=pI (ca fr J (.slice a x b c)) d K fr J:=mC rfl
def XO{P:bl}{d:de}{K:bU}{fr:ar}{J:ai}{x:O}{a b:Option O}:gI P ⟨d,[],.u4 x a b⟩ K ⟨fr,J⟩=pI (ca fr J (.u4 x a b)) d K fr J:=mC rfl
def ajU{P:bl}{d:de}{K:bU}{fr:ar}{J:ai}{a:Nat}{x:O}:gI P ⟨d,[],.Qp a x⟩ K ⟨fr,J⟩=pI (ca fr J (.Qp a x)) d K fr J:=mC rfl
def ajT{P:bl}{d:de}{K:bU}{fr:ar}{J:ai}{a:Nat}{x i:O}:gI P ⟨d,[],.idx a x i⟩ K ⟨fr,J⟩=pI (ca fr J (.idx a x i)) d K fr J:=mC rfl
def af8{P:bl}{d:de}{K:bU}{fr:ar}{J:ai}{x i:O}:gI P ⟨d,[],.OE x i⟩ K ⟨fr,J⟩=pI (ca fr J (.OE x i)) d K fr J:=mC rfl
def ajV{P:bl}{d:de}{K:bU}{fr:ar}{J:ai}{k:Nat}{x:O}:gI P ⟨d,[],.ext k x⟩ K ⟨fr,J⟩=pI (ca fr J (.ext k x)) d K fr J:=mC rfl
def ajS{P:bl}{d:de}{K:bU}{fr:ar}{J:ai}{a:Bool}{x:O}:gI P ⟨d,[],.len a x⟩ K ⟨fr,J⟩=pI (ca fr J (.len a x)) d K fr J:=mC rfl
def agd{P:bl}{d:de}{K:bU}{fr:ar}{J:ai}{x y:O}:gI P ⟨d,[],.max2 x y⟩ K ⟨fr,J⟩=pI (ca fr J (.max2 x y)) d K fr J:=mC rfl
def agc{P:bl}{d:de}{K:bU}{fr:ar}{J:ai}{x y:O}:gI P ⟨d,[],.min2 x y⟩ K ⟨fr,J⟩=pI (ca fr J (.min2 x y)) d K fr J:=mC rfl
def age{P:bl}{d:de}{K:bU}{fr:ar}{J:ai}{a:Nat}{z:V}{ok:Bool}{m k:O}:gI P ⟨d,[],.look a z ok m k⟩ K ⟨fr,J⟩=pI (ca fr J (.look a z ok m k)) d K fr J:=mC rfl
def agb{P:bl}{d:de}{K:bU}{fr:ar}{J:ai}{x:O}:gI P ⟨d,[],.IL x⟩ K ⟨fr,J⟩=pI (ca fr J (.IL x)) d K fr J:=mC rfl
def ajZ{P:bl}{d:de}{K:bU}{fr:ar}{J:ai}{T:Nat}{x:O}:gI P ⟨d,[],.box T x⟩ K ⟨fr,J⟩=xI (dY fr J (.box T x)) d K fr:=yQ rfl (by simp) (by simp)
def abY{P:bl}{d:de}{K:bU}{fr:ar}{J:ai}{T:Nat}{zs:ar}:gI P ⟨d,[],.alloc T zs⟩ K ⟨fr,J⟩=xI (dY fr J (.alloc T zs)) d K fr:=yQ rfl (by simp) (by simp)
def abT{P:bl}{d:de}{K:bU}{fr:ar}{J:ai}{k:Nat}{b:List (de)}{a x:O}:gI P ⟨d,[],.store k b a x⟩ K ⟨fr,J⟩=xI (dY fr J (.store k b a x)) d K fr:=yQ rfl (by simp) (by simp)
def aj5{P:bl}{d:de}{K:bU}{fr:ar}{J:ai}{E b a:Nat}{x y:O}:gI P ⟨d,[],.app E b a x y⟩ K ⟨fr,J⟩=xI (dY fr J (.app E b a x y)) d K fr:=yQ rfl (by simp) (by simp)
def agi{P:bl}{d:de}{K:bU}{fr:ar}{J:ai}{E:Nat}{x y:O}:gI P ⟨d,[],.apps E x y⟩ K ⟨fr,J⟩=xI (dY fr J (.apps E x y)) d K fr:=yQ rfl (by simp) (by simp)
def apz{P:bl}{d:de}{K:bU}{fr:ar}{J:ai}{E b a:Nat}{zs:ar}{l c:O}:gI P ⟨d,[],.mk E b a zs l c⟩ K ⟨fr,J⟩=xI (dY fr J (.mk E b a zs l c)) d K fr:=yQ rfl (by simp) (by simp)
def agh{P:bl}{d:de}{K:bU}{fr:ar}{J:ai}{E c b:Nat}{a:List (de)}{e:List O}:gI P ⟨d,[],.Tr E c b a e⟩ K ⟨fr,J⟩=xI (dY fr J (.Tr E c b a e)) d K fr:=yQ rfl (by simp) (by simp)
def abW{P:bl}{d:de}{K:bU}{fr:ar}{J:ai}{T E:Nat}:gI P ⟨d,[],.GK T E⟩ K ⟨fr,J⟩=xI (dY fr J (.GK T E)) d K fr:=yQ rfl (by simp) (by simp)
def aga{P:bl}{d:de}{K:bU}{fr:ar}{J:ai}{b:Nat}{a:List (de)}{m k x:O}:gI P ⟨d,[],.Sm b a m k x⟩ K ⟨fr,J⟩=xI (dY fr J (.Sm b a m k x)) d K fr:=yQ rfl (by simp) (by simp)
def agj{P:bl}{d:de}{K:bU}{fr:ar}{J:ai}{n a:Nat}{x i:O}:gI P ⟨d,[],.QW n a x i⟩ K ⟨fr,J⟩=pI (ca fr J (.QW n a x i)) d K fr J:=mC rfl
def aj4{P:bl}{d:de}{K:bU}{fr:ar}{J:ai}{n:Nat}{x:O}:gI P ⟨d,[],.asl n x⟩ K ⟨fr,J⟩=pI (ca fr J (.asl n x)) d K fr J:=mC rfl
def ajY{P:bl}{d:de}{K:bU}{fr:ar}{J:ai}{f:Nat}{a:List O}:gI P ⟨d,[],.clo f a⟩ K ⟨fr,J⟩=pI (ca fr J (.clo f a)) d K fr J:=mC rfl
def ajX{P:bl}{d:de}{K:bU}{fr:ar}{J:ai}{a:Nat}{zs:ar}{x:O}:gI P ⟨d,[],.QG a zs x⟩ K ⟨fr,J⟩=xI (dY fr J (.QG a zs x)) d K fr:=yQ rfl (by simp) (by simp)
def gX(r:Option Bool)(K:bU)(fr:ar)(J:ai):Prop :=
 match r with
 |none=>False
 |some c=>match g.i with
  |.load k a=>match ev fr a with
   |.ptr _ _=>qI (ca fr J (.load k a)) c g.d K fr J
   |_=>∃v,(c=G->∃b,ca fr J (.load k a)=S (b,v)/\b)/\K ⟨gN fr g.d v,J⟩
  |i=>qI (ca fr J i) c g.d K fr J
def mY{p:Pi}(h:p.g≠[])(b:(∀f a,p.i≠.call f a)/\∀x a,p.i≠.tE x a):gI U p N ⟨Q,J⟩=gX p (chainB Q p.g) N Q J:=by
 obtain⟨d,g,i⟩:=p;cases g with
 |nil=>exact absurd rfl h
 |cons q e =>simp only[gI,gX];cases chainB Q (q::e)with|none=>rfl|some c =>simp only[DD];cases i<;>first|rfl|exact absurd rfl (b.1 _ _)|exact absurd rfl (b.2 _ _)
def ajF{P:bl}{d:de}{q:Nat×Bool}{a:fu}{K:bU}{fr:ar}{J:ai}{x:O}:gI P ⟨d,q::a,.yk x⟩ K ⟨fr,J⟩=gX ⟨d,q::a,.yk x⟩ (chainB fr (q::a)) K fr J:=mY (by simp) (by simp)
def af0{P:bl}{d:de}{q:Nat×Bool}{e:fu}{K:bU}{fr:ar}{J:ai}{c a b:O}:gI P ⟨d,q::e,.pick c a b⟩ K ⟨fr,J⟩=gX ⟨d,q::e,.pick c a b⟩ (chainB fr (q::e)) K fr J:=mY (by simp) (by simp)
def abQ{P:bl}{d:de}{q:Nat×Bool}{a:fu}{K:bU}{fr:ar}{J:ai}{zs:ar}{b:List (Nat×Nat×O)}:gI P ⟨d,q::a,.build zs b⟩ K ⟨fr,J⟩=gX ⟨d,q::a,.build zs b⟩ (chainB fr (q::a)) K fr J:=mY (by simp) (by simp)
def XK{P:bl}{d:de}{q:Nat×Bool}{b:fu}{K:bU}{fr:ar}{J:ai}{c:Nat}{a:List (de)}{e:List O}:gI P ⟨d,q::b,.fT c a e⟩ K ⟨fr,J⟩=gX ⟨d,q::b,.fT c a e⟩ (chainB fr (q::b)) K fr J:=mY (by simp) (by simp)
def af5{P:bl}{d:de}{q:Nat×Bool}{b:fu}{K:bU}{fr:ar}{J:ai}{k:de}{a:O}:gI P ⟨d,q::b,.load k a⟩ K ⟨fr,J⟩=gX ⟨d,q::b,.load k a⟩ (chainB fr (q::b)) K fr J:=mY (by simp) (by simp)
def abP{P:bl}{d:de}{q:Nat×Bool}{a:fu}{K:bU}{fr:ar}{J:ai}{x:O}:gI P ⟨d,q::a,.zo x⟩ K ⟨fr,J⟩=gX ⟨d,q::a,.zo x⟩ (chainB fr (q::a)) K fr J:=mY (by simp) (by simp)
def ajL{P:bl}{d:de}{q:Nat×Bool}{a:fu}{K:bU}{fr:ar}{J:ai}{b:BinOp}{x y:O}:gI P ⟨d,q::a,.bin b x y⟩ K ⟨fr,J⟩=gX ⟨d,q::a,.bin b x y⟩ (chainB fr (q::a)) K fr J:=mY (by simp) (by simp)
def ajM{P:bl}{d:de}{q:Nat×Bool}{b:fu}{K:bU}{fr:ar}{J:ai}{a:Bool}{c:ed}{x y:O}:gI P ⟨d,q::b,.beq a c x y⟩ K ⟨fr,J⟩=gX ⟨d,q::b,.beq a c x y⟩ (chainB fr (q::b)) K fr J:=mY (by simp) (by simp)
def ajN{P:bl}{d:de}{q:Nat×Bool}{b:fu}{K:bU}{fr:ar}{J:ai}{a:Bool}{x y:O}:gI P ⟨d,q::b,.bbq a x y⟩ K ⟨fr,J⟩=gX ⟨d,q::b,.bbq a x y⟩ (chainB fr (q::b)) K fr J:=mY (by simp) (by simp)
def apx{P:bl}{d:de}{q:Nat×Bool}{a:fu}{K:bU}{fr:ar}{J:ai}{b:UnOp}{x:O}:gI P ⟨d,q::a,.un b x⟩ K ⟨fr,J⟩=gX ⟨d,q::a,.un b x⟩ (chainB fr (q::a)) K fr J:=mY (by simp) (by simp)
def ajK{P:bl}{d:de}{q:Nat×Bool}{a:fu}{K:bU}{fr:ar}{J:ai}{k:IntKind}{x:O}:gI P ⟨d,q::a,.cvi k x⟩ K ⟨fr,J⟩=gX ⟨d,q::a,.cvi k x⟩ (chainB fr (q::a)) K fr J:=mY (by simp) (by simp)
def ajO{P:bl}{d:de}{q:Nat×Bool}{a:fu}{K:bU}{fr:ar}{J:ai}{x:O}:gI P ⟨d,q::a,.b2s x⟩ K ⟨fr,J⟩=gX ⟨d,q::a,.b2s x⟩ (chainB fr (q::a)) K fr J:=mY (by simp) (by simp)
def abO{P:bl}{d:de}{q:Nat×Bool}{a:fu}{K:bU}{fr:ar}{J:ai}{b:Nat}{x:O}{c e:Option O}:gI P ⟨d,q::a,.slice b x c e⟩ K ⟨fr,J⟩=gX ⟨d,q::a,.slice b x c e⟩ (chainB fr (q::a)) K fr J:=mY (by simp) (by simp)
def XJ{P:bl}{d:de}{q:Nat×Bool}{a:fu}{K:bU}{fr:ar}{J:ai}{x:O}{b c:Option O}:gI P ⟨d,q::a,.u4 x b c⟩ K ⟨fr,J⟩=gX ⟨d,q::a,.u4 x b c⟩ (chainB fr (q::a)) K fr J:=mY (by simp) (by simp)
def ajI{P:bl}{d:de}{q:Nat×Bool}{b:fu}{K:bU}{fr:ar}{J:ai}{a:Nat}{x:O}:gI P ⟨d,q::b,.Qp a x⟩ K ⟨fr,J⟩=gX ⟨d,q::b,.Qp a x⟩ (chainB fr (q::b)) K fr J:=mY (by simp) (by simp)
def ajH{P:bl}{d:de}{q:Nat×Bool}{a:fu}{K:bU}{fr:ar}{J:ai}{b:Nat}{x i:O}:gI P ⟨d,q::a,.idx b x i⟩ K ⟨fr,J⟩=gX ⟨d,q::a,.idx b x i⟩ (chainB fr (q::a)) K fr J:=mY (by simp) (by simp)
def afZ{P:bl}{d:de}{q:Nat×Bool}{a:fu}{K:bU}{fr:ar}{J:ai}{x i:O}:gI P ⟨d,q::a,.OE x i⟩ K ⟨fr,J⟩=gX ⟨d,q::a,.OE x i⟩ (chainB fr (q::a)) K fr J:=mY (by simp) (by simp)
def ajJ{P:bl}{d:de}{q:Nat×Bool}{a:fu}{K:bU}{fr:ar}{J:ai}{k:Nat}{x:O}:gI P ⟨d,q::a,.ext k x⟩ K ⟨fr,J⟩=gX ⟨d,q::a,.ext k x⟩ (chainB fr (q::a)) K fr J:=mY (by simp) (by simp)
def ajG{P:bl}{d:de}{q:Nat×Bool}{b:fu}{K:bU}{fr:ar}{J:ai}{a:Bool}{x:O}:gI P ⟨d,q::b,.len a x⟩ K ⟨fr,J⟩=gX ⟨d,q::b,.len a x⟩ (chainB fr (q::b)) K fr J:=mY (by simp) (by simp)
def af3{P:bl}{d:de}{q:Nat×Bool}{a:fu}{K:bU}{fr:ar}{J:ai}{x y:O}:gI P ⟨d,q::a,.max2 x y⟩ K ⟨fr,J⟩=gX ⟨d,q::a,.max2 x y⟩ (chainB fr (q::a)) K fr J:=mY (by simp) (by simp)
def af2{P:bl}{d:de}{q:Nat×Bool}{a:fu}{K:bU}{fr:ar}{J:ai}{x y:O}:gI P ⟨d,q::a,.min2 x y⟩ K ⟨fr,J⟩=gX ⟨d,q::a,.min2 x y⟩ (chainB fr (q::a)) K fr J:=mY (by simp) (by simp)
def af4{P:bl}{d:de}{q:Nat×Bool}{a:fu}{K:bU}{fr:ar}{J:ai}{b:Nat}{z:V}{ok:Bool}{m k:O}:gI P ⟨d,q::a,.look b z ok m k⟩ K ⟨fr,J⟩=gX ⟨d,q::a,.look b z ok m k⟩ (chainB fr (q::a)) K fr J:=mY (by simp) (by simp)
def af6{P:bl}{d:de}{q:Nat×Bool}{a:fu}{K:bU}{fr:ar}{J:ai}{n b:Nat}{x i:O}:gI P ⟨d,q::a,.QW n b x i⟩ K ⟨fr,J⟩=gX ⟨d,q::a,.QW n b x i⟩ (chainB fr (q::a)) K fr J:=mY (by simp) (by simp)
def af1{P:bl}{d:de}{q:Nat×Bool}{a:fu}{K:bU}{fr:ar}{J:ai}{x:O}:gI P ⟨d,q::a,.IL x⟩ K ⟨fr,J⟩=gX ⟨d,q::a,.IL x⟩ (chainB fr (q::a)) K fr J:=mY (by simp) (by simp)
def ak{v:V}(h:PC U f D J (λr a=>r=v/\a=i))(e:T.map (ev Q)=D)(b:N ⟨gN Q d v,i⟩): gI U ⟨d,[],.call f T⟩ N ⟨Q,J⟩:=by subst e;exact h.mono λr a ⟨c,g⟩=>by subst c;subst g;exact b
def sF{c:ar}{v:V}(m:ev Q b=.fn f D)(e:Gv U f=G)(h:PC U f c J (λr a=>r=v/\a=i))(j:T.map (ev Q)++D=c)(k:N ⟨gN Q d v,i⟩): gI U ⟨d,[],.tE b T⟩ N ⟨Q,J⟩:=by subst j;simp only[gI,mV,m];exact⟨e,h.mono λr a ⟨g,l⟩=>by subst g;subst l;exact k⟩
def dV{a:V->ai->Prop}(h:PC U f D J a)(e:T.map (ev Q)=D)(c:∀r b,a r b->N ⟨gN Q d r,b⟩): gI U ⟨d,[],.call f T⟩ N ⟨Q,J⟩:=by subst e;exact h.mono c
def cm{v:V}{c:Bool}(a:chainB Q (q::s)=S c)(h:c=G->PC U f D J (λr b=>r=v/\b=J))(i:T.map (ev Q)=D)(e:N ⟨gN Q d v,J⟩): gI U ⟨d,q::s,.call f T⟩ N ⟨Q,J⟩:=by subst i;simp only[gI,a,DD];exact⟨λa=>(h a).mono λk b ⟨g,j⟩=>by subst g;subst j;exact e,λ_=>⟨v,e⟩⟩
def yB{v:V}{c:Bool}(e:chainB Q (q::s)=S c) (h:c=G->∃f a,ev Q b=.fn f a/\Gv U f=G/\PC U f (T.map (ev Q)++a) J (λr g=>r=v/\g=J)) (i:N ⟨gN Q d v,J⟩):gI U ⟨d,q::s,.tE b T⟩ N ⟨Q,J⟩:=by simp only[gI,e,DD];refine⟨λe=>?_,λ_=>⟨v,i⟩⟩;obtain⟨f,a,m,j,k⟩:=h e;rw[m];exact⟨j,k.mono λo g ⟨l,n⟩=>by subst l;subst n;exact i⟩
def QL{P:bl}{d:de}{q:Nat×Bool}{e:fu}{f:Nat}{a:List O}{K:bU}{fr:ar}{J:ai}{g:ar}{Q:V->ai->Prop}{c:Bool}(b:chainB fr (q::e)=S c)(h:c=G->PC P f g J Q)(j:a.map (ev fr)=g) (k:c=G->∀r i,Q r i->K ⟨gN fr d r,i⟩) (l:c=Z->∃v,K ⟨gN fr d v,J⟩):gI P ⟨d,q::e,.call f a⟩ K ⟨fr,J⟩:=by subst j;simp only[gI,b,DD];exact⟨λb=>(h b).mono (k b),l⟩
def ake(K:bU)(a:St):Prop:=(∀p∈v,HQ p a)/\vX M R y K a
def nw:ai->List Ob->List Ob->List Ob->(ai->ai->Prop)->Prop|τ,[],[],s,K=>K τ s|τ,[],b::Xs,c::s,K=>b=c/\nw τ [] Xs s K|τ,_::a,Xs,y::s,K=>nw (τ++[y]) a Xs s K|_,_,_,_,_=>False
def zW:∀{a:List Ob} {τ:ai} {Xs s:List Ob} {K:ai->ai->Prop},nw τ a Xs s K<->∃e ε,X e=X a/\s=e++(Xs++ε)/\K (τ++e) ε
 |[],τ,[],s,K=>by
  simp only[nw];constructor;.intro h;exact⟨[],s,rfl,rfl,by simpa using h⟩
  rintro⟨e,ε,f,rfl,d⟩;obtain rfl:=bQ f;simpa using d
 |[],τ,c::Xs,[],K=>by simp only[nw,false_iff];rintro⟨e,ε,f,d,_⟩;simp at d
 |[],τ,c::Xs,b::s,K=>by
  simp only[nw,zW (a:=[]) (Xs:=Xs)];constructor;.rintro⟨rfl,e,ε,f,rfl,d⟩;obtain rfl:=bQ f;exact⟨[],ε,rfl,rfl,d⟩
  rintro⟨e,ε,f,d,g⟩;obtain rfl:=bQ f;simp only[aw,aF,gQ]at d;exact⟨d.1.symm,[],ε,rfl,d.2,g⟩
 |x::a,τ,Xs,[],K=>by
  simp only[nw,false_iff];rintro⟨e,ε,f,d,_⟩;cases e with
  |nil=>simp at f
  |cons y e=>simp at d
 |x::a,τ,Xs,y::s,K=>by
  simp only[nw,zW (a:=a) (Xs:=Xs)];constructor;.rintro⟨e,ε,f,rfl,d⟩;exact⟨y::e,ε,by simp[f],rfl,by simpa using d⟩
  rintro⟨e,ε,f,d,g⟩;cases e with|nil=>simp at f|cons z e =>simp only[aF,gQ]at d;obtain⟨rfl,rfl⟩:=d;exact⟨e,ε,by simpa using f,rfl,by simpa using g⟩
def grown_of{J J':ai}{a Xs b:List Ob}{K:ai->ai->Prop}(f:X J'=X J):grown (J++a) Xs (J'++b) K=nw J' a Xs b K:=by
 rw[akm,zW,grown];constructor
 .rintro⟨j,ε,d,g,h⟩;have e:=List.append_eq_append_iff.1 g;rcases e with⟨c,rfl,rfl⟩|⟨c,rfl,i⟩;.exact⟨c,ε,by simp[f]at d;exact d,rfl,h⟩
  have m:c=[]:=bQ (by simp at d f;omega);subst m;simp only[bE,aw]at d i f h;have k:X a=0:=by simp at d;omega
  exact⟨[],ε,by simp[k],i.symm,by simpa using h⟩
 rintro⟨l,ε,d,rfl,g⟩;exact⟨J'++l,ε,by simp[d,f],by simp,g⟩
def abK{J:ai}{a c b:List Ob}{K:ai->ai->Prop}:grown (J++a) c (J++b) K=nw J a c b K:=grown_of rfl
def XI{J:ai}{Xs b:List Ob}{K:ai->ai->Prop}:grown J Xs (J++b) K=nw J [] Xs b K:=by have:=grown_of (J:=J) (J':=J) (a:=[]) (Xs:=Xs) (b:=b) (K:=K) rfl;rwa [bE]at this
def S0{τ:ai}{s:List Ob}{K:ai->ai->Prop}:nw τ [] [] s K=K τ s:=by cases s<;>rfl
def S1{τ:ai}{a b:Ob}{c s:List Ob}{K:ai->ai->Prop}:nw τ [] (a::c) (b::s) K=(a=b/\nw τ [] c s K):=rfl
def SZ{τ:ai}{x y:Ob}{a b s:List Ob}{K:ai->ai->Prop}:nw τ (x::a) b (y::s) K=nw (τ++[y]) a b s K:=by cases b<;>rfl
def ald(bx:List Ob)(chk:List Pi)(ds1 ds2:List (List Pi×Pi×List Pi))(last:List Pi)(K:bU)(τ:ai)(b:List Ob)(a:St):Prop:=(∀p∈chk,HQ p a)/\grown τ b a.J (BX M bx ds1 ds2 last K a.fr)
def ak7(bx:List Ob)(L:Pi)(chk:List Pi)(ds1 ds2:List (List Pi×Pi×List Pi))(last:List Pi)(K:bU)(τ ε:ai)(b:St):Prop:=Tx bx λa=>gI M L (ald M bx chk ds1 ds2 last K τ a) ⟨b.fr,τ++(a++ε)⟩
def ak6(K:bU)(τ:ai)(a:St):Prop:=gI M g (ake M v R y K) ⟨a.fr,τ⟩
def ahi:Prop:=H ⟨x.fr,F⟩
section
variable {P:bl} {bx:List Ob} {NW last:List Pi} {L:Pi} {chk:List Pi} {ds1 ds2:List (List Pi×Pi×List Pi)} {K:bU} {fr:ar} {τ ε:ai}
def Zm:BX P bx [] [] last K fr τ ε=mG P [] last (ahi K (τ++(bx++ε))) ⟨fr,τ++(mr bx++ε)⟩:=rfl
def Wj:BX P bx [] ((NW,L,chk)::ds2) last K fr τ ε=mG P [] NW (ak6 P L chk ds2 last K (τ++(bx++ε))) ⟨fr,τ++(mr bx++ε)⟩:=rfl
def Wl:BX P bx ((NW,L,chk)::ds1) ds2 last K fr τ ε=mG P [] NW (ak7 P bx L chk ds1 ds2 last K τ ε) ⟨fr,τ++(mr bx++ε)⟩:=by cases ds2<;>rfl
end
variable{R:Mem}{B:Nat}{x:V}{v:Value}{J:ai}{M Q:ar}{N w:bF}{U:bl}{T:eJ}
def Zn{P:bl}{last:List Pi}{K:bU}{a:St}:vX P [] last K a=mG P [] last K a:=rfl
def Wm{P:bl}{NW:List Pi}{L:Pi}{chk:List Pi}{a:List (List Pi×Pi×List Pi)}{last:List Pi}{K:bU}{b:St}: vX P ((NW,L,chk)::a) last K b=mG P [] NW (gI P L (ake P chk a last K)) b:=rfl
def Zo{P:bl}{a:ed}{K:bU}{fr:ar}{J:ai}:mG P a [] K ⟨fr,J⟩=K ⟨QG a fr,J⟩:=rfl
def Wn{P:bl}{a:ed}{p:Pi}{b:List Pi}{K:bU}{fr:ar}{J:ai}:mG P a (p::b) K ⟨fr,J⟩=gI P p (mG P a b K) ⟨fr,J⟩:=rfl
def iF{J l:ai}:(J++l)[X J]?=l[0]?:=by rw[bB (aB _),gO]
def jE{J l:ai}{k:Nat}:(J++l)[X J+k]?=l[k]?:=by rw[bB (ac2 _ _),dD]
def rS{J l:ai}{x:Ob}:(J++l).set (X J) x=J++l.set 0 x:=by rw[ej _ _ (aB _),gO]
def ji{J l:ai}{k:Nat}{x:Ob}:(J++l).set (X J+k) x=J++l.set k x:=by rw[ej _ _ (ac2 _ _),dD]
def acO{J l:ai}:X (J++l)=X J+X l:=ae
def jR(id g b:Nat)(a:eJ):V->V|.own id' g'=>if id'=id/\g'=g then .sl b a else .own id' g'|.sub id' g' lo hi=>if id'=id/\g'=g then .sl b ((a.drop lo).take (hi - lo))else .sub id' g' lo hi|x=>x
def fz(id g sz:Nat)(rows:eJ):V->V|.agg xs=>.agg (xs.map (jR id g sz rows))|x=>jR id g sz rows x
def abZ(b:kN U B N w J R){id E d c g:Nat}(a:J[id]?=S (.row E d c g G T))(h:VR w J R x v): VR w J R (jR id g d T x) v:=by
 unfold jR;split
 .split;.rename_i e;obtain⟨rfl,rfl⟩:=e;rw[h.lP a];have:=VR.wY b a 0 (X T) (by omega) (aB _);rw[E6 b a]at this;simpa using this
  exact h
 .split;.rename_i e;obtain⟨rfl,rfl⟩:=e;obtain⟨i,f,j⟩:=h.tj a;rw[j];exact VR.wY b a _ _ i f
  exact h
 exact h
def apB(d:kN U B N w J R){id E b a g:Nat}(e:J[id]?=S (.row E b a g G T))(h:VR w J R x v): VR w J R (fz id g b T x) v:=by
 unfold fz;split;.rename_i m;obtain⟨l,rfl,j,f⟩:=h.tq;refine .agg _ _ (by simpa using j) λi y c=>?_;rw[bP,aH]at c;obtain⟨z,k,rfl⟩:=c;exact abZ d e (f i z k)
 exact abZ d e h
def Wk.fz{P:bl}{n:Nat}{xs:ar}{J:ai}(id:Nat){E sz by' g:Nat}{sh:Bool}{rows:eJ}(c:J[id]?=S (.row E sz by' g sh rows)):
  Wk P n xs J (xs.map (Pm.fz id g sz rows)) (J.set id (.row E sz by' g G rows)):=by refine Wk.trans (Wk.share c) ?_;have f:id<X J:=(ag.1 c).1;intro B j w e k d a;refine⟨e,d,⟨by simp[a.1],λi y b=>?_⟩,iL.refl _ _ _ _⟩;rw[bP,aH]at b;obtain⟨z,h,rfl⟩:=b;exact apB d (by rw[aN f]) (a.2 i z h)
def Wk.one{m:ai}(h:Wk U B M J Q m)(k:X Q=X M):Wk U B [Pm.cM M] J [Pm.cM Q] m:=by
 intro a q w p v r j;have l:=j.2 0 _ rfl;have o:∀{n:bF} {d:ar} {g:Array Value} {c:Mem},CR n m c d g->X d≠1->VR n m c (Pm.cM d) (.tuple g):=by intro n d g c b e;match d,b,e with|[],b,_=>exact .iS _ _ b.1 b.2|x::y::d,b,_=>exact .iS _ _ b.1 b.2|[x],_,e=>exact absurd rfl e
 by_cases b:X M=1
 .match M,b,h,k,l with
  |[x],_,h,k,l =>match Q,k,h with|[x'],_,h =>exact h a q w p v r ⟨j.1,λi y f=>j.2 i y f⟩
 have t:Pm.cM M=.iS M:=by match M,b with|[],_=>rfl|x::y::M,_=>rfl|[x],b=>exact absurd rfl b
 rw[t]at l;obtain⟨g,z,e,s⟩:=l.M3;obtain⟨c,C,D,u⟩:=h a q w p g r ⟨e,s⟩;refine⟨c,C,⟨j.1,λi y f=>?_⟩,u⟩;cases i with|zero =>simp only[aG,aa]at f;subst f;rw[z];exact o D (by rw[k];exact b)|succ i=>simp at f
def gT{P:bl}{n:Nat}{b:List Rs}{Q:V->ai->Prop}{e:Exit}{a:St}{xs xs':ar}{c:ai}(f:e=.normal\/e=.ret)(i:lG a b=S xs)(d:Wk P n xs a.J xs' c)(g:X xs'=X xs)(h:Q (cM xs') c): wF P n b Q e a:=⟨f,xs,i,_,_,d.one g,h⟩
def fp{b:List Rs}{a:V->ai->Prop}{c:St}:=@gT U B b a .ret c M Q J (.inr rfl)
def iY(m:Nat):ar->Prop|[]=>True|x::xs=>x.Lt m/\iY m xs
def dO{m:Nat}:∀{b:ar},iY m b<->∀(i:Nat) (x:V),b[i]?=S x->x.Lt m
 |[]=>by simp[iY]
 |y::b=>by
  rw[iY,dO];constructor;.rintro⟨d,c⟩ i x a;cases i with|zero=>simp only[aG,aa]at a;subst a;exact d|succ i=>exact c i x (by simpa using a)
  intro h;exact⟨h 0 y rfl,λi x a=>h (i+1) x (by simpa using a)⟩
section
variable {m:Nat}
def aqR:V.u.Lt m<->True:=⟨λ_=>trivial,λ_=>.u⟩
def aqS{x}:(V.b x).Lt m<->True:=⟨λ_=>trivial,λ_=>.b _⟩
def air{k a}:(V.i k a).Lt m<->True:=⟨λ_=>trivial,λ_=>.i _ _⟩
def aov{l}:(V.s l).Lt m<->True:=⟨λ_=>trivial,λ_=>.s _⟩
def aip:V.nil.Lt m<->True:=⟨λ_=>trivial,λ_=>.nil⟩
def aiq{sz xs}:(V.lit sz xs).Lt m<->True:=⟨λ_=>trivial,λ_=>.lit _ _⟩
def xa{sz xs}:(V.sl sz xs).Lt m<->True:=⟨λ_=>trivial,λ_=>.sl _ _⟩
def aoz{sz xs i o}:(V.ep sz xs i o).Lt m<->True:=⟨λ_=>trivial,λ_=>.ep _ _ _ _⟩
def W7:V.kL.Lt m<->True:=⟨λ_=>trivial,λ_=>.kL⟩
def W6:V.lI.Lt m<->True:=⟨λ_=>trivial,λ_=>.lI⟩
def aio{id g}:(V.own id g).Lt m<->id<m:=⟨λh=>by cases h;assumption,λh=>.own _ _ h⟩
def aim{id g lo hi}:(V.sub id g lo hi).Lt m<->id<m:=⟨λh=>by cases h;assumption,λh=>.sub _ _ _ _ h⟩
def ain{id o}:(V.ptr id o).Lt m<->id<m:=⟨λh=>by cases h;assumption,λh=>.ptr _ _ h⟩
def aow{id g i o}:(V.rp id g i o).Lt m<->id<m:=⟨λh=>by cases h;assumption,λh=>.rp _ _ _ _ h⟩
def aox{id}:(V.mp id).Lt m<->id<m:=⟨λh=>by cases h;assumption,λh=>.mp _ h⟩
def ais{xs}:(V.agg xs).Lt m<->iY m xs:=by rw[dO];exact⟨λh=>by cases h;assumption,λh=>.agg _ h⟩
def ail{xs}:(V.iS xs).Lt m<->iY m xs:=by rw[dO];exact⟨λh=>by cases h;assumption,λh=>.iS _ h⟩
def aoy{f xs}:(V.fn f xs).Lt m<->iY m xs:=by rw[dO];exact⟨λh=>by cases h;assumption,λh=>.fn _ _ h⟩
end
variable(C:Nat)(l:ai){B:Array Value}{w:Bool}{M:List O}{R:List Rs}{f E s g:Nat}{v:V}{Q:V->ai->Prop}{a:aL}{J N:ai}{T D:ar}{H:bG}{F:bK}{x:bU}{U:bl}{d:de}{y:eJ}
def Wk.yL{P:bl}{xs:ar}{J loc:ai}(a:bW J)(b:iY (X J) xs):Wk P (X J) xs (J++loc) xs J:=Wk.lA (aB _) a (dO.1 b)
def adN{P:bl}{c:List Rs}{Q:V->ai->Prop}{e:Exit}{fr:ar}{J a:ai}{b:ar}(d:bW J)(f:e=.normal\/e=.ret)(i:lG ⟨fr,J++a⟩ c=S b)(g:iY (X J) b)(h:Q (cM b) J): wF P (X J) c Q e ⟨fr,J++a⟩:=gT f i (Wk.yL d g) rfl h
def aS(a:bW J):=@adN U R Q .ret T J N D a (.inr rfl)
def gL{y:V}(a:bW J)(d:lG ⟨T,J++N⟩ R=S [y])(c:iY (X J) [y]):wF U (X J) R (λr b=>r=y/\b=J) .ret ⟨T,J++N⟩:=aS a d c ⟨rfl,rfl⟩
def lE{P:bl}{b:List Rs}{Q:V->ai->Prop}{e:Exit}{fr:ar}{J a:ai}{xs ys:ar}(d:bW J)(f:e=.normal\/e=.ret)(i:lG ⟨fr,J++a⟩ b=S xs)(c:qP xs ys)(g:iY (X J) ys)(h:Q (cM ys) J): wF P (X J) b Q e ⟨fr,J++a⟩:=gT f i ((Wk.fG c).trans (Wk.yL d g)) c.at.1 h
def iH{a ys:ar}(b:bW J):=@lE U R Q .ret T J N a ys b (.inr rfl)
def uu:Nat->ar->ar|0,l=>l|n+1,l=>.u::uu n l
def fj:Nat->((ar->Prop)->Prop)->(ar->Prop)->Prop|0,c,p=>c p|n+1,c,p=>∀j,fj n c λl=>p (j::l)
def fh(x:V)(c:(ar->Prop)->Prop)(p:ar->Prop):Prop:=c λl=>p (x::l)
def fo(p:ar->Prop):Prop:=p []
def Fp(R:bU)(K:bG):bG|.normal=>R|e=>K e
def OM{R:bU}{K:bG}:Fp R K .normal=R:=rfl
def Zr{R:bU}{K:bG}:Fp R K .ret=K .ret:=rfl
def Wr{R:bU}{K:bG}{id:Nat}:Fp R K (.exit id)=K (.exit id):=rfl
def aD{b:St}(h:∀R:bU,(∀a,gF f U F H E a->R a)->DV f U F (Fp R H) b):gF f U F H (E+1) b:=by
 refine Zq ?_;have:=h (gF f U F H E) λ_ h=>h;have e:Fp (gF f U F H E) H=alf f U F H E:=by funext e;cases e<;>rfl
 rw[<- e];exact this
def vd{fr fr':ar}{J J':ai}(h:Wk U f fr J fr' J')(k:gF f U F H E ⟨fr',J'⟩):gF f U F H E ⟨fr,J⟩:=by cases E with|zero=>exact k.elim|succ E=>exact cD.wk h k
def uj(d:f<=X J)(a:bW J)(b:qP T D)(c:iY (X J) D)(k:gF f U F H E ⟨D,J⟩):gF f U F H E ⟨T,J++N⟩ :=vd ((Wk.fG b).trans (Wk.lA d a (dO.1 c))) k
def bL{fr fr':ar}(a:qP fr fr')(k:gF f U F H E ⟨fr',J⟩):gF f U F H E ⟨fr,J⟩ :=vd (Wk.fG a) k
def uc(h:f<2^63):IntKind.i64.wrap (f:Int)=f:=IntWalk.i64_in _ (by omega)
def cT{n:Nat}(h:n+1<2^63):IntKind.i64.wrap ((n:Int)+1)=((n+1:Nat):Int):=by rw[IntWalk.i64_in _ (by omega)];omega
def eE{c:Type _}(a:List c)(b:c)(h:X a+1<2^63):IntKind.i64.wrap ((X a:Int)+1)=((X (a++[b]):Nat):Int):=by rw[cT h];simp
def dH{c:Type _}{a b:List c}(h:a=b++[]):a=b:=by simpa using h
def ko{c:Type _}{a b r:List c}{x:c}(h:a=b++x::r):X a=X b+(X r+1):=by rw[h];simp
def gA{c:Type}{f:c->ar}{b a:List c}{x:c}{d:ar}:(List.map f (b++x::a)).getD (X b) d=f x:=by simp[ax]
def oE{c:Type}{f:c->ar}{b a:List c}{x:c}{j:Nat}:gi (List.map f (b++x::a)) (X b) j=(f x)[j]?:=by simp[gi]
def Zs{P:bl}{a:List Rs}{Q:V->ai->Prop}{e:Exit}{fr:ar}{J:ai}{b:ar}(c:e=.normal\/e=.ret)(f:lG ⟨fr,J⟩ a=S b)(d:Q (cM b) J): wF P (X J) a Q e ⟨fr,J⟩:=gT c f (Wk.refl _ _) rfl d
def bt:=@Zs U R Q .ret T J D (.inr rfl)
def oI(h:(V.sl f y).Wf):X y<2^63:=by cases h with|sl _ _ h=>simp only[maxLen]at h;omega
def Ig(h:(V.s a).Wf):X a<2^63:=by cases h with|s _ h=>simp only[maxLen]at h;omega
def cD.bL{fr fr':ar}(a:qP fr fr')(N:Nat)(h:gF f U F H N ⟨fr',J⟩):cD f U (.loop F) H ⟨fr,J⟩ :=cD.wk (Wk.fG a) (cD.mM N h)
def NG{a b:Bool}:(bif a then G else b)=(a||b):=by cases a<;>rfl
def acu{a b:Bool}:(bif a then b else Z)=(a&&b):=by cases a<;>rfl
def alc{b a:aL}{x:UInt8}{d:UInt8}:(b++x::a).getD (X b) d=x:=by simp[ax]
def agH{J σ1 a:ai}{zs:ar}(b:Wk U (X J) (M.map (ev T)) J zs σ1)(h:PC U f zs σ1 (λr c=>r=v/\c=a))(e:x ⟨gN T d v,a⟩): gI U ⟨d,[],.call f M⟩ x ⟨T,J⟩ :=ak (PC.wk b h) rfl e
def kh{zs:ar}(b:qP (M.map (ev T)) zs)(h:PC U f zs J (λr c=>r=v/\c=N))(a:x ⟨gN T d v,N⟩): gI U ⟨d,[],.call f M⟩ x ⟨T,J⟩ :=ak (PC.wk (Wk.fG b) h) rfl a
def cG(n:Int):ar:=[.i .i64 n]
def acx{p:Prop}{v w:V}:(∃c,S (p,v)=S (c,w)/\c)=(v=w/\p):=by simp only[aa,aY,akm];exact⟨λ⟨_,⟨b,a⟩,d⟩=>⟨a,b.2 d⟩,λ⟨b,a⟩=>⟨p,⟨N0,b⟩,a⟩⟩
def acy{p:Prop}{v:V}:(∃a r,S (p,v)=S (a,r)/\a)=p:=by simp only[aa,aY,akm];exact⟨λ⟨_,_,⟨b,_⟩,c⟩=>b.2 c,λh=>⟨p,v,⟨N0,rfl⟩,h⟩⟩
def sH{l:bH}(h:f<X l):gi (l.map cG) f 0=S (.i .i64 (l.getD f 0)):=by simp[gi,cG,h]
def ahZ{P:bl}{h:List Rs}{Q:V->ai->Prop}{e:Exit}{fr:ar}{J b:ai}{d:ar}(k:Nat){E c f g:Nat}{n:Bool}{a:eJ}(i:bW J)(p:e=.normal\/e=.ret)(m:lG ⟨fr,J++b⟩ h=S d) (o:b[k]?=S (.row E c f g n a)) (j:iY (X J) (d.map (fz (X J+k) g c a))) (l:Q (cM (d.map (fz (X J+k) g c a))) J):wF P (X J) h Q e ⟨fr,J++b⟩:=by refine gT p m ((Wk.fz (X J+k) (by rw[jE];exact o)).trans ?_) (by simp) l;rw[ji];exact Wk.yL i j
def fB(a:bW J):=@ahZ U R Q .ret T J N D C f E s g w y a (.inr rfl)
def tiB(P:bl)(E a b:Nat):Bool :=
 match P.info? E with
 |some t=>match t.zero with
  |some z=>decide (0<a)&&(t.size==a&&(t.bytes==b&&z.cells.size==a))
  |none=>Z
 |none=>Z
def ng(h:tiB U f E s=G):Ti U f E s:=by
 unfold tiB at h;split at h
 .rename_i t a;split at h;.rename_i z b;simp only[aV,bz,dM]at h;exact⟨h.1,t,z,a,b,h.2.1,h.2.2.1,h.2.2.2⟩
  simp at h
 simp at h
def PC.MJ(h:∀(w:bF) (a:Mem) (b:Array Value),VRs w J a T b->∃u,Calls U f b w (λe c=>e=.returned u/\c=w)/\VR w J a v u): PC U f T J (λr d=>r=v/\d=J):=by intro B l w a b i g;obtain⟨u,k,j⟩:=h w a b g;refine k.mono ?_;rintro e c ⟨rfl,rfl⟩;exact⟨v,u,J,a,rfl,⟨rfl,rfl⟩,i,j,rJ.refl _ _ _⟩
def vs1(h:B.size=1):B=#[B.getD 0 undef]:=by
 apply Array.ext;.simpa using h
 intro i a b;have:i=0:=by omega
 subst this;simp[a]
def vs2(h:B.size=2):B=#[B.getD 0 undef,B.getD 1 undef]:=by
 apply Array.ext;.simpa using h
 intro i a b;have:i=0\/i=1:=by omega
 rcases this with rfl|rfl<;>simp[a]
def cx{J l:ai}(h:bW J)(e:∀o∈l,match o with|.box _ b=>iY (X J+X l) b|_=>True):bW (J++l):=by
 intro id T b a j x c;rw[ae];rcases jt id (X J) with f|d;.rw[bc f]at a;exact(h id T b a j x c).mono (ac2 _ _)
 rw[bB d]at a;have:=e _ (bn a);simp only at this;exact dO.1 this j x c
def dn{fr fr':ar}(a:ai)(b:bW (J++l))(c:qP fr fr')(d:iY (X J+X l) fr')(k:gF (X J) U F H f ⟨fr',J++l⟩):gF (X J) U F H f ⟨fr,J++(l++a)⟩:=by rw[<- List.append_assoc];exact vd ((Wk.fG c).trans (Wk.lA (by simp) b (by rw[ae];exact dO.1 d))) k
def Wk.ov{P:bl}{n:Nat}{J:ai}{k E b a:Nat}(d:Ti P E b a)(c:T[k]?=S .nil):Wk P n T (J++l) (T.set k (.own (X J+X l) 0)) (J++(l++[.row E b a 0 Z []])):=by have:=Wk.jP (P:=P) (n:=n) (J:=J++l) d c;rwa [ae,aJ]at this
def jC:∀(l:aL),bytesOf (aC l)=S l|[]=>rfl|c::l=>by have ih:=jC l;simp only[aC,az,bytesOf,uU]at ih |-;rw[ih];simp
def fD{b:aL}:aC a++aC b=aC (a++b):=by simp[aC]
def bC:X (aC a)=X a:=by simp[aC]
def unV:UnOp->V->Option (Prop×V)|.not,.b p=>S (True,.b (!p))|.neg,.i k n=>S (True,.i k (k.wrap (0 - n)))|_,_=>Y
def ag9(fr:ar)(J:ai)(a:UnOp)(x:O):ca fr J (.un a x)=unV a (ev fr x):=by show(match a,ev fr x with|.not,.b p=>S (True,V.b (!p))|.neg,.i k n=>S (True,V.i k (k.wrap (0 - n)))|_,_=>Y)=_;rfl
set_option linter.defProp false in
def UE:=ay @uu.eq_1 @uu.eq_2
set_option linter.defProp false in
def JE:=ay (ay @fj.eq_1 @fj.eq_2) (ay @fh.eq_1 @fo.eq_1)
set_option linter.defProp false in
def EV:=(ay (ay (ay (ay (ay (ay @ca.eq_1 @ca.eq_2) (ay @ca.eq_3 @ca.eq_4)) (ay (ay @ca.eq_5 @ca.eq_6) (ay @ca.eq_7 @ca.eq_8))) (ay (ay (ay @ca.eq_9 @ag9) (ay @unV.eq_1 (ay @unV.eq_2 @unV.eq_3))) (ay (ay @ca.eq_13 @ca.eq_14) (ay @ca.eq_15 (ay @ca.eq_16 @ca.eq_17))))) (ay (ay (ay (ay @ca.eq_18 @ca.eq_19) (ay @ca.eq_20 @ca.eq_21)) (ay (ay @ca.eq_22 @ca.eq_23) (ay @ca.eq_24 @ca.eq_25))) (ay (ay (ay @ca.eq_26 @ca.eq_27) (ay @ca.eq_28 @ca.eq_29)) (ay (ay @ca.eq_30 @ca.eq_31) (ay @ca.eq_32 (ay @dY.eq_1 @dY.eq_2)))))) (ay (ay (ay (ay (ay @dY.eq_3 @dY.eq_4) (ay @dY.eq_5 @dY.eq_6)) (ay (ay @dY.eq_7 @dY.eq_8) (ay @dY.eq_9 @dY.eq_10))) (ay (ay (ay @ki.eq_1 @ki.eq_2) (ay @ki.eq_3 @ki.eq_4)) (ay (ay @ki.eq_5 @ki.eq_6) (ay @ki.eq_7 (ay @ki.eq_8 @ki.eq_9))))) (ay (ay (ay (ay @ki.eq_10 @ki.eq_11) (ay @ki.eq_12 @ki.eq_13)) (ay (ay @ki.eq_14 @ki.eq_15) (ay @ki.eq_16 @ki.eq_17))) (ay (ay (ay @ki.eq_18 @ki.eq_19) (ay @ki.eq_20 @ki.eq_21)) (ay (ay @ki.eq_22 @ki.eq_23) (ay @ki.eq_24 (ay @ki.eq_25 @ki.eq_26)))))))
set_option linter.defProp false in
def W:=ay UE <| ay EV <| ay (ay (ay @zm.eq_1 @zl.eq_1) (ay (ay @zL.eq_1 @zf.eq_1) (ay @z.eq_1 @zs.eq_1))) (ay (ay (ay (ay (ay (ay (ay @DV.eq_1 (ay @DV.eq_2 @DV.eq_3)) (ay (ay @DV.eq_4 @DV.eq_5) (ay @DV.eq_6 @DV.eq_7))) (ay (ay (ay @DV.eq_8 (ay @DV.eq_9 (ay (ay @DV.eq_10 @VM.eq_1) (ay (ay (ay @DV.eq_11 @Tx.eq_1) (ay @Tx.eq_2 (ay (ay @Zm (ay @Wj @Wl)) (ay (ay (ay @ald.eq_1 (ay (ay @abK @XI) (ay @S0 (ay @S1 @SZ)))) @ak7.eq_1) (ay @ak6.eq_1 @ahi.eq_1))))) (ay (ay @acC @Yh) (ay (ay @X1 @Tf) (ay @Zg @Wg))))))) (ay @Wn @Zo)) (ay (ay @Wm @Zn) (ay @OG @Zi)))) (ay (ay (ay (ay @Wh @QS) (ay @acH @Yk)) (ay (ay @Yl @OM) (ay @Zr @Wr))) (ay (ay (ay @ajR @af9) (ay @abX @XQ)) (ay (ay @agf @abV) (ay @aj0 @aj1))))) (ay (ay (ay (ay @aj2 (ay @apy @ajW)) (ay (ay @aj3 @abU) (ay @XO @ajU))) (ay (ay (ay @ajT @af8) (ay @ajV @ajS)) (ay (ay @agd @agc) (ay @age @agb)))) (ay (ay (ay (ay @ajZ @abY) (ay @abT @aj5)) (ay (ay @agi (ay @apz @agh)) (ay @abW (ay (ay (ay @ajY @ajX) (ay @agj @aj4)) (ay @aga (ay @afl (ay @afk @afj))))))) (ay (ay (ay @ajF @af0) (ay @abQ @XK)) (ay (ay @af5 @abP) (ay @ajL @ajM)))))) (ay (ay (ay (ay (ay @ajN (ay @apx @ajK)) (ay (ay @ajO @abO) (ay @XJ @ajI))) (ay (ay (ay @ajH @afZ) (ay @ajJ @ajG)) (ay (ay @af3 @af2) (ay @af4 (ay @af1 @af6))))) (ay (ay (ay (ay @V.pure.eq_1 @V.pure.eq_2) (ay @V.pure.eq_3 @V.pure.eq_4)) (ay (ay @V.pure.eq_5 @ake.eq_1) (ay @HQ.eq_1 @acx))) (ay (ay (ay @acy @ad0) (ay @adr @adX)) (ay (ay @gX.eq_1 @gX.eq_2) (ay @chainB.eq_1 @chainB.eq_2))))) (ay (ay (ay (ay @ca.eq_1 (ay @ca.eq_2 @ca.eq_3)) (ay (ay @ca.eq_4 @ca.eq_5) (ay @ca.eq_6 @ca.eq_7))) (ay (ay (ay @ca.eq_8 @ca.eq_9) (ay @ag9 @unV.eq_1)) (ay (ay (ay @unV.eq_2 @unV.eq_3) @ca.eq_13) (ay @ca.eq_14 @ca.eq_15)))) (ay (ay (ay (ay @ca.eq_16 @ca.eq_17) (ay @ca.eq_18 @ca.eq_19)) (ay (ay @ca.eq_20 @ca.eq_21) (ay @ca.eq_22 @ca.eq_23))) (ay (ay (ay @ca.eq_24 @ca.eq_25) (ay @ca.eq_26 @ca.eq_27)) (ay (ay @ca.eq_28 @ca.eq_29) (ay @dY.eq_1 @dY.eq_2))))))) (ay (ay (ay (ay (ay (ay @dY.eq_3 (ay @dY.eq_4 @dY.eq_5)) (ay (ay @dY.eq_6 @dY.eq_7) (ay @dY.eq_8 @dY.eq_9))) (ay (ay (ay @ev.eq_1 @ev.eq_2) (ay @gN.eq_1 @gN.eq_2)) (ay (ay @QG.eq_1 @gZ.{0,0}) (ay @bT.{0,0} @aQ.{0})))) (ay (ay (ay (ay @bj.{0} @cu.{0}) (ay @cH.{0} @iE.eq_1)) (ay (ay @iE.eq_2 @jQ.eq_1) (ay @jQ.eq_2 @jK.eq_1))) (ay (ay (ay @jK.eq_2 @jK.eq_3) (ay @jK.eq_4 @jK.eq_5)) (ay (ay @jK.eq_6 @jK.eq_7) (ay @eK.eq_1 @eK.eq_2))))) (ay (ay (ay (ay @qC.eq_1 (ay @qC.eq_2 @qC.eq_3)) (ay (ay @zz.eq_1 @zz.eq_2) (ay @im.{0} @H5.{0}))) (ay (ay (ay @apX @db) (ay @cN @jd)) (ay (ay @dm @cw) (ay @iF @jE)))) (ay (ay (ay (ay @rS @ji) (ay @acO @ah.{0})) (ay (ay @aj.{0} @aG.{0}) (ay @cA.{0} @List.getElem?_nil.{0}))) (ay (ay (ay @cg @aP) (ay @aB @ki.eq_1)) (ay (ay @ki.eq_2 @ki.eq_3) (ay @ki.eq_4 @ki.eq_5)))))) (ay (ay (ay (ay (ay @ki.eq_6 (ay @ki.eq_7 @ki.eq_8)) (ay (ay @ki.eq_9 @ki.eq_10) (ay @ki.eq_11 @ki.eq_12))) (ay (ay (ay @ki.eq_13 @ki.eq_14) (ay @ki.eq_15 @ki.eq_16)) (ay (ay @ki.eq_17 @ki.eq_18) (ay @ki.eq_19 @ki.eq_20)))) (ay (ay (ay (ay @ki.eq_21 @ki.eq_22) (ay @ki.eq_23 @ki.eq_24)) (ay (ay @ki.eq_25 @ki.eq_26) (ay @al @jM.{0}))) (ay (ay (ay @apS.{0} @eZ.{0}) (ay @qg.{0} @apV.{0})) (ay (ay @mi.{0} @aw.{0}) (ay @aF.{0} @bE.{0}))))) (ay (ay (ay (ay @aJ.{0} (ay @az.{0,0} @aq.{0,0})) (ay (ay (ay @forall_const.{0} @forall_const.{1}) @imp_self) (ay @beq_self_eq_true.{0} @bV.{0}))) (ay (ay (ay @eq_self.{1} @bM.{0}) (ay @dp (ay @implies_true.{0} @implies_true.{1}))) (ay (ay @jN @lK) (ay @cond_true.{1} @cond_false.{1})))) (ay (ay (ay (ay @NG @acu) (ay @alc @gA)) (ay (ay @oE @rowsOf.eq_1) (ay @rowsOf.eq_2 @rowsOf.eq_3))) (ay (ay (ay @rowsOf.eq_4 @rowsOf.eq_5) (ay @rowsOf.eq_6 @BG.eq_1)) (ay (ay @BG.eq_2 @BG.eq_3) (ay @BG.eq_4 @BG.eq_5))))))))
set_option linter.defProp false in
def VV:=ay W (ay (ay (ay @dY.eq_10 (ay @Bool.true_or @mz)) (ay (ay @Bool.or_true @Bool.or_false) (ay @dU @dq))) (ay (ay @yP (ay @bytesOf.eq_1 @bytesOf.eq_2)) (ay @uU.eq_1 (ay @uU.eq_2 @UInt8.ofNat_toNat))))
set_option linter.defProp false in
def SS:=(ay (ay @ah.{0} (ay @aj.{0} @List.replicate_zero.{0})) (ay @Q5.{0} (ay @aF.{0} @aw.{0})))
set_option linter.defProp false in
def RS:=ay (ay (ay @lG.eq_1 @lG.eq_2) (ay @vf.eq_1 @vf.eq_2)) VV
set_option linter.defProp false in
def LW:=ay UE (ay (ay (ay (ay @iY.eq_1 (ay @iY.eq_2 @aQ.{0})) (ay @bj.{0} (ay @aqR @aqS))) (ay (ay @air (ay @aov @aip)) (ay @aiq (ay @xa @aoz)))) (ay (ay (ay @W7 (ay @W6 @aio)) (ay @aim (ay @ain @aow))) (ay (ay @aox (ay @ais @ail)) (ay @dm (ay @jd @cw)))))
def VR.ahe{w:bF}{U:Mem}{z:Mem}{c:Value}(h:VR w J U v c){m:Nat}(B:m<=N.length) (hw:∀b q,wr N z b q->wr J U b q) (D:∀id,id<m->N[id]?=J[id]?) (O:∀id,id<m->z id=U id) (d:v.Lt m):VR w N z v c:=by
 induction h with
 |u c=>exact .u c
 |b v=>exact .b v
 |i k n=>exact .i k n
 |s l v e B=>exact .s l v e B
 |nil=>exact .nil
 |D1 p=>exact .D1 p
 |sle p a=>exact .sle p a
 |sl p t b o W f I nP L x P ih =>exact .sl p t b o W f I nP L (λi j v d=>⟨(x i j v d).1,λh=>(x i j v d).2.1 (hw _ _ h),(x i j v d).2.2⟩) (λi j v d=>ih i j v d (mH (x i j v d).2.2 m))
 |MX p=>exact .MX p
 |lit p t b o f nP L x P ih =>exact .lit p t b o f nP L (λi j v d=>⟨(x i j v d).1,λh=>(x i j v d).2.1 (hw _ _ h),(x i j v d).2.2⟩) (λi j v d=>ih i j v d (mH (x i j v d).2.2 m))
 |own id g c Q h =>
  cases d with
  |own _ _ e=>exact .own id g c (by omega) λE p y H C t M=>by rw[O id e];exact h E p y H C t (D id e▸M)
 |sub id g lo hi c Q h =>
  cases d with
  |sub _ _ _ _ e=>exact .sub id g lo hi c (by omega) λE p y H C t M=>by rw[O id e];exact h E p y H C t (D id e▸M)
 |ptr id q b h B =>
  cases d with
  |ptr _ _ e =>obtain⟨T,cs,V⟩:=h;exact .ptr id q b ⟨T,cs,(D id e).trans V⟩ ((O id e).trans B)
 |ep p t i q b o f hi L x P ih =>exact .ep p t i q b o f hi L (λj v d=>⟨(x j v d).1,λh=>(x j v d).2.1 (hw _ _ h),(x j v d).2.2⟩) (λj v d=>ih j v d (mH (x j v d).2.2 m))
 |rp id g i q c Q h =>
  cases d with
  |rp _ _ _ _ e=>exact .rp id g i q c (by omega) λE p y H C t M=>by rw[O id e];exact h E p y H C t (D id e▸M)
 |mp id r h B =>
  cases d with
  |mp _ e =>obtain⟨K,E,es,V⟩:=h;exact .mp id r ⟨K,E,es,(D id e).trans V⟩ ((O id e).trans B)
 |kL=>exact .kL
 |lI=>exact .lI
 |fn f R F e P ih =>
  cases d with
  |fn _ _ h=>exact .fn f R F e λi v d=>ih i v d (h i v d)
 |agg t F e P ih =>
  cases d with
  |agg _ h=>exact .agg t F e λi v d=>ih i v d (h i v d)
 |iS t F e P ih =>cases d with|iS _ h=>exact .iS t F e λi v d=>ih i v d (h i v d)
def mv1(k:Nat):V->V|.own id g=>if id=C+k then .own C 0 else .own id g|.mp id=>.mp (if id=C+k then C else id)|x=>x
def Ob.gen:Ob->Nat|.row _ _ _ g _ _=>g|_=>0
variable{o:Ob}
def Ob.fresh:Ob->Ob|.row E sz by' _ sh xs=>.row E sz by' 0 sh xs|o=>o
def IK(k a:Nat):V->Prop|.own id g=>(id=C+k/\g=a)\/id<C|.mp id=>id=C+k\/id<C|x=>x.Lt C
def Ob.flat:Ob->Bool
 |.row _ _ _ _ _ _|.map _ _ _=>G
 |_=>Z
def Wk.aoE(bd:bW J)(hk:N[C]?=S o)(ho:o.flat=G)(hx:∀x∈T,IK (X J) C o.gen x): Wk U (X J) T (J++N) (T.map (mv1 (X J) C)) (J++[o.fresh]):=by
 intro B w0 w M vs R hC;have tN:C<X N:=(ag.1 hk).1;let n:Mem:=λj=>if j=X J then M (X J+C)else M j;have vt:∀id,id<X J->n id=M id:=λid h=>by simp only[n];rw[ao (by omega)]
 have XD:n (X J)=M (X J+C):=by simp[n]
 have dP:∀id,id<X J->(J++[o.fresh])[id]?=(J++N)[id]?:=λid h=>by rw[bc h,bc h]
 have h0:(J++[o.fresh])[X J]?=S o.fresh:=by simp
 have t:(J++N)[X J+C]?=S o:=by rw[bB (by omega),dD];exact hk
 have c:∀{id H},(J++[o.fresh])[id]?=S H->(id<X J/\(J++N)[id]?=S H/\n id=M id)\/(id=X J/\H=o.fresh):=by
  intro id H h;rcases jt id (X J) with P|hg;.exact .inl ⟨P,dP id P▸h,vt id P⟩
  right;have eX:=(ag.1 h).1;simp at eX;have:id=X J:=by omega
  subst this;rw[h0]at h;exact⟨rfl,(kW h).symm⟩
 have hw:∀b O,wr (J++[o.fresh]) n b O->wr (J++N) M b O:=by
  rintro b O ⟨id,H,k,l,f⟩;rcases c k with⟨d,s,q⟩|⟨rfl,rfl⟩;.exact⟨id,H,s,q▸l,f⟩
  exact⟨X J+C,o,t,XD▸l,by cases o<;>exact f⟩
 have D:∀{x v},VR w (J++N) M x v->x.Lt (X J)->VR w (J++[o.fresh]) n x v:=λh P=>h.ahe (m:=X J) (by simp) hw dP vt P;refine⟨n,⟨R.below,R.base,λid H p=>?_,λi j oi oj b hi L k l f d=>?_⟩,⟨by simp[hC.1],λi y hy=>?_⟩,λx v Q P=>D Q P⟩
 .rcases c p with⟨d,s,q⟩|⟨rfl,rfl⟩
  .have W:=R.obj id H s;rw[q];cases H with
   |dead=>trivial
   |box a cs =>obtain⟨b,us,k,l,f,av,au⟩:=W;have oA:=bd id a cs (by rwa [bc d]at s);exact⟨b,us,k,l,f,av,λj x L=>let ⟨u,q,h7⟩:=au j x L;⟨u,q,D h7 (oA j x L)⟩⟩
   |row E sz ac g sh I =>obtain⟨k,F,l,f⟩:=W;exact⟨k,F,l,f.1,λi j x L=>let ⟨d,u,s,q⟩:=f.2 i j x L;⟨d,u,s,D q (mH d _)⟩⟩
   |map K E es =>obtain⟨r,z,clock,k,l,f,d⟩:=W;exact⟨r,z,clock,k,l,f,d.1,λi C x hi=>let ⟨s,q,e,h7,h8,h9⟩:=d.2.1 i C x hi;⟨s,q,e,h7,D h8 (yl s _),D h9 (yj q _)⟩,d.2.2⟩
  have W:=R.obj (X J+C) o t;rw[XD];cases o with
  |dead=>trivial
  |box a cs=>simp[Ob.flat]at ho
  |row E sz ac g sh I =>obtain⟨k,F,l,f⟩:=W;exact⟨k,F,l,f.1,λi j x L=>let ⟨d,u,s,q⟩:=f.2 i j x L;⟨d,u,s,D q (mH d _)⟩⟩
  |map K E es =>obtain⟨r,z,clock,k,l,f,d⟩:=W;exact⟨r,z,clock,k,l,f,d.1,λi C x hi=>let ⟨s,q,e,h7,h8,h9⟩:=d.2.1 i C x hi;⟨s,q,e,h7,D h8 (yl s _),D h9 (yj q _)⟩,d.2.2⟩
 .rcases c hi with⟨i1,i2,i3⟩|⟨rfl,rfl⟩<;>rcases c L with⟨j1,j2,j3⟩|⟨rfl,rfl⟩;.exact R.sep i j oi oj b i2 j2 k l (i3▸f) (j3▸d)
  .have:=R.sep i (X J+C) oi o b i2 t k (by rintro rfl;exact l rfl) (i3▸f) (XD▸d);omega
  .have:=R.sep (X J+C) j o oj b t j2 (by rintro rfl;exact k rfl) l (XD▸f) (j3▸d);omega
  rfl
 rw[bP,aH]at hy;obtain⟨x,yt,rfl⟩:=hy;have Q:=hC.2 i x yt;have V:=hx x (bn yt);cases x with
 |own id g =>
  simp only[mv1];split
  .rename_i e;subst e;have hg:g=o.gen:=by simp only[IK,jd]at V;omega
   cases o with
   |row E sz ac g' sh I =>have YA:g'=g:=hg.symm;subst YA;have k:=Q.lP t;refine .own _ _ _ (by simp) λE2 ad af g2 ap am p=>?_;rw[h0]at p;simp only[Ob.fresh,aa,Ob.row.injEq]at p;rw[XD];exact⟨iP _,λ_=>k⟩
   |_=>exact .own _ _ _ (by simp) λE2 ad af g2 ap am p=>by rw[h0]at p;simp[Ob.fresh]at p
  rename_i e;simp only[IK,e,o0,nQ]at V;exact D Q (.own _ _ V)
 |mp id =>
  simp only[mv1];split;.rename_i e;subst e;obtain⟨r,k,l,K,E,es,f⟩:=Q.M5;rw[k];refine .mp _ r ⟨K,E,es,?_⟩ (XD.trans l);rw[h0];have d:=t.symm.trans f;simp only[aa]at d;subst d;rfl
  rename_i e;simp only[IK,e,nQ]at V;exact D Q (.mp _ V)
 |_=>exact D Q V
def AB{e:Exit}(a:bW J)(g:e=.normal\/e=.ret)(h:lG ⟨T,J++N⟩ R=S D) (b:N[C]?=S o) (c:o.flat=G) (d:∀x∈D,IK (X J) C o.gen x) (f:Q (cM (D.map (mv1 (X J) C))) (J++[o.fresh])):wF U (X J) R Q e ⟨T,J++N⟩ :=gT g h (Wk.aoE C a b c d) (by simp) f
def PC.post{b:ai}{d:V}(h:PC U f T J (λr g=>r=v/\g=N))(y:Wk U (X J) [v] N [d] b):PC U f T J (λr g=>r=d/\g=b):=by intro B m w l p F D;have H:∀x u,VR w J l x u->x.Lt (X J):=λx u h=>h.lt;refine(h B m w l p F D).mono ?_;rintro e n ⟨r,a,g,j,E,⟨rfl,rfl⟩,s,o,z⟩;obtain⟨k,q,t,C⟩:=y B m n j #[a] s ⟨rfl,λi x c=>by cases i with|zero=>simp only[aG,aa]at c;subst c;simpa using o|succ i=>simp at c⟩;exact⟨d,a,b,k,E,⟨rfl,rfl⟩,q,by have:=t.2 0 d rfl;simpa using this,λx u c=>C x u (z x u c) (H x u c)⟩
def PC.fz{P:bl}{J:ai}{E sz by' g:Nat}{sh:Bool}{rows:eJ}(b:bW J) (h:PC P f T J (λr a=>r=.own (X J) g/\a=J++[.row E sz by' g sh rows])):PC P f T J (λr a=>r=.sl sz rows/\a=J):=by refine h.post ?_;refine(Wk.fz (X J) (by simp;exact⟨rfl,rfl,rfl,rfl,rfl,rfl⟩)).trans ?_;rw[ej _ _ (aB _),gO];simp only[az,aq,Pm.fz,jR,cw,aR];exact Wk.yL b (by simp only[iY,xa,cw])
def qq{zs:ar}(id:Nat){a:Nat}(c:J[id]?=S (.row E s g a w y)) (h:PC U f zs (J.set id (.row E s g a G y)) (λr b=>r=v/\b=N)) (i:(M.map (ev T)).map (fz id a s y)=zs) (e:x ⟨gN T d v,N⟩) : gI U ⟨d,[],.call f M⟩ x ⟨T,J⟩:=by subst i;exact ak (PC.wk (Wk.fz id c) h) rfl e
def PC.closed(h:bW J->PC U f T J Q):PC U f T J Q :=λB b w d c a e=>h a.closed B b w d c a e
end Go.Pm
namespace Go.Pm
open Go
variable(o:Option pK)(T:Program)(f:Func)
def td:bK->List bK|.seq a b=>td a++td b|.ite _ a b=>td a++td b|.block _ c=>td c|.loop c=>td c++[c]|_=>[]
def Hr:bK->List bK->bK×List bK|.seq a b,d=>let p:=Hr a d;let q:=Hr b p.2;(.seq p.1 q.1,q.2)|.ite c a b,d=>let p:=Hr a d;let q:=Hr b p.2;(.ite c p.1 q.1,q.2)|.block i c,d=>let p:=Hr c d;(.block i p.1,p.2)|.loop c,d=>let n:=X (td c);(.loop (d.getD n .skip),d.drop (n+1))|c,d=>(c,d)
def gn(b:List bK):pK:=match o with|some a=>⟨a.nt,a.rs,(Hr a.c b).1⟩|none=>⟨0,[],.skip⟩
def fC(n:Nat)(b:List bK):bK:=match o with|some a=>(Hr ((td a.c).getD n .skip) b).1|none=>.skip
abbrev Nf{b:Type}(a:b):Type:={x // a=x}
abbrev bm:Type:={x//gd T f=S x}
def sub:Code->ed->Code|.seq a _,0::r=>sub a r|.seq _ b,_::r=>sub b r|.cond _ a _,0::r=>sub a r|.cond _ _ b,_::r=>sub b r|.block _ c,_::r=>sub c r|.loop c,_::r=>sub c r|c,_=>c
def sc(P:bl)(a:Func)(r:ed):bK:=match a.body with
  |some c=>match iC P (sub c r)with
    |some p=>p
    |none=>.skip
  |none=>.skip
abbrev ck(l:List Nat)(h:Nf (sc T f l)):bK:=h.1

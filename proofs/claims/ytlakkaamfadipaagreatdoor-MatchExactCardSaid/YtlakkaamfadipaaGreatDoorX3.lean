/- A part of a proof; the claim's last text says of what. -/
import Derived.Shelf.RegionOpenPlain
import Derived.Deep.LoopGhost
import Derived.Deep.RegionLaw
import Derived.Lib.SliceRun
import Derived.Test.YtlakkaamfadipaaGreatDoorB30
import Derived.Test.YtlakkaamfadipaaGreatDoorX2
set_option linter.all false
set_option maxHeartbeats 4000000

namespace Go.Proofs.Tryz
open Go Go.Pm Go.Bt
def l5{pre rest:bH}{x:Int}:gj (List.map bV (pre++x::rest)) pre.length 0=some (.I x):=by
 simp[gj,bV]
def Ef{J:ak}{K:bl}(a b:bH)(f:a.length<2^63)(j:a.length=b.length):∀(g c d i:bH),a=d++g->b=i++c->d.length=i.length ->
  (g=c->((fj 26 fo) λk=>K (.exit 0) ⟨k,J⟩))->(g≠c->((fj 4 (fh (.b false) (fj 21 fo))) λk=>K .ret ⟨k,J⟩)) ->
  fm J.length prog zt K (g.length+1) ⟨(.sl 1 (a.map bV)::.sl 1 (b.map bV)::uu 10 (.I a.length::.I d.length::uu 12 [])),J⟩
 |[],c,d,i,ha,hb,hp,h1,h2=>by
  have:c=[]:=by
   subst ha;subst hb;simp at j;have:c.length=0:=by omega
   exact fG.1 this
  subst this;subst ha;refine ar λR l=>?_;simp only[zt,W,seval];exact⟨λh=>by simp at h,λ_=>h1 rfl ..⟩
 |x::g,[],d,i,ha,hb,hp,h1,h2=>by
  subst ha;subst hb;simp at j;omega
 |x::g,y::c,d,i,ha,hb,hp,h1,h2=>by
  subst ha;subst hb;refine ar λR l=>?_;have m:gj (List.map bV (i++y::c)) d.length 0=some (.I y):=by rw[hp];exact l5
  simp only[zt,m,bV,W,seval];refine⟨λ_=>⟨by simp;omega,by simp;omega,λh=>?_,λh=>?_⟩,λh=>by simp at h;omega⟩
  .simp at h;exact h2 (by simp[h]) ..
  .simp at h;subst h;refine l _ (aK ?_ (Ef _ _ f j g c (d++[x]) (i++[x]) (by simp) (by simp) (by simp[hp]) (λe=>h1 (by rw[e])) (λe=>h2 (by simp[e]))));rw[cm (by simp at f;omega)];simp only[aj,ai,al]
   repeat' constructor
def r7(a b:bH)(J:ak):bM prog 147 [.sl 1 (a.map bV),.sl 1 (b.map bV)] J (.b (a==b)):=by
 refine aZ func147 Z2.2 λg f=>au ?_;have c:=mG (f 0 _ rfl).1;rw[ag]at c;simp only[Z2,SS,seval];simp only[ag,W,seval];refine⟨λh=>?_,λh=>?_⟩
 .refine aO (.inr rfl) rfl ⟨?_,rfl⟩;simp at h;simp only[Pm.one,aA,aR,V.b.injEq];exact(beq_eq_false_iff_ne.2 λe=>h (by rw[e])).symm
 .simp at h;refine bZ.aK ?_ (a.length+1) (Ef a b c (by omega) a b [] [] rfl rfl rfl (λd=>?_) (λd=>?_))
  .simp only[W,seval]
   repeat' constructor
  .simp only[W,seval];simp only[JE];intros;exact aO (.inr rfl) rfl ⟨by simp[Pm.one,d],rfl⟩
  .simp only[W,seval];simp only[JE];intros;exact aO (.inr rfl) rfl ⟨by simp[Pm.one,d],rfl⟩

set_option maxHeartbeats 1000000
def Ot{J:ak}{K:bl}(n:Int)(f:List It)(i:cn J)(d:f.length<2^40):∀(rest pre:List It),f=pre++rest ->
  (rest.find? (λx=>b9 x&&x.id==n)=none->((fj 4 (fh (.ptr J.length 0) (fj 19 fo))) λe=>K (.exit 0) ⟨e,J++[.box 61 gH.awa]⟩)) ->
  (∀x,rest.find? (λx=>b9 x&&x.id==n)=some x->((fj 4 (fh (.ptr J.length 0) (fj 19 fo))) λe=>K .ret ⟨e,J++[.box 61 x.awa,.box 61 x.awa]⟩)) ->
  fm J.length prog zu K (rest.length+1) ⟨(uu 1 (.I n::uu 2 (.ptr J.length 0::uu 2 (.sl 3 (f.map It.awa)::.I f.length::.I pre.length::uu 14 [])))),J++[.box 61 gH.awa]⟩:=by
 intro rest
 induction rest with
 |nil =>
  intro pre b c a;have b:=cN b
  subst b;refine ar λR g=>?_;simp only[zu,VV,seval];exact⟨λh=>by simp at h,λ_=>c rfl ..⟩
 |cons y rest ih =>
  intro pre b c a;subst b;refine ar λR g=>?_;simp only[zu,gH,It.awa,VV,seval];refine⟨λ_=>⟨by simp;omega,?_⟩,λh=>by simp at h;omega⟩;refine aw (rW y _) rfl ?_;simp only[It.awa,VV,seval];rw[ng]at c a;refine⟨λh=>?_,λh=>?_⟩
  .simp only[h]at a;exact a y rfl ..
  .simp only[h]at c a;refine g _ (cG [_] [_] (cC i (by simp[gH,It.awa,LW])) ?_ ?_ (ih (pre++[y]) (by simp) c a))
   .rw[cm (by simp at d;omega)];simp only[aj,ai,al]
    repeat' constructor
   .simp only[LW,ai,al,aY];omega
def yB(f:List It)(n:Int)(a:f.length<2^40)(J:ak):bM prog 143 [.sl 3 (f.map It.awa),.I n] J (.agg (fE f n).awa):=by
 refine aZ func143 Z4.2 λb c=>au ?_;simp only[Z4,SS,seval];simp only[ag,VV,seval];refine bZ.aK (fr':=(uu 1 (.I n::uu 2 (.ptr J.length 0::uu 2 (.sl 3 (f.map It.awa)::.I f.length::.I (([]:List It).length:Nat)::uu 14 []))))) (by repeat' constructor) (f.length+1) (Ot n f b a f [] rfl ?_ ?_)
 .intro h;simp only[JE];intros;simp only[gH,It.awa,VV,seval];exact bg b (.inr rfl) (by simp only[RS,seval];rfl) (by simp only[LW]) ⟨by simp[Pm.one,fE,h,gH,It.awa],rfl⟩
 .intro x h;simp only[JE];intros;simp only[It.awa,VV,seval];exact bg b (.inr rfl) (by simp only[RS,seval];rfl) (by simp only[LW]) ⟨by simp[Pm.one,fE,h,It.awa],rfl⟩
def Oo{J:ak}{K:bl}(f:List It)(k:cn J)(a:f.length<2^40):∀(rest pre out:List It) (g:Nat),f=pre++rest->out.length<=pre.length ->
  (∀g,((fj 3 (fh (.own J.length g) (fj 16 fo))) λl=>K (.exit 0) ⟨l,J++[.row 61 3 32 g false ((out++tg rest).map It.awa)]⟩)) ->
  fm J.length prog zr K (rest.length+1) ⟨(uu 3 (.own J.length g::uu 2 (.sl 3 (f.map It.awa)::.I f.length::.I pre.length::uu 11 []))),J++[.row 61 3 32 g false (out.map It.awa)]⟩:=by
 intro rest
 induction rest with
 |nil =>
  intro pre out g c m b;have c:=cN c
  subst c;rw[show tg []=[]from rfl,bL]at b;refine ar λR j=>?_;simp only[zr,VV,seval];exact⟨λh=>by simp at h,λ_=>b g ..⟩
 |cons y rest ih =>
  intro pre out g c m b;subst c;have i:(out.length+1)*32<=2^47/\out.length+1<=maxLen:=by simp at a;simp[maxLen];omega
  refine ar λR j=>?_;simp only[zr,It.awa,VV,seval];refine⟨λ_=>⟨by simp;omega,?_⟩,λh=>by simp at h;omega⟩;refine aw (rW y _) rfl ?_;simp only[It.awa,VV,seval];refine⟨λd=>⟨by rw[ag];exact i,?_⟩,λd=>?_⟩
  .have e:out++tg (y::rest)=(out++[y])++tg rest:=by simp[tg,d]
   have n:out.map It.awa++[[.I y.awb,.s y.awd,.I y.id]]=(out++[y]).map It.awa:=by simp[It.awa]
   rw[e]at b;rw[n];refine j _ (cG [_] [_] (cC k (by simp)) ?_ ?_ (ih (pre++[y]) (out++[y]) (g+1) (by simp) (by simp;omega) b))
   .rw[cm (by simp at a;omega)];simp only[aj,ai,al]
    repeat' constructor
   .simp only[LW,ai,al,aY];omega
  .have e:out++tg (y::rest)=out++tg rest:=by simp[tg,d]
   rw[e]at b;refine j _ (cG [_] [_] (cC k (by simp)) ?_ ?_ (ih (pre++[y]) out g (by simp) (by simp;omega) b))
   .rw[cm (by simp at a;omega)];simp only[aj,ai,al]
    repeat' constructor
   .simp only[LW,ai,al,aY];omega
def Dq(f:List It)(a:f.length<2^40)(J:ak):bM prog 148 [.sl 3 (f.map It.awa)] J (.sl 3 ((tg f).map It.awa)):=by
 refine aZ func148 Z1.2 λb c=>au ?_;simp only[Z1,SS,seval];simp only[ag,VV,seval];refine bZ.wk ((Wk.ij (k:=3) yX rfl).trans (Wk.fg ?_)) (bZ.uh (f.length+1) (Oo f b a f [] [] 0 rfl (aD _) ?_))
 .simp only[VV,seval]
  repeat' constructor
 .intro g;simp only[JE];intros;simp only[bc,VV,seval];refine mW 0 b (.inr rfl) rfl rfl ?_ ?_
  .simp[fz,oa,LW]
  .exact⟨by simp[fz,oa,Pm.one],rfl⟩

set_option maxHeartbeats 2000000
def jL(g:Nat)(l:bH):Ob:=.row 3 1 8 g false (l.map bV)
def Hi(f:List It):V:=match Bt.shape f with
 |some p=>.iQ [.sl 1 (p.1.map bV),.sl 1 (p.2.map bV),.b true]
 |none=>.iQ [.sl 1 [],.sl 1 [],.b false]
def nF(l:bH)(x:Int):l.map bV++[[V.i .i64 x]]=(l++[x]).map bV:=by simp[bV]
def Oq{J:ak}{K:bl}(f:List It)(Z:cn J)(j:f.length<2^40):∀(rest pre:List It) (c o:bH) (g1 g2:Nat),f=pre++rest->c.length<=pre.length->o.length<=pre.length ->
  (eG rest (c,o)=none->∀loc,((fj 2 (fh (.nil) (fh (.nil) (fh (.b false) (fj 58 fo))))) λO=>K .ret ⟨O,J++loc⟩)) ->
  (∀p,eG rest (c,o)=some p->∀g1 g2,((fj 2 (fh (.own J.length g1) (fh (.own (J.length+1) g2) (fj 59 fo)))) λO=>K (.exit 0) ⟨O,J++[jL g1 p.1,jL g2 p.2]⟩)) ->
  fm J.length prog nW K (rest.length+1) ⟨(uu 2 (.own J.length g1::.own (J.length+1) g2::uu 3 (.sl 3 (f.map It.awa)::.I f.length::.I pre.length::uu 53 []))),J++[jL g1 c,jL g2 o]⟩:=by
 intro rest
 induction rest with
 |nil =>
  intro pre c o g1 g2 w x Y A u;have w:=cN w
  subst w;refine ar λR s=>?_;simp only[nW,VV,seval];exact⟨λh=>by simp at h,λ_=>u _ rfl g1 g2 ..⟩
 |cons y rest ih =>
  intro pre c o g1 g2 w x Y A u;subst w
  have r:=dh pre y (by simp at j;omega)
  have iU:∀(g1 g2:Nat) (c o:bH),cn (J++[jL g1 c,jL g2 o]):=λ_ _ _ _=>cC Z (by simp[jL]);have E:(c.length+1)*8<=2^47/\c.length+1<=maxLen:=by simp at j;simp[maxLen];omega
  have Q:(o.length+1)*8<=2^47/\o.length+1<=maxLen:=by simp at j;simp[maxLen];omega
  obtain⟨k,t,i⟩:=y;simp only[eG,jQ]at A u
  have d:∀(z a:bH) (m q:Nat) {loc:ak} {R:ca} {N:aB},eG (⟨k,t,i⟩::rest) (c,o)=eG rest (z,a)->z.length<=c.length+1->a.length<=o.length+1->(∀B,fm J.length prog nW K (rest.length+1) B->R B) ->
    oJ N (uu 2 (.own J.length m::.own (J.length+1) q::uu 3 (.sl 3 ((pre++⟨k,t,i⟩::rest).map It.awa)::.I (pre++(⟨k,t,i⟩:It)::rest).length::.I (pre++[(⟨k,t,i⟩:It)]).length::uu 53 [])))->R ⟨N,J++([jL m z,jL q a]++loc)⟩:=by
   intro z a m q loc R N e l1 l2 s x;simp only[eG,jQ]at e;rw[e]at A u;refine s _ (cG [_,_] loc (iU _ _ _ _) x ?_ (ih (pre++[⟨k,t,i⟩]) z a m q (by simp) (by simp;omega) (by simp;omega) A u));simp only[LW,ai,al,aY];omega
  refine ar λR s=>?_
  by_cases H:k=2
  .subst H;simp only[nW,It.awa,jL,r,↓IT,VV,seval];refine⟨λ_=>⟨by simp;omega,⟨by rw[ag];exact Q,?_⟩⟩,λh=>by simp at h<;>omega⟩;rw[nF];exact d c (o++[i]) g1 (g2+1) (by simp[eG,jQ]) (by omega) (by simp) s (by repeat' constructor)
  by_cases D:k=3
  .subst D;rcases dn o with C|⟨a,l,C⟩
   .subst C;simp only[nW,It.awa,jL,r,↓IT,VV,seval];refine⟨λ_=>⟨by simp;omega,?_⟩,λh=>by simp at h<;>omega⟩;refine⟨by rw[ag];exact E,?_⟩;rw[nF];exact d (c++[i]) [] (g1+1) g2 (by simp[eG,jQ]) (by simp) (by simp) s (by repeat' constructor)
   .rw[da]at C;subst C;have M:(a++[l]).length=a.length+1:=by simp
    have T:IntKind.i64.wrap (((a.length+1:Nat):Int) - 1)=(a.length:Int):=by rw[IntWalk.i64_in _ (by simp at j Y;omega)];omega
    have U:gj ((a++[l]).map bV) a.length 0=some (.I l):=l5;have W:(((a.length+1:Nat):Int)==0)=false:=by simp;omega
    have JI:List.take a.length ((a++[l]).map bV)=a.map bV:=by simp
    have V:(0:Int)<=(a.length:Int)/\(a.length:Int)<((a.length+1:Nat):Int):=⟨by omega,by omega⟩
    by_cases G:l=i
    .subst G;simp only[nW,It.awa,jL,r,ag,M,T,U,W,ao,↓IT,VV,seval];refine⟨λ_=>⟨by simp;omega,V,_,rfl,?_⟩,λh=>by simp at h<;>omega⟩;simp only[kO,ag,M,T,r,ao,↓IT,VV,seval];refine⟨⟨by omega,by omega⟩,?_⟩
     have F:∀{b:Ob} {S:aB},oJ S (uu 2 (.own J.length g1::.sub (J.length+1) g2 0 a.length::uu 3 (.sl 3 ((pre++⟨3,t,l⟩::rest).map It.awa)::.I (pre++(⟨3,t,l⟩:It)::rest).length::.I (pre++[(⟨3,t,l⟩:It)]).length::uu 53 []))) ->
       Wk prog J.length S (J++[jL g1 c,jL g2 (a++[l]),b]) (uu 2 (.own J.length g1::.own (J.length+1) (g2+1)::uu 3 (.sl 3 ((pre++⟨3,t,l⟩::rest).map It.awa)::.I (pre++(⟨3,t,l⟩:It)::rest).length::.I (pre++[(⟨3,t,l⟩:It)]).length::uu 53 []))) (J++([jL g1 c,jL (g2+1) a]++[b])):=by
      intro b S x;have h:=Wk.PE (P:=prog) (n:=J.length) (xs:=(uu 2 (.own J.length g1::.sub (J.length+1) g2 0 a.length::uu 3 (.sl 3 ((pre++⟨3,t,l⟩::rest).map It.awa)::.I (pre++(⟨3,t,l⟩:It)::rest).length::.I (pre++[(⟨3,t,l⟩:It)]).length::uu 53 [])))) (J:=J++[jL g1 c,jL g2 (a++[l]),b]) (id:=J.length+1) (g:=g2) (hi:=a.length) (rows:=(a++[l]).map bV) (by simp only[qv];rfl) 3 rfl;rw[JI,ub]at h;exact(Wk.fg x).trans h
     refine s _ (rF (F ?_) (d c a g1 (g2+1) ?_ ?_ ?_ (λ_ h=>h) ?_))
     .repeat' constructor
     .simp[eG,jQ]
     .omega
     .simp;omega
     .repeat' constructor
    .have X:(l==i)=false:=by simpa using G
     simp only[nW,It.awa,jL,r,ag,M,T,U,W,X,ao,↓IT,VV,seval];refine⟨λ_=>⟨by simp;omega,V,_,rfl,?_⟩,λh=>by simp at h<;>omega⟩;simp only[X,↓IT,VV,seval];exact A (by simp[G]) [_,_,_] ..
  .have L:(k==2)=false:=by simpa using H
   have v:(k==3)=false:=by simpa using D
   simp only[nW,It.awa,jL,r,L,v,↓IT,VV,seval];refine⟨λ_=>⟨by simp;omega,nofun,.I 0,nofun,?_⟩,λh=>by simp at h<;>omega⟩;simp only[v,r,↓IT,VV,seval];exact d c o g1 g2 (by simp[eG,jQ,H,D]) (by omega) (by omega) s (by repeat' constructor)
def Aq(f:List It)(a:f.length<2^40)(J:ak):bM prog 146 [.sl 3 (f.map It.awa)] J (Hi f):=by
 refine aZ func146 Z3.2 λc i=>au ?_;simp only[Z3,SS,seval];simp only[ag,VV,seval];refine bZ.wk (((Wk.ij (k:=2) sK rfl).trans (Wk.jA [_] (k:=3) sK rfl)).trans (Wk.fg ?_)) (bZ.uh (f.length+1) (Oq f c a f [] [] [] 0 0 rfl (aD _) (aD _) ?_ ?_))
 .simp only[ai,al,VV,seval]
  repeat' constructor
 .intro h g;simp only[JE];intros;simp only[VV,seval];refine kb (ys:=[.sl 1 [],.sl 1 [],.b false]) c (.inr rfl) (by simp only[RS,seval]) (.cons (.nil _) (.cons (.nil _) (.cons (.refl _) .nil))) (by simp[LW]) ⟨?_,rfl⟩;rw[Hi,show Bt.shape f=none from h];rfl
 .intro p h e d;simp only[JE];intros;simp only[VV,seval];refine fH (xs:=[.own J.length e,.own (J.length+1) d,.b true]) (xs':=[.sl 1 (p.1.map bV),.sl 1 (p.2.map bV),.b true]) (.inr rfl) (by simp only[RS,seval]) ((Wk.rZ 0 rfl).trans ((Wk.rZ 1 rfl).trans ((Wk.fg ?_).trans (Wk.vN c (by simp only[LW]))))) rfl ⟨?_,rfl⟩
  .simp[fz,oa]
   repeat' constructor
  .rw[Hi,show Bt.shape f=some p from h];rfl

set_option maxHeartbeats 2000000
def Tz{J:ak}{K:bl}(f:List It)(a:f.length<2^40):∀(rest pre out:List It) (g:Nat),f=pre++rest->out.length<=pre.length ->
  (∀g,((fj 3 (fh (.own J.length g) (fj 20 fo))) λn=>K (.exit 0) ⟨n,J++[.row 61 3 32 g false ((out++tg rest).map It.awa)]⟩)) ->
  fm J.length prog DU K (rest.length+1) ⟨(.sl 3 (f.map It.awa)::uu 2 (.own J.length g::uu 2 (.I f.length::.I pre.length::uu 16 []))),J++[.row 61 3 32 g false (out.map It.awa)]⟩:=by
 intro rest
 induction rest with
 |nil =>
  intro pre out g c o b;have c:=cN c
  subst c;rw[show tg []=[]from rfl,bL]at b;refine ar λR j=>?_;simp only[DU,VV,seval];exact⟨λh=>by simp at h,λ_=>b g ..⟩
 |cons y rest ih =>
  intro pre out g c o b;subst c;have i:(out.length+1)*32<=2^47/\out.length+1<=maxLen:=by simp at a;simp[maxLen];omega
  have m:decide ((pre.length:Int)<((pre++y::rest).length:Int))=true:=by simp;omega
  have q:pre.length<(pre++y::rest).length:=by simp
  have l:(0:Int)<=(pre.length:Int)/\(pre.length:Int)<((pre++y::rest).length:Int):=by omega
  have k:=dh pre y (by simp at a;omega)
  refine ar λR j=>?_;simp only[DU,It.awa,m,k,ag,↓IT,VV,seval];refine⟨l,?_⟩;refine aw (oT y _) rfl ?_;simp only[It.awa,k,ag,↓IT,VV,seval];refine⟨λd=>⟨l,i,?_⟩,λd=>?_⟩
  .have e:out++tg (y::rest)=(out++[y])++tg rest:=by simp[tg,d]
   have p:out.map It.awa++[[.I y.awb,.s y.awd,.I y.id]]=(out++[y]).map It.awa:=by simp[It.awa]
   rw[e]at b;rw[p];exact j _ (aK (by repeat' constructor) (ih (pre++[y]) (out++[y]) (g+1) (by simp) (by simp;omega) b))
  .have e:out++tg (y::rest)=out++tg rest:=by simp[tg,d]
   rw[e]at b;exact j _ (aK (by repeat' constructor) (ih (pre++[y]) out g (by simp) (by simp;omega) b))
def xY(f:List It)(a:f.length<2^40)(J:ak):bM prog 92 [.sl 3 (f.map It.awa)] J (.sl 3 ((tg f).map It.awa)):=by
 refine aZ func92 p92.2 λb c=>au ?_;simp only[p92,SS,seval];simp only[ag,VV,seval];refine bZ.wk ((Wk.ij (k:=3) yX rfl).trans (Wk.fg ?_)) (bZ.uh (f.length+1) (Tz f a f [] [] 0 rfl (aD _) ?_))
 .simp only[VV,seval]
  repeat' constructor
 .intro g;simp only[JE];intros;simp only[bc,VV,seval];refine mW 0 b (.inr rfl) rfl rfl ?_ ?_
  .simp[fz,oa,LW]
  .exact⟨by simp[fz,oa,Pm.one],rfl⟩

set_option maxHeartbeats 2000000
def TD{J:ak}{K:bl}(f:List It)(j:f.length<2^40):∀(rest pre:List It) (c o:bH) (g1 g2:Nat),f=pre++rest->c.length<=pre.length->o.length<=pre.length ->
  (eG rest (c,o)=none->∀loc,((fj 2 (fh (.nil) (fh (.nil) (fh (.b false) (fj 58 fo))))) λQ=>K .ret ⟨Q,J++loc⟩)) ->
  (∀p,eG rest (c,o)=some p->∀g1 g2,((fj 5 (fh (.own J.length g1) (fh (.own (J.length+1) g2) (fj 56 fo)))) λQ=>K (.exit 0) ⟨Q,J++[jL g1 p.1,jL g2 p.2]⟩)) ->
  fm J.length prog rN K (rest.length+1) ⟨(.sl 3 (f.map It.awa)::uu 4 (.own J.length g1::.own (J.length+1) g2::uu 3 (.I f.length::.I pre.length::uu 51 []))),J++[jL g1 c,jL g2 o]⟩:=by
 intro rest
 induction rest with
 |nil =>
  intro pre c o g1 g2 w x X B u;have w:=cN w
  subst w;refine ar λR s=>?_;simp only[rN,VV,seval];exact⟨λh=>by simp at h,λ_=>u _ rfl g1 g2 ..⟩
 |cons y rest ih =>
  intro pre c o g1 g2 w x X B u;subst w
  have v:=dh pre y (by simp at j;omega)
  have z:decide ((pre.length:Int)<((pre++y::rest).length:Int))=true:=by simp;omega
  have sr:pre.length<(pre++y::rest).length:=by simp
  have r:(0:Int)<=(pre.length:Int)/\(pre.length:Int)<((pre++y::rest).length:Int):=by omega
  have G:(c.length+1)*8<=2^47/\c.length+1<=maxLen:=by simp at j;simp[maxLen];omega
  have S:(o.length+1)*8<=2^47/\o.length+1<=maxLen:=by simp at j;simp[maxLen];omega
  obtain⟨k,t,i⟩:=y;simp only[eG,jQ]at B u
  have d:∀(A a:bH) (m q:Nat) {R:ca} {O:aB},eG (⟨k,t,i⟩::rest) (c,o)=eG rest (A,a)->A.length<=c.length+1->a.length<=o.length+1->(∀C,fm J.length prog rN K (rest.length+1) C->R C) ->
    oJ O (.sl 3 ((pre++⟨k,t,i⟩::rest).map It.awa)::uu 4 (.own J.length m::.own (J.length+1) q::uu 3 (.I (pre++(⟨k,t,i⟩:It)::rest).length::.I (pre++[(⟨k,t,i⟩:It)]).length::uu 51 [])))->R ⟨O,J++[jL m A,jL q a]⟩:=by
   intro A a m q R O e l1 l2 s x;simp only[eG,jQ]at e;rw[e]at B u;exact s _ (aK x (ih (pre++[⟨k,t,i⟩]) A a m q (by simp) (by simp;omega) (by simp;omega) B u))
  refine ar λR s=>?_
  by_cases M:k=2
  .subst M;simp only[rN,It.awa,jL,v,z,ag,↓IT,VV,seval];refine⟨r,r,S,?_⟩;rw[nF];exact d c (o++[i]) g1 (g2+1) (by simp[eG,jQ]) (by omega) (by simp) s (by repeat' constructor)
  by_cases F:k=3
  .subst F;rcases dn o with D|⟨a,l,D⟩
   .subst D;simp only[rN,It.awa,jL,v,z,ag,al,↓IT,VV,seval];refine⟨r,r,G,?_⟩;rw[nF];exact d (c++[i]) [] (g1+1) g2 (by simp[eG,jQ]) (by simp) (by simp) s (by repeat' constructor)
   .rw[da]at D;subst D;have Y:(a++[l]).length=a.length+1:=by simp
    have Z:IntKind.i64.wrap (((a.length+1:Nat):Int) - 1)=(a.length:Int):=by rw[IntWalk.i64_in _ (by simp at j X;omega)];omega
    have U:gj ((a++[l]).map bV) a.length 0=some (.I l):=l5;have W:(((a.length+1:Nat):Int)==0)=false:=by simp;omega
    have JI:List.take a.length ((a++[l]).map bV)=a.map bV:=by simp
    have V:(0:Int)<=(a.length:Int)/\(a.length:Int)<((a.length+1:Nat):Int):=⟨by omega,by omega⟩
    by_cases L:l=i
    .subst L;simp only[rN,It.awa,jL,v,z,ag,Y,Z,U,W,kO,ao,↓IT,VV,seval];refine⟨r,V,r,⟨by omega,by omega⟩,?_⟩
     have H:∀{T:aB},oJ T (.sl 3 ((pre++⟨3,t,l⟩::rest).map It.awa)::uu 4 (.own J.length g1::.sub (J.length+1) g2 0 a.length::uu 3 (.I (pre++(⟨3,t,l⟩:It)::rest).length::.I (pre++[(⟨3,t,l⟩:It)]).length::uu 51 []))) ->
       Wk prog J.length T (J++[jL g1 c,jL g2 (a++[l])]) (.sl 3 ((pre++⟨3,t,l⟩::rest).map It.awa)::uu 4 (.own J.length g1::.own (J.length+1) (g2+1)::uu 3 (.I (pre++(⟨3,t,l⟩:It)::rest).length::.I (pre++[(⟨3,t,l⟩:It)]).length::uu 51 []))) (J++[jL g1 c,jL (g2+1) a]):=by
      intro T x;have h:=Wk.PE (P:=prog) (n:=J.length) (xs:=(.sl 3 ((pre++⟨3,t,l⟩::rest).map It.awa)::uu 4 (.own J.length g1::.sub (J.length+1) g2 0 a.length::uu 3 (.I (pre++(⟨3,t,l⟩:It)::rest).length::.I (pre++[(⟨3,t,l⟩:It)]).length::uu 51 [])))) (J:=J++[jL g1 c,jL g2 (a++[l])]) (id:=J.length+1) (g:=g2) (hi:=a.length) (rows:=(a++[l]).map bV) (by simp only[qv];rfl) 6 rfl;rw[JI,ub]at h;exact(Wk.fg x).trans h
     refine s _ (rF (H ?_) (d c a g1 (g2+1) ?_ ?_ ?_ (λ_ h=>h) ?_))
     .repeat' constructor
     .simp[eG,jQ]
     .omega
     .simp;omega
     .repeat' constructor
    .have OI:(l==i)=false:=by simpa using L
     simp only[rN,It.awa,jL,v,z,ag,Y,Z,U,W,OI,ao,↓IT,VV,seval];refine⟨r,V,r,?_⟩;exact B (by simp[L]) [_,_] ..
  .have N:(k==2)=false:=by simpa using M
   have E:(k==3)=false:=by simpa using F
   simp only[rN,It.awa,jL,v,z,N,E,ag,↓IT,VV,seval];refine⟨r,?_⟩;exact d c o g1 g2 (by simp[eG,jQ,M,F]) (by omega) (by omega) s (by repeat' constructor)
def vm(f:List It)(a:f.length<2^40)(J:ak):bM prog 88 [.sl 3 (f.map It.awa)] J (Hi f):=by
 refine aZ func88 p88.2 λc i=>au ?_;simp only[p88,SS,seval];simp only[ag,VV,seval];refine bZ.wk (((Wk.ij (k:=5) sK rfl).trans (Wk.jA [_] (k:=6) sK rfl)).trans (Wk.fg ?_)) (bZ.uh (f.length+1) (TD f a f [] [] [] 0 0 rfl (aD _) (aD _) ?_ ?_))
 .simp only[ai,al,VV,seval]
  repeat' constructor
 .intro h g;simp only[JE];intros;simp only[VV,seval];refine kb (ys:=[.sl 1 [],.sl 1 [],.b false]) c (.inr rfl) (by simp only[RS,seval]) (.cons (.nil _) (.cons (.nil _) (.cons (.refl _) .nil))) (by simp[LW]) ⟨?_,rfl⟩;rw[Hi,show Bt.shape f=none from h];rfl
 .intro p h e d;simp only[JE];intros;simp only[VV,seval];refine fH (xs:=[.own J.length e,.own (J.length+1) d,.b true]) (xs':=[.sl 1 (p.1.map bV),.sl 1 (p.2.map bV),.b true]) (.inr rfl) (by simp only[RS,seval]) ((Wk.rZ 0 rfl).trans ((Wk.rZ 1 rfl).trans ((Wk.fg ?_).trans (Wk.vN c (by simp only[LW]))))) rfl ⟨?_,rfl⟩
  .simp[fz,oa]
   repeat' constructor
  .rw[Hi,show Bt.shape f=some p from h];rfl
end Go.Proofs.Tryz
namespace Go.Pm
open Go Go.RowKit Go.Sort Go.Proofs
def PC.IC{P:bo}{a:Shelf.Ren}(L:SlLaysM.n6 P a){E by' g id:Nat}(l:dq)(c:l.length<2^30){J:ak}(h1:J[id]?=some (.row E 1 by' g false (l.map λx=>[.s x]))):
  PC P (a.f 6) [.own id g] J (λr J'=>r=.iQ []/\J'=J.set id (.row E 1 by' g false ((l.mergeSort λx y=>decide (x<=y)).map λx=>[.s x]))) :=
 PC.Nr (ve:=λx=>.s x) (λx h=>by
  obtain⟨y,rfl,b,d⟩:=h.qf;refine⟨rfl,?_,.s _ _ rfl d⟩;subst b;rfl) (AnyM.slices_Sort_string L) (AnyM.slices_Sort_string_none L) l c h1
end Go.Pm
set_option maxHeartbeats 1000000
namespace Go.Proofs.Tryz
open Go Go.Pm Go.Bt
def oS(m:List En)(h:m.length<=1024)(k d:Nat)(i:k+d<=m.length)(e:En)(J:ak):
  bM prog 116 [.sl 8 (m.map En.awa),.I k,.agg e.awa,.I d] J (.sl 8 ((m.take k++e::m.drop (k+d)).map En.awa)):=by
 refine aZ func116 QS.2 λg j=>au ?_
 have a:IntKind.i64.wrap ((k:Int)+(d:Int))=((k+d:Nat):Int):=by
  rw[show(k:Int)+(d:Int)=((k+d:Nat):Int)by omega];exact IntWalk.i64_in _ (by omega)
 simp only[QS,SS,seval];have f:(List.take k (m.map En.awa)).length=k:=by rw[aP,ag];omega
 have b:List.take (m.length - (k+d)) (List.drop (k+d) (m.map En.awa))=List.drop (k+d) (m.map En.awa):=bW (by simp);have c:(List.drop (k+d) (m.map En.awa)).length=m.length - (k+d):=by simp
 simp only[En.awa,a,f,b,c,aj,ag,ao,V.pure,VV,seval];refine⟨⟨by omega,by omega⟩,⟨by omega,by unfold maxLen;omega⟩,⟨by omega,by unfold maxLen;omega⟩,⟨by omega,by omega,by omega⟩,⟨by omega,by unfold maxLen;omega⟩,?_⟩;refine mW 1 g (.inr rfl) rfl rfl ?_ ?_
 .simp[fz,oa,LW]
 .refine⟨?_,rfl⟩;simp[fz,oa,Pm.one,En.awa,eu,eO]
def tU(m:List En)(e:En):Prop:=∃x,m[below m (aN e)]?=some x/\cq x=aN e
instance (m:List En) (e:En):Decidable (tU m e) :=
 match h:m[below m (aN e)]? with
 |some x=>if b:cq x=aN e then .isTrue ⟨x,h,b⟩else .isFalse (λ⟨y,a,c⟩=>by rw[h]at a;cases a;exact b c)
 |none=>.isFalse (λ⟨y,a,_⟩=>by rw[h]at a;cases a)
def iA(m:List En)(e:En):Int:=if cj e≠0 then cj e else if tU m e\/m.length<1024 then 0 else 3
def lR(m:List En)(e:En):List En :=
 if iA m e=0 then m.take (below m (aN e))++e::m.drop (below m (aN e)+if tU m e then 1 else 0)else[]
def DJ(m:List En)(k:nj m)(o:∀e∈m,e.awk)(e:En)(p:e.awk)(J:ak):bM prog 56 [.sl 8 (m.map En.awa),.agg e.awa] J (.iQ [.sl 8 ((lR m e).map En.awa),.I (iA m e)]):=by
 refine aZ func56 p56.2 λi B=>au ?_;have n:=k.len;have A:=yL m (aN e);simp only[p56,SS,seval];simp only[En.awa,↓IT,VV,seval];refine aw (sQ m k o _) rfl ?_;simp only[↓IT,VV,seval];refine aw (kW e p _) (by simp only[En.awa,VV,seval]) ?_;simp only[↓IT,VV,seval];refine⟨λh=>?_,λh=>?_⟩
 .have h:cj e≠0:=by simpa using h
  have z:iA m e=cj e:=by rw[iA,az h]
  refine kb (ys:=[.sl 8 [],.I (cj e)]) i (.inr rfl) (by simp only[RS,seval]) (.cons (.nil _) (.cons (.refl _) .nil)) (by simp[LW]) ⟨?_,rfl⟩;rw[lR,z,an h];rfl
 have j:cj e=0:=by simpa using h
 refine aw (js e p _) (by simp only[En.awa,VV,seval]) ?_;simp only[↓IT,VV,seval];refine aw (sR m k o (aN e) _) rfl ?_
 by_cases h:below m (aN e)<m.length
 .have r:=dC h;have w:(m.map En.awa).getD (below m (aN e)) []=m[below m (aN e)].awa:=by simp[aq,h]
  have l:decide ((below m (aN e):Int)<(m.length:Int))=true:=by simp;omega
  have t:m[below m (aN e)].awa.take 8=m[below m (aN e)].awa:=by simp[En.awa]
  have x:aN m[below m (aN e)]=cq m[below m (aN e)]:=by rw[aN,an (by rw[k.ok _ r];decide)]
  have q:m[below m (aN e)]?=some m[below m (aN e)]:=ax h;simp only[ag,l,w,t,ao,VV,seval];refine⟨⟨by omega,by omega⟩,.agg m[below m (aN e)].awa,⟨rfl,by simp[En.awa]⟩,?_⟩;refine bB (c:=true) (by simp only[VV,seval]<;>rfl) (λ_=>js m[below m (aN e)] (o _ r) _) rfl ?_;simp only[x,↓IT,VV,seval];refine bB (c:=true) (by simp only[En.awa,VV,seval]<;>rfl) (λ_=>js e p _) rfl ?_;simp only[↓IT,VV,seval];refine⟨λg=>?_,λg=>?_⟩
  .have g:cq m[below m (aN e)]=aN e:=by simpa using g
   have d:tU m e:=⟨_,q,g⟩;have b:iA m e=0:=by rw[iA,an (by simp[j]),az (.inl d)]
   refine aw (oS m n (below m (aN e)) 1 (by omega) e _) (by simp only[En.awa,VV,seval]) ?_;simp only[↓IT,VV,seval];exact bg i (.inr rfl) (by simp only[RS,seval];rfl) (by simp[LW]) ⟨by rw[lR,az b,b,az d];rfl,rfl⟩
  .have g:cq m[below m (aN e)]≠aN e:=by simpa using g
   have d:¬tU m e:=λ⟨y,a,f⟩=>by rw[q]at a;cases a;exact g f
   refine⟨λa=>?_,λa=>?_⟩
   .have a:1024<=m.length:=by simp at a;omega
    have b:iA m e=3:=by rw[iA,an (by simp[j]),an (λf=>f.elim d λf=>by omega)]
    exact kb (ys:=[.sl 8 [],.I 3]) i (.inr rfl) (by simp only[RS,seval]) (.cons (.nil _) (.cons (.refl _) .nil)) (by simp[LW]) ⟨by rw[lR,b,an (by decide)];rfl,rfl⟩
   .have a:m.length<1024:=by simp at a;omega
    have b:iA m e=0:=by rw[iA,an (by simp[j]),az (.inr a)]
    refine aw (oS m n (below m (aN e)) 0 (by omega) e _) (by simp only[En.awa,VV,seval]) ?_;simp only[↓IT,VV,seval];exact bg i (.inr rfl) (by simp only[RS,seval];rfl) (by simp[LW]) ⟨by rw[lR,az b,b,an d];rfl,rfl⟩
 .have l:decide ((below m (aN e):Int)<(m.length:Int))=false:=by simp;omega
  have d:¬tU m e:=λ⟨y,a,f⟩=>h (ah.1 a).1;simp only[ag,l,VV,seval];refine⟨nofun,.u,nofun,?_⟩;refine bB (c:=false) (v:=.s []) (by simp only[VV,seval]<;>rfl) (nofun) rfl ?_;simp only[↓IT,VV,seval];refine bB (c:=false) (v:=.s []) (by simp only[VV,seval]<;>rfl) (nofun) rfl ?_;simp only[↓IT,VV,seval];refine⟨λa=>?_,λa=>?_⟩
  .have a:1024<=m.length:=by simp at a;omega
   have b:iA m e=3:=by rw[iA,an (by simp[j]),an (λf=>f.elim d λf=>by omega)]
   exact kb (ys:=[.sl 8 [],.I 3]) i (.inr rfl) (by simp only[RS,seval]) (.cons (.nil _) (.cons (.refl _) .nil)) (by simp[LW]) ⟨by rw[lR,b,an (by decide)];rfl,rfl⟩
  .have a:m.length<1024:=by simp at a;omega
   have b:iA m e=0:=by rw[iA,an (by simp[j]),az (.inr a)]
   refine aw (oS m n (below m (aN e)) 0 (by omega) e _) (by simp only[En.awa,VV,seval]) ?_;simp only[↓IT,VV,seval];exact bg i (.inr rfl) (by simp only[RS,seval];rfl) (by simp[LW]) ⟨by rw[lR,az b,b,an d];rfl,rfl⟩
end Go.Proofs.Tryz
namespace Go.Pm
open Go Go.RowKit Go.Shelf Go.Lib Go.Proofs
def rB{P:bo}{w:bD}{g o:Nat}{t:TypeId}{c:Array Value}{d:List Value}(e:w.heap[g]?=some (.cells c t (0,0)))(h:o+d.length<=c.size)(h1:∀v∈d,v.oneCell'=true):
  w.setCells g o d=w.setRow g (c.toList.take o++d++c.toList.drop (o+d.length)).toArray:=by
 have a:=run_storeCells_at P g o t d 0 c w e (by simpa using h) h1
 have b:=run_storeCells_cells (P:=P) g o d 0 w (λj f=>by
  simp only[World.cell?,de,e];rw[bO (by omega)];rfl) (λj f=>by simp[World.frozen?,e]) h1
 rw[a]at b;simpa using b.symm
def u6{P:bo}(w:bD)(t e ty:TypeId)(z:Value)(h:P.underlying t=some (.slice e))(j:∀w,(zeroValue e).run P w=.ok z w)(g o n c:Nat)(k:0<n)(a:Array Value)(T:TypeId)(i:w.heap[g]?=some (.cells a T (0,0)))(f:o+n*z.cells.size<=a.size)(h1:∀v∈(Builtin.zeroCells z.cells n).toList,v.oneCell'=true):
  (Builtin.clear_ #[t] ty #[.slice (some ⟨g,o,none⟩) n c]).run P w=.ok (.tuple #[]) (w.setRow g (a.toList.take o++(Builtin.zeroCells z.cells n).toList++a.toList.drop (o+n*z.cells.size)).toArray):=by
 have b:(Builtin.zeroCells z.cells n).toList.length=n*z.cells.size:=by simp[Builtin.zeroCells]
 have d:=run_storeCells_at P g o T (Builtin.zeroCells z.cells n).toList 0 a w i (by rw[b];simpa using f) h1;simp only[de,b]at d;obtain⟨m,rfl⟩:∃m,n=m+1:=⟨n - 1,by omega⟩;simp[Builtin.clear_,run_underlying h,j,d]
set_option maxRecDepth 1000000 in
def vQ{P:bo}{l:Ren}(L:SlLaysE0.n45 P l)(k:Nat)(F:TypeInfo)(z:Value)(TW:P.info? (l.t 23)=some F)(Pk:F.size=k)(E:z.cells.size=k)(H:∀w,(zeroValue (l.t 23)).run P w=.ok z w)(Z:∀w,(Go.sizeOf (l.t 23)).run P w=.ok k w)(JL:∀q,q<k->(z.cells.getD q undef).oneCell'=true)
  (g n c i:Nat) (b:Array Value) (T:TypeId) (w:bD) (hi:i<n) (Ez:n<=c) (Y:c<=9223372036854775807) (r:w.heap[g]?=some (.cells b T (0,0))) (p:b.size=c*k) (B:∀v∈b.toList.take (n*k),v.oneCell'=true) :
  Calls P (l.f 45) #[.slice (some ⟨g,0,none⟩) n c,.int .i64 i,.int .i64 ((i:Int)+1)] w λe w'=>e=.returned (.slice (some ⟨g,0,none⟩) (n - 1) c)/\∃row,w'=w.drew.setRow g row/\row.size=c*k /\
   row.toList.take ((n - 1)*k)=b.toList.take (i*k)++(b.toList.take (n*k)).drop ((i+1)*k):=by
 have mixed:=L.mixed;have t0:=L.t0;have a0:=L.a0;have z0:=L.z0;have v0:=L.v0;have t3:=L.t3;have a3:=L.a3;have z3:=L.z3;have v3:=L.v3;have t4:=L.t4;have a4:=L.a4;have z4:=L.z4;have v4:=L.v4;have o:=L.t22;have ab:=L.a22;have R:=L.z22;have af:=L.v22;have aa:n*k<=c*k:=bI _ Ez;have ad:(i+1)*k<=n*k:=bI _ hi;generalize s:(b.toList.take (n*k)).drop ((i+1)*k)=news;have d:news.length=(n - (i+1))*k:=by rw[<- s];simp only[bA,aP,bh,p,s9];omega
 have O:∀u∈news,u.oneCell'=true:=λu j=>B u (cH (s.symm▸j))
 have M:∀t u,news[t]?=some u->w.cell? ⟨g,(i+1)*k+t,none⟩=some u:=by
  intro t u j;rw[<- s,db,ee]at j;split at j
  .simp only[World.cell?,r];simpa using j
  .cases j
 obtain⟨A,hA,vG⟩:∃A:Addr,(if c=i+1 then some (⟨g,0,none⟩:Addr)else some ⟨g,(i+1)*k,none⟩)=some A/\(∀t u,news[t]?=some u->w.drew.cell? (A.add t)=some u):=by
  by_cases h:c=i+1
  .refine⟨⟨g,0,none⟩,by simp[h],λt u j=>?_⟩
   have h0:news.length=0:=by
    rw[d];have:n - (i+1)=0:=by omega
    rw[this];simp
   rw[fG.1 h0]at j;simp at j
  .exact⟨⟨g,(i+1)*k,none⟩,by simp[h],λt u j=>by rw[Addr.add_lit];exact M t u j⟩
 have qi:(i+(n - (i+1)))=n - 1:=by omega
 have fk:¬(c=i):=by omega
 have HU:IntKind.i64.wrap ((i:Int)+1)=(i:Int)+1:=by rw[IntKind.wrap_i64];omega
 have JH:((i:Int)+1).toNat=i+1:=by omega
 have Rp:¬((i:Int)=(i:Int)+1):=by omega
 have yQ:(0:Int)<=(i:Int)+1:=by omega
 have mj:(i:Int)+1<=(n:Int):=by omega
 have av:(i:Int)<=(i:Int)+1:=by omega
 have V:¬(c=i+(n - (i+1))):=by omega
 have ac:i<=c:=by omega
 have ap:i+1<=c:=by omega
 have s3:∀t,t<news.length->(w.drew.cell? ⟨g,0+i*k+t,none⟩).isSome=true/\w.drew.frozen? ⟨g,0+i*k+t,none⟩=false:=by
  intro t S
  have U:i*k+t<b.size:=by
   rw[p];rw[d]at S;have:i*k+(n - (i+1))*k<=n*k:=by rw[<- Nat.add_mul];exact bI _ (by omega)
   omega
  refine⟨?_,?_⟩
  .show(w.cell? _).isSome=true;simp only[World.cell?,r,aY];rw[bO U];rfl
  .show w.frozen? _=false;simp[World.frozen?,r]
 have I:i*k+news.length<=b.size:=by
  rw[d,<- Nat.add_mul,p];exact bI _ (by omega)
 obtain⟨a,x⟩:∃a,a=(b.toList.take (i*k)++news++b.toList.drop (i*k+news.length)).toArray:=⟨_,rfl⟩
 have m:w.drew.setCells g (0+i*k) news=w.drew.setRow g a:=by
  rw[aY,rB (P:=P) (w:=w.drew) r I O,x]
 have y:a.size=c*k:=by
  rw[x];simp only[eU,aj,aP,bA,bh,p]at I |-;omega
 have JP:(w.drew.setRow g a).heap[g]?=some (.cells a T (0,0)):=setRow_heap w.drew g b a T (0,0) r;have am:(n - 1)*k+1*k=n*k:=by rw[<- Nat.add_mul];congr 1;omega
 have Q:(Builtin.zeroCells z.cells 1).toList.length=k:=by simp[Builtin.zeroCells,E]
 have N:∀v∈(Builtin.zeroCells z.cells 1).toList,v.oneCell'=true:=by
  intro v K;simp only[Builtin.zeroCells,ir,mh,we,bF,eC]at K;obtain⟨q,hq,rfl⟩:=K;have D:q % z.cells.size<z.cells.size:=tc _ (by omega);rw[rY _ _ D];exact JL _ (by omega)
 have W:∀G C,(Builtin.clear_ #[l.t 22] G #[.slice (some ⟨g,(n - 1)*k,none⟩) (n - (n - 1)) C]).run P (w.drew.setRow g a)=.ok (.tuple #[]) ((w.drew.setRow g a).setRow g (a.toList.take ((n - 1)*k)++(Builtin.zeroCells z.cells 1).toList++a.toList.drop ((n - 1)*k+1*k)).toArray):=λG C=>by
  have h1:n - (n - 1)=1:=by omega
  rw[h1];have:=u6 (P:=P) (w.drew.setRow g a) (l.t 22) (l.t 23) G z o H g ((n - 1)*k) 1 C (by omega) a T JP (by rw[E,y];omega) N
  rwa [E]at this
 generalize (Builtin.zeroCells z.cells 1).toList=zc at W Q;have hW:Hid (w.drew.setCells g (0+i*k) news=w.drew.setRow g a):=m
 have hC:Hid (a.toList=b.toList.take (i*k)++news++b.toList.drop (i*k+news.length)):=by
  show a.toList=_;rw[x]
 clear m x s M N;obtain⟨_,_,X⟩:=L.f45
 go_enter X,SlBodyN.n45_ntmps l
 go_wp2_with fail
 go_region_law_o (refine step_append_room rfl (.tmp 22) (.tmp 25) (l.t 22) rfl (l.t 23) F k o TW Pk g 0 i c (by simp[Act.eval,Act.put]) A (n - (i+1)) (c - (i+1)) news (by simp[Act.eval,Act.put]) d vG O (by omega) s3 ?_;rw[hW.out])
 go_wp2
 go_ret
 have BG:(b.toList.take (i*k)++news).length=(n - 1)*k:=by
  rw[aj,aP,bh,d,p,fb (by omega),<- Nat.add_mul];congr 1
 have J:(a.toList.take ((n - 1)*k)).length=(n - 1)*k:=by
  rw[aP,bh,y];omega
 refine⟨rfl,_,by rw[setRow_setRow],?_,?_⟩
 .simp only[eU,aj,bA,J,Q,bh,y];omega
 .show List.take ((n - 1)*k) (a.toList.take ((n - 1)*k)++_)=_;rw[dL (xH J.symm),lB,YD,hC.out,Bh BG]
def kN.take{w:bD}{J:ak}{μ:Mem}{xs:dF}{sz:Nat}{vals:List Value}(h:kN w J μ xs sz vals)(m:Nat)(l:m<=xs.length):kN w J μ (xs.take m) sz (vals.take (m*sz)):=by
 refine⟨λq a=>h.1 q (cF a),λi j x b=>?_⟩
 have d:i<m:=by
  obtain⟨q,a,_⟩:=jz b;have:=(ah.1 a).1;rw[aP]at this;omega
 have c:gj xs i j=some x:=by
  simp only[gj,ee,az d]at b |-;exact b
 obtain⟨e,u,k,g⟩:=h.2 i j x c
 have n:j<sz:=by
  obtain⟨q,a,f⟩:=jz c;have:=h.1 q (bE a);have:=(ah.1 f).1;omega
 refine⟨e,u,?_,g⟩;have:(i+1)*sz<=m*sz:=bI _ d;rw[cJ,ir]at this;rw[ee,az (by omega)];exact k
def kN.drop{w:bD}{J:ak}{μ:Mem}{xs:dF}{sz:Nat}{vals:List Value}(h:kN w J μ xs sz vals)(m:Nat):kN w J μ (xs.drop m) sz (vals.drop (m*sz)):=by
 refine⟨λq c=>h.1 q (cH c),λi j x a=>?_⟩
 have b:gj xs (m+i) j=some x:=by
  simp only[gj,db]at a |-;exact a
 obtain⟨d,u,f,e⟩:=h.2 _ j x b;refine⟨d,u,?_,e⟩;rw[db,<- f,cJ,iW]
def PC.yF{P:bo}{c:Ren}(L:SlLaysE0.n45 P c){k by' g id i:Nat}{rows:dF}{J:ak}(A:(P.info? (c.t 23)).map (λi=>(i.zero.map (λz=>(z.cells.size,z.cells.all (·.oneCell'))),i.size))=some (some (k,true),k))(hi:i<rows.length)(hl:rows.length<2^30)(h1:J[id]?=some (.row (c.t 23) k by' g false rows)):
  PC P (c.f 45) [.own id g,.i .i64 i,.i .i64 ((i:Int)+1)] J (λr J'=>r=.own id (g+1)/\J'=J.set id (.row (c.t 23) k by' (g+1) false (rows.take i++rows.drop (i+1)))):=by
 cases o:P.info? (c.t 23)with
 |none=>simp[o]at A
 |some Q =>
 simp only[o,cL,ae,aQ]at A;obtain⟨s,R⟩:=A;cases h:Q.zero with
 |none=>simp[h]at s
 |some z =>
 simp only[h,cL,ae,aQ]at s;refine PC.Vr h1 λB w0 w μ F T m=>?_;have I:=(m.2 0 _ rfl).mK h1;have S:=(m.2 1 _ rfl).iF;have M:=(m.2 2 _ rfl).iF;obtain⟨_,a,D,E⟩:=T.obj id _ h1
 have e:F=#[μ id,.int .i64 i,.int .i64 ((i:Int)+1)]:=by
  obtain⟨q⟩:=F
  match q,m.1 with
  |[u,v,y],_=>simp at I S M;rw[I,S,M]
 rw[e];have o1:=kN.one T E D.1;rcases D.2 with⟨_,hn⟩|⟨x,p,d,V,hB,O,Y,G,pN,C⟩
 .omega
 rw[V];refine(vQ L k Q z o R s.1 (λw=>by simp[zeroValue,run_typeInfo w o,h]) (λw=>by simp[sizeOf,run_typeInfo w o,R]) (λq aa=>?_) x rows.length p i d (c.t 23) w hi Y (by unfold maxLen at G;omega) O pN (λv m=>o1 v (C▸m))).mono ?_
 .have:=YL.1 s.2 q (by omega);rw[cx,bO (by omega)];exact this
 rintro e w' ⟨rfl,row,rfl,X,H⟩;have N:a.length=rows.length*k:=D.1;have ab:(i+1)*k<=rows.length*k:=bI _ hi;have K:i*k<=rows.length*k:=bI _ (by omega);have l:(rows.take i++rows.drop (i+1)).length=rows.length - 1:=by simp only[aj,aP,bA];omega
 have n:i*k+(rows.length - (i+1))*k=(rows.length - 1)*k:=by rw[<- Nat.add_mul];congr 1;omega
 have Z:(a.take (i*k)++a.drop ((i+1)*k)).length=(rows.length - 1)*k:=by
  rw[s9]at n;simp only[aj,aP,bA,N];omega
 rw[C,show d.toList.take (i*k)=a.take (i*k)by rw[<- C,lB,fb K]]at H;refine⟨_,a.take (i*k)++a.drop ((i+1)*k),rfl,?_,λb W=>.inl W,?_,?_⟩
 .refine⟨rfl,rfl,rfl,?_,λj hj iR=>?_⟩
  .simp only[World.setRow,World.drew,xL];exact aD _
  .have U:¬x=j:=λe=>iR (by rw[e];rfl);simp only[World.setRow,World.drew,dp,an U]
 .rw[l];exact⟨Z,.inr ⟨x,p,row,rfl,hB,setRow_heap w.drew x d _ (c.t 23) (0,0) O,by omega,G,X,H⟩⟩
 .exact(E.take i (by omega)).append (E.drop (i+1)) (by simp only[aP,N,fb K,fb (YE hi)])
end Go.Pm
set_option maxHeartbeats 4000000
namespace Go.Proofs.Tryz
open Go Go.Pm Go.Bt
def OX(l:bH)(i:Nat)(hi:i<l.length)(c:l.length<2^30)(b g:Nat)(J:ak)(a:J[b]?=some (jL g l)):PC prog 144 [.own b g,.I i,.I ((i:Int)+1)] J (λr J'=>r=.own b (g+1)/\J'=J.set b (jL (g+1) (l.take i++l.drop (i+1)))):=by
 have:=PC.yF Tryz.ai2 (k:=1) (by':=8) (g:=g) (i:=i) (rows:=l.map bV) (by kernel_rfl) (by simpa using hi) (by simpa using c) a;rw[<- List.map_take,<- List.map_drop,<- List.map_append]at this;exact this
def Jt{J:ak}{K:bl}(w:cn J)(a:List It)(xs:bH)(r p:Int)(b:List It)(H:b.length<2^29)(n:Int)(x:It)(left fr f:bH)(c g gt:Nat)(C:left.length<2^30)(L:fr.length<2^40)(G:f.length<2^40):∀(rest pre:bH),left=pre++rest->(∀m∈pre,vB b x m=false) ->
  (rest.find? (vB b x)=none->((fh (.sl 3 (a.map It.awa)) (fh (.sl 3 (b.map It.awa)) (fj 2 (fh (.own (J.length+1) g) (fh (.own (J.length+2) gt) (fh (.own J.length c) (fj 9 (fh (.sl 1 (xs.map bV)) (fh (.I r) (fh (.I p) (fj 45 fo))))))))))) λo=>K (.exit 2) ⟨o,J++[jL c left,jL g fr,jL gt f,.box 61 x.awa]⟩)) ->
  (∀m,rest.find? (vB b x)=some m->∀y,((fh (.sl 3 (a.map It.awa)) (fh (.sl 3 (b.map It.awa)) (fj 2 (fh (.own (J.length+1) (g+1)) (fh (.own (J.length+2) (gt+1)) (fh (.own J.length (c+1)) (fj 9 (fh (.sl 1 (xs.map bV)) (fh (.I r) (fh (.I p) (fj 45 fo))))))))))) λo=>K (.exit 2) ⟨o,J++[jL (c+1) (left.erase m),jL (g+1) (fr++[n]),jL (gt+1) (f++[m]),.box 61 x.awa,y]⟩)) ->
  fm J.length prog AJ K (rest.length+1) ⟨(.sl 3 (a.map It.awa)::.sl 3 (b.map It.awa)::uu 2 (.own (J.length+1) g::.own (J.length+2) gt::.own J.length c::uu 1 (.I n::.ptr (J.length+3) 0::uu 6 (.sl 1 (xs.map bV)::.I r::.I p::uu 6 (.own J.length c::.I left.length::.I pre.length::uu 36 []))))),J++[jL c left,jL g fr,jL gt f,.box 61 x.awa]⟩:=by
 intro rest
 induction rest with
 |nil =>
  intro pre d q j e;have d:left=pre:=by simpa using d
  have k:decide ((pre.length:Int)<(left.length:Int))=false:=by rw[d];simp
  refine ar λR u=>?_;simp only[AJ,k,↓IT,VV,seval];exact j rfl ..
 |cons m rest ih =>
  intro pre d q j e;have A:pre.length<left.length:=by rw[d];simp
  have k:decide ((pre.length:Int)<(left.length:Int))=true:=by simp;omega
  have v:gj (left.map bV) pre.length 0=some (.I m):=by rw[d];exact l5
  have B:=dh pre m (by omega)
  have F:((pre++[m]).length:Int)=(pre.length:Int)+1:=by simp
  have E:(0:Int)<=(pre.length:Int)/\(pre.length:Int)<(left.length:Int):=by omega
  have z:((fE b m).awb==x.awb&&(fE b m).awd==x.awd)=vB b x m:=by
   rw[vB,BEq.comm (a:=x.awb),BEq.comm (a:=x.awd)]
  have okF:(fr.length+1)*8<=2^47/\fr.length+1<=maxLen:=by simp[maxLen];omega
  have s:(f.length+1)*8<=2^47/\f.length+1<=maxLen:=by simp[maxLen];omega
  rw[ng]at j e;refine ar λR u=>?_;simp only[AJ,jL,It.awa,k,v,ag,ao,↓IT,VV,seval];refine⟨E,?_⟩;refine aw (yB b m (by omega) _) rfl ?_;simp only[It.awa,B,z,ag,ao,↓IT,VV,seval];refine⟨λh=>?_,λh=>?_⟩
  .have l:left.take pre.length++left.drop (pre.length+1)=left.erase m:=by
    have t:m ∉ pre:=λD=>by rw[q m D]at h;cases h
    rw[d,ao0 _ t];simp
   rw[h]at e;refine⟨okF,s,?_⟩;refine aw (OX left pre.length A C J.length c _ (by simp only[jX];rfl)) (by simp only[F,VV,seval]) ?_;rw[l];simp only[nF,yM,fK,↓IT,VV,seval];exact e m rfl _ ..
  .rw[h]at j e;refine u _ (cG [_,_,_,_] [_] (cC w (by simp[LW])) ?_ ?_ (ih (pre++[m]) (by rw[d];simp) (λy i=>?_) j e))
   .repeat' constructor
   .simp only[LW,ai,al,aY];omega
   .rcases bP.1 i with i|i
    .exact q y i
    .rw[cv]at i;rw[i];exact h
def Js{J:ak}{K:bl}(o:cn J)(a b:List It)(C:a.length<2^29)(u:b.length<2^29)(c:bH)(D:c.length<2^30):∀(rest pre left:bH) (fr g:bH) (d f gt:Nat),c=pre++rest->left.length<2^30->fr.length<=pre.length->g.length<=pre.length ->
  (∀d f gt x,((fj 4 (fh (.own (J.length+1) f) (fh (.own (J.length+2) gt) (fj 58 fo)))) λv=>K (.exit 0) ⟨v,J++[jL d x,jL f (fr++(jR a b rest left).map (·.1)),jL gt (g++(jR a b rest left).map (·.2))]⟩)) ->
  fm J.length prog DZ K (rest.length+1) ⟨(.sl 3 (a.map It.awa)::.sl 3 (b.map It.awa)::uu 2 (.own (J.length+1) f::.own (J.length+2) gt::.own J.length d::uu 9 (.sl 1 (c.map bV)::.I c.length::.I pre.length::uu 45 []))),J++[jL d left,jL f fr,jL gt g]⟩:=by
 intro rest
 induction rest with
 |nil =>
  intro pre left fr g d f gt i p w t j;have i:c=pre:=by simpa using i
  have k:decide ((pre.length:Int)<(c.length:Int))=false:=by rw[i];simp
  simp only[jR,bR,bL]at j;refine ar λR q=>?_;simp only[DZ,k,↓IT,VV,seval];exact j d f gt left ..
 |cons n rest ih =>
  intro pre left fr g d f gt i p w t j;have A:pre.length<c.length:=by rw[i];simp
  have k:decide ((pre.length:Int)<(c.length:Int))=true:=by simp;omega
  have s:gj (c.map bV) pre.length 0=some (.I n):=by rw[i];exact l5
  have r:=dh pre n (by omega)
  have z:(0:Int)<=(pre.length:Int)/\(pre.length:Int)<(c.length:Int):=by omega
  refine ar λR q=>?_;simp only[DZ,jL,k,s,ag,ao,↓IT,VV,seval];refine⟨z,?_⟩;refine aw (yB a n (by omega) _) rfl ?_;simp only[It.awa,ag,↓IT,VV,seval];refine bZ.aK (fr':=(.sl 3 (a.map It.awa)::.sl 3 (b.map It.awa)::uu 2 (.own (J.length+1) f::.own (J.length+2) gt::.own J.length d::uu 1 (.I n::.ptr (J.length+3) 0::uu 6 (.sl 1 (c.map bV)::.I c.length::.I pre.length::uu 6 (.own J.length d::.I left.length::.I (([]:bH).length:Nat)::uu 36 [])))))) (by repeat' constructor) (left.length+1) (Jt o a c c.length pre.length b u n (fE a n) left fr g d f gt p (by omega) (by omega) left [] rfl (nofun) ?_ ?_)
  .intro h;have e:jR a b (n::rest) left=jR a b rest left:=by simp only[jR,h]
   rw[e]at j;simp only[JE];intros;simp only[jL,r,↓IT,VV,seval];refine q _ (cG [_,_,_] [_] (cC o (by simp[LW])) ?_ ?_ (ih (pre++[n]) left fr g d f gt (by rw[i];simp) p (by simp;omega) (by simp;omega) j))
   .repeat' constructor
   .simp only[LW,ai,al,aY];omega
  .intro m h y;have e:jR a b (n::rest) left=(n,m)::jR a b rest (left.erase m):=by simp only[jR,h]
   rw[e]at j;have B:=List.length_erase_le (a:=m) (l:=left);simp only[JE];intros;simp only[jL,r,↓IT,VV,seval];refine q _ (cG [_,_,_] [_,_] (cC o (by simp[LW])) ?_ ?_ (ih (pre++[n]) (left.erase m) (fr++[n]) (g++[m]) (d+1) (f+1) (gt+1) (by rw[i];simp) (by omega) (by simp;omega) (by simp;omega) ?_))
   .repeat' constructor
   .simp only[LW,ai,al,aY];omega
   .simpa only[aH,bk,fI]using j
def ND(a b:List It)(e:a.length<2^29)(f:b.length<2^29)(J:ak):bM prog 84 [.sl 3 (a.map It.awa),.sl 3 (b.map It.awa)] J (.iQ [.sl 1 (((kI a b).map (·.1)).map bV),.sl 1 (((kI a b).map (·.2)).map bV)]):=by
 refine aZ func84 p84.2 λc h=>au ?_;have i:=jE a;have j:=jE b;simp only[p84,SS,seval];simp only[VV,seval];refine aw (wR b (by omega) _) rfl ?_;simp only[VV,seval];refine aw (CQ a (by omega) _) rfl ?_;simp only[ag,VV,seval];refine bZ.wk (((Wk.jA [_] (k:=4) sK rfl).trans (Wk.jA [_,_] (k:=5) sK rfl)).trans (Wk.fg (ys:=(.sl 3 (a.map It.awa)::.sl 3 (b.map It.awa)::uu 2 (.own (J.length+1) 0::.own (J.length+2) 0::.own J.length 0::uu 9 (.sl 1 ((awm a).map bV)::.I (awm a).length::.I (([]:bH).length:Nat)::uu 45 [])))) ?_)) (bZ.uh ((awm a).length+1) (Js c a b e f (awm a) (by omega) (awm a) [] (awm b) [] [] 0 0 0 rfl (by omega) (aD _) (aD _) ?_))
 .simp only[ai,al,VV,seval]
  repeat' constructor
 .intro g d gt l;simp only[JE];intros;simp only[bc,VV,seval];refine fH (xs:=[.own (J.length+1) d,.own (J.length+2) gt]) (xs':=[.sl 1 (((kI a b).map (·.1)).map bV),.sl 1 (((kI a b).map (·.2)).map bV)]) (.inr rfl) (by simp only[RS,seval]) ((Wk.rZ 1 rfl).trans ((Wk.rZ 2 rfl).trans ((Wk.fg ?_).trans (Wk.vN c (by simp only[LW]))))) rfl ⟨?_,rfl⟩
  .simp[fz,oa]
   repeat' constructor
  .rfl
set_option maxRecDepth 20000 in
def uo(a b:En)(J:ak):bM prog 42 [.agg a.awa,.agg b.awa] J (.b (B4 a b)):=by
 refine aZ func42 p42.2 λc e=>au ?_;simp only[p42,SS,seval];simp only[En.awa,VV,seval];refine aw (nz a.awc b.awc _) rfl ?_;simp only[VV,seval];have d:B4 a b=(gL a.awc b.awc&&(gL a.awf b.awf&&(a.bU==b.bU&&(a.next==b.next&&(a.c8==b.c8&&(a.cA==b.cA&&(a.awh==b.awh&&a.awq==b.awq))))))):=rfl;rw[d];refine bB (by simp only[VV,seval]<;>rfl) (λ_=>nz a.awf b.awf _) rfl ?_;simp only[VV,seval];cases gL a.awc b.awc<;>simp only[VV,seval]
 .exact gq c (by rfl) (by simp[LW])
 cases gL a.awf b.awf<;>simp only[VV,seval]
 .exact gq c (by rfl) (by simp[LW])
 cases a.bU==b.bU<;>simp only[VV,seval]
 .exact gq c (by rfl) (by simp[LW])
 cases a.next==b.next<;>simp only[VV,seval]
 .exact gq c (by rfl) (by simp[LW])
 cases a.c8==b.c8<;>simp only[VV,seval]
 .exact gq c (by rfl) (by simp[LW])
 cases a.cA==b.cA<;>simp only[VV,seval]
 .exact gq c (by rfl) (by simp[LW])
 cases a.awh==b.awh<;>simp only[VV,seval]
 .exact gq c (by rfl) (by simp[LW])
 exact gq c (by rfl) (by simp[LW])
def Cv.Uy{xs ys:aB}(h:oJ xs ys):Cv (.agg xs) (.agg ys):=.agg _ _ h.at.1 (λi x y b a=>h.at.2 i x y b a)

set_option maxHeartbeats 1000000
def py{pre rest:dq}{x:aG}:gj (List.map ix (pre++x::rest)) pre.length 0=some (.s x):=by
 simp[gj,ix]
def On{J:ak}{K:bl}(a b:dq)(j:a.length<2^63)(q:a.length=b.length):∀(d c f g:dq),a=f++d->b=g++c->f.length=g.length ->
  (d=c->((fj 26 fo) λn=>K (.exit 0) ⟨n,J⟩))->(d≠c->((fj 4 (fh (.b false) (fj 21 fo))) λn=>K .ret ⟨n,J⟩)) ->
  fm J.length prog zq K (d.length+1) ⟨(.sl 1 (a.map ix)::.sl 1 (b.map ix)::uu 10 (.I a.length::.I f.length::uu 12 [])),J⟩:=by
 intro d
 induction d with
 |nil =>
  intro c f g i k l o m
  have:c=[]:=by
   subst i;subst k;simp at q;have:c.length=0:=by omega
   exact fG.1 this
  subst this;subst i;refine ar λR p=>?_;simp only[zq,VV,seval];exact⟨λh=>by simp at h,λ_=>o rfl ..⟩
 |cons x d ih =>
  intro c f g i k l o m;cases c with
  |nil=>subst i;subst k;simp at q;omega
  |cons y c =>
   subst i;subst k;refine ar λR p=>?_;have r:gj (List.map ix (g++y::c)) f.length 0=some (.s y):=by rw[l];exact py
   simp only[zq,r,py,ix,VV,seval];refine⟨λ_=>⟨by simp;omega,by simp;omega,λh=>?_,λh=>?_⟩,λh=>by simp at h;omega⟩
   .simp at h;exact m (by simp[h]) ..
   .simp at h;subst h;refine p _ (aK ?_ (ih c (f++[x]) (g++[x]) (by simp) (by simp) (by simp[l]) (λe=>o (by rw[e])) (λe=>m (by simp[e]))));rw[cm (by simp at j;omega)];simp only[aj,ai,al]
    repeat' constructor
def zJ(a b:dq)(J:ak):bM prog 149 [.sl 1 (a.map ix),.sl 1 (b.map ix)] J (.b (a==b)):=by
 refine aZ func149 Z0.2 λg f=>au ?_;have c:=mG (f 0 _ rfl).1;rw[ag]at c;simp only[Z0,SS,seval];simp only[ag,VV,seval];refine⟨λh=>?_,λh=>?_⟩
 .refine aO (.inr rfl) rfl ⟨?_,rfl⟩;simp at h;simp only[Pm.one,aA,aR,V.b.injEq];exact(beq_eq_false_iff_ne.2 λe=>h (by rw[e])).symm
 .simp at h;refine bZ.aK ?_ (a.length+1) (On a b c (by omega) a b [] [] rfl rfl rfl (λd=>?_) (λd=>?_))
  .simp only[VV,seval]
   repeat' constructor
  .simp only[VV,seval];simp only[JE];intros;exact aO (.inr rfl) rfl ⟨by simp[Pm.one,d],rfl⟩
  .simp only[VV,seval];simp only[JE];intros;exact aO (.inr rfl) rfl ⟨by simp[Pm.one,d],rfl⟩
def Om{J:ak}{K:bl}(f:List It)(k:cn J)(a:f.length<2^40):∀(rest pre:List It) (out:dq) (g:Nat),f=pre++rest->out.length<=pre.length ->
  (∀g,((fj 3 (fh (.own J.length g) (fj 20 fo))) λl=>K (.exit 0) ⟨l,J++[.row 9 1 16 g false ((out++iM rest).map ix)]⟩)) ->
  fm J.length prog zp K (rest.length+1) ⟨(uu 3 (.own J.length g::uu 2 (.sl 3 (f.map It.awa)::.I f.length::.I pre.length::uu 15 []))),J++[.row 9 1 16 g false (out.map ix)]⟩:=by
 intro rest
 induction rest with
 |nil =>
  intro pre out g c n b;have c:=cN c
  subst c;rw[show iM []=[]from rfl,bL]at b;refine ar λR j=>?_;simp only[zp,VV,seval];exact⟨λh=>by simp at h,λ_=>b g ..⟩
 |cons y rest ih =>
  intro pre out g c n b;subst c;have i:(out.length+1)*16<=2^47/\out.length+1<=maxLen:=by simp at a;simp[maxLen];omega
  have m:=dh pre y (by simp at a;omega)
  refine ar λR j=>?_;simp only[zp,It.awa,m,VV,seval];refine⟨λ_=>⟨by simp;omega,λd=>⟨by rw[ag];exact i,?_⟩,λd=>?_⟩,λh=>by simp at h;omega⟩
  .have e:out++iM (y::rest)=(out++[y.awd])++iM rest:=by simp[iM,d]
   have o:out.map ix++[[.s y.awd]]=(out++[y.awd]).map ix:=by simp[ix]
   rw[e]at b;rw[o];refine j _ (cG [_] [_] (cC k (by simp)) ?_ ?_ (ih (pre++[y]) (out++[y.awd]) (g+1) (by simp) (by simp;omega) b))
   .repeat' constructor
   .simp only[LW,ai,al,aY];omega
  .have e:out++iM (y::rest)=out++iM rest:=by simp[iM,d]
   rw[e]at b;refine j _ (cG [_] [_] (cC k (by simp)) ?_ ?_ (ih (pre++[y]) out g (by simp) (by simp;omega) b))
   .repeat' constructor
   .simp only[LW,ai,al,aY];omega
def Nj:Ti prog 9 1 16:=qJ (by kernel_rfl)
def Fx(f:List It):(iM f).length<=f.length:=by simp only[iM,ag];exact eB _ _
def Ap(f:List It)(a:f.length<2^30)(J:ak):bM prog 150 [.sl 3 (f.map It.awa)] J (.sl 1 ((iH f).map ix)):=by
 refine aZ func150 ZY.2 λb d=>au ?_;have c:=Fx f;simp only[ZY,SS,seval];simp only[ag,VV,seval];refine bZ.wk ((Wk.ij (k:=3) Nj rfl).trans (Wk.fg ?_)) (bZ.uh (f.length+1) (Om f b (by omega) f [] [] 0 rfl (aD _) ?_))
 .simp only[VV,seval]
  repeat' constructor
 .intro g;simp only[JE];intros;simp only[bc,VV,seval];refine aw (PC.IC Tryz.SY (id:=J.length) (E:=9) (by':=16) (g:=g) (iM f) (by omega) (by simp only[jX];rfl)) rfl ?_;simp only[yM,fK,VV,seval];refine mW 0 b (.inr rfl) rfl rfl ?_ ?_
  .simp[fz,oa,LW]
  .exact⟨by simp[fz,oa,Pm.one,iH];rfl,rfl⟩

set_option maxHeartbeats 2000000
def ry{α:Type}{p:α->Bool}{pre rest:List α}(b:∀y∈pre,p y=true)(e:∀y r,rest=y::r->p y=false):(pre++rest).takeWhile p=pre/\(pre++rest).dropWhile p=rest:=by
 induction pre with
 |nil =>
  cases rest with
  |nil=>exact⟨rfl,rfl⟩
  |cons y r=>simp[e y r rfl]
 |cons a pre ih =>
  have c:=ih λy d=>b y (eV _ d);simp[b a (by simp),c.1,c.2]
def Ol{J:ak}{K:bl}(l:dq)(s:aG)(j:l.length<2^40):∀(rest pre:dq),l=pre++rest->(∀y∈pre,Bt.leB y s=true) ->
  (∀k:Nat,k<=l.length->l.take k++s::l.drop k=mw l s->((fh (.sl 1 (l.map ix)) (fh (.s s) (fj 3 (fh (.I k) (fj 27 fo))))) λp=>K (.exit 0) ⟨p,J⟩)) ->
  fm J.length prog zo K (rest.length+1) ⟨(.sl 1 (l.map ix)::.s s::uu 3 (.I pre.length::uu 27 [])),J⟩:=by
 intro rest
 induction rest with
 |nil =>
  intro pre a c d;have e:decide ((pre.length:Int)<(l.length:Int))=false:=by rw[a];simp
  have n:l.take pre.length++s::l.drop pre.length=mw l s:=by
   have:=ry (rest:=[]) c (λy r h=>by cases h);rw[<- a]at this;rw[mw,this.1,this.2,a];simp
  refine ar λR i=>?_;simp only[zo,e,ag,↓IT,VV,seval];refine⟨nofun,.s [],nofun,?_⟩;simp only[↓IT,VV,seval];exact d pre.length (by rw[a];simp) n ..
 |cons y rest ih =>
  intro pre a c d;have q:pre.length<l.length:=by rw[a];simp
  have e:decide ((pre.length:Int)<(l.length:Int))=true:=by simp;omega
  have m:gj (l.map ix) pre.length 0=some (.s y):=by rw[a];exact py
  have o:(0:Int)<=(pre.length:Int)/\(pre.length:Int)<(l.length:Int):=by omega
  have g:=dh pre y (by omega)
  refine ar λR i=>?_;simp only[zo,e,m,g,ag,ao,↓IT,VV,seval];refine⟨o,_,rfl,?_⟩
  have f:(Op.bytesLess y s||y==s)=Bt.leB y s:=by
   rw[fU,pe,cB];simp only[eD,aV,cE];rw[<- kh];omega
  simp only[g,f,↓IT,VV,seval];refine⟨λh=>?_,λh=>?_⟩
  .refine i _ (aK (by repeat' constructor) (ih (pre++[y]) (by rw[a];simp) (λz b=>?_) d));rcases bP.1 b with b|b
   .exact c z b
   .rw[cv]at b;rw[b];exact h
  .refine d pre.length (by omega) ?_ ..;have:=ry (rest:=y::rest) c (λz r b=>by cases b;exact h);rw[<- a]at this;rw[mw,this.1,this.2,a];simp
def Ty{J:ak}{K:bl}(f:List It)(x:It)(a:f.length<2^40):∀(rest pre:List It) (n:Nat),f=pre++rest->n<=pre.length ->
  ((fj 5 (fh (.I ((n+rest.count x:Nat):Int)) (fj 16 fo))) λl=>K (.exit 0) ⟨l,J++[.box 61 x.awa]⟩) ->
  fm J.length prog DT K (rest.length+1) ⟨(.sl 3 (f.map It.awa)::uu 2 (.ptr J.length 0::uu 1 (.I n::uu 2 (.I f.length::.I pre.length::uu 12 [])))),J++[.box 61 x.awa]⟩:=by
 intro rest
 induction rest with
 |nil =>
  intro pre n c m b;have c:=cN c
  subst c;rw[List.count_nil,de]at b;refine ar λR g=>?_;simp only[DT,VV,seval];exact⟨λh=>by simp at h,λ_=>b ..⟩
 |cons y rest ih =>
  intro pre n c m b;subst c;have p:pre.length<(pre++y::rest).length:=by simp
  have j:decide ((pre.length:Int)<((pre++y::rest).length:Int))=true:=by simp;omega
  have o:(0:Int)<=(pre.length:Int)/\(pre.length:Int)<((pre++y::rest).length:Int):=by omega
  have i:=dh pre y (by simp at a;omega)
  have d:IntKind.i64.wrap ((n:Int)+1)=((n+1:Nat):Int):=cm (by simp at a;omega);refine ar λR g=>?_;simp only[DT,It.awa,j,i,gC,dD,ag,↓IT,VV,seval];have k:Hp y x=(y.awb==x.awb&&(y.awd==x.awd&&y.id==x.id)):=rfl;refine⟨o,?_⟩;simp only[<- k,d,i,↓IT,VV,seval];refine⟨λh=>?_,λh=>?_⟩
  .have h:y=x:=vC.1 h;have e:n+(y::rest).count x=(n+1)+rest.count x:=by rw[h,List.count_cons_self];omega
   rw[e]at b;exact g _ (aK (by repeat' constructor) (ih (pre++[y]) (n+1) (by simp) (by simp;omega) b))
  .have h:¬y=x:=λe=>by rw[vC.2 e]at h;cases h
   have e:n+(y::rest).count x=n+rest.count x:=by rw[List.count_cons_of_ne h]
   rw[e]at b;exact g _ (aK (by repeat' constructor) (ih (pre++[y]) n (by simp) (by simp;omega) b))
def vn(f:List It)(x:It)(a:f.length<2^40)(J:ak):bM prog 93 [.sl 3 (f.map It.awa),.agg x.awa] J (.I (f.count x:Nat)):=by
 refine aZ func93 p93.2 λb c=>au ?_;simp only[p93,SS,seval];simp only[It.awa,ag,V.pure,↓IT,VV,seval];refine bZ.aK (fr':=(.sl 3 (f.map It.awa)::uu 2 (.ptr J.length 0::uu 1 (.I (0:Nat)::uu 2 (.I f.length::.I (([]:List It).length:Nat)::uu 12 []))))) (by repeat' constructor) (f.length+1) (Ty f x a f [] 0 rfl (aD _) ?_);rw[aY];simp only[JE];intros;simp only[It.awa,↓IT,VV,seval];exact bg b (.inr rfl) (by simp only[RS,seval];rfl) (by simp only[LW]) ⟨rfl,rfl⟩
def TB{J:ak}{K:bl}(a b:dq)(j:a.length<2^63)(q:a.length=b.length):∀(d c f g:dq),a=f++d->b=g++c->f.length=g.length ->
  (d=c->((fj 26 fo) λn=>K (.exit 0) ⟨n,J⟩))->(d≠c->((fj 4 (fh (.b false) (fj 21 fo))) λn=>K .ret ⟨n,J⟩)) ->
  fm J.length prog DW K (d.length+1) ⟨(.sl 1 (a.map ix)::.sl 1 (b.map ix)::uu 10 (.I a.length::.I f.length::uu 12 [])),J⟩:=by
 intro d
 induction d with
 |nil =>
  intro c f g i k l o m
  have:c=[]:=by
   subst i;subst k;simp at q;have:c.length=0:=by omega
   exact fG.1 this
  subst this;subst i;refine ar λR p=>?_;simp only[DW,VV,seval];exact⟨λh=>by simp at h,λ_=>o rfl ..⟩
 |cons x d ih =>
  intro c f g i k l o m;cases c with
  |nil=>subst i;subst k;simp at q;omega
  |cons y c =>
   subst i;subst k;refine ar λR p=>?_;have r:gj (List.map ix (g++y::c)) f.length 0=some (.s y):=by rw[l];exact py
   simp only[DW,r,py,ix,VV,seval];refine⟨λ_=>⟨by simp;omega,by simp;omega,λh=>?_,λh=>?_⟩,λh=>by simp at h;omega⟩
   .simp at h;exact m (by simp[h]) ..
   .simp at h;subst h;refine p _ (aK ?_ (ih c (f++[x]) (g++[x]) (by simp) (by simp) (by simp[l]) (λe=>o (by rw[e])) (λe=>m (by simp[e]))));rw[cm (by simp at j;omega)];simp only[aj,ai,al]
    repeat' constructor
def vo(a b:dq)(J:ak):bM prog 90 [.sl 1 (a.map ix),.sl 1 (b.map ix)] J (.b (a==b)):=by
 refine aZ func90 p90.2 λg f=>au ?_;have c:=mG (f 0 _ rfl).1;rw[ag]at c;simp only[p90,SS,seval];simp only[ag,VV,seval];refine⟨λh=>?_,λh=>?_⟩
 .refine aO (.inr rfl) rfl ⟨?_,rfl⟩;simp at h;simp only[Pm.one,aA,aR,V.b.injEq];exact(beq_eq_false_iff_ne.2 λe=>h (by rw[e])).symm
 .simp at h;refine bZ.aK ?_ (a.length+1) (TB a b c (by omega) a b [] [] rfl rfl rfl (λd=>?_) (λd=>?_))
  .simp only[VV,seval]
   repeat' constructor
  .simp only[VV,seval];simp only[JE];intros;exact aO (.inr rfl) rfl ⟨by simp[Pm.one,d],rfl⟩
  .simp only[VV,seval];simp only[JE];intros;exact aO (.inr rfl) rfl ⟨by simp[Pm.one,d],rfl⟩
def JF(l:dq)(s:aG):(mw l s).length=l.length+1:=(sX l s).length_eq
def Ay(l:dq)(s:aG)(a:l.length<2^30)(J:ak):bM prog 152 [.sl 1 (l.map ix),.s s] J (.sl 1 ((mw l s).map ix)):=by
 refine aZ func152 ZX.2 λe g=>au ?_;simp only[ZX,SS,seval];simp only[ag,↓IT,VV,seval];refine bZ.aK (fr':=(.sl 1 (l.map ix)::.s s::uu 3 (.I (([]:dq).length:Nat)::uu 27 []))) (by repeat' constructor) (l.length+1) (Ol l s (by omega) l [] rfl (λy h=>by cases h) ?_);intro k i f;have d:(List.take k (l.map ix)).length=k:=by rw[aP,ag];omega
 have b:List.take (l.length - k) (List.drop k (l.map ix))=List.drop k (l.map ix):=bW (by simp);have c:(List.drop k (l.map ix)).length=l.length - k:=by simp
 simp only[JE];intros;simp only[ag,aj,d,b,c,ao,V.pure,↓IT,VV,seval];refine⟨⟨by omega,by omega⟩,⟨by omega,by unfold maxLen;omega⟩,⟨by omega,by unfold maxLen;omega⟩,⟨by omega,by omega,by omega⟩,⟨by omega,by unfold maxLen;omega⟩,?_⟩;refine mW 0 e (.inr rfl) rfl rfl ?_ ?_
 .simp[fz,oa,LW]
 .refine⟨?_,rfl⟩;rw[<- f];simp[fz,oa,Pm.one,ix,eu,eO]
def TA{J:ak}{K:bl}(f:List It)(a:f.length<2^29):∀(rest pre:List It) (out:dq),f=pre++rest->out.length<=pre.length ->
  ((fj 3 (fh (.sl 1 (((iM rest).foldl mw out).map ix)) (fj 21 fo))) λk=>K (.exit 0) ⟨k,J⟩) ->
  fm J.length prog DV K (rest.length+1) ⟨(.sl 3 (f.map It.awa)::uu 2 (.sl 1 (out.map ix)::uu 2 (.I f.length::.I pre.length::uu 17 []))),J⟩:=by
 intro rest
 induction rest with
 |nil =>
  intro pre out c l b;have c:=cN c
  subst c;refine ar λR d=>?_;simp only[DV,VV,seval];exact⟨λh=>by simp at h,λ_=>b ..⟩
 |cons y rest ih =>
  intro pre out c l b;subst c;have m:pre.length<(pre++y::rest).length:=by simp
  have j:decide ((pre.length:Int)<((pre++y::rest).length:Int))=true:=by simp;omega
  have i:(0:Int)<=(pre.length:Int)/\(pre.length:Int)<((pre++y::rest).length:Int):=by omega
  have g:=dh pre y (by simp at a;omega)
  refine ar λR d=>?_;simp only[DV,It.awa,j,g,ag,↓IT,VV,seval];refine⟨i,λh=>⟨i,?_⟩,λh=>?_⟩
  .have e:(iM (y::rest)).foldl mw out=(iM rest).foldl mw (mw out y.awd):=by simp[iM,h]
   rw[e]at b;refine aw (Ay out y.awd (by simp at a;omega) _) rfl ?_;simp only[g,↓IT,VV,seval];exact d _ (aK (by repeat' constructor) (ih (pre++[y]) (mw out y.awd) (by simp) (by rw[JF];simp;omega) b))
  .have e:(iM (y::rest)).foldl mw out=(iM rest).foldl mw out:=by simp[iM,h]
   rw[e]at b;exact d _ (aK (by repeat' constructor) (ih (pre++[y]) out (by simp) (by simp;omega) b))
def vl(f:List It)(a:f.length<2^29)(J:ak):bM prog 91 [.sl 3 (f.map It.awa)] J (.sl 1 ((iH f).map ix)):=by
 refine aZ func91 p91.2 λc b=>au ?_;simp only[p91,SS,seval];simp only[ag,↓IT,VV,seval];refine bZ.aK (fr':=(.sl 3 (f.map It.awa)::uu 2 (.sl 1 (([]:dq).map ix)::uu 2 (.I f.length::.I (([]:List It).length:Nat)::uu 17 [])))) (by repeat' constructor) (f.length+1) (TA f a f [] [] rfl (aD _) ?_);have e:(iM f).foldl mw []=iH f:=pD f;rw[e];simp only[JE];intros;simp only[↓IT,VV,seval];exact aO (.inr rfl) rfl ⟨rfl,rfl⟩

set_option maxHeartbeats 4000000
def TE{J:ak}{K:bl}(s t:List It)(m:s.length<2^40)(l:t.length<2^40):∀(rest pre:List It),s=pre++rest ->
  ((rest.all λx=>s.count x==t.count x)=true->((fj 80 fo) λg=>K (.exit 0) ⟨g,J⟩))->((rest.all λx=>s.count x==t.count x)=false->((fj 4 (fh (.b false) (fj 75 fo))) λg=>K .ret ⟨g,J⟩)) ->
  fm J.length prog D3 K (rest.length+1) ⟨(uu 11 (.sl 3 (s.map It.awa)::.sl 3 (t.map It.awa)::uu 49 (.I s.length::.I pre.length::uu 16 []))),J⟩:=by
 intro rest
 induction rest with
 |nil =>
  intro pre c d a;have e:decide ((pre.length:Int)<(s.length:Int))=false:=by rw[c];simp
  refine ar λR k=>?_;simp only[D3,e,↓IT,VV,seval];exact d rfl ..
 |cons y rest ih =>
  intro pre c d a;have n:pre.length<s.length:=by rw[c];simp
  have e:decide ((pre.length:Int)<(s.length:Int))=true:=by simp;omega
  have f:(0:Int)<=(pre.length:Int)/\(pre.length:Int)<(s.length:Int):=by omega
  have j:(List.map It.awa s).getD pre.length []=y.awa:=by rw[c];exact um
  have i:=dh pre y (by omega)
  refine ar λR k=>?_;simp only[D3,It.awa,e,i,j,ag,ao,↓IT,VV,seval];refine⟨f,f,?_⟩;refine aw (vn s y m _) rfl ?_;simp only[It.awa,j,ag,ao,↓IT,VV,seval];refine⟨f,?_⟩;refine aw (vn t y l _) rfl ?_;simp only[i,↓IT,VV,seval];rw[gO]at d a;refine⟨λh=>?_,λh=>?_⟩
  .have h:(s.count y==t.count y)=false:=by rw[di];simp at h;omega
   rw[h]at a;exact a rfl ..
  .have h:(s.count y==t.count y)=true:=by rw[cE];simp at h;omega
   rw[h,cc]at d a;exact k _ (aK (by repeat' constructor) (ih (pre++[y]) (by rw[c];simp) d a))
def xT(s:List It):∃c o k,Hi s=.iQ [.sl 1 (c.map bV),.sl 1 (o.map bV),.b k]/\Bt.shape s=if k then some (c,o)else none:=by
 unfold Hi;cases h:Bt.shape s with
 |none=>exact⟨[],[],false,rfl,rfl⟩
 |some p=>exact⟨p.1,p.2,true,rfl,rfl⟩
def qA(s t:List It)(B:s.length<2^29)(w:t.length<2^29)(J:ak):bM prog 40 [.sl 3 (s.map It.awa),.sl 3 (t.map It.awa)] J (.b (jN s t)):=by
 refine aZ func40 p40.2 λG F=>au ?_;have K:(tg s).length<=s.length:=eB _ _;have L:(tg t).length<=t.length:=eB _ _;rw[<- O0];simp only[p40,SS,seval];simp only[VV,seval]
 have a:∀{i:aB},ow s t=false->i[4]?=some (.b false)->rG prog J.length [.t 4] (λr y=>r=.b (ow s t)/\y=J) .ret ⟨i,J⟩:=by
  intro i h z;refine aO (.inr rfl) (xs:=[.b false]) ?_ ⟨by rw[h];rfl,rfl⟩;simp[ni,xr,aq,z]
 obtain⟨m,n,u,D,g⟩:=xT s;obtain⟨o,l,C,A,f⟩:=xT t;refine aw (vm s (by omega) _) rfl ?_;rw[D];simp only[↓IT,VV,seval];refine aw (vm t (by omega) _) rfl ?_;rw[A];have H:∀{c:Bool},c=false->ow s t=c->ow s t=false:=λh e=>e.trans h;cases u with
 |false =>
  simp only[↓IT,VV,seval]
  iterate 5 refine bB (c:=false) (v:=.b false) (by simp only[VV,seval]<;>rfl) (nofun) rfl ?_;simp only[↓IT,VV,seval]
  exact a (by simp[ow,g]) rfl
 |true =>
 cases C with
 |false =>
  simp only[↓IT,VV,seval]
  iterate 5 refine bB (c:=false) (v:=.b false) (by simp only[VV,seval]<;>rfl) (nofun) rfl ?_;simp only[↓IT,VV,seval]
  exact a (by simp[ow,f]) rfl
 |true =>
 simp only[↓IT,VV,seval];refine bB (c:=true) (by simp only[VV,seval]<;>rfl) (λ_=>pX m o _) rfl ?_;cases q:m==o with
 |false =>
  simp only[↓IT,VV,seval]
  iterate 4 refine bB (c:=false) (v:=.b false) (by simp only[VV,seval]<;>rfl) (nofun) rfl ?_;simp only[↓IT,VV,seval]
  exact a (by have:=beq_eq_false_iff_ne.1 q;simp[ow,g,f,this]) rfl
 |true =>
 simp only[↓IT,VV,seval];refine bB (c:=true) (by simp only[VV,seval]<;>rfl) (λ_=>pX n l _) rfl ?_;cases p:n==l with
 |false =>
  simp only[↓IT,VV,seval]
  iterate 3 refine bB (c:=false) (v:=.b false) (by simp only[VV,seval]<;>rfl) (nofun) rfl ?_;simp only[↓IT,VV,seval]
  exact a (by have:=beq_eq_false_iff_ne.1 p;simp[ow,g,f,this]) rfl
 |true =>
 have E:((Bt.shape s).isSome&&(Bt.shape t).isSome&&(Bt.shape s==Bt.shape t))=true:=by
  rw[g,f,eq_of_beq q,eq_of_beq p];simp
 simp only[↓IT,VV,seval];refine bB (c:=true) (by simp only[VV,seval]<;>rfl) (λ_=>vl s B _) rfl ?_;simp only[↓IT,VV,seval];refine bB (c:=true) (by simp only[VV,seval]<;>rfl) (λ_=>vl t w _) rfl ?_;simp only[↓IT,VV,seval];refine bB (c:=true) (by simp only[VV,seval]<;>rfl) (λ_=>vo (iH s) (iH t) _) rfl ?_
 have d:ow s t=((iH s==iH t)&&decide ((tg s).length=(tg t).length)&&(tg s).all λx=>(tg s).count x==(tg t).count x):=by
  rw[ow,E,cc,pD,pD]
 cases k:iH s==iH t with
 |false =>
  simp only[↓IT,VV,seval];exact a (by rw[d,k];rfl) rfl
 |true =>
 rw[k,cc]at d;simp only[↓IT,VV,seval];refine aw (xY s (by omega) _) rfl ?_;simp only[↓IT,VV,seval];refine aw (xY t (by omega) _) rfl ?_;simp only[ag,↓IT,VV,seval];refine⟨λh=>?_,λh=>?_⟩
 .have h:(tg s).length≠(tg t).length:=by simp at h;omega
  exact a (by rw[d,nf h];rfl) rfl
 .have h:(tg s).length=(tg t).length:=by simp at h;omega
  rw[lz h,cc]at d;refine bZ.aK (fr':=(uu 11 (.sl 3 ((tg s).map It.awa)::.sl 3 ((tg t).map It.awa)::uu 49 (.I (tg s).length::.I (([]:List It).length:Nat)::uu 16 [])))) (by repeat' constructor) ((tg s).length+1) (TE (tg s) (tg t) (by omega) (by omega) (tg s) [] rfl (λj=>?_) (λj=>?_))
  .simp only[JE];intros;simp only[↓IT,VV,seval];exact aO (.inr rfl) rfl ⟨by rw[d,j];rfl,rfl⟩
  .simp only[JE];intros;simp only[↓IT,VV,seval];exact a (by rw[d,j]) rfl

set_option maxHeartbeats 2000000
def JB(a b:It):dD 5 (uv a) (uv b)=some (decide (a=b)):=by
 obtain⟨k,t,i⟩:=a;obtain⟨e,c,d⟩:=b;simp only[dD,uv,It.awa,Ik,jx,aT,ae];rw[cB];simp
def Jr{J:ak}{K:bl}(z u:List It)(l:List It)(B:cn J)(d:l.length<2^38):∀(rest pre:List It) (C:List (It×Int)) (n:Nat),l=pre++rest->CB n C->n+rest.length<2^39 ->
  ((fh (.sl 3 (z.map It.awa)) (fh (.sl 3 (u.map It.awa)) (fj 9 (fh (.mp J.length) (fj 78 fo))))) λD=>K (.exit 0) ⟨D,J++[.map 61 3 (emap uv fZ (fy 1 C rest))]⟩) ->
  fm J.length prog AI K (rest.length+1) ⟨(.sl 3 (z.map It.awa)::.sl 3 (u.map It.awa)::uu 9 (.mp J.length::uu 38 (.sl 3 (l.map It.awa)::.I l.length::.I pre.length::uu 37 []))),J++[.map 61 3 (emap uv fZ C)]⟩:=by
 intro rest
 induction rest with
 |nil =>
  intro pre C n g o w a;have g:=cN g
  subst g;refine ar λR s=>?_;simp only[AI,VV,seval];exact⟨λh=>by simp at h,λ_=>a ..⟩
 |cons x rest ih =>
  intro pre C n g o w a;subst g
  have v:=dh pre x (by simp at d;omega)
  simp only[ai]at w;have p:=o.getD x;have E:∀b,(cX x C).getD 0=b->IntKind.i64.wrap (b+1)=b+1:=λb A=>IntWalk.i64_in _ (by rw[A]at p;have:=p.1;have:=p.2;omega);have t:∀C,cn (J++[.map 61 3 (emap uv fZ C)]):=λC=>cC B (by simp[l3]);have m:=o.bump x 1 (by omega);have e:fy 1 C (x::rest)=fy 1 (bump C x 1) rest:=rfl;rw[e]at a;refine ar λR s=>?_;rcases r9 JB C x with⟨k,c,j,f,y⟩|⟨i,b,k,c,j,f⟩
  .have q:IntKind.i64.wrap 1=1:=by decide
   have r:bump C x 1=iZ C x 1:=by simp[bump,k]
   rw[r]at m a;simp only[uv,It.awa]at c j f y;simp only[AI,It.awa,v,ek,c,j,f,y,q,eS,V.lO,V.cell,VV,seval];refine⟨λ_=>⟨by simp;omega,?_⟩,λh=>by simp at h;omega⟩;refine s _ (cG [_] [_,_] (t _) ?_ ?_ (ih (pre++[x]) _ (n+1) (by simp) m (by omega) a))
   .repeat' constructor
   .simp only[LW,ai,al,aY];omega
  .have q:=E b (by rw[k];rfl);have r:bump C x 1=iZ C x (b+1):=by simp[bump,k]
   rw[r]at m a;simp only[uv,It.awa]at c j f;simp only[AI,It.awa,v,ek,c,j,f,q,eS,V.lO,V.cell,VV,seval];refine⟨λ_=>⟨by simp;omega,?_⟩,λh=>by simp at h;omega⟩;refine s _ (cG [_] [_,_] (t _) ?_ ?_ (ih (pre++[x]) _ (n+1) (by simp) m (by omega) a))
   .repeat' constructor
   .simp only[LW,ai,al,aY];omega
def Jq{J:ak}{K:bl}(z u:List It)(l:List It)(B:cn J)(d:l.length<2^38):∀(rest pre:List It) (C:List (It×Int)) (n:Nat),l=pre++rest->CB n C->n+rest.length<2^39 ->
  ((fh (.sl 3 (z.map It.awa)) (fh (.sl 3 (u.map It.awa)) (fj 9 (fh (.mp J.length) (fj 78 fo))))) λD=>K (.exit 2) ⟨D,J++[.map 61 3 (emap uv fZ (fy (-1) C rest))]⟩) ->
  fm J.length prog AH K (rest.length+1) ⟨(.sl 3 (z.map It.awa)::.sl 3 (u.map It.awa)::uu 9 (.mp J.length::uu 52 (.sl 3 (l.map It.awa)::.I l.length::.I pre.length::uu 23 []))),J++[.map 61 3 (emap uv fZ C)]⟩:=by
 intro rest
 induction rest with
 |nil =>
  intro pre C n g o w a;have g:=cN g
  subst g;refine ar λR s=>?_;simp only[AH,VV,seval];exact⟨λh=>by simp at h,λ_=>a ..⟩
 |cons x rest ih =>
  intro pre C n g o w a;subst g
  have v:=dh pre x (by simp at d;omega)
  simp only[ai]at w;have p:=o.getD x;have E:∀b,(cX x C).getD 0=b->IntKind.i64.wrap (b - 1)=b - 1:=λb A=>IntWalk.i64_in _ (by rw[A]at p;have:=p.1;have:=p.2;omega);have t:∀C,cn (J++[.map 61 3 (emap uv fZ C)]):=λC=>cC B (by simp[l3]);have m:=o.bump x (-1) (by omega);have e:fy (-1) C (x::rest)=fy (-1) (bump C x (-1)) rest:=rfl;rw[e]at a;refine ar λR s=>?_;rcases r9 JB C x with⟨k,c,j,f,y⟩|⟨i,b,k,c,j,f⟩
  .have q:IntKind.i64.wrap (-1) = -1:=by decide
   have r:bump C x (-1)=iZ C x (-1):=by simp[bump,k]
   rw[r]at m a;simp only[uv,It.awa]at c j f y;simp only[AH,It.awa,v,ek,c,j,f,y,q,eS,V.lO,V.cell,VV,seval];refine⟨λ_=>⟨by simp;omega,?_⟩,λh=>by simp at h;omega⟩;refine s _ (cG [_] [_,_] (t _) ?_ ?_ (ih (pre++[x]) _ (n+1) (by simp) m (by omega) a))
   .repeat' constructor
   .simp only[LW,ai,al,aY];omega
  .have q:=E b (by rw[k];rfl);have r:bump C x (-1)=iZ C x (b - 1):=by simp[bump,k];rfl
   rw[r]at m a;simp only[uv,It.awa]at c j f;simp only[AH,It.awa,v,ek,c,j,f,q,eS,V.lO,V.cell,VV,seval];refine⟨λ_=>⟨by simp;omega,?_⟩,λh=>by simp at h;omega⟩;refine s _ (cG [_] [_,_] (t _) ?_ ?_ (ih (pre++[x]) _ (n+1) (by simp) m (by omega) a))
   .repeat' constructor
   .simp only[LW,ai,al,aY];omega
def Jp{J:ak}{K:bl}(o s:List It)(C:List (It×Int))(d:It×Int):∀(N:Nat) (c:dK) (a:cU),c.length<=N->(∀p∈c,p<C.length) ->
  ((∀p∈c,(C.getD p d).2=0)->∀c a,((fh (.sl 3 (o.map It.awa)) (fh (.sl 3 (s.map It.awa)) (fj 88 fo))) λm=>K (.exit 4) ⟨m,J++[.map 61 3 (emap uv fZ C),.iter false J.length 3 (emap uv fZ C).length c a]⟩)) ->
  (∀p∈c,(C.getD p d).2≠0->∀c a,((fj 4 (fh (.b false) (fj 85 fo))) λm=>K .ret ⟨m,J++[.map 61 3 (emap uv fZ C),.iter false J.length 3 (emap uv fZ C).length c a]⟩)) ->
  fm J.length prog DY K (N+1) ⟨(.sl 3 (o.map It.awa)::.sl 3 (s.map It.awa)::uu 76 (.it (J.length+1)::uu 11 [])),J++[.map 61 3 (emap uv fZ C),.iter false J.length 3 (emap uv fZ C).length c a]⟩:=by
 intro N
 induction N with
 |zero =>
  intro c a u f g j;have n:c=[]:=aW (by omega);subst n;refine ar λR r=>?_;simp only[DY,VV,seval];exact g (λp f=>by cases f) _ _ ..
 |succ N ih =>
  intro c a u f g j;refine ar λR r=>?_;simp only[DY,VV,seval];refine⟨λn=>?_,λq l=>?_⟩
  .subst n;exact g (λp f=>by cases f) _ _ ..
  .have t:=xg (ke:=uv) (ve:=fZ) C d (f q l);simp only[t,fZ,VV,seval];refine⟨λh=>?_,λh=>?_⟩
   .have h:(C.getD q d).2≠0:=by simpa using h
    exact j q l h _ _ ..
   .have h:(C.getD q d).2=0:=by simpa using h
    refine r _ (aK ?_ (ih (c.filter λi=>i != q) (some q) (by have:=pv l;omega) (λp h=>f p (cZ.1 h).1) (λv=>g λp k=>?_) (λp k=>j p (cZ.1 k).1)))
    .repeat' constructor
    .by_cases e:p=q
     .rw[e];exact h
     .exact v p (cZ.2 ⟨k,by simpa using e⟩)
def C5{C:List (It×Int)}(d:It×Int):ky C=true<->∀p<C.length,(C.getD p d).2=0:=by
 simp only[ky,bY,cE];constructor
 .intro h p b;exact h _ (yx b)
 .intro h x c;obtain⟨i,a,rfl⟩:=BW c;have:=h i a;simpa[aq,a]using this
def Dp(f:List It):(tg f).length<=f.length:=eB _ _
def xB(s t:List It)(P:s.length<2^29)(N:t.length<2^29)(J:ak):bM prog 86 [.sl 3 (s.map It.awa),.sl 3 (t.map It.awa)] J (.b (jN s t)):=by
 refine aZ func86 p86.2 λe O=>au ?_;have Q:=Dp s;have R:=Dp t;simp only[p86,SS,seval];simp only[VV,seval]
 have d:∀{fr:aB} {loc:ak},jN s t=false->fr[4]?=some (.b false)->rG prog J.length [.t 4] (λr n=>r=.b (jN s t)/\n=J) .ret ⟨fr,J++loc⟩:=by
  intro fr loc h j;refine bg e (.inr rfl) (xs:=[.b false]) ?_ (by simp only[LW]) ⟨by rw[h];rfl,rfl⟩;simp[ni,xr,aq,j]
 have a:∀{fr:aB},jN s t=false->fr[4]?=some (.b false)->rG prog J.length [.t 4] (λr n=>r=.b (jN s t)/\n=J) .ret ⟨fr,J⟩:=by
  intro fr h j;have:=d (fr:=fr) (loc:=[]) h j
  rwa [bL]at this
 obtain⟨B,D,L,K,g⟩:∃c o k,Hi s=.iQ [.sl 1 (c.map bV),.sl 1 (o.map bV),.b k]/\Bt.shape s=if k then some (c,o)else none:=by
  unfold Hi;cases h:Bt.shape s with
  |none=>exact⟨[],[],false,rfl,rfl⟩
  |some p=>exact⟨p.1,p.2,true,rfl,rfl⟩
 obtain⟨x,A,H,G,f⟩:∃c o k,Hi t=.iQ [.sl 1 (c.map bV),.sl 1 (o.map bV),.b k]/\Bt.shape t=if k then some (c,o)else none:=by
  unfold Hi;cases h:Bt.shape t with
  |none=>exact⟨[],[],false,rfl,rfl⟩
  |some p=>exact⟨p.1,p.2,true,rfl,rfl⟩
 refine aw (Aq s (by omega) _) rfl ?_;rw[K];simp only[↓IT,VV,seval];refine aw (Aq t (by omega) _) rfl ?_;rw[G];cases L with
 |false =>
  simp only[↓IT,VV,seval];refine bB (c:=false) (v:=.b false) (by simp only[VV,seval]<;>rfl) (nofun) rfl ?_;simp only[↓IT,VV,seval];refine bB (c:=false) (v:=.b false) (by simp only[VV,seval]<;>rfl) (nofun) rfl ?_;simp only[↓IT,VV,seval];exact a (by simp[jN,g]) rfl
 |true =>
 cases H with
 |false =>
  simp only[↓IT,VV,seval];refine bB (c:=false) (v:=.b false) (by simp only[VV,seval]<;>rfl) (nofun) rfl ?_;simp only[↓IT,VV,seval];refine bB (c:=false) (v:=.b false) (by simp only[VV,seval]<;>rfl) (nofun) rfl ?_;simp only[↓IT,VV,seval];exact a (by simp[jN,f]) rfl
 |true =>
 simp only[↓IT,VV,seval];refine bB (c:=true) (by simp only[VV,seval]<;>rfl) (λ_=>r7 B x _) rfl ?_;cases z:B==x with
 |false =>
  simp only[↓IT,VV,seval];refine bB (c:=false) (v:=.b false) (by simp only[VV,seval]<;>rfl) (nofun) rfl ?_;simp only[↓IT,VV,seval];exact a (by have:=beq_eq_false_iff_ne.1 z;simp[jN,g,f,this]) rfl
 |true =>
 simp only[↓IT,VV,seval];refine bB (c:=true) (by simp only[VV,seval]<;>rfl) (λ_=>r7 D A _) rfl ?_;cases y:D==A with
 |false =>
  simp only[↓IT,VV,seval];exact a (by have:=beq_eq_false_iff_ne.1 y;simp[jN,g,f,this]) rfl
 |true =>
 have M:((Bt.shape s).isSome&&(Bt.shape t).isSome&&(Bt.shape s==Bt.shape t))=true:=by
  rw[g,f,eq_of_beq z,eq_of_beq y];simp
 have i:jN s t=(ky (oE s t)&&(iH s==iH t)):=by rw[jN,M,cc]
 simp only[↓IT,VV,seval];refine aw (Dq s (by omega) _) rfl ?_;simp only[ag,↓IT,VV,seval];have u:CB (0+(tg s).length) (fy 1 [] (tg s)):=CB.fy (by omega) (tg s) CB.nil;refine bZ.aK (fr':=(.sl 3 (s.map It.awa)::.sl 3 (t.map It.awa)::uu 9 (.mp J.length::uu 38 (.sl 3 ((tg s).map It.awa)::.I (tg s).length::.I (([]:List It).length:Nat)::uu 37 [])))) (by repeat' constructor) ((tg s).length+1) (Jr s t (tg s) e (by omega) (tg s) [] [] 0 rfl CB.nil (by omega) ?_);simp only[JE];intros;simp only[↓IT,VV,seval];refine aw (Dq t (by omega) _) rfl ?_;simp only[ag,↓IT,VV,seval];refine bZ.aK (fr':=(.sl 3 (s.map It.awa)::.sl 3 (t.map It.awa)::uu 9 (.mp J.length::uu 52 (.sl 3 ((tg t).map It.awa)::.I (tg t).length::.I (([]:List It).length:Nat)::uu 23 [])))) (by repeat' constructor) ((tg t).length+1) (Jq s t (tg t) e (by omega) (tg t) [] _ _ rfl u (by omega) ?_);simp only[JE];intros;simp only[↓IT,VV,seval];have w:=C5 (C:=oE s t) (⟨0,[],0⟩,0);refine bZ.aK (fr':=(.sl 3 (s.map It.awa)::.sl 3 (t.map It.awa)::uu 76 (.it (J.length+1)::uu 11 []))) (by repeat' constructor) ((emap uv fZ (oE s t)).length+1) (Jp s t (oE s t) (⟨0,[],0⟩,0) _ (List.range (emap uv fZ (oE s t)).length) none (by simp) (by simp[emap]) (λh F l=>?_) (λp q h F l=>?_))
 .have m:ky (oE s t)=true:=w.2 λp q=>h p (by simpa[emap]using q);rw[m,cc]at i;simp only[JE];intros;simp only[↓IT,VV,seval];refine aw (Ap s (by omega) _) rfl ?_;simp only[↓IT,VV,seval];refine aw (Ap t (by omega) _) rfl ?_;simp only[↓IT,VV,seval];refine aw (zJ (iH s) (iH t) _) rfl ?_;simp only[↓IT,VV,seval];exact bg e (.inr rfl) (by simp only[RS,seval];rfl) (by simp only[LW]) ⟨by rw[i];rfl,rfl⟩
 .have m:ky (oE s t)=false:=Bool.eq_false_iff.2 λE=>h (w.1 E p (by simpa[emap]using q));rw[m,dR]at i;simp only[JE];intros;simp only[↓IT,VV,seval];exact d i rfl

set_option maxHeartbeats 1000000
structure oM (M:List dM):Prop where
 len:M.length<=1024
 s6:kK M
 ok:∀s∈M,s.key=aN s.en/\s.dz=dz s.en.awc/\cj s.en=0/\s.en.awk
def oM.nil:oM []:=⟨by decide,by simp[kK],λs a=>by cases a⟩
def oM.join{M:List dM}(h:oM M){s:dM}(b:s∈M):cq s.en=s.key:=by
 obtain⟨a,_,c,_⟩:=h.ok s b;rw[a,aN,an (by rw[c];decide)]
def oM.keys{M:List dM}(h:oM M):(M.map dM.en).map cq=M.map dM.key:=by
 rw[jn];exact eA λs a=>h.join a
def oM.mem{M:List dM}(h:oM M):nj (M.map dM.en) :=
 ⟨by rw[ag];exact h.len,λe a=>by
  obtain⟨s,b,rfl⟩:=bF.1 a;exact(h.ok s b).2.2.1,by rw[h.keys];exact h.s6⟩
def oM.awk{M:List dM}(h:oM M):∀e∈M.map dM.en,e.awk:=λe a=>by
 obtain⟨s,b,rfl⟩:=bF.1 a;exact(h.ok s b).2.2.2
def ly{M:List dM}(h:oM M)(k:aG):below (M.map dM.en) k=fN M k:=by
 have a:∀(l:List dM),(∀s∈l,cq s.en=s.key)->below (l.map dM.en) k=fN l k:=by
  intro l
  induction l with
  |nil=>intro _;rfl
  |cons x l ih =>
   intro c;have e:Op.bytesLess (cq x.en) k=decide (fS x.key k<0):=by rw[fU,c x (by simp)]
   have ih:=ih λs b=>c s (by simp[b]);simp only[below,fN,xt,aH,cy,e]at ih |-;split<;>simp[ih]
 exact a M λs b=>h.join b
def mM{M:List dM}(h:oM M)(e:En):tU (M.map dM.en) e<->aN e∈M.map dM.key:=by
 rw[mJ h.s6];unfold tU;rw[ly h];simp only[ck,aF];constructor
 .rintro⟨x,⟨s,a,rfl⟩,b⟩;exact⟨s,a,by rw[<- b,h.join (bE a)]⟩
 .rintro⟨s,a,b⟩;exact⟨s.en,⟨s,a,rfl⟩,by rw[h.join (bE a),b]⟩
def wH{M:List dM}(h:oM M)(e:En):fP M e=iA (M.map dM.en) e:=by
 unfold fP iA;rw[ag];split
 .rfl
 .by_cases a:aN e∈M.map dM.key\/M.length<1024
  .rw[az a,az (by rwa [mM h])]
  .rw[an a,an (by rwa [mM h])]
def DO{M:List dM}(h:oM M)(next:Int)(e:En)(h0:fP M e=0):(kp M next e).map dM.en=lR (M.map dM.en) e:=by
 have c:iA (M.map dM.en) e=0:=by rw[<- wH h];exact h0
 by_cases a:aN e∈M.map dM.key
 .have b:kp M next e=M.set (fN M (aN e)) (kj next e):=by rw[kp,az h0,az a]
  rw[b,lR,az c,ly h,az ((mM h e).2 a)];obtain⟨g,d,_⟩:=(mJ h.s6 _).1 a;rw[gQ,az (ah.1 d).1];simp[kj,eu,eO]
 .have b:kp M next e=M.take (fN M (aN e))++kj next e::M.drop (fN M (aN e)):=by rw[kp,az h0,an a]
  rw[b,lR,az c,ly h,an (λf=>a ((mM h e).1 f))];simp[kj,eu,eO]
def sL{M:List dM}(c:kK M)(k:aG):∀s∈M.take (fN M k),fS s.key k<0:=λs b=>by
 obtain⟨i,a⟩:=ed.1 b;rw[ee]at a;split at a
 .rename_i h;exact(sV c k i s a).2 h
 .cases a
def vP{M:List dM}(c:kK M)(k:aG):∀s∈M.drop (fN M k),¬fS s.key k<0:=λs b h=>by
 obtain⟨i,a⟩:=ed.1 b;rw[db]at a;have:=(sV c k _ s a).1 h;omega
def DP{M:List dM}(h:oM M)(next:Int)(e:En)(w:e.awk):oM (kp M next e):=by
 unfold kp;split
 .rename_i f
  have o:cj e=0:=by
   unfold fP at f;split at f
   .exact f
   .rename_i h;simpa using h
  have F:(kj next e).key=aN (kj next e).en/\(kj next e).dz=dz (kj next e).en.awc/\cj (kj next e).en=0/\(kj next e).en.awk:=⟨rfl,rfl,o,w⟩;have E:=Em M (aN e)
  have g:∀B:List dM,(∀s∈B,s∈M)->kK B->(∀s∈B,fS (aN e) s.key<0)->fN M (aN e)+1+B.length<=1024->oM (M.take (fN M (aN e))++kj next e::B):=λB z D n L =>
   ⟨by rw[aj,aP,ai];omega,by
    unfold kK;rw[cM,aH,jf,dx];have A:((M.take (fN M (aN e))).map dM.key).Pairwise λa b=>fS a b<0:=by rw[eu];exact h.s6.sublist (Fi _ _)
    refine⟨A,⟨λy C=>?_,D⟩,λa x b l=>?_⟩
    .obtain⟨s,c,rfl⟩:=bF.1 C;exact n s c
    .obtain⟨s,c,rfl⟩:=bF.1 x;have j:=sL h.s6 _ s c;rcases bC.1 l with rfl|l
     .exact j
     .obtain⟨t,q,rfl⟩:=bF.1 l;exact lY j (n t q),λs c=>by
    rcases bP.1 c with d|d
    .exact h.ok s (cF d)
    .rcases bC.1 d with rfl|d
     .exact F
     .exact h.ok s (z s d)⟩
  split
  .rename_i k;obtain⟨J,p,r⟩:=(mJ h.s6 _).1 k;have u:=(ah.1 p).1;rw[gQ,az u];refine g _ (λs c=>cH c) ?_ (λs c=>?_) (by rw[bA];have:=h.len;omega)
   .unfold kK;rw[eO];exact h.s6.sublist (so _ _)
   .obtain⟨i,m⟩:=ed.1 c;rw[db]at m;have G:=(ah.1 m).1;have:=l4.1 h.s6 (fN M (aN e)) (fN M (aN e)+1+i) (by rw[ag];omega) (by rw[ag];omega) (by omega);rw[nO,nO,(ah.1 p).2,(ah.1 m).2,r]at this;exact this
  .rename_i k
   have I:M.length<1024:=by
    unfold fP at f;rw[an (by simp[o])]at f;split at f
    .rename_i d;exact d.elim (λh=>absurd h k) id
    .cases f
   refine g _ (λs c=>cH c) ?_ (λs c=>?_) (by rw[bA];omega)
   .unfold kK;rw[eO];exact h.s6.sublist (so _ _)
   .have d:=vP h.s6 _ s c;have j:s.key≠aN e:=λv=>k (bF.2 ⟨s,cH c,v⟩);have H:=gi.my s.key (aN e);have K:fS s.key (aN e)≠0:=λh=>j (kh.1 h);omega
 .exact h
def DN{M:List dM}(next:Int)(e:En):∀s∈kp M next e,s∈M\/s.en=e:=λs a=>by
 unfold kp at a;split at a
 .split at a
  .rcases uj a with h|h
   .exact .inl h
   .exact .inr (by rw[h];rfl)
  .rcases bP.1 a with h|h
   .exact .inl (cF h)
   .rcases bC.1 h with h|h
    .exact .inr (by rw[h];rfl)
    .exact .inl (cH h)
 .exact .inl a
def DQ{M:List dM}(next:Int)(e:En):(kp M next e).length<=M.length+1:=by
 unfold kp;split
 .split
  .rw[fq];omega
  .rw[aj,aP,ai,bA];omega
 .omega

set_option maxRecDepth 8000
set_option maxHeartbeats 2000000
def Jx{J:ak}{n0:Nat}{K:bl}(l:List En)(U:l.length<=2048)(v:∀e∈l,e.awk/\(dz e.awc).length<=2^20):∀(rest pre:List En) (M:List dM) (next:Int) (S:ak),l=pre++rest->CC J M next S->oM M->(∀s∈M,s.en∈l)->M.length<=pre.length->0<=next->next<=pre.length->(∀e,pre.getLast?=some e->cj e=0->pre.length<=1024->e∈M.map dM.en) ->
  (∀(f:List dM) (next':Int) (j:ak),CC J f next' j->oM f->(∀s∈f,s.en∈l)->f.length<=l.length->(∀e,l.getLast?=some e->cj e=0->l.length<=1024->e∈f.map dM.en)->((fj 5 (fh (.ptr (J.length+4) 0) (fh (.sl 8 ((f.map dM.en).map En.awa)) (fj 29 fo)))) λN=>K (.exit 0) ⟨N,j⟩)) ->
  fm n0 prog wQ K (rest.length+1) ⟨(uu 5 (.ptr (J.length+4) 0::.sl 8 ((M.map dM.en).map En.awa)::uu 5 (.sl 8 (l.map En.awa)::.I l.length::.I pre.length::uu 21 []))),S⟩:=by
 intro rest
 induction rest with
 |nil =>
  intro pre M next S c r a w b g E C q
  have c:=cN c
  subst c;refine ar λR z=>?_;simp only[wQ,VV,seval];exact⟨λh=>by simp at h,λ_=>q M next S r a w b C ..⟩
 |cons e rest ih =>
  intro pre M next S c r a w b g E C q
  have W:=mT c
  have B:=dh pre e (by omega)
  have H:decide ((pre.length:Int)<(l.length:Int))=true:=by simp;omega
  have Q:(l.map En.awa).getD pre.length []=e.awa:=by rw[c];simp[aq]
  have D:e∈l:=by rw[c];simp
  have m:=v e D;have F:e.awa.take 8=e.awa:=by simp[En.awa]
  refine ar λR z=>?_;simp only[wQ,H,Q,F,ao,ag,V.pure,↓IT,VV,seval];refine⟨⟨by omega,by omega⟩,by simp[En.awa],?_⟩;simp only[En.awa,V.pure,↓IT,VV,seval];refine aw (DJ (M.map dM.en) a.mem a.awk e m.1 _) (by simp only[En.awa,VV,seval]) ?_;simp only[V.pure,↓IT,VV,seval];rw[<- wH a];refine cD (Ny (r.app _) (by omega) a.s6 a.len e m.1 (by have:=m.2;omega)) (by simp only[En.awa,VV,seval]) ?_;rintro _ j ⟨rfl,p⟩;have A:(fP M e != fP M e)=false:=by simp
  have n:=DP a next e m.1
  have d:∀s∈kp M next e,s.en∈l:=λs v=>(DN next e s v).elim (w s) λh=>by rw[h];exact D
  have u:=DQ (M:=M) next e
  have t:0<=sB M next e/\sB M next e<=next+1:=by unfold sB;split<;>omega
  have G:∀x,(pre++[e]).getLast?=some x->cj x=0->(pre++[e]).length<=1024->x∈(kp M next e).map dM.en:=λx i T O=>by
   rw[Ag]at i;cases i
   have P:fP M e=0:=by
    rw[fP,an (by simp[T])];refine az (.inr ?_);rw[aj,eI]at O;omega
   refine bF.2 ⟨kj next e,?_,rfl⟩;rw[kp,az P];split
   .rename_i L;obtain⟨x,i,_⟩:=(mJ a.s6 _).1 L;exact List.mem_set (ah.1 i).1 _
   .simp
  have k:=ih (pre++[e]) (kp M next e) (sB M next e) j (by simp[c]) p n d (by rw[aj,eI];omega) t.1 (by rw[aj,eI];omega) G q
  by_cases g:fP M e=0
  .have y:=DO a next e g
   have o:(fP M e==0)=true:=by simp[g]
   rw[<- y];simp only[A,o,B,V.pure,↓IT,VV,seval];exact z _ (aK (by repeat' constructor) k)
  .have y:kp M next e=M:=by rw[kp,an g]
   have o:(fP M e==0)=false:=by simp[g]
   rw[y]at k;simp only[A,o,B,V.pure,↓IT,VV,seval];exact z _ (aK (by repeat' constructor) k)
def vL(l:List En)(f:l.length<=2048)(c:∀e∈l,e.awk/\(dz e.awc).length<=2^20)(J:ak):PC prog 22 [.sl 8 (l.map En.awa)] J (λr d=>∃M next,r=.iQ [.ptr (J.length+4) 0,.sl 8 ((M.map dM.en).map En.awa),.b true]/\CC J M next d/\oM M/\(∀s∈M,s.en∈l)/\M.length<=l.length/\∀e,l.getLast?=some e->cj e=0->l.length<=1024->e∈M.map dM.en):=by
 refine aZ func22 p22.2 λn m=>au ?_;simp only[p22,SS,seval];simp only[V.pure,↓IT,VV,seval];refine aw (BJ _) rfl ?_;simp only[ag,V.pure,↓IT,VV,seval];refine bZ.aK (fr':=(uu 5 (.ptr (J.length+4) 0::.sl 8 ((([]:List dM).map dM.en).map En.awa)::uu 5 (.sl 8 (l.map En.awa)::.I l.length::.I (([]:List En).length:Nat)::uu 21 [])))) (by repeat' constructor) (l.length+1) (Jx l f c l [] [] 0 _ rfl (CC.new J) oM.nil (λs c=>by cases c) (fA _) (dJ _) (dJ _) (λe j=>by simp at j) ?_);intro M next d k g i a h
 simp only[JE];intros;simp only[V.pure,↓IT,VV,seval];exact fH (.inr rfl) rfl (Wk.refl _ _) rfl ⟨M,next,rfl,k,g,i,a,h⟩

set_option maxHeartbeats 1000000
def vZ(e:En)(src:List It):(nK e src).length<=e.awf.length:=by
 have a:=(pd (awv e.awf ((kI e.awc src).map (·.1)) ((kI e.awc src).map (·.2)))).2;have b:=tE e.awf ((kI e.awc src).map (·.1)) ((kI e.awc src).map (·.2));simp only[nK,rename];omega
def Wd(e:En)(src:List It):V:=.iQ [.sl 3 ((jY e src).1.map It.awa),.b (jY e src).2]
def KP(e:En)(src:List It)(h1:e.awc.length<2^29)(i:e.awf.length<2^29)(d:bd e.awf<2^40)(a:src.length<2^29)(J:ak):
  bM prog 37 [.agg e.awa,.sl 3 (src.map It.awa)] J (Wd e src):=by
 refine aZ func37 p37.2 λc f=>au ?_;have g:=vZ e src;simp only[p37,SS,seval];simp only[En.awa,↓IT,VV,seval];refine aw (ND e.awc src h1 a _) rfl ?_;simp only[↓IT,VV,seval];refine aw (Bx e.awf ((kI e.awc src).map (·.1)) ((kI e.awc src).map (·.2)) (by omega) d _) rfl ?_;simp only[↓IT,VV,seval];refine aw (xB src (nK e src) a (by omega) _) rfl ?_;simp only[↓IT,VV,seval];refine⟨λh=>?_,λh=>?_⟩
 .have h:jN src (nK e src)=false:=by simpa using h
  exact kb (ys:=[.sl 3 [],.b false]) c (.inr rfl) (by simp only[RS,seval]) (.cons (.nil _) (.cons (.refl _) .nil)) (by simp[LW]) ⟨by simp[Wd,jY,h];rfl,rfl⟩
 .have h:jN src (nK e src)=true:=by simpa using h
  exact bg c (.inr rfl) (by simp only[RS,seval];rfl) (by simp[LW]) ⟨by simp only[Wd,jY,h,aT];rfl,rfl⟩
def Gs{e:En}{h:List It}(a:(jY e h).2=true):jN h (jY e h).1=true:=by
 unfold jY at a |-;split
 .assumption
 .rename_i b;rw[an b]at a;cases a

set_option maxRecDepth 20000
set_option maxHeartbeats 4000000
def BA{J:ak}{l:bH}:J++[.box 31 [.sl 1 (l.map bV),.I 0]]=gT (J++[.dead]) J.length l 0:=by
 simp[gT]
def po{e:En}{k:Nat}(a:k<=20)(h:pL k e):e.awk/\(dz e.awc).length<=2^20 :=
 ⟨h.awk a,by have:=tx e.awc;have:=h.jr;have:=h.ie;omega⟩

set_option maxRecDepth 8000
set_option maxHeartbeats 2000000
def nM(t:Int):Nat->List Mt->Nat
 |_,[]=>0
 |0,_=>0
 |n+1,a::x=>if t<=a.score then nM t n x+1 else 0
end Go.Proofs.Tryz

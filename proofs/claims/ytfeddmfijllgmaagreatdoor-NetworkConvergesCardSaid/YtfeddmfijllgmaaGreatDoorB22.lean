/- A part of a proof; the claim's last text says of what. -/
import Derived.Sort.KeysCollected
import Derived.Test.YtfeddmfijllgmaaGreatDoorB10
import Derived.Test.YtfeddmfijllgmaaGreatDoorB20
set_option linter.all false
open Option renaming some->S
open Bool renaming true->θ,false->G
open Go.Proofs.Tryz renaming prog->κ
open List renaming length->Y

namespace Go.Pm
open Go Go.RowKit Go.Bt
variable{f:Nat}{U:aB}{J:aj}{P:bG}{X:fx}
def PC.ofRow{E c by':Nat}(u:Ti P E c by') (h:∀(B:Nat) (m w:bQ) (μ:Mem) (k:Array Value),l8 P B m w J μ->VRs w J μ U k->Calls P f k w λe w'=>∃v a,e=.returned v/\w'.ownsRow w.heap.size E c v X.length a/\Below w.heap.size w w'/\nD w J μ X c a) : PC P f U J (λr A=>r=.own J.length 0/\A=J++[.row E c by' 0 G X]):=by
 intro B m w μ k l x;refine(h B m w μ k l x).mono ?_;rintro e w' ⟨v,a,rfl,o,t,D⟩;have s:=l.Aw (w':=w') (.row E c by' 0 G X) v (om t) (λb i=>by
   rcases o.2 with⟨rfl,_⟩|⟨g,j,d,rfl,p,_⟩;.simp[nQ]at i
   simp only[nQ,ab]at i;omega)
  (λz=>⟨u,a,⟨o.1,by
   rcases o.2 with n|⟨g,j,d,n,p,y⟩;.exact .inl n
   exact .inr ⟨g,j,d,n,cE l.base p,y⟩⟩,D.eY z.eY⟩);have C:(J++[.row E c by' 0 G X])[J.length]?=S (.row E c by' 0 G X):=by simp
 have q:=VR.ue (w:=w') (μ:=Bh μ J.length v) C;rw[iy]at q;exact⟨_,v,_,_,rfl,⟨rfl,rfl⟩,s.1,q,s.2.eY⟩
def PC.aj6{E d by':Nat}(k:Ti P E d by') (h:∀(B:Nat) (g w:bQ) (b:Mem) (c:Array Value),l8 P B g w J b->VRs w J b U c->Calls P f c w λe i=>∃v a,e=.returned v/\i.ownsRow w.heap.size E d v X.length a/\Below w.heap.size w i/\nD w J b X d a) : PC P f U J (λr l=>r=.sl d X/\l=J) :=λB g w b c j m=>PC.fz j.closed (PC.ofRow k h) B g w b c j m
def D4{a d:Type}{l:List a}{f:a->d}(h:∀(i j:Nat) (x y:a),l[i]?=S x->l[j]?=S y->f x=f y->i=j):(l.map f).Nodup:=by rw[ams,iC];intro i j b c g e;simp only[ae2]at e;simp only[aa]at b c;have:=h i j _ _ (aD b) (aD c) e;omega
def acD{w0 w:bQ}{X:Mem}(hS:l8 P f w0 w J X){R:Type}{I:R->V}{id K E:Nat}{l:List (aR×R)}(ho:J[id]?=S (.map K E (emap keS I l))) (hk:P.underlying K=S .string) (O:(l.map (·.1)).Nodup) (hl:Y l<=maxLen) : ∃b D,X id=.map (S b)/\w.ownsMap (H:=Unit) P K (λ_=>S (.nil,[])) b l.length D/\Maps.size D=Y l/\(strKeys D).Perm (l.map (·.1)):=by
 obtain⟨b,d,clock,hm,hB,hh,h1,h2,h3,h4⟩:=hS.obj id _ ho;have u:d.size=Y l:=by rw[h1];simp[emap]
 have o:∀(i:Nat) (e:MapEntry),d[i]?=S e->∃p,l[i]?=S p/\∃x:ByteArray,e.key=.string x/\x.data.toList=p.1/\Y p.1<=maxLen:=by
  intro i e A;have k:i<Y l:=by rw[<- u];exact(cY.1 A).1
  have g:=aD k;have B:(emap keS I l)[i]?=S (keS (l[i]).1,I (l[i]).2):=by simp[emap,g]
  obtain⟨_,_,e',M,h6,_⟩:=h2 i _ _ B;rw[A]at M;simp only[ab]at M;subst M;obtain⟨x,Q,z,n⟩:=VR.sG (l:=(l[i]).1) h6;exact⟨_,g,x,Q,z,n⟩
 have s:∀(i:Nat) (e:MapEntry),d[i]?=S e->∃p,l[i]?=S p/\WideElems.rd (H:=Unit) P K (λ_=>S (.nil,[])) e=S (.string p.1,.nil):=by
  intro i e A;obtain⟨p,g,x,Q,z,n⟩:=o i e A;refine⟨p,g,?_⟩;have jl:x.size<=maxLen:=by
   have:x.size=Y x.data.toList:=by simp
   rw[this,z];exact n
  simp[WideElems.rd,keyOf,hk,mapKey,Q,jl,z]
 have v:d.toList.map (WideElems.rg (H:=Unit) P K (λ_=>S (.nil,[])))=l.map λp=>(Lit.string p.1,DataW.nil):=by
  apply kR;intro i;rw[bR,bR];by_cases k:i<Y l
  .have GG:i<d.size:=by omega
   obtain⟨p,g,C⟩:=s i d[i] (cq GG);have e1:d.toList[i]?=S d[i]:=by simp[GG]
   rw[e1,g];simp[WideElems.rg,C]
  rw[cH (by simp;omega),cH (by omega)];rfl
 refine⟨b,_,hm,⟨d,clock,hh,⟨by omega,⟨?_,?_,?_⟩,?_⟩,by omega,rfl⟩,?_,?_⟩;.intro x m;obtain⟨i,k⟩:=cm.1 m;exact h3 i x (by simpa using k)
 .refine D4 λi j x y m N e=>h4 i j x y (by simpa using m) (by simpa using N) e
 .refine D4 λi j x y m N e=>?_;obtain⟨p,g,a,F,L,_⟩:=o i x (by simpa using m);obtain⟨q,U,c,Vw,AN,_⟩:=o j y (by simpa using N);rw[F,Vw]at e;have W:p.1=q.1:=by rw[<- L,<- AN];cases e;rfl
  rw[ams,iC]at O;have k:=(ag.1 g).1;have T:=(ag.1 U).1;have r:=(ag.1 g).2;have t:=(ag.1 U).2;rcases Nat.lt_trichotomy i j with h|h|h;.have:=O i j (by simpa using k) (by simpa using T) h;simp only[ae2,r,t]at this;exact absurd W this
  .exact h
  have:=O j i (by simpa using T) (by simpa using k) h;simp only[ae2,r,t]at this;exact absurd W.symm this
 .intro x m;obtain⟨i,k⟩:=cm.1 m;obtain⟨p,_,C⟩:=s i x (by simpa using k);exact⟨_,C⟩
 .rw[v,Maps.size_eq,(WideShapes.sorted_perm _).length_eq];simp
 rw[v];simp only[strKeys];refine((WideShapes.sorted_perm _).map _).trans ?_;rw[jQ];exact List.Perm.of_eq (by apply dA;intro p _;rfl)
end Go.Pm
namespace Go.Proofs.Tryz
open Go Go.Pm Go.Bt
variable(J:aj)(a:List It)(N:Nat)(T:bU)(x:Int)(R:It){n k j:Nat}{o:Ob}{w:aR}{X U:aj}{K:bL}{l:bU}
def tN(x n:Int)(a:0<n)(f:n<2^62)(J:aj):bh κ 17 [.I x,.I n] J (.I (place x n)):=by
 refine aW func17 p17.2 λd c=>aq ?_;simp only[p17,SS,seval];simp only[VV,seval];refine⟨by omega,λh=>?_,λh=>?_⟩
 .have h:x.tmod n<0:=by simpa using h
  have b:=tM (x:=x) a;have e:place x n=x.tmod n+n:=by simp only[place,aQ h]
  refine bK (.inr rfl) rfl ⟨?_,rfl⟩;rw[e]at b |-;simp only[Pm.one,aX,bB];rw[IntWalk.i64_in _ (by omega)]
 have h:¬x.tmod n<0:=by simpa using h
 have e:place x n=x.tmod n:=by simp only[place,aw h]
 exact bK (.inr rfl) rfl ⟨by rw[e];rfl,rfl⟩
def mb(k:Nat):aj:=J.set N (.box 84 [.sl 1 (T.map cN),.I k])
def cJ(k:Nat):Y (mb J N T k)=Y J:=by simp[mb]
def oZ(h:n<Y X):mb X n l k++U=mb (X++U) n l k:=by simp only[mb];rw[jm _ _ h]
def XE(h:n<Y X):(mb X n l k)[n]?=S (.box 84 [.sl 1 (l.map cN),.I k]):=by simp[mb,h]
def XD:(mb X n l k).set n (.box 84 [.sl 1 (l.map cN),.I (j:Int)])=mb X n l j:=by simp[mb]
def Su(b:N<Y J)(l:bU)(k:Nat)(j:k<2^60)(n:Int)(d:0<n)(c:n<2^62): PC κ 37 [.ptr N 0,.I n] (mb J N l k) (λr f=>r=.I (place (l.getD k 0) n)/\f=mb J N l (k+1)):=by
 refine aW func37 p37.2 λm i=>aq ?_;simp only[p37,SS,seval];have e:IntKind.i64.wrap ((k:Int)+1)=((k+1:Nat):Int):=da (by omega);by_cases h:k<Y l
 .have a:decide ((k:Int)<(Y l:Int))=θ:=by simp;omega
  simp only[XE b,aa,a,e,XD,ak,v8 h,VV,seval];refine⟨by omega,?_⟩;refine al (tN (l.getD k 0) n d c _) rfl ?_;simp only[VV,seval];exact dS (.inr rfl) rfl (Wk.refl _ _) rfl ⟨rfl,rfl⟩
 have a:decide ((k:Int)<(Y l:Int))=G:=by simp;omega
 have g:l.getD k 0=0:=by rw[aA,cH (by omega)];rfl
 simp only[XE b,aa,a,e,XD,VV,seval];refine al (tN 0 n d c _) rfl ?_;simp only[VV,seval];exact dS (.inr rfl) rfl (Wk.refl _ _) rfl ⟨by rw[g];rfl,rfl⟩
def D5(b:N<Y J)(l:bU)(k:Nat)(e:k<2^60)(n:Int)(a:0<n)(c:n<2^62): PC κ 37 [.ptr N 0,.I n] (mb J N l k) (λr d=>∃v:Int,r=.I v/\(0<=v/\v<n)/\d=mb J N l (k+1)) :=(Su J N b l k e n a c).mono λ_ _ h=>⟨_,h.1,tM a,h.2⟩
def AQ:gW:=[[114,101,100],[99,97,114],[82,101,100],[97],[99,97,114,115],[49,44,53],[50,50],[100,111,110,39,116],[46],[33],[32],[32,32],[60],[38],[123],[34],[92],[120,45,121],[10],[61],[125],[62],[9],[98]]
def pD{ws:gW}{n:Nat}(h:n<Y ws):∃w∈ws,gv (ws.map λs=>[V.s s]) n 0=S (V.s w):=by refine⟨ws[n],eJ h,?_⟩;simp[gv,h]
def afo(c:N<Y J)(l:bU)(k:Nat)(b:k<2^60): PC κ 233 [.ptr N 0] (mb J N l k) (λr a=>∃w:aR,r=.s w/\w∈AQ/\a=mb J N l (k+1)):=by refine aW func233 aoI.2 λh f=>aq ?_;simp only[aoI,SS,seval];simp only[VV,seval];refine dZ (D5 J N c l k b 24 (by decide) (by decide)) rfl ?_;rintro _ _ ⟨v,rfl,g,rfl⟩;obtain⟨w,d,e⟩:=pD (ws:=AQ) (n:=v.toNat) (by simp[AQ];omega);simp only[AQ,aI,ar]at e;simp only[e,VV,seval];refine⟨by omega,?_⟩;exact dS (.inr rfl) rfl (Wk.refl _ _) rfl ⟨w,rfl,d,rfl⟩
def aa1(h:w∈AQ):Y w<=5:=by revert w;decide
def agF(i:N<Y J)(l:bU)(d:Nat)(y:d<2^59)(n:Nat)(x:n<2^20):∀(m k:Nat) (a:aR),m<=n->(d<=k/\k<=d+2*(n - m))->Y a<=6*(n - m) ->(∀(k:Nat) (a:aR),(d<=k/\k<=d+2*n)->Y a<=6*n->((fj 5 (fh (.s a) (fj 25 fo))) λo=>K (.exit 0) ⟨o,mb J N l k⟩)) ->gw (Y J) κ OU K (m+1) ⟨(.ptr N 0::uu 4 (.s a::.I m::uu 24 [])),mb J N l k⟩:=by
 intro m;induction m with
 |zero =>intro k a q p t b;refine az λR g=>?_;simp only[OU,VV,seval];exact⟨λh=>by simp at h,λ_=>b k a (by omega) (by omega) ..⟩
 |succ m ih =>
 intro k a q p t b;have f:IntKind.i64.wrap (((m+1:Nat):Int) - 1)=(m:Int):=by rw[IntWalk.i64_in _ (by omega)];omega
 refine az λR g=>?_;simp only[OU,f,VV,seval];refine⟨λ_=>?_,λh=>by simp at h<;>omega⟩;refine dZ (afo J N i l k (by omega)) rfl ?_;rintro _ _ ⟨w,rfl,r,rfl⟩;have z:=aa1 r;simp only[f,VV,seval];by_cases j:a=[]
 .have e:(!a==[])=G:=by simp[j]
  refine TD (Q:=λ_ _=>True) (c:=G) (by simp only[e,VV,seval]<;>rfl) (λh=>by simp at h) rfl (λh=>by simp at h) λ_=>⟨.I 0,?_⟩;simp only[e,f,VV,seval];refine⟨by simp only[maxLen];omega,?_⟩;refine g _ (bX ?_ (ih (k+1) (a++w) (by omega) (by omega) (by rw[ah];omega) b));repeat' constructor
 have e:(!a==[])=θ:=by simp[j]
 refine TD (c:=θ) (by simp only[e,VV,seval]<;>rfl) (λ_=>D5 J N i l (k+1) (by omega) 3 (by decide) (by decide)) rfl ?_ (λh=>by simp at h);rintro _ _ _ ⟨v,rfl,u,rfl⟩;simp only[e,f,VV,seval];refine⟨λh=>⟨by simp only[maxLen];omega,by simp only[maxLen,ah,ae,ai];omega,?_⟩,λh=>⟨by simp only[maxLen];omega,?_⟩⟩;.refine g _ (bX ?_ (ih (k+1+1) (a++32::w) (by omega) (by omega) (by rw[ah,ae];omega) b));repeat' constructor
 refine g _ (bX ?_ (ih (k+1+1) (a++w) (by omega) (by omega) (by rw[ah];omega) b));repeat' constructor
def ahc(c:N<Y J)(l:bU)(k:Nat)(i:k<2^58)(n:Nat)(p:n<2^20): PC κ 188 [.ptr N 0,.I n] (mb J N l k) (λr e=>∃(s:aR) (a:Nat),r=.s s/\Y s<=6*n/\(k<=a/\a<=k+2*n+1)/\e=mb J N l a):=by
 refine aW func188 ao8.2 λo f=>aq ?_;have d:IntKind.i64.wrap ((n:Int)+1)=((n+1:Nat):Int):=da (by omega);simp only[ao8,SS,seval];simp only[d,VV,seval];refine dZ (D5 J N c l k (by omega) ((n+1:Nat):Int) (by omega) (by omega)) rfl ?_;rintro _ _ ⟨v,rfl,h,rfl⟩;obtain⟨m,rfl⟩:∃m:Nat,v=m:=⟨v.toNat,by omega⟩;simp only[d,cJ,VV,seval];refine cB.bX ?_ (m+1) (agF J N c l (k+1) (by omega) m (by omega) m (k+1) [] (aM _) (by omega) (by simp) ?_);.repeat' constructor
 intro a b g j;simp only[JE];intros;simp only[VV,seval];exact dS (.inr rfl) rfl (Wk.refl _ _) (by simp[cJ]) ⟨b,a,rfl,by omega,by omega,rfl⟩
def agG(g:Y T<2^63):∀(a d:bU),T=d++a ->(a.contains x=G->((fj 18 fo) λk=>K (.exit 0) ⟨k,X⟩))->(a.contains x=θ->((fj 4 (fh (.b θ) (fj 13 fo))) λk=>K .ret ⟨k,X⟩)) ->gw n κ OW K (Y a+1) ⟨(.sl 1 (T.map cN)::.I x::uu 5 (.I (Y T)::.I (Y d)::uu 9 [])),X⟩:=by
 intro a;induction a with
 |nil =>intro d f i j;have f:=dL f;subst f;refine az λR l=>?_;simp only[OW,VV,seval];exact⟨λh=>by simp at h,λ_=>i rfl ..⟩
 |cons c a ih =>
 intro d f i j;subst f;refine az λR l=>?_;simp only[OW,cN,VV,seval];refine⟨λ_=>⟨by simp;omega,λh=>?_,λh=>?_⟩,λh=>by simp at h<;>omega⟩
 .have h:c=x:=by simpa using h
  exact j (by simp[h]) ..
 have h:¬c=x:=by simpa using h
 have e:(c::a).contains x=a.contains x:=by
  have:(x==c)=G:=by simpa using λe=>h e.symm
  simp only[List.contains_cons,this,ow]
 rw[e]at i j;refine l _ (bX ?_ (ih (d++[c]) (by simp) i j));rw[da (by simp at g;omega)];simp only[ah,ae,ai];repeat' constructor
def abY(J:aj):bh κ 184 [.sl 1 (T.map cN),.I x] J (.b (T.contains x)):=by
 refine aW func184 apb.2 λd c=>aq ?_;have a:=qP (c 0 _ rfl).1;rw[aa]at a;simp only[apb,SS,seval];simp only[aa,VV,seval];refine cB.bX ?_ (Y T+1) (agG T x a T [] rfl (λh=>?_) (λh=>?_));.repeat' constructor
 .simp only[JE];intros;simp only[VV,seval];exact bK (.inr rfl) rfl ⟨by rw[h];rfl,rfl⟩
 simp only[JE];intros;exact bK (.inr rfl) rfl ⟨by rw[h];rfl,rfl⟩
def agZ(i:Y a<2^63):∀(b c:List It) (d:Int),a=c++b ->((fj 3 (fh (.I (iJ d b)) (fj 24 fo))) λm=>K (.exit 0) ⟨m,X⟩) ->gw n κ Pg K (Y b+1) ⟨(.sl 3 (a.map It.azR)::uu 2 (.I d::uu 2 (.I (Y a)::.I (Y c)::uu 20 []))),X⟩:=by
 intro b;induction b with
 |nil =>intro c d g f;have g:=dL g;subst g;refine az λR k=>?_;simp only[Pg,VV,seval];exact⟨λh=>by simp at h,λ_=>f ..⟩
 |cons x b ih =>
 intro c d g f;subst g;have l:=dD c x (by simp at i;omega);refine az λR k=>?_;simp only[Pg,It.azR,VV,seval];have e:iJ d (x::b)=iJ (IntKind.i64.wrap (d+width x)) b:=rfl;rw[e]at f;refine⟨λ_=>⟨by simp;omega,λh=>⟨by simp;omega,?_⟩,λh=>?_⟩,λh=>by simp at h<;>omega⟩
 .have h:x.azT=1:=by simpa using h
  have j:width x=Y x.azX:=by simp[width,h]
  rw[j]at f;refine k _ (bX ?_ (ih (c++[x]) _ (by simp) f));rw[l];repeat' constructor
 have h:¬x.azT=1:=by simpa using h
 have j:width x=1:=by simp[width,h]
 rw[j]at f;refine k _ (bX ?_ (ih (c++[x]) _ (by simp) f));rw[l];repeat' constructor
def RQ(J:aj):bh κ 128 [.sl 3 (a.map It.azR)] J (.I (iJ 0 a)):=by
 refine aW func128 apX.2 λd c=>aq ?_;have b:=qP (c 0 _ rfl).1;rw[aa]at b;simp only[apX,SS,seval];simp only[aa,VV,seval];refine cB.bX ?_ (Y a+1) (agZ a b a [] 0 rfl ?_);.repeat' constructor
 simp only[JE];intros;simp only[VV,seval];exact bK (.inr rfl) rfl ⟨rfl,rfl⟩
def UN(b:UInt8)(J:aj):bh κ 232 [.i .u8 b.toNat] J (.I (pP b)):=by refine aW func232 aoJ.2 λa e=>aq ?_;simp only[aoJ,SS,seval];simp only[W,seval];clear e a;refine⟨λg=>?_,λg=>⟨λd=>?_,λd=>⟨λc=>?_,λc=>⟨λf=>?_,λf=>?_⟩⟩⟩⟩<;>refine bK (.inr rfl) rfl ⟨?_,rfl⟩<;>simp at*<;> simp only[Pm.one,pP,aX,bB,V.i.injEq,km]<;>(repeat' split)<;>omega
def CP(J:aj):bh κ 182 [.agg R.azR] J (.b (fp R)):=by refine aW func182 apd.2 λa c=>aq ?_;simp only[apd,It.azR,SS,seval];simp only[VV,seval];refine bA a (.inr rfl) rfl (by simp[LW]) ⟨?_,rfl⟩;simp only[Pm.one,fp,aX,bB]
def agV(s:aR)(g:Y s<2^63):∀(a d:aR),s=d++a->d≠[] ->(a.all me=θ->((fj 44 fo) λk=>K (.exit 0) ⟨k,X⟩))->(a.all me=G->((fj 2 (fh (.b G) (fj 41 fo))) λk=>K .ret ⟨k,X⟩)) ->gw n κ Jj K (Y a+1) ⟨(.s s::uu 2 (.I (Y d)::uu 40 [])),X⟩:=by
 intro a;induction a with
 |nil =>intro d f m i j;have f:=dL f;subst f;refine az λR l=>?_;simp only[Jj,VV,seval];exact⟨λh=>by simp at h,λ_=>i rfl ..⟩
 |cons c a ih =>
 intro d f m i j;subst f;have q:0<Y d:=fJ.2 m;have o:decide ((0:Int)<Y d)=θ:=by simp;omega
 refine az λR l=>?_;simp only[Jj,o,VV,seval];have p:me c=((decide (97<=(c.toNat:Int))&&decide ((c.toNat:Int)<=122))||((decide (48<=(c.toNat:Int))&&decide ((c.toNat:Int)<=57))||((c.toNat:Int)==45))):=by rw[eD];simp[me];omega
 rw[<- p];refine⟨λ_=>⟨by simp;omega,λh=>?_,λh=>?_⟩,λh=>by simp at h<;>omega⟩
 .have e:(c::a).all me=a.all me:=by simp[h]
  rw[e]at i j;refine l _ (bX ?_ (ih (d++[c]) (by simp) (by simp) i j));rw[da (by simp at g;omega)];simp only[ah,ae,ai];repeat' constructor
 exact j (by simp[h]) ..
def qY(s:aR)(J:aj):bh κ 135 [.s s] J (.b (aAa s)):=by
 refine aW func135 apR.2 λl j=>aq ?_;have a:=Ld (j 0 _ rfl).1;simp only[apR,SS,seval];simp only[VV,seval];cases s with
 |nil =>refine⟨λ_=>bK (.inr rfl) rfl ⟨rfl,rfl⟩,λh=>by simp at h⟩
 |cons c r =>
 refine⟨λh=>?_,λh=>?_⟩;.refine bK (.inr rfl) rfl ⟨?_,rfl⟩;simp at h;simp[Pm.one,aAa];omega
 simp at h;refine cB.kT (Y r+2) (az λR k=>?_);simp only[Jj,aX,VV,Int.reduceBEq,Int.reduceBNe,Nat.reduceAdd,Nat.reduceSub,Nat.reduceLeDiff,Nat.reduceEqDiff,Int.reduceToNat,reduceIte,reduceCtorEq];have i:((decide (97<=(c.toNat:Int))&&decide ((c.toNat:Int)<=122))||(decide ((0:Int)<0)&&((decide (48<=(c.toNat:Int))&&decide ((c.toNat:Int)<=57))||((c.toNat:Int)==45))))=decide (97<=c.toNat/\c.toNat<=122):=by rw[eD];simp;omega
 have g:Y (c::r)<=24:=by simp;omega
 rw[i];refine⟨λ_=>⟨by simp,λf=>?_,λf=>?_⟩,λh=>by simp at h<;>omega⟩
 .have e:aAa (c::r)=r.all me:=by simp only[aAa,f,g,bt,dp]
  refine k _ (bX ?_ (agV (c::r) a r [c] rfl (by simp) (λd=>?_) (λd=>?_)));.rw[show IntKind.i64.wrap (0+1)=(([c].length:Nat):Int)from IntWalk.i64_in _ (by decide)];repeat' constructor
  .simp only[JE];intros;simp only[VV,seval];exact bK (.inr rfl) rfl ⟨by simp only[Pm.one,e,d,aX,bB],rfl⟩
  simp only[JE];intros;simp only[VV,seval];exact bK (.inr rfl) rfl ⟨by simp only[Pm.one,e,d,aX,bB],rfl⟩
 refine bK (.inr rfl) rfl ⟨?_,rfl⟩;have e:aAa (c::r)=G:=by simp only[aAa,f,eV,dI]
 rw[e];rfl
def agH(s:aR)(f:Y s<2^63):∀(a b:aR),s=b++a->32 ∉ b ->(32 ∉ s->((fh (.s s) (fj 17 fo)) λi=>K (.exit 0) ⟨i,X⟩))->(32∈s->((fj 2 (fh (.s (s.take (Lib.indexByte s 32).toNat)) (fj 15 fo))) λi=>K .ret ⟨i,X⟩)) ->gw n κ OX K (Y a+1) ⟨(.s s::uu 2 (.I (Y b)::uu 14 [])),X⟩:=by
 intro a;induction a with
 |nil =>intro b d g j k;have d:=dL d;subst d;refine az λR m=>?_;simp only[OX,VV,seval];exact⟨λh=>by simp at h,λ_=>j g ..⟩
 |cons c a ih =>
 intro b d g j k;subst d;refine az λR m=>?_;simp only[OX,VV,seval];refine⟨λ_=>⟨by simp;omega,λh=>⟨by simp;omega,?_⟩,λh=>?_⟩,λh=>by simp at h<;>omega⟩
 .have l:c=32:=by rw[show(32:Int)=((32:UInt8).toNat:Int)from rfl,EU]at h;simpa using h
  subst l;have e:(Lib.indexByte (b++32::a) 32).toNat=Y b:=by rw[uM g];simp
  have:=k (by simp);rw[e]at this;exact this ..
 have l:¬c=32:=by rw[show(32:Int)=((32:UInt8).toNat:Int)from rfl,EU]at h;simpa using h
 refine m _ (bX ?_ (ih (b++[c]) (by simp) (by simp[g,EM l]) j k));rw[da (by simp at f;omega)];simp only[ah,ae,ai];repeat' constructor
def xF(s:aR)(J:aj):bh κ 183 [.s s] J (.s (fM s)):=by
 refine aW func183 apc.2 λc b=>aq ?_;have a:=Ld (b 0 _ rfl).1;simp only[apc,SS,seval];simp only[VV,seval];refine cB.bX ?_ (Y s+1) (agH s a s [] rfl (by simp) (λh=>?_) (λh=>?_));.repeat' constructor
 .simp only[JE];intros;simp only[VV,seval];refine bK (.inr rfl) rfl ⟨?_,rfl⟩;have:Lib.indexByte s 32 = -1:=AJ h;simp[Pm.one,fM,az2,this]
 simp only[JE];intros;refine bK (.inr rfl) rfl ⟨?_,rfl⟩;have:0<=Lib.indexByte s 32:=vM h;simp[Pm.one,fM,az2,this]
def aks(b:List It)(j:Y a<2^63)(q:Y a=Y b):∀(f d c i:List It),a=c++f->b=i++d->Y c=Y i ->(jG f d=θ->((fj 26 fo) λo=>K (.exit 0) ⟨o,X⟩))->(jG f d=G->((fj 4 (fh (.b G) (fj 21 fo))) λo=>K .ret ⟨o,X⟩)) ->gw n κ Xa K (Y f+1) ⟨(.sl 3 (a.map It.azR)::.sl 3 (b.map It.azR)::uu 10 (.I (Y a)::.I (Y c)::uu 12 [])),X⟩:=by
 intro f;induction f with
 |nil =>
  intro d c i g k r l m;have:d=[]:=by subst g;subst k;simp at q;exact cd (by omega)
  subst this;have g:=dL g;subst g;refine az λR s=>?_;simp only[Xa,VV,seval];exact⟨λh=>by simp at h,λ_=>l rfl ..⟩
 |cons x f ih =>
 intro d c i g k r l m;cases d with
 |nil=>subst g;subst k;simp at q;omega
 |cons y d =>
 subst g;subst k;have u:(List.map It.azR (i++y::d)).getD c.length []=y.azR:=by rw[r];exact dR
 have w:=dD c x (by simp at j;omega);refine az λR s=>?_;simp only[Xa,ak,u,It.azR,iF,eQ,VV,seval];have v:(0:Int)<=Y c/\(Y c:Int)<Y (List.map It.azR (c++x::f)):=by simp;omega
 have p:(0:Int)<=Y c/\(Y c:Int)<Y (List.map It.azR (i++y::d)):=by simp at q |-;omega
 have t:LI x y=(x.azT==y.azT&&(x.azX==y.azX&&x.id==y.id)):=rfl;rw[<- t];refine⟨λ_=>⟨v,p,λh=>?_,λh=>?_⟩,λh=>by simp at h<;>omega⟩
 .have h:LI x y=G:=by rw[dG]at h;exact h
  exact m (by simp[jG,h]) ..
 have h:LI x y=θ:=by rw[eP]at h;exact h
 have e:jG (x::f) (y::d)=jG f d:=by simp[jG,h]
 rw[e]at l m;refine s _ (bX ?_ (ih d (c++[x]) (i++[y]) (by simp) (by simp) (by simp[r]) l m));rw[w];repeat' constructor
def Bo(b:List It)(J:aj):bh κ 72 [.sl 3 (a.map It.azR),.sl 3 (b.map It.azR)] J (.b (jG a b)):=by
 refine aW func72 p72.2 λg d=>aq ?_;have c:=qP (d 0 _ rfl).1;rw[aa]at c;simp only[p72,SS,seval];simp only[aa,VV,seval];refine⟨λh=>?_,λh=>?_⟩
 .refine bK (.inr rfl) rfl ⟨?_,rfl⟩;have:jG a b=G:=by cases f:jG a b with|false=>rfl|true=>have:=M4 f;simp at h;omega
  simp[Pm.one,this]
 have e:Y a=Y b:=by simp at h;omega
 refine cB.bX ?_ (Y a+1) (aks a b c e a b [] [] rfl rfl rfl (λh=>?_) (λh=>?_));.repeat' constructor
 .simp only[JE];intros;simp only[VV,seval];exact bK (.inr rfl) rfl ⟨by simp[Pm.one,h],rfl⟩
 simp only[JE];intros;exact bK (.inr rfl) rfl ⟨by simp[Pm.one,h],rfl⟩
def agW(g:N<2^40):∀(k i:Nat),i+k=N ->((fj 3 (fh (.own X.length N) (fj 11 fo))) λd=>K (.exit 0) ⟨d,X++[.row 3 1 8 N G ((eH N).map cN)]⟩) ->gw (Y X) κ Pe K (k+1) ⟨(.I N::uu 2 (.own X.length i::.I ((i+1:Nat):Int)::uu 10 [])),X++[.row 3 1 8 i G ((eH i).map cN)]⟩:=by
 intro k;induction k with
 |zero =>
  intro i a b;have a:i=N:=by omega
  subst a;refine az λR c=>?_;simp only[Pe,VV,seval];exact⟨λh=>by simp at h<;>omega,λ_=>b ..⟩
 |succ k ih =>
 intro i a b;refine az λR c=>?_;have e:(eH i).map cN++[[.I ((i+1:Nat):Int)]]=(eH (i+1)).map cN:=by simp[eH,u6,cN]
 have f:Y (eH i)=i:=by simp[eH]
 simp only[Pe,e,aa,f,VV,seval];refine⟨λ_=>⟨⟨by omega,by simp only[maxLen];omega⟩,?_⟩,λh=>by simp at h<;>omega⟩;refine c _ (bX ?_ (ih (i+1) (by omega) b));rw[da (by omega)];repeat' constructor
def YU(a:N<2^40)(J:aj):bh κ 131 [.I N] J (.sl 1 ((eH N).map cN)):=by
 refine aW func131 apU.2 λb c=>aq ?_;simp only[apU,SS,seval];simp only[VV,seval];refine cB.wk ((Wk.k9 (k:=3) tI rfl).trans (Wk.fw ?_)) (cB.kT (N+1) (agW N a N 0 (by omega) ?_));.simp only[VV,seval];repeat' constructor
 simp only[JE];intros;simp only[VV,seval];refine iw 0 b (.inr rfl) rfl rfl ?_ ?_;.simp[fz,kE,jt,Az]
 simp[fz,kE,Pm.one]
def agX(u:bT X)(k:Y a<2^40):∀(d j:List It) (f:bU) (g:Nat),a=j++d->Y f<=Y j ->(∀g,((fj 3 (fh (.own X.length g) (fj 31 fo))) λr=>K (.exit 0) ⟨r,X++[.row 3 1 8 g θ ((eX f d).map cN)]⟩)) ->gw (Y X) κ Pf K (Y d+1) ⟨(.sl 3 (a.map It.azR)::uu 2 (.own X.length g::uu 2 (.I (Y a)::.I (Y j)::uu 27 []))),X++[.row 3 1 8 g θ (f.map cN)]⟩:=by
 intro d;induction d with
 |nil =>intro j f g n s l;have n:=dL n;subst n;refine az λR o=>?_;simp only[Pf,VV,seval];exact⟨λh=>by simp at h,λ_=>l g ..⟩
 |cons y d ih =>
 intro j f g n s l;subst n;have q:=dD j y (by simp at k;omega);refine az λR o=>?_;simp only[Pf,It.azR,VV,seval];refine⟨λ_=>⟨by simp;omega,?_⟩,λh=>by simp at h<;>omega⟩;refine al (CP y _) rfl ?_;have m:(0:Int)<=Y j/\(Y j:Int)<Y (List.map It.azR (j++y::d)):=by simp;omega
 cases p:fp y with
 |false =>
  have e:eX f (y::d)=eX f d:=by simp[eX,p]
  rw[e]at l;simp only[It.azR,VV,seval];refine⟨λh=>by simp at h,.I 0,λh=>by simp at h,?_⟩;refine bV (c:=G) (v:=.b G) (by rfl) (λh=>by simp at h) rfl ?_;simp only[VV,seval];refine o _ (bX ?_ (ih (j++[y]) f g (by simp) (by simp;omega) l));rw[q];repeat' constructor
 |true =>
 simp only[It.azR,VV,seval];refine⟨m,.I y.id,rfl,?_⟩;refine bV (c:=θ) (by rfl) (λ_=>PC.fzs X.length (by simp only[jD];rfl) (abY f y.id _) (by simp only[aI,ar,ev,bB,aX,fz,kE,cG,aU])) rfl ?_;simp only[It.azR,VV,seval];refine⟨λh=>?_,λh=>?_⟩
 .have h:f.contains y.id=G:=by rw[dG]at h;exact h
  have e:eX f (y::d)=eX (f++[y.id]) d:=by simp only[eX,p,h,nc,ar7,aU]
  rw[e]at l;have t:f.map cN++[[V.i .i64 y.id]]=(f++[y.id]).map cN:=by simp[cN]
  rw[t];refine⟨m,⟨by simp at k |-;omega,by simp at k |-;simp only[maxLen];omega⟩,?_⟩;refine o _ (bX ?_ (ih (j++[y]) (f++[y.id]) (g+1) (by simp) (by simp;omega) l));rw[q];repeat' constructor
 have h:f.contains y.id=θ:=by rw[eP]at h;exact h
 have e:eX f (y::d)=eX f d:=by simp only[eX,p,h,k7,eV];rfl
 rw[e]at l;refine o _ (bX ?_ (ih (j++[y]) f g (by simp) (by simp;omega) l));rw[q];repeat' constructor
def Oo(b:Y a<2^40)(J:aj):bh κ 130 [.sl 3 (a.map It.azR)] J (.sl 1 ((az8 a).map cN)):=by
 refine aW func130 apV.2 λc d=>aq ?_;simp only[apV,SS,seval];simp only[aa,VV,seval];refine cB.wk ((Wk.k9 (k:=3) tI rfl).trans (Wk.ajO.trans (Wk.fw ?_))) (cB.kT (Y a+1) (agX a c b a [] [] 0 rfl (aM _) ?_));.simp only[VV,seval];repeat' constructor
 intro g;simp only[JE];intros;simp only[VV,seval];refine iw 0 c (.inr rfl) rfl rfl ?_ ?_;.simp[fz,kE,jt,Az]
 simp[fz,kE,Pm.one,az8]
def Q9:Ti κ 70 3 32:=o8 (by kernel_rfl)
def XM(O:bT X)(j:Y a<2^40)(z:bo a<2^40):∀(c e d:List It) (g:Nat),a=e++c->Y d<=Y e->bo d<=bo e ->(∀g,((fj 3 (fh (.own X.length g) (fj 57 fo))) λH=>K (.exit 0) ⟨H,X++[.row 70 3 32 g G ((c.foldl fg d).map It.azR)]⟩)) ->gw (Y X) κ Jf K (Y c+1) ⟨(.sl 3 (a.map It.azR)::uu 2 (.own X.length g::uu 4 (.I (Y a)::.I (Y e)::uu 51 []))),X++[.row 70 3 32 g G (d.map It.azR)]⟩:=by
 intro c;induction c with
 |nil =>intro e d g p F B v;have p:=dL p;subst p;refine az λR k=>?_;simp only[Jf,VV,seval];exact⟨λh=>by simp at h,λ_=>v g ..⟩
 |cons x c ih =>
 intro e d g p F B v;subst p;have next:∀(b:List It) (t:Nat) {m:aj},fg d x=b->∀{R:ck} {w:aB},(∀r,gw (Y X) κ Jf K (Y c+1) r->R r) ->
   rk w (.sl 3 ((e++x::c).map It.azR)::uu 2 (.own X.length t::uu 4 (.I (Y (e++x::c))::.I (IntKind.i64.wrap ((Y e:Int)+1))::uu 51 [])))->R ⟨w,X++(.row 70 3 32 t G (b.map It.azR)::m)⟩:=by
  intro b t m E R w k D;have Q:=dD e x (by simp at j;omega);rw[Q]at D;have u:=vB d x;rw[E]at u;have N:(x::c).foldl fg d=c.foldl fg b:=by rw[bH,E]
  rw[N]at v;refine k _ (cn [_] m (cj O (by simp)) D ?_ (ih (e++[x]) b t (by simp) (by simp;omega) (by simp only[iz,bo];omega) v));simp only[LW,ae,ai,aG];omega
 have n:(Y d+1)*32<=2^47/\Y d+1<=maxLen:=by simp at j;simp[maxLen];omega
 refine az λR k=>?_;simp only[Jf,It.azR,VV,seval];refine⟨λ_=>⟨by simp;omega,λi=>?_,λi=>⟨λf=>?_,λf=>?_⟩⟩,λh=>by simp at h<;>omega⟩
 .have i:x.azT≠1:=by simpa using i
  have o:d.map It.azR++[[.I x.azT,.s x.azX,.I x.id]]=(d++[x]).map It.azR:=by simp[It.azR]
  refine⟨by rw[aa];exact n,?_⟩;rw[o];refine next (d++[x]) (g+1) (by simp[fg,i]) k ?_;repeat' constructor
 .have i:x.azT=1:=by simpa using i
  have f:x.azX=[]:=by simpa using f
  refine next d g (by simp[fg,i,f]) k ?_;repeat' constructor
 have i:x.azT=1:=by simpa using i
 have f:x.azX≠[]:=by simpa using f
 rcases gE d with P|⟨b,y,q⟩;.subst P;have A:decide ((0:Int)<(Y ([]:fx):Int))=G:=rfl;simp only[ar,A];refine⟨λh=>by simp at h,.I 0,λh=>by simp at h,?_⟩;simp only[VV,seval];refine⟨by decide,next [⟨1,x.azX,0⟩] (g+1) (by simp[fg,i,f]) k ?_⟩;repeat' constructor
 rw[fU]at q;subst q;have C:IntKind.i64.wrap ((Y (b++[y]):Int) - 1)=Y b:=by
  have:Y (b++[y])<2^63:=by simp at F j |-;omega
  rw[IntWalk.i64_in _ (by simp at this |-;omega)];simp
 have J:gv (List.map It.azR (b++[y])) b.length 0=S (.I y.azT):=by rw[qK];rfl
 have A:decide ((0:Int)<(Y (List.map It.azR (b++[y])):Int))=θ:=by simp
 simp only[A,aa,C,ak,J];refine⟨λ_=>by simp;omega,.I y.azT,λ_=>⟨True,rfl,trivial⟩,?_⟩;have L:decide ((0:Int)<(Y (b++[y]):Int))=θ:=by simp
 have M:gv (List.map It.azR (b++[y])) b.length 1=S (.s y.azX):=by rw[qK];rfl
 simp only[L,C,ak,M,aa,VV,seval];have u:(0:Int)<=(Y b:Int)/\(Y b:Int)<(Y (b++[y]):Int):=⟨by omega,by rw[ah,List.length_singleton];omega⟩;refine⟨λl=>⟨u,?_,u,by omega,?_⟩,λl=>⟨n,?_⟩⟩;.simp only[iz,bo]at B z;simp only[maxLen];omega
 .have l:y.azT=1:=by simpa using l
  have o:(List.map It.azR (b++[y])).set b.length (.I 1::.s (y.azX++x.azX)::.I 0::List.drop 3 y.azR)=(b++[(⟨1,y.azX++x.azX,0⟩:It)]).map It.azR:=by simp[List.set_append,It.azR]
  rw[o];refine next (b++[⟨1,y.azX++x.azX,0⟩]) g (by simp[fg,i,f,l]) k ?_;repeat' constructor
 have l:¬y.azT=1:=by simpa using l
 have o:List.map It.azR (b++[y])++[[.I 1,.s x.azX,.I 0]]=(b++[y]++[(⟨1,x.azX,0⟩:It)]).map It.azR:=by simp[It.azR]
 rw[o];refine next (b++[y]++[⟨1,x.azX,0⟩]) (g+1) (by simp[fg,i,f,l]) k ?_;repeat' constructor
def Ak(b:Y a<2^40)(d:bo a<2^40)(J:aj):bh κ 185 [.sl 3 (a.map It.azR)] J (.sl 3 ((az9 a).map It.azR)):=by
 refine aW func185 afZ.2 λc f=>aq ?_;simp only[afZ,SS,seval];simp only[aa,VV,seval];refine cB.wk ((Wk.k9 (k:=3) Q9 rfl).trans (Wk.fw ?_)) (cB.kT (Y a+1) (XM a c b d a [] [] 0 rfl (aM _) (aM _) ?_));.simp only[VV,seval];repeat' constructor
 intro g;simp only[JE];intros;simp only[VV,seval];refine iw 0 c (.inr rfl) rfl rfl ?_ ?_;.simp[fz,kE,jt,Az]
 have e:a.foldl fg []=az9 a:=tR a;simp[fz,kE,Pm.one,e]
def qX(b:List It)(f:Y a<2^39)(e:Y b<2^39)(h:bo a<2^39)(c:bo b<2^39)(J:aj):bh κ 134 [.sl 3 (a.map It.azR),.sl 3 (b.map It.azR)] J (.sl 3 ((az9 (a++b)).map It.azR)):=by refine aW func134 af2.2 λd g=>aq ?_;simp only[af2,SS,seval];simp only[aa,VV,seval];refine⟨by simp[maxLen];omega,by simp[maxLen];omega,?_⟩;refine tv J.length (by simp only[jD];rfl) (Ak (a++b) (by simp;omega) (by rw[iz];omega) _) (by simp[fz,kE,ev]) ?_;simp only[VV,seval];exact gm d (by rfl) (by simp[LW])
def o5:(mb X n l k++U)[Y X]?=U[0]?:=by rw[bn (by rw[cJ];exact aM _),cJ,iP]
def nb:(mb X n l k++U)[Y X+j]?=U[j]?:=by rw[bn (by rw[cJ];omega),cJ,ee]
def jF:(mb X n l k++U).set X.length o=mb X n l k++U.set 0 o:=by rw[dX _ _ (by rw[cJ];exact aM _),cJ,iP]
def rn:(mb X n l k++U).set (Y X+j) o=mb X n l k++U.set j o:=by rw[dX _ _ (by rw[cJ];omega),cJ,ee]
def pn{k k':Nat}(h:bT (mb X n l k)):bT (mb X n l k'):=by
 intro id T c a j x b;by_cases e:n=id
 .subst e;simp only[mb]at a;rw[jR]at a;simp only[aU]at a;split at a
  .simp only[ab,Ob.box.injEq]at a;obtain⟨_,rfl⟩:=a;rcases j with _|_|j;.simp only[aC,ab]at b;subst b;exact .sl _ _
   .simp only[bY,aC,ab]at b;subst b;exact .i _ _
   simp at b
  simp at a
 have d:(mb X n l k)[id]?=S (.box T c):=by simp only[mb]at a |-;rw[bN e]at a |-;exact a
 have:=h id T c d j x b;rw[cJ]at this |-;exact this
def kJ(b:N<Y J)(l:bU)(k:Nat)(g:k<2^60)(n:Int)(h:0<n)(f:n<2^62)(a:aj): PC κ 37 [.ptr N 0,.I n] (mb J N l k++a) (λr c=>∃v:Int,r=.I v/\(0<=v/\v<n)/\c=mb J N l (k+1)++a):=by rw[oZ b];refine(D5 (J++a) N (by rw[ah];omega) l k g n h f).mono ?_;rintro r c ⟨v,e,i,d⟩;exact⟨v,e,i,by rw[d,oZ b]⟩
def XO(c:N<Y J)(l:bU)(k:Nat)(h:k<2^58)(n:Nat)(i:n<2^20)(a:aj): PC κ 188 [.ptr N 0,.I n] (mb J N l k++a) (λr d=>∃(s:aR) (b:Nat),r=.s s/\Y s<=6*n/\(k<=b/\b<=k+2*n+1)/\d=mb J N l b++a):=by rw[oZ c];refine(ahc (J++a) N (by rw[ah];omega) l k h n i).mono ?_;rintro r d ⟨s,b,g,j,e,f⟩;exact⟨s,b,g,j,e,by rw[f,oZ c]⟩
def ql{f:List It}(h:cz [] f=0):bo (az9 (f++[R]))<=bo f+R.azX.length/\Y (az9 (f++[R]))<=Y f+1:=by rw[lP (vA h)];exact vB f R
def zM(t:aR):gW:=[[114,111,116],[100,97,115,32,65,117,116,111],[],[101,105,110,32]++t,t]
def NW{a:aR}(h:a∈zM w):Y a<=Y w+8:=by simp only[zM,bd,bD,mZ]at h;rcases h with rfl|rfl|rfl|rfl|rfl<;>simp
def agT(s:N<Y J)(l:bU)(m:Nat)(S3:m<2^50)(bc:bT (mb J N l m))(src:List It)(u:cz [] src=0)(P:Y src<=100)(af:bo src<=10000): ∀(b a f:List It) (k:Nat),src=a++b->V5 a f->Y f<=2*Y a->bo f<=bo a+20*Y a->(m<=k/\k<=m+10*Y a) ->(∀(k:Nat) (f:List It),V5 src f->Y f<=2*Y src->bo f<=bo src+20*Y src->(m<=k/\k<=m+10*Y src)->((fj 5 (fh (.sl 3 (f.map It.azR)) (fj 40 fo))) λQ=>K (.exit 0) ⟨Q,mb J N l k⟩)) ->gw (Y J) κ Ji K (Y b+1) ⟨(.ptr N 0::.sl 3 (src.map It.azR)::uu 3 (.sl 3 (f.map It.azR)::uu 3 (.I (Y src)::.I (Y a)::uu 35 []))),mb J N l k⟩:=by
 intro b;induction b with
 |nil =>intro a f k o c M p F C;have o:=dL o;subst o;refine az λR H=>?_;simp only[Ji,VV,seval];exact⟨λh=>by simp at h,λ_=>C k f c M p F ..⟩
 |cons x b ih =>
 intro a f k o c M p F C;subst o;have ac:bo (a++x::b)=bo a+(Y x.azX+bo b):=by rw[iz];rfl
 have W:bo (a++[x])=bo a+Y x.azX:=by rw[iz];simp[bo]
 have X:Y (a++[x])=Y a+1:=by simp
 have SY:Y (a++x::b)=Y a+(Y b+1):=by simp
 have d:IntKind.i64.wrap ((Y a:Int)+1)=((Y (a++[x]):Nat):Int):=by rw[da (by omega),X]
 have O:(0:Int)<=Y a/\(Y a:Int)<Y (List.map It.azR (a++x::b)):=by simp;omega
 refine az λR H=>?_;have i:∀(g:List It) (j:Nat) (y:aB) (q:aj),V5 (a++[x]) g->Y g<=Y f+2->bo g<=bo f+Y x.azX+20->(k<=j/\j<=k+10) ->
   rk y (.ptr N 0::.sl 3 ((a++x::b).map It.azR)::uu 3 (.sl 3 (g.map It.azR)::uu 3 (.I (Y (a++x::b))::.I (Y (a++[x]))::uu 35 [])))->R ⟨y,mb J N l j++q⟩:=by intro g j y q U g2 g3 g4 V;refine H _ (vj (by rw[cJ];exact aM _) (pn bc) V ?_ (ih (a++[x]) g j (by simp) U (by omega) (by omega) (by omega) C));simp only[cJ,s,LW]
 by_cases e:x.azT=1
 .have D:(x.azT==1)=θ:=by simp[e]
  simp only[Ji,ak,It.azR,D,cJ,o5,jF,VV,seval];refine⟨λ_=>⟨O,by simp only[maxLen];omega,?_⟩,λh=>by simp at h<;>omega⟩;refine dZ (kJ J N s l k (by omega) 5 (by decide) (by decide) _) rfl ?_;rintro _ _ ⟨v,rfl,T,rfl⟩;obtain⟨w,Vl,E⟩:=pD (ws:=zM x.azX) (n:=v.toNat) (by simp[zM];omega);have P5:=NW Vl;simp only[zM,aI,ar,aF,ay]at E;simp only[E,cJ,o5,jF,d,VV,seval];refine⟨by omega,?_⟩;have z:x.id=0:=by rw[uh,xc]at u;exact(BF e u.2.1).2.1
  have A:=ql ⟨1,w,0⟩ c.err;refine iN (zs:=[.sl 3 (f.map It.azR),.sl 3 ([(⟨1,w,0⟩:It)].map It.azR)]) ?_ (qX f [⟨1,w,0⟩] (by omega) (by simp) (by omega) (by simp[bo];omega) _) ?_;.simp only[e,z];exact .cons (.refl _) (.cons (.lit _ _) .nil)
  simp only[d,VV,seval];refine i _ _ _ _ (c.azX e w) (by omega) (by simp only at A;omega) (by omega) ?_;repeat' constructor
 have D:(x.azT==1)=G:=by simpa using e
 simp only[Ji,ak,It.azR,D,cJ,o5,jF,VV,seval];refine⟨λ_=>⟨O,?_⟩,λh=>by simp at h<;>omega⟩;refine dZ (kJ J N s l k (by omega) 3 (by decide) (by decide) _) rfl ?_;rintro _ _ ⟨v,rfl,T,rfl⟩;have am:(⟨x.azT,x.azX,x.id⟩:It)=x:=rfl;by_cases L:v=0
 .have B:(v==0)=θ:=by simp[L]
  simp only[B,cJ,o5,jF,d,VV,seval];refine dZ (XO J N s l (k+1) (by omega) 2 (by decide) _) rfl ?_;rintro _ _ ⟨t,j,rfl,ht,ad,rfl⟩;have A:=ql ⟨1,t,0⟩ c.err;simp only at A;have r:=c.more t;have tt:=ql x r.err;simp only[cJ,o5,jF,d,VV,seval];refine iN (zs:=[.sl 3 (f.map It.azR),.sl 3 ([(⟨1,t,0⟩:It)].map It.azR)]) (.cons (.refl _) (.cons (.lit _ _) .nil)) (qX f [⟨1,t,0⟩] (by omega) (by simp) (by omega) (by simp[bo];omega) _) ?_;simp only[cJ,o5,jF,d,VV,seval];refine iN (zs:=[.sl 3 ((az9 (f++[(⟨1,t,0⟩:It)])).map It.azR),.sl 3 ([x].map It.azR)]) (.cons (.refl _) (.cons (.lit _ _) .nil)) (qX _ [x] (by omega) (by simp) (by omega) (by simp[bo];omega) _) ?_;simp only[d,VV,seval];refine i _ _ _ _ (r.item u e) (by omega) (by omega) (by omega) ?_;repeat' constructor
 have B:(v==0)=G:=by simpa using L
 have tt:=ql x c.err;simp only[B,cJ,o5,jF,d,VV,seval];refine iN (zs:=[.sl 3 (f.map It.azR),.sl 3 ([x].map It.azR)]) (.cons (.refl _) (.cons (.lit _ _) .nil)) (qX f [x] (by omega) (by simp) (by omega) (by simp[bo];omega) _) ?_;simp only[d,VV,seval];refine i _ _ _ _ (c.item u e) (by omega) (by omega) (by omega) ?_;repeat' constructor
def Yq(m:N<Y J)(l:bU)(k:Nat)(h:k<2^50)(src:List It)(n:cz [] src=0)(b:Y src<=100)(c:bo src<=10000): PC κ 138 [.ptr N 0,.sl 3 (src.map It.azR)] (mb J N l k) (λr g=>∃(f:List It) (a:Nat),r=.sl 3 (f.map It.azR)/\cz [] f=0/\Y f<=2*Y src/\bo f<=bo src+20*Y src/\(k<=a/\a<=k+10*Y src)/\g=mb J N l a):=by
 refine aW func138 apO.2 λo p=>aq ?_;simp only[apO,SS,seval];simp only[aa,cJ,VV,seval];refine cB.bX (fr':=(.ptr N 0::.sl 3 (src.map It.azR)::uu 3 (.sl 3 (([]:List It).map It.azR)::uu 3 (.I (Y src)::.I (Y ([]:List It):Nat)::uu 35 [])))) ?_ (Y src+1) (agT J N m l k h o src n b c src [] [] k rfl V5.nil (by simp) (by simp[bo]) (by simp) ?_);.simp only[ar,ai];repeat first|exact .nil|refine .cons (.refl _) ?_|refine .cons (.nil _) ?_|refine .cons (.forget _) ?_
 intro a f d e i j;simp only[JE];intros;simp only[VV,seval];exact dS (.inr rfl) rfl (Wk.refl _ _) (by simp[cJ]) ⟨f,a,rfl,d.err,e,i,j,rfl⟩
end Go.Proofs.Tryz

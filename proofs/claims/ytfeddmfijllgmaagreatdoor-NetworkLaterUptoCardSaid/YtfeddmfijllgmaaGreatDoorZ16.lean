/- Part of a proof. -/
import Derived.Sort.KeysCollected
import Derived.Test.YtfeddmfijllgmaaGreatDoorZ14
set_option linter.all false
set_option maxHeartbeats 4000000
open Option renaming some->S
open Bool renaming true->G,false->Z
open Go.Proofs.Tryz renaming prog->A
open List renaming length->X
namespace Go.Pm
open Go Go.RowKit Go.Bt
variable{f:Nat}{J:ai}{U:ar}{P:bl}{T:eJ}
def PC.ofRow{E c by':Nat}(y:Ti P E c by') (h:∀(B:Nat) (n w:bF) (μ:Mem) (k:Array Value),kN P B n w J μ->VRs w J μ U k->Calls P f k w λe w'=>∃v a,e=.returned v/\w'.ownsRow w.heap.size E c v T.length a/\Below w.heap.size w w'/\lU w J μ T c a) : PC P f U J (λr x=>r=.own J.length 0/\x=J++[.row E c by' 0 Z T]):=by
 intro B n w μ k o D;refine(h B n w μ k o D).mono ?_;rintro e w' ⟨v,a,rfl,m,u,F⟩;have s:=o.w7 (w':=w') (.row E c by' 0 Z T) v (mo u) (λb d=>by
   rcases m.2 with⟨rfl,_⟩|⟨g,i,j,rfl,q,_⟩;.simp[l9]at d
   simp only[l9,aa]at d;omega)
  (λz=>⟨y,a,⟨m.1,by
   rcases m.2 with l|⟨g,i,j,l,q,t⟩;.exact .inl l
   exact .inr ⟨g,i,j,l,cE o.base q,t⟩⟩,F.dX z.dX⟩);have C:(J++[.row E c by' 0 Z T])[J.length]?=S (.row E c by' 0 Z T):=by simp
 have p:=VR.qT (w:=w') (μ:=xX μ J.length v) C;rw[gy]at p;exact⟨_,v,_,_,rfl,⟨rfl,rfl⟩,s.1,p,s.2.dX⟩
def PC.aid{E c by':Nat}(m:Ti P E c by') (h:∀(B:Nat) (g w:bF) (b:Mem) (d:Array Value),kN P B g w J b->VRs w J b U d->Calls P f d w λe i=>∃v a,e=.returned v/\i.ownsRow w.heap.size E c v (X T) a/\Below w.heap.size w i/\lU w J b T c a) : PC P f U J (λr k=>r=.sl c T/\k=J) :=λB g w b d j l=>PC.fz j.closed (PC.ofRow m h) B g w b d j l
def A8{a d:Type}{l:List a}{f:a->d}(h:∀(i j:Nat) (x y:a),l[i]?=S x->l[j]?=S y->f x=f y->i=j):(l.map f).Nodup:=by rw[akn,gD];intro i j c b g e;simp only[ac5]at e;simp only[ab]at c b;have:=h i j _ _ (aA c) (aA b) e;omega
def aap{w0 w:bF}{W:Mem}(hS:kN P f w0 w J W){β:Type}{I:β->V}{id K E:Nat}{l:List (aL×β)}(ho:J[id]?=S (.map K E (emap keS I l))) (hk:P.underlying K=S .string) (L:(l.map (·.1)).Nodup) (hl:X l<=maxLen) : ∃b D,W id=.map (S b)/\w.ownsMap (H:=Unit) P K (λ_=>S (.nil,[])) b (X l) D/\Maps.size D=X l/\(strKeys D).Perm (l.map (·.1)):=by
 obtain⟨b,d,clock,hm,hB,hh,h1,h2,h3,h4⟩:=hS.obj id _ ho;have r:d.size=X l:=by rw[h1];simp[emap]
 have o:∀(i:Nat) (e:MapEntry),d[i]?=S e->∃p,l[i]?=S p/\∃x:ByteArray,e.key=.string x/\x.data.toList=p.1/\X p.1<=maxLen:=by
  intro i e z;have g:i<X l:=by rw[<- r];exact(cB.1 z).1
  have k:=aA g;have Q:(emap keS I l)[i]?=S (keS (l[i]).1,I (l[i]).2):=by simp[emap,k]
  obtain⟨_,_,e',M,h6,_⟩:=h2 i _ _ Q;rw[z]at M;simp only[aa]at M;subst M;obtain⟨x,F,B,n⟩:=VR.pT (l:=(l[i]).1) h6;exact⟨_,k,x,F,B,n⟩
 have s:∀(i:Nat) (e:MapEntry),d[i]?=S e->∃p,l[i]?=S p/\WideElems.rd (H:=Unit) P K (λ_=>S (.nil,[])) e=S (.string p.1,.nil):=by
  intro i e z;obtain⟨p,k,x,F,B,n⟩:=o i e z;refine⟨p,k,?_⟩;have iz:x.size<=maxLen:=by
   have:x.size=X x.data.toList:=by simp
   rw[this,B];exact n
  simp[WideElems.rd,keyOf,hk,mapKey,F,iz,B]
 have v:d.toList.map (WideElems.rg (H:=Unit) P K (λ_=>S (.nil,[])))=l.map λp=>(Lit.string p.1,DataW.nil):=by
  apply jF;intro i;rw[bP,bP];by_cases g:i<X l
  .have IX:i<d.size:=by omega
   obtain⟨p,k,O⟩:=s i d[i] (bZ IX);have e1:d.toList[i]?=S d[i]:=by simp[IX]
   rw[e1,k];simp[WideElems.rg,O]
  rw[cp (by simp;omega),cp (by omega)];rfl
 refine⟨b,_,hm,⟨d,clock,hh,⟨by omega,⟨?_,?_,?_⟩,?_⟩,by omega,rfl⟩,?_,?_⟩;.intro x m;obtain⟨i,g⟩:=df.1 m;exact h3 i x (by simpa using g)
 .refine A8 λi j x y m N e=>h4 i j x y (by simpa using m) (by simpa using N) e
 .refine A8 λi j x y m N e=>?_;obtain⟨p,k,a,C,R,_⟩:=o i x (by simpa using m);obtain⟨q,hq,c,SX,xp,_⟩:=o j y (by simpa using N);rw[C,SX]at e;have T:p.1=q.1:=by rw[<- R,<- xp];cases e;rfl
  rw[akn,gD]at L;have g:=(ag.1 k).1;have U:=(ag.1 hq).1;have u:=(ag.1 k).2;have t:=(ag.1 hq).2;rcases Nat.lt_trichotomy i j with h|h|h;.have:=L i j (by simpa using g) (by simpa using U) h;simp only[ac5,u,t]at this;exact absurd T this
  .exact h
  have:=L j i (by simpa using U) (by simpa using g) h;simp only[ac5,u,t]at this;exact absurd T.symm this
 .intro x m;obtain⟨i,g⟩:=df.1 m;obtain⟨p,_,O⟩:=s i x (by simpa using g);exact⟨_,O⟩
 .rw[v,Maps.size_eq,(WideShapes.sorted_perm _).length_eq];simp
 rw[v];simp only[strKeys];refine((WideShapes.sorted_perm _).map _).trans ?_;rw[kO];exact List.Perm.of_eq (by apply eH;intro p _;rfl)
end Go.Pm
namespace Go.Proofs.Tryz
open Go Go.Pm Go.Bt
variable(J:ai)(N:Nat)(R:bH)(a:List It)(s:aL)(b:List It)(Q:Nat)(x:Int)(P:It){f:List It}{n k j:Nat}{o:Ob}{w:aL}{U T:ai}{K:bG}{l:bH}
def F2(x n:Int)(b:0<n)(f:n<2^62)(J:ai):bh A 17 [.I x,.I n] J (.I (place x n)):=by
 refine aT func17 p17.2 λc d=>an ?_;simp only[p17,SS,seval];simp only[VV,seval];refine⟨by omega,λh=>?_,λh=>?_⟩
 .have h:x.tmod n<0:=by simpa using h
  have a:=s8 (x:=x) b;have e:place x n=x.tmod n+n:=by simp only[place,aO h]
  refine bt rfl ⟨?_,rfl⟩;rw[e]at a |-;simp only[Pm.cM,aQ,bj];rw[IntWalk.i64_in _ (by omega)]
 have h:¬x.tmod n<0:=by simpa using h
 have e:place x n=x.tmod n:=by simp only[place,ao h]
 exact bt rfl ⟨by rw[e];rfl,rfl⟩
def lV(k:Nat):ai:=J.set N (.box 84 [.sl 1 (R.map cG),.I k])
def cq:X (lV J N R Q)=X J:=by simp[lV]
def mW(h:n<X U):lV U n l k++T=lV (U++T) n l k:=by simp only[lV];rw[iu _ _ h]
def U9(h:n<X U):(lV U n l k)[n]?=S (.box 84 [.sl 1 (l.map cG),.I k]):=by simp[lV,h]
def U8:(lV U n l k).set n (.box 84 [.sl 1 (l.map cG),.I (j:Int)])=lV U n l j:=by simp[lV]
def PH(d:N<X J)(l:bH)(k:Nat)(j:k<2^60)(n:Int)(e:0<n)(a:n<2^62): PC A 37 [.ptr N 0,.I n] (lV J N l k) (λr f=>r=.I (place (l.getD k 0) n)/\f=lV J N l (k+1)):=by
 refine aT func37 p37.2 λi m=>an ?_;simp only[p37,SS,seval];have c:IntKind.i64.wrap ((k:Int)+1)=((k+1:Nat):Int):=cT (by omega);by_cases h:k<X l
 .have b:decide ((k:Int)<(X l:Int))=G:=by simp;omega
  simp only[U9 d,ab,b,c,U8,al,sH h,VV,seval];refine⟨by omega,?_⟩;refine ak (F2 (l.getD k 0) n e a _) rfl ?_;simp only[VV,seval];exact fp rfl (Wk.refl _ _) rfl ⟨rfl,rfl⟩
 have b:decide ((k:Int)<(X l:Int))=Z:=by simp;omega
 have g:l.getD k 0=0:=by rw[ax,cp (by omega)];rfl
 simp only[U9 d,ab,b,c,U8,VV,seval];refine ak (F2 0 n e a _) rfl ?_;simp only[VV,seval];exact fp rfl (Wk.refl _ _) rfl ⟨by rw[g];rfl,rfl⟩
def A9(e:N<X J)(l:bH)(k:Nat)(d:k<2^60)(n:Int)(b:0<n)(a:n<2^62): PC A 37 [.ptr N 0,.I n] (lV J N l k) (λr c=>∃v:Int,r=.I v/\(0<=v/\v<n)/\c=lV J N l (k+1)) :=(PH J N e l k d n b a).mono λ_ _ h=>⟨_,h.1,s8 b,h.2⟩
def xt:gf:=[[114,101,100],[99,97,114],[82,101,100],[97],[99,97,114,115],[49,44,53],[50,50],[100,111,110,39,116],[46],[33],[32],[32,32],[60],[38],[123],[34],[92],[120,45,121],[10],[61],[125],[62],[9],[98]]
def nB{ws:gf}{n:Nat}(h:n<X ws):∃w∈ws,gi (ws.map λs=>[V.s s]) n 0=S (V.s w):=by refine⟨ws[n],dQ h,?_⟩;simp[gi,h]
def adt(d:N<X J)(l:bH)(k:Nat)(c:k<2^60): PC A 233 [.ptr N 0] (lV J N l k) (λr b=>∃w:aL,r=.s w/\w∈xt/\b=lV J N l (k+1)):=by refine aT func233 amJ.2 λf g=>an ?_;simp only[amJ,SS,seval];simp only[VV,seval];refine dV (A9 J N d l k c 24 (by decide) (by decide)) rfl ?_;rintro _ _ ⟨v,rfl,h,rfl⟩;obtain⟨w,a,e⟩:=nB (ws:=xt) (n:=v.toNat) (by simp[xt];omega);simp only[xt,az,aq]at e;simp only[e,VV,seval];refine⟨by omega,?_⟩;exact fp rfl (Wk.refl _ _) rfl ⟨w,rfl,a,rfl⟩
def YQ(h:w∈xt):X w<=5:=by revert w;decide
def aeK(i:N<X J)(l:bH)(b:Nat)(z:b<2^59)(n:Nat)(x:n<2^20):∀(m k:Nat) (a:aL),m<=n->(b<=k/\k<=b+2*(n - m))->X a<=6*(n - m) ->(∀(k:Nat) (a:aL),(b<=k/\k<=b+2*n)->X a<=6*n->((fj 5 (fh (.s a) (fj 25 fo))) λq=>K (.exit 0) ⟨q,lV J N l k⟩)) ->gF (X J) A L3 K (m+1) ⟨(.ptr N 0::uu 4 (.s a::.I m::uu 24 [])),lV J N l k⟩:=by
 intro m;induction m with
 |zero =>intro k a u p t d;refine aD λR g=>?_;simp only[L3,VV,seval];exact⟨nofun,λ_=>d k a (by omega) (by omega) ..⟩
 |succ m ih =>
 intro k a u p t d;have f:IntKind.i64.wrap (((m+1:Nat):Int) - 1)=(m:Int):=by rw[IntWalk.i64_in _ (by omega)];omega
 refine aD λR g=>?_;simp only[L3,f,VV,seval];refine⟨λ_=>?_,λh=>by simp at h<;>omega⟩;refine dV (adt J N i l k (by omega)) rfl ?_;rintro _ _ ⟨w,rfl,r,rfl⟩;have o:=YQ r;simp only[f,VV,seval];by_cases j:a=[]
 .have e:(!a==[])=Z:=by simp[j]
  refine QL (Q:=λ_ _=>True) (c:=Z) (by simp only[e,VV,seval]<;>rfl) (nofun) rfl (nofun) λ_=>⟨.I 0,?_⟩;simp only[e,f,VV,seval];refine⟨by simp only[maxLen];omega,?_⟩;refine g _ (bL ?_ (ih (k+1) (a++w) (by omega) (by omega) (by rw[ae];omega) d));repeat' constructor
 have e:(!a==[])=G:=by simp[j]
 refine QL (c:=G) (by simp only[e,VV,seval]<;>rfl) (λ_=>A9 J N i l (k+1) (by omega) 3 (by decide) (by decide)) rfl ?_ (nofun);rintro _ _ _ ⟨v,rfl,y,rfl⟩;simp only[e,f,VV,seval];refine⟨λh=>⟨by simp only[maxLen];omega,by simp only[maxLen,ae,ah,aj];omega,?_⟩,λh=>⟨by simp only[maxLen];omega,?_⟩⟩;.refine g _ (bL ?_ (ih (k+1+1) (a++32::w) (by omega) (by omega) (by rw[ae,ah];omega) d));repeat' constructor
 refine g _ (bL ?_ (ih (k+1+1) (a++w) (by omega) (by omega) (by rw[ae];omega) d));repeat' constructor
def afh(d:N<X J)(l:bH)(k:Nat)(j:k<2^58)(n:Nat)(i:n<2^20): PC A 188 [.ptr N 0,.I n] (lV J N l k) (λr e=>∃(s:aL) (a:Nat),r=.s s/\X s<=6*n/\(k<=a/\a<=k+2*n+1)/\e=lV J N l a):=by
 refine aT func188 am9.2 λf g=>an ?_;have c:IntKind.i64.wrap ((n:Int)+1)=((n+1:Nat):Int):=cT (by omega);simp only[am9,SS,seval];simp only[c,VV,seval];refine dV (A9 J N d l k (by omega) ((n+1:Nat):Int) (by omega) (by omega)) rfl ?_;rintro _ _ ⟨v,rfl,o,rfl⟩;obtain⟨m,rfl⟩:∃m:Nat,v=m:=⟨v.toNat,by omega⟩;simp only[c,cq,VV,seval];refine cD.bL ?_ (m+1) (aeK J N d l (k+1) (by omega) m (by omega) m (k+1) [] (aB _) (by omega) (by simp) ?_);.repeat' constructor
 intro a b p h;simp only[JE];intros;simp only[VV,seval];exact fp rfl (Wk.refl _ _) (by simp[cq]) ⟨b,a,rfl,by omega,by omega,rfl⟩
def aeL(i:X R<2^63):∀(d f:bH),R=f++d ->(d.contains x=Z->((fj 18 fo) λl=>K (.exit 0) ⟨l,U⟩))->(d.contains x=G->((fj 4 (fh (.b G) (fj 13 fo))) λl=>K .ret ⟨l,U⟩)) ->gF n A L5 K (X d+1) ⟨(.sl 1 (R.map cG)::.I x::uu 5 (.I (X R)::.I (X f)::uu 9 [])),U⟩:=by
 intro d;induction d with
 |nil =>intro f g k j;have g:=dH g;subst g;refine aD λa m=>?_;simp only[L5,VV,seval];exact⟨λh=>by simp at h,λ_=>k rfl ..⟩
 |cons c d ih =>
 intro f g k j;subst g;refine aD λa m=>?_;simp only[L5,cG,VV,seval];refine⟨λ_=>⟨by simp;omega,λh=>?_,λh=>?_⟩,λh=>by simp at h<;>omega⟩
 .have h:c=x:=by simpa using h
  exact j (by simp[h]) ..
 have h:¬c=x:=by simpa using h
 have e:(c::d).contains x=d.contains x:=by
  have:(x==c)=Z:=by simpa using λe=>h e.symm
  simp only[List.contains_cons,this,mz]
 rw[e]at k j;refine m _ (bL ?_ (ih (f++[c]) (by simp) k j));rw[cT (by simp at i;omega)];simp only[ae,ah,aj];repeat' constructor
def ZM(J:ai):bh A 184 [.sl 1 (R.map cG),.I x] J (.b (R.contains x)):=by
 refine aT func184 anc.2 λd c=>an ?_;have a:=oI (c 0 _ rfl).1;rw[ab]at a;simp only[anc,SS,seval];simp only[ab,VV,seval];refine cD.bL ?_ (X R+1) (aeL R x a R [] rfl (λh=>?_) (λh=>?_));.repeat' constructor
 .simp only[JE];intros;simp only[VV,seval];exact bt rfl ⟨by rw[h];rfl,rfl⟩
 simp only[JE];intros;exact bt rfl ⟨by rw[h];rfl,rfl⟩
def ae4(i:X a<2^63):∀(b c:List It) (d:Int),a=c++b ->((fj 3 (fh (.I (gJ d b)) (fj 24 fo))) λm=>K (.exit 0) ⟨m,U⟩) ->gF n A Mo K (X b+1) ⟨(.sl 3 (a.map It.axV)::uu 2 (.I d::uu 2 (.I (X a)::.I (X c)::uu 20 []))),U⟩:=by
 intro b;induction b with
 |nil =>intro c d g f;have g:=dH g;subst g;refine aD λR j=>?_;simp only[Mo,VV,seval];exact⟨λh=>by simp at h,λ_=>f ..⟩
 |cons x b ih =>
 intro c d g f;subst g;have l:=eE c x (by simp at i;omega);refine aD λR j=>?_;simp only[Mo,It.axV,VV,seval];have e:gJ d (x::b)=gJ (IntKind.i64.wrap (d+width x)) b:=rfl;rw[e]at f;refine⟨λ_=>⟨by simp;omega,λh=>⟨by simp;omega,?_⟩,λh=>?_⟩,λh=>by simp at h<;>omega⟩
 .have h:x.axW=1:=by simpa using h
  have k:width x=X x.ax1:=by simp[width,h]
  rw[k]at f;refine j _ (bL ?_ (ih (c++[x]) _ (by simp) f));rw[l];repeat' constructor
 have h:¬x.axW=1:=by simpa using h
 have k:width x=1:=by simp[width,h]
 rw[k]at f;refine j _ (bL ?_ (ih (c++[x]) _ (by simp) f));rw[l];repeat' constructor
def O4(J:ai):bh A 128 [.sl 3 (a.map It.axV)] J (.I (gJ 0 a)):=by
 refine aT func128 anZ.2 λd c=>an ?_;have b:=oI (c 0 _ rfl).1;rw[ab]at b;simp only[anZ,SS,seval];simp only[ab,VV,seval];refine cD.bL ?_ (X a+1) (ae4 a b a [] 0 rfl ?_);.repeat' constructor
 simp only[JE];intros;simp only[VV,seval];exact bt rfl ⟨rfl,rfl⟩
def Sd(b:UInt8)(J:ai):bh A 232 [.i .u8 b.toNat] J (.I (nL b)):=by refine aT func232 amK.2 λc e=>an ?_;simp only[amK,SS,seval];simp only[W,seval];clear e c;refine⟨λa=>?_,λa=>⟨λf=>?_,λf=>⟨λd=>?_,λd=>⟨λg=>?_,λg=>?_⟩⟩⟩⟩<;>refine bt rfl ⟨?_,rfl⟩<;>simp at*<;> simp only[Pm.cM,nL,aQ,bj,V.i.injEq,jd]<;>(repeat' split)<;>omega
def zN(J:ai):bh A 182 [.agg P.axV] J (.b (eB P)):=by refine aT func182 anf.2 λa c=>an ?_;simp only[anf,It.axV,SS,seval];simp only[VV,seval];refine aS a rfl (by simp[LW]) ⟨?_,rfl⟩;simp only[Pm.cM,eB,aQ,bj]
def ae0{n:Nat}{J:ai}{K:bG}(s:aL)(g:X s<2^63):∀(a d:aL),s=d++a->d≠[] ->(a.all kS=G->((fj 44 fo) λk=>K (.exit 0) ⟨k,J⟩))->(a.all kS=Z->((fj 2 (fh (.b Z) (fj 41 fo))) λk=>K .ret ⟨k,J⟩)) ->gF n A Gg K (X a+1) ⟨(.s s::uu 2 (.I (X d)::uu 40 [])),J⟩:=by
 intro a;induction a with
 |nil =>intro d f l j i;have f:=dH f;subst f;refine aD λR m=>?_;simp only[Gg,VV,seval];exact⟨λh=>by simp at h,λ_=>j rfl ..⟩
 |cons c a ih =>
 intro d f l j i;subst f;have q:0<X d:=fb.2 l;have o:decide ((0:Int)<X d)=G:=by simp;omega
 refine aD λR m=>?_;simp only[Gg,o,VV,seval];have p:kS c=((decide (97<=(c.toNat:Int))&&decide ((c.toNat:Int)<=122))||((decide (48<=(c.toNat:Int))&&decide ((c.toNat:Int)<=57))||((c.toNat:Int)==45))):=by rw[ei];simp[kS];omega
 rw[<- p];refine⟨λ_=>⟨by simp;omega,λh=>?_,λh=>?_⟩,λh=>by simp at h<;>omega⟩
 .have e:(c::a).all kS=a.all kS:=by simp[h]
  rw[e]at j i;refine m _ (bL ?_ (ih (d++[c]) (by simp) (by simp) j i));rw[cT (by simp at g;omega)];simp only[ae,ah,aj];repeat' constructor
 exact i (by simp[h]) ..
def oQ(s:aL)(J:ai):bh A 135 [.s s] J (.b (ayc s)):=by
 refine aT func135 anT.2 λl g=>an ?_;have a:=Ig (g 0 _ rfl).1;simp only[anT,SS,seval];simp only[VV,seval];cases s with
 |nil =>refine⟨λ_=>bt rfl ⟨rfl,rfl⟩,nofun⟩
 |cons c r =>
 refine⟨λh=>?_,λh=>?_⟩;.refine bt rfl ⟨?_,rfl⟩;simp at h;simp[Pm.cM,ayc];omega
 simp at h;refine cD.mM (X r+2) (aD λR i=>?_);simp only[Gg,aQ,VV,Int.reduceBEq,Int.reduceBNe,Nat.reduceAdd,Nat.reduceSub,Nat.reduceLeDiff,Nat.reduceEqDiff,Int.reduceToNat,reduceIte,reduceCtorEq];have k:((decide (97<=(c.toNat:Int))&&decide ((c.toNat:Int)<=122))||(decide ((0:Int)<0)&&((decide (48<=(c.toNat:Int))&&decide ((c.toNat:Int)<=57))||((c.toNat:Int)==45))))=decide (97<=c.toNat/\c.toNat<=122):=by rw[ei];simp;omega
 have j:X (c::r)<=24:=by simp;omega
 rw[k];refine⟨λ_=>⟨by simp,λd=>?_,λd=>?_⟩,λh=>by simp at h<;>omega⟩
 .have e:ayc (c::r)=r.all kS:=by simp only[ayc,d,j,cZ,cN]
  refine i _ (bL ?_ (ae0 (c::r) a r [c] rfl (by simp) (λf=>?_) (λf=>?_)));.rw[show IntKind.i64.wrap (0+1)=(([c].length:Nat):Int)from IntWalk.i64_in _ (by decide)];repeat' constructor
  .simp only[JE];intros;simp only[VV,seval];exact bt rfl ⟨by simp only[Pm.cM,e,f,aQ,bj],rfl⟩
  simp only[JE];intros;simp only[VV,seval];exact bt rfl ⟨by simp only[Pm.cM,e,f,aQ,bj],rfl⟩
 refine bt rfl ⟨?_,rfl⟩;have e:ayc (c::r)=Z:=by simp only[ayc,d,dU,dq]
 rw[e];rfl
def aeM{n:Nat}{J:ai}{K:bG}(s:aL)(d:X s<2^63):∀(a b:aL),s=b++a->32 ∉ b ->(32 ∉ s->((fh (.s s) (fj 17 fo)) λj=>K (.exit 0) ⟨j,J⟩))->(32∈s->((fj 2 (fh (.s (s.take (Lib.indexByte s 32).toNat)) (fj 15 fo))) λj=>K .ret ⟨j,J⟩)) ->gF n A L6 K (X a+1) ⟨(.s s::uu 2 (.I (X b)::uu 14 [])),J⟩:=by
 intro a;induction a with
 |nil =>intro b f g k i;have f:=dH f;subst f;refine aD λR m=>?_;simp only[L6,VV,seval];exact⟨λh=>by simp at h,λ_=>k g ..⟩
 |cons c a ih =>
 intro b f g k i;subst f;refine aD λR m=>?_;simp only[L6,VV,seval];refine⟨λ_=>⟨by simp;omega,λh=>⟨by simp;omega,?_⟩,λh=>?_⟩,λh=>by simp at h<;>omega⟩
 .have l:c=32:=by rw[show(32:Int)=((32:UInt8).toNat:Int)from rfl,BR]at h;simpa using h
  subst l;have e:(Lib.indexByte (b++32::a) 32).toNat=X b:=by rw[rC g];simp
  have:=i (by simp);rw[e]at this;exact this ..
 have l:¬c=32:=by rw[show(32:Int)=((32:UInt8).toNat:Int)from rfl,BR]at h;simpa using h
 refine m _ (bL ?_ (ih (b++[c]) (by simp) (by simp[g,BM l]) k i));rw[cT (by simp at d;omega)];simp only[ae,ah,aj];repeat' constructor
def uq(s:aL)(J:ai):bh A 183 [.s s] J (.s (ff s)):=by
 refine aT func183 ane.2 λc b=>an ?_;have a:=Ig (b 0 _ rfl).1;simp only[ane,SS,seval];simp only[VV,seval];refine cD.bL ?_ (X s+1) (aeM s a s [] rfl (by simp) (λh=>?_) (λh=>?_));.repeat' constructor
 .simp only[JE];intros;simp only[VV,seval];refine bt rfl ⟨?_,rfl⟩;have:Lib.indexByte s 32 = -1:=xk h;simp[Pm.cM,ff,cutAt,this]
 simp only[JE];intros;refine bt rfl ⟨?_,rfl⟩;have:0<=Lib.indexByte s 32:=sr h;simp[Pm.cM,ff,cutAt,this]
def aiA{n:Nat}{J:ai}{K:bG}(a b:List It)(j:X a<2^63)(p:X a=X b):∀(f c d g:List It),a=d++f->b=g++c->X d=X g ->(iJ f c=G->((fj 26 fo) λo=>K (.exit 0) ⟨o,J⟩))->(iJ f c=Z->((fj 4 (fh (.b Z) (fj 21 fo))) λo=>K .ret ⟨o,J⟩)) ->gF n A Ux K (X f+1) ⟨(.sl 3 (a.map It.axV)::.sl 3 (b.map It.axV)::uu 10 (.I (X a)::.I (X d)::uu 12 [])),J⟩:=by
 intro f;induction f with
 |nil =>
  intro c d g i l q m k;have:c=[]:=by subst i;subst l;simp at p;exact bQ (by omega)
  subst this;have i:=dH i;subst i;refine aD λR s=>?_;simp only[Ux,VV,seval];exact⟨λh=>by simp at h,λ_=>m rfl ..⟩
 |cons x f ih =>
 intro c d g i l q m k;cases c with
 |nil=>subst i;subst l;simp at p;omega
 |cons y c =>
 subst i;subst l;have u:(List.map It.axV (g++y::c)).getD (X d) []=y.axV:=by rw[q];exact gA
 have v:=eE d x (by simp at j;omega);refine aD λR s=>?_;simp only[Ux,al,u,It.axV,ix,ez,VV,seval];have w:(0:Int)<=X d/\(X d:Int)<X (List.map It.axV (d++x::f)):=by simp;omega
 have r:(0:Int)<=X d/\(X d:Int)<X (List.map It.axV (g++y::c)):=by simp at p |-;omega
 have t:IQ x y=(x.axW==y.axW&&(x.ax1==y.ax1&&x.id==y.id)):=rfl;rw[<- t];refine⟨λ_=>⟨w,r,λh=>?_,λh=>?_⟩,λh=>by simp at h<;>omega⟩
 .have h:IQ x y=Z:=by rw[dt]at h;exact h
  exact k (by simp[iJ,h]) ..
 have h:IQ x y=G:=by rw[eI]at h;exact h
 have e:iJ (x::f) (y::c)=iJ f c:=by simp[iJ,h]
 rw[e]at m k;refine s _ (bL ?_ (ih c (d++[x]) (g++[y]) (by simp) (by simp) (by simp[q]) m k));rw[v];repeat' constructor
def yf(a b:List It)(J:ai):bh A 72 [.sl 3 (a.map It.axV),.sl 3 (b.map It.axV)] J (.b (iJ a b)):=by
 refine aT func72 p72.2 λg d=>an ?_;have c:=oI (d 0 _ rfl).1;rw[ab]at c;simp only[p72,SS,seval];simp only[ab,VV,seval];refine⟨λh=>?_,λh=>?_⟩
 .refine bt rfl ⟨?_,rfl⟩;have:iJ a b=Z:=by cases e:iJ a b with|false=>rfl|true=>have:=J9 e;simp at h;omega
  simp[Pm.cM,this]
 have f:X a=X b:=by simp at h;omega
 refine cD.bL ?_ (X a+1) (aiA a b c f a b [] [] rfl rfl rfl (λh=>?_) (λh=>?_));.repeat' constructor
 .simp only[JE];intros;simp only[VV,seval];exact bt rfl ⟨by simp[Pm.cM,h],rfl⟩
 simp only[JE];intros;exact bt rfl ⟨by simp[Pm.cM,h],rfl⟩
def ae1(g:N<2^40):∀(k i:Nat),i+k=N ->((fj 3 (fh (.own (X U) N) (fj 11 fo))) λe=>K (.exit 0) ⟨e,U++[.row 3 1 8 N Z ((dK N).map cG)]⟩) ->gF (X U) A Mm K (k+1) ⟨(.I N::uu 2 (.own (X U) i::.I ((i+1:Nat):Int)::uu 10 [])),U++[.row 3 1 8 i Z ((dK i).map cG)]⟩:=by
 intro k;induction k with
 |zero =>
  intro i a b;have a:i=N:=by omega
  subst a;refine aD λR c=>?_;simp only[Mm,VV,seval];exact⟨λh=>by simp at h<;>omega,λ_=>b ..⟩
 |succ k ih =>
 intro i a b;refine aD λR c=>?_;have f:(dK i).map cG++[[.I ((i+1:Nat):Int)]]=(dK (i+1)).map cG:=by simp[dK,rU,cG]
 have d:X (dK i)=i:=by simp[dK]
 simp only[Mm,f,ab,d,VV,seval];refine⟨λ_=>⟨⟨by omega,by simp only[maxLen];omega⟩,?_⟩,λh=>by simp at h<;>omega⟩;refine c _ (bL ?_ (ih (i+1) (by omega) b));rw[cT (by omega)];repeat' constructor
def WD(b:N<2^40)(J:ai):bh A 131 [.I N] J (.sl 1 ((dK N).map cG)):=by
 refine aT func131 anW.2 λa c=>an ?_;simp only[anW,SS,seval];simp only[VV,seval];refine cD.wk ((Wk.jP (k:=3) tI rfl).trans (Wk.fG ?_)) (cD.mM (N+1) (ae1 N b N 0 (by omega) ?_));.simp only[VV,seval];repeat' constructor
 simp only[JE];intros;simp only[VV,seval];refine fB 0 a rfl rfl ?_ ?_;.simp[fz,jR,iY,xa]
 simp[fz,jR,Pm.cM]
def ae2(u:bW U)(k:X a<2^40):∀(d j:List It) (f:bH) (g:Nat),a=j++d->X f<=X j ->(∀g,((fj 3 (fh (.own (X U) g) (fj 31 fo))) λr=>K (.exit 0) ⟨r,U++[.row 3 1 8 g G ((dW f d).map cG)]⟩)) ->gF (X U) A Mn K (X d+1) ⟨(.sl 3 (a.map It.axV)::uu 2 (.own (X U) g::uu 2 (.I (X a)::.I (X j)::uu 27 []))),U++[.row 3 1 8 g G (f.map cG)]⟩:=by
 intro d;induction d with
 |nil =>intro j f g n t l;have n:=dH n;subst n;refine aD λR o=>?_;simp only[Mn,VV,seval];exact⟨λh=>by simp at h,λ_=>l g ..⟩
 |cons y d ih =>
 intro j f g n t l;subst n;have q:=eE j y (by simp at k;omega);refine aD λR o=>?_;simp only[Mn,It.axV,VV,seval];refine⟨λ_=>⟨by simp;omega,?_⟩,λh=>by simp at h<;>omega⟩;refine ak (zN y _) rfl ?_;have m:(0:Int)<=X j/\(X j:Int)<X (List.map It.axV (j++y::d)):=by simp;omega
 cases p:eB y with
 |false =>
  have e:dW f (y::d)=dW f d:=by simp[dW,p]
  rw[e]at l;simp only[It.axV,VV,seval];refine⟨nofun,.I 0,nofun,?_⟩;refine cm (c:=Z) (v:=.b Z) (by rfl) (nofun) rfl ?_;simp only[VV,seval];refine o _ (bL ?_ (ih (j++[y]) f g (by simp) (by simp;omega) l));rw[q];repeat' constructor
 |true =>
 simp only[It.axV,VV,seval];refine⟨m,.I y.id,rfl,?_⟩;refine cm (c:=G) (by rfl) (λ_=>PC.fzs (X U) (by simp only[iF];rfl) (ZM f y.id _) (by simp only[az,aq,ev,bj,aQ,fz,jR,cw,aR])) rfl ?_;simp only[It.axV,VV,seval];refine⟨λh=>?_,λh=>?_⟩
 .have h:f.contains y.id=Z:=by rw[dt]at h;exact h
  have e:dW f (y::d)=dW (f++[y.id]) d:=by simp only[dW,p,h,lK,apX,aR]
  rw[e]at l;have s:f.map cG++[[V.i .i64 y.id]]=(f++[y.id]).map cG:=by simp[cG]
  rw[s];refine⟨m,⟨by simp at k |-;omega,by simp at k |-;simp only[maxLen];omega⟩,?_⟩;refine o _ (bL ?_ (ih (j++[y]) (f++[y.id]) (g+1) (by simp) (by simp;omega) l));rw[q];repeat' constructor
 have h:f.contains y.id=G:=by rw[eI]at h;exact h
 have e:dW f (y::d)=dW f d:=by simp only[dW,p,h,jN,dU];rfl
 rw[e]at l;refine o _ (bL ?_ (ih (j++[y]) f g (by simp) (by simp;omega) l));rw[q];repeat' constructor
def Lv(b:X a<2^40)(J:ai):bh A 130 [.sl 3 (a.map It.axV)] J (.sl 1 ((ax9 a).map cG)):=by
 refine aT func130 anX.2 λc d=>an ?_;simp only[anX,SS,seval];simp only[ab,VV,seval];refine cD.wk ((Wk.jP (k:=3) tI rfl).trans (Wk.ahV.trans (Wk.fG ?_))) (cD.mM (X a+1) (ae2 a c b a [] [] 0 rfl (aB _) ?_));.simp only[VV,seval];repeat' constructor
 intro g;simp only[JE];intros;simp only[VV,seval];refine fB 0 c rfl rfl ?_ ?_;.simp[fz,jR,iY,xa]
 simp[fz,jR,Pm.cM,ax9]
def Ou:Ti A 70 3 32:=ng (by kernel_rfl)
def Vi(O:bW U)(j:X a<2^40)(z:bA a<2^40):∀(c e d:List It) (g:Nat),a=e++c->X d<=X e->bA d<=bA e ->(∀g,((fj 3 (fh (.own (X U) g) (fj 57 fo))) λN=>K (.exit 0) ⟨N,U++[.row 70 3 32 g Z ((c.foldl ee d).map It.axV)]⟩)) ->gF (X U) A Gc K (X c+1) ⟨(.sl 3 (a.map It.axV)::uu 2 (.own (X U) g::uu 4 (.I (X a)::.I (X e)::uu 51 []))),U++[.row 70 3 32 g Z (d.map It.axV)]⟩:=by
 intro c;induction c with
 |nil =>intro e d g p E C v;have p:=dH p;subst p;refine aD λR k=>?_;simp only[Gc,VV,seval];exact⟨λh=>by simp at h,λ_=>v g ..⟩
 |cons x c ih =>
 intro e d g p E C v;subst p;have next:∀(b:List It) (u:Nat) {m:ai},ee d x=b->∀{R:bU} {B:ar},(∀q,gF (X U) A Gc K (X c+1) q->R q) ->
   qP B (.sl 3 ((e++x::c).map It.axV)::uu 2 (.own (X U) u::uu 4 (.I (X (e++x::c))::.I (IntKind.i64.wrap ((X e:Int)+1))::uu 51 [])))->R ⟨B,U++(.row 70 3 32 u Z (b.map It.axV)::m)⟩:=by
  intro b u m D R B k F;have M:=eE e x (by simp at j;omega);rw[M]at F;have t:=si d x;rw[D]at t;have L:(x::c).foldl ee d=c.foldl ee b:=by rw[bT,D]
  rw[L]at v;refine k _ (dn [_] m (cx O (by simp)) F ?_ (ih (e++[x]) b u (by simp) (by simp;omega) (by simp only[gz,bA];omega) v));simp only[LW,ah,aj,aP];omega
 have o:(X d+1)*32<=2^47/\X d+1<=maxLen:=by simp at j;simp[maxLen];omega
 refine aD λR k=>?_;simp only[Gc,It.axV,VV,seval];refine⟨λ_=>⟨by simp;omega,λi=>?_,λi=>⟨λf=>?_,λf=>?_⟩⟩,λh=>by simp at h<;>omega⟩
 .have i:x.axW≠1:=by simpa using i
  have n:d.map It.axV++[[.I x.axW,.s x.ax1,.I x.id]]=(d++[x]).map It.axV:=by simp[It.axV]
  refine⟨by rw[ab];exact o,?_⟩;rw[n];refine next (d++[x]) (g+1) (by simp[ee,i]) k ?_;repeat' constructor
 .have i:x.axW=1:=by simpa using i
  have f:x.ax1=[]:=by simpa using f
  refine next d g (by simp[ee,i,f]) k ?_;repeat' constructor
 have i:x.axW=1:=by simpa using i
 have f:x.ax1≠[]:=by simpa using f
 rcases fN d with T|⟨b,y,r⟩;.subst T;have w:decide ((0:Int)<(X ([]:eJ):Int))=Z:=rfl;simp only[aq,w];refine⟨nofun,.I 0,nofun,?_⟩;simp only[VV,seval];refine⟨by decide,next [⟨1,x.ax1,0⟩] (g+1) (by simp[ee,i,f]) k ?_⟩;repeat' constructor
 rw[fk]at r;subst r;have H:IntKind.i64.wrap ((X (b++[y]):Int) - 1)=X b:=by
  have:X (b++[y])<2^63:=by simp at E j |-;omega
  rw[IntWalk.i64_in _ (by simp at this |-;omega)];simp
 have J:gi (List.map It.axV (b++[y])) (X b) 0=S (.I y.axW):=by rw[oE];rfl
 have w:decide ((0:Int)<(X (List.map It.axV (b++[y])):Int))=G:=by simp
 simp only[w,ab,H,al,J];refine⟨λ_=>by simp;omega,.I y.axW,λ_=>⟨True,rfl,trivial⟩,?_⟩;have Q:decide ((0:Int)<(X (b++[y]):Int))=G:=by simp
 have P:gi (List.map It.axV (b++[y])) (X b) 1=S (.s y.ax1):=by rw[oE];rfl
 simp only[Q,H,al,P,ab,VV,seval];have t:(0:Int)<=(X b:Int)/\(X b:Int)<(X (b++[y]):Int):=⟨by omega,by rw[ae,List.length_singleton];omega⟩;refine⟨λl=>⟨t,?_,t,by omega,?_⟩,λl=>⟨o,?_⟩⟩;.simp only[gz,bA]at C z;simp only[maxLen];omega
 .have l:y.axW=1:=by simpa using l
  have n:(List.map It.axV (b++[y])).set (X b) (.I 1::.s (y.ax1++x.ax1)::.I 0::List.drop 3 y.axV)=(b++[(⟨1,y.ax1++x.ax1,0⟩:It)]).map It.axV:=by simp[List.set_append,It.axV]
  rw[n];refine next (b++[⟨1,y.ax1++x.ax1,0⟩]) g (by simp[ee,i,f,l]) k ?_;repeat' constructor
 have l:¬y.axW=1:=by simpa using l
 have n:List.map It.axV (b++[y])++[[.I 1,.s x.ax1,.I 0]]=(b++[y]++[(⟨1,x.ax1,0⟩:It)]).map It.axV:=by simp[It.axV]
 rw[n];refine next (b++[y]++[⟨1,x.ax1,0⟩]) (g+1) (by simp[ee,i,f,l]) k ?_;repeat' constructor
def wP(b:X a<2^40)(d:bA a<2^40)(J:ai):bh A 185 [.sl 3 (a.map It.axV)] J (.sl 3 ((ayb a).map It.axV)):=by
 refine aT func185 ad6.2 λc f=>an ?_;simp only[ad6,SS,seval];simp only[ab,VV,seval];refine cD.wk ((Wk.jP (k:=3) Ou rfl).trans (Wk.fG ?_)) (cD.mM (X a+1) (Vi a c b d a [] [] 0 rfl (aB _) (aB _) ?_));.simp only[VV,seval];repeat' constructor
 intro g;simp only[JE];intros;simp only[VV,seval];refine fB 0 c rfl rfl ?_ ?_;.simp[fz,jR,iY,xa]
 have e:a.foldl ee []=ayb a:=qH a;simp[fz,jR,Pm.cM,e]
def oN(h:X a<2^39)(f:X b<2^39)(e:bA a<2^39)(d:bA b<2^39)(J:ai):bh A 134 [.sl 3 (a.map It.axV),.sl 3 (b.map It.axV)] J (.sl 3 ((ayb (a++b)).map It.axV)):=by refine aT func134 ad9.2 λc g=>an ?_;simp only[ad9,SS,seval];simp only[ab,VV,seval];refine⟨by simp[maxLen];omega,by simp[maxLen];omega,?_⟩;refine qq (X J) (by simp only[iF];rfl) (wP (a++b) (by simp;omega) (by rw[gz];omega) _) (by simp[fz,jR,ev]) ?_;simp only[VV,seval];exact gL c (by rfl) (by simp[LW])
def mZ:(lV U n l k++T)[X U]?=T[0]?:=by rw[bB (by rw[cq];exact aB _),cq,gO]
def nb:(lV U n l k++T)[X U+j]?=T[j]?:=by rw[bB (by rw[cq];omega),cq,dD]
def iI:(lV U n l k++T).set (X U) o=lV U n l k++T.set 0 o:=by rw[ej _ _ (by rw[cq];exact aB _),cq,gO]
def oZ:(lV U n l k++T).set (X U+j) o=lV U n l k++T.set j o:=by rw[ej _ _ (by rw[cq];omega),cq,dD]
def nq{k k':Nat}(h:bW (lV U n l k)):bW (lV U n l k'):=by
 intro id T c a j x b;by_cases e:n=id
 .subst e;simp only[lV]at a;rw[iT]at a;simp only[aR]at a;split at a
  .simp only[aa,Ob.box.injEq]at a;obtain⟨_,rfl⟩:=a;rcases j with _|_|j;.simp only[aG,aa]at b;subst b;exact .sl _ _
   .simp only[cA,aG,aa]at b;subst b;exact .i _ _
   simp at b
  simp at a
 have d:(lV U n l k)[id]?=S (.box T c):=by simp only[lV]at a |-;rw[bD e]at a |-;exact a
 have:=h id T c d j x b;rw[cq]at this |-;exact this
def jx(d:N<X J)(l:bH)(k:Nat)(e:k<2^60)(n:Int)(i:0<n)(b:n<2^62)(a:ai): PC A 37 [.ptr N 0,.I n] (lV J N l k++a) (λr c=>∃v:Int,r=.I v/\(0<=v/\v<n)/\c=lV J N l (k+1)++a):=by rw[mW d];refine(A9 (J++a) N (by rw[ae];omega) l k e n i b).mono ?_;rintro r c ⟨v,g,f,h⟩;exact⟨v,g,f,by rw[h,mW d]⟩
def Vl(d:N<X J)(l:bH)(k:Nat)(e:k<2^58)(n:Nat)(j:n<2^20)(a:ai): PC A 188 [.ptr N 0,.I n] (lV J N l k++a) (λr c=>∃(s:aL) (b:Nat),r=.s s/\X s<=6*n/\(k<=b/\b<=k+2*n+1)/\c=lV J N l b++a):=by rw[mW d];refine(afh (J++a) N (by rw[ae];omega) l k e n j).mono ?_;rintro r c ⟨s,b,h,f,i,g⟩;exact⟨s,b,h,f,i,by rw[g,mW d]⟩
def nZ(h:cj [] f=0):bA (ayb (f++[P]))<=bA f+P.ax1.length/\X (ayb (f++[P]))<=X f+1:=by rw[ku (sg h)];exact si f P
def wm:gf:=[[114,111,116],[100,97,115,32,65,117,116,111],[],[101,105,110,32]++s,s]
def K6{a:aL}(h:a∈wm w):X a<=X w+8:=by simp only[wm,bw,bM,mg]at h;rcases h with rfl|rfl|rfl|rfl|rfl<;>simp
def aeY(u:N<X J)(l:bH)(m:Nat)(SO:m<2^50)(bd:bW (lV J N l m))(src:List It)(s:cj [] src=0)(L:X src<=100)(T:bA src<=10000): ∀(b a f:List It) (k:Nat),src=a++b->Ty a f->X f<=2*X a->bA f<=bA a+20*X a->(m<=k/\k<=m+10*X a) ->(∀(k:Nat) (f:List It),Ty src f->X f<=2*X src->bA f<=bA src+20*X src->(m<=k/\k<=m+10*X src)->((fj 5 (fh (.sl 3 (f.map It.axV)) (fj 40 fo))) λZZ=>K (.exit 0) ⟨ZZ,lV J N l k⟩)) ->gF (X J) A Gf K (X b+1) ⟨(.ptr N 0::.sl 3 (src.map It.axV)::uu 3 (.sl 3 (f.map It.axV)::uu 3 (.I (X src)::.I (X a)::uu 35 []))),lV J N l k⟩:=by
 intro b;induction b with
 |nil =>intro a f k p d M q P D;have p:=dH p;subst p;refine aD λR Q=>?_;simp only[Gf,VV,seval];exact⟨λh=>by simp at h,λ_=>D k f d M q P ..⟩
 |cons x b ih =>
 intro a f k p d M q P D;subst p;have ac:bA (a++x::b)=bA a+(X x.ax1+bA b):=by rw[gz];rfl
 have am:bA (a++[x])=bA a+X x.ax1:=by rw[gz];simp[bA]
 have Cl:X (a++[x])=X a+1:=by simp
 have P9:X (a++x::b)=X a+(X b+1):=by simp
 have c:IntKind.i64.wrap ((X a:Int)+1)=((X (a++[x]):Nat):Int):=by rw[cT (by omega),Cl]
 have O:(0:Int)<=X a/\(X a:Int)<X (List.map It.axV (a++x::b)):=by simp;omega
 refine aD λR Q=>?_;have i:∀(g:List It) (j:Nat) (E:ar) (r:ai),Ty (a++[x]) g->X g<=X f+2->bA g<=bA f+X x.ax1+20->(k<=j/\j<=k+10) ->
   qP E (.ptr N 0::.sl 3 ((a++x::b).map It.axV)::uu 3 (.sl 3 (g.map It.axV)::uu 3 (.I (X (a++x::b))::.I (X (a++[x]))::uu 35 [])))->R ⟨E,lV J N l j++r⟩:=by intro g j E r g1 g2 g3 g4 hc;refine Q _ (uj (by rw[cq];exact aB _) (nq bd) hc ?_ (ih (a++[x]) g j (by simp) g1 (by omega) (by omega) (by omega) D));simp only[cq,u,LW]
 by_cases e:x.axW=1
 .have B:(x.axW==1)=G:=by simp[e]
  simp only[Gf,al,It.axV,B,cq,mZ,iI,VV,seval];refine⟨λ_=>⟨O,by simp only[maxLen];omega,?_⟩,λh=>by simp at h<;>omega⟩;refine dV (jx J N u l k (by omega) 5 (by decide) (by decide) _) rfl ?_;rintro _ _ ⟨v,rfl,W,rfl⟩;obtain⟨w,V,H⟩:=nB (ws:=wm x.ax1) (n:=v.toNat) (by simp[wm];omega);have ad:=K6 V;simp only[wm,az,aq,aF,aw]at H;simp only[H,cq,mZ,iI,c,VV,seval];refine⟨by omega,?_⟩;have C:x.id=0:=by rw[qW,tL]at s;exact(yv e s.2.1).2.1
  have y:=nZ ⟨1,w,0⟩ d.err;refine kh (zs:=[.sl 3 (f.map It.axV),.sl 3 ([(⟨1,w,0⟩:It)].map It.axV)]) ?_ (oN f [⟨1,w,0⟩] (by omega) (by simp) (by omega) (by simp[bA];omega) _) ?_;.simp only[e,C];exact .cons (.refl _) (.cons (.lit _ _) .nil)
  simp only[c,VV,seval];refine i _ _ _ _ (d.ax1 e w) (by omega) (by simp only at y;omega) (by omega) ?_;repeat' constructor
 have B:(x.axW==1)=Z:=by simpa using e
 simp only[Gf,al,It.axV,B,cq,mZ,iI,VV,seval];refine⟨λ_=>⟨O,?_⟩,λh=>by simp at h<;>omega⟩;refine dV (jx J N u l k (by omega) 3 (by decide) (by decide) _) rfl ?_;rintro _ _ ⟨v,rfl,W,rfl⟩;have af:(⟨x.axW,x.ax1,x.id⟩:It)=x:=rfl;by_cases F:v=0
 .have z:(v==0)=G:=by simp[F]
  simp only[z,cq,mZ,iI,c,VV,seval];refine dV (Vl J N u l (k+1) (by omega) 2 (by decide) _) rfl ?_;rintro _ _ ⟨t,j,rfl,ht,U,rfl⟩;have y:=nZ ⟨1,t,0⟩ d.err;simp only at y;have o:=d.more t;have qo:=nZ x o.err;simp only[cq,mZ,iI,c,VV,seval];refine kh (zs:=[.sl 3 (f.map It.axV),.sl 3 ([(⟨1,t,0⟩:It)].map It.axV)]) (.cons (.refl _) (.cons (.lit _ _) .nil)) (oN f [⟨1,t,0⟩] (by omega) (by simp) (by omega) (by simp[bA];omega) _) ?_;simp only[cq,mZ,iI,c,VV,seval];refine kh (zs:=[.sl 3 ((ayb (f++[(⟨1,t,0⟩:It)])).map It.axV),.sl 3 ([x].map It.axV)]) (.cons (.refl _) (.cons (.lit _ _) .nil)) (oN _ [x] (by omega) (by simp) (by omega) (by simp[bA];omega) _) ?_;simp only[c,VV,seval];refine i _ _ _ _ (o.item s e) (by omega) (by omega) (by omega) ?_;repeat' constructor
 have z:(v==0)=Z:=by simpa using F
 have qo:=nZ x d.err;simp only[z,cq,mZ,iI,c,VV,seval];refine kh (zs:=[.sl 3 (f.map It.axV),.sl 3 ([x].map It.axV)]) (.cons (.refl _) (.cons (.lit _ _) .nil)) (oN f [x] (by omega) (by simp) (by omega) (by simp[bA];omega) _) ?_;simp only[c,VV,seval];refine i _ _ _ _ (d.item s e) (by omega) (by omega) (by omega) ?_;repeat' constructor
def V6(m:N<X J)(l:bH)(k:Nat)(j:k<2^50)(src:List It)(e:cj [] src=0)(a:X src<=100)(c:bA src<=10000): PC A 138 [.ptr N 0,.sl 3 (src.map It.axV)] (lV J N l k) (λr i=>∃(f:List It) (b:Nat),r=.sl 3 (f.map It.axV)/\cj [] f=0/\X f<=2*X src/\bA f<=bA src+20*X src/\(k<=b/\b<=k+10*X src)/\i=lV J N l b):=by
 refine aT func138 anQ.2 λd p=>an ?_;simp only[anQ,SS,seval];simp only[ab,cq,VV,seval];refine cD.bL (fr':=(.ptr N 0::.sl 3 (src.map It.axV)::uu 3 (.sl 3 (([]:List It).map It.axV)::uu 3 (.I (X src)::.I (X ([]:List It):Nat)::uu 35 [])))) ?_ (X src+1) (aeY J N m l k j d src e a c src [] [] k rfl Ty.nil (by simp) (by simp[bA]) (by simp) ?_);.simp only[aq,aj];repeat first|exact .nil|refine .cons (.refl _) ?_|refine .cons (.nil _) ?_|refine .cons (.forget _) ?_
 intro b f n o g h;simp only[JE];intros;simp only[VV,seval];exact fp rfl (Wk.refl _ _) (by simp[cq]) ⟨f,b,rfl,n.err,o,g,h,rfl⟩
def D3(b:X a<2^40)(f:bA a<2^40)(J:ai):PC A 185 [.sl 3 (a.map It.axV)] J (λr d=>r=.own (X J) 0/\d=J++[.row 70 3 32 0 Z ((ayb a).map It.axV)]):=by
 refine aT func185 ad6.2 λc h=>an ?_;simp only[ad6,SS,seval];simp only[ab,VV,seval];refine cD.wk ((Wk.jP (k:=3) Ou rfl).trans (Wk.fG ?_)) (cD.mM (X a+1) (Vi a c b f a [] [] 0 rfl (aB _) (aB _) ?_));.simp only[VV,seval];repeat' constructor
 intro g;simp only[JE];intros;simp only[VV,seval];have e:a.foldl ee []=ayb a:=qH a;rw[e];exact AB 0 c (.inr rfl) rfl rfl rfl (by simp[IK,Ob.gen]) (by simp[Pm.cM,mv1,Ob.fresh])
def Lw(h:X a<2^39)(i:X b<2^39)(f:bA a<2^39)(e:bA b<2^39)(J:ai):PC A 134 [.sl 3 (a.map It.axV),.sl 3 (b.map It.axV)] J (λr d=>r=.own (X J) 0/\d=J++[.row 70 3 32 0 Z ((ayb (a++b)).map It.axV)]):=by refine aT func134 ad9.2 λc g=>an ?_;simp only[ad9,SS,seval];simp only[ab,VV,seval];refine⟨by simp[maxLen];omega,by simp[maxLen];omega,?_⟩;refine qq (X J) (by simp only[iF];rfl) (D3 (a++b) (by simp;omega) (by rw[gz];omega) _) (by simp[fz,jR,ev]) ?_;simp only[VV,seval];exact AB 1 c (.inr rfl) rfl rfl rfl (by simp[IK,Ob.gen]) (by simp[Pm.cM,mv1,Ob.fresh])
def wv:X (ff s)<=X s:=(yz s 32).1
def qL:gf:=[[110],[110,97,109,101],[120,49]]
def vy:gf:=[[98,114],[105,109,103,32,97]]
def sA:gf:=[[98],[105],[97,32,104,61,49]]
def xu:∀s∈qL,ayc s=G/\X s<=5:=by decide +kernel
def I5:∀s∈vy,eQ s=G/\X s<=5:=by decide +kernel
def DE:∀s∈sA,eQ s=G/\ayc (ff s)=G/\X s<=5:=by decide +kernel
def jw(a:Bool)(f:List It):Ob:=.row 70 3 32 N a (f.map It.axV)
def XR{loc:ai}(d:bW (lV U n l k)){i j g1 g2:Nat}{b a:Bool}{o:List It}(e:i≠j)(h1:loc[i]?=S (jw g1 b f))(g:loc[j]?=S (jw g2 a o)) {xs ys:ar} (h:Mvs (X U) loc [i,j] xs ys):Wk A (X U) xs (lV U n l k++loc) ys (lV U n l k++[jw 0 b f,jw 0 a o]):=by
 have:=Wk.PT (P:=A) (xs:=xs) (ys:=ys) (J:=lV U n l k) (loc:=loc) (os:=[jw 0 b f,jw 0 a o]) [i,j] d (by simpa using e) rfl (λq m c=>by
  rcases q with _|_|q;.simp only[aG,aa]at c;subst c;exact⟨_,h1,rfl,rfl⟩
  .simp only[cA,aG,aa]at c;subst c;exact⟨_,g,rfl,rfl⟩
  simp at c) (by rw[cq];exact h);rwa [cq]at this
set_option maxRecDepth 20000 in
def Xf(e:List It)(EL:X e<=100)(C:∀y∈e,X y.ax1<=5)(id:Nat)(L:id<=100)(q:Nat):∀(m:Nat) (g f:List It) (k:Nat),X g=m->(∃d,e=g++d)->DU f g id->X f+m<=1000 ->(∀(l:List It) (k:Nat),cj [] l=0->X l=X f+m->bA l<=bA f+5*m->((fj 9 (fh (.own (X J) k) (fj 131 fo))) λP=>K (.exit 3) ⟨P,lV J N R Q++[jw k Z l,jw q Z e]⟩)) ->gF (X J) A Mi K (m+1) ⟨(uu 3 (.b G::uu 5 (.own (X J) k::.own (X J+1) q::uu 4 (.I ((m:Int) - 1)::uu 125 [])))),lV J N R Q++[jw k Z f,jw q Z e]⟩:=by
 intro m;induction m with
 |zero =>intro g f k p _ o U t;have F:decide ((0:Int)<=((0:Nat):Int) - 1)=Z:=rfl;refine aD λa z=>?_;simp only[Mi,F,VV,Int.reduceBEq,Int.reduceBNe,Nat.reduceAdd,Nat.reduceSub,Nat.reduceLeDiff,Nat.reduceEqDiff,Int.reduceToNat,reduceIte,reduceCtorEq];exact t f k o.err (by omega) (by omega) ..
 |succ m ih =>
 intro g f k p u o U t;obtain⟨d,h⟩:=u;rcases fN g with n|⟨c,y,n⟩;.subst n;simp at p
 rw[fk]at n;subst n;have r:X c=m:=by simpa using p
 subst r;rw[aJ,uW]at h;have B:((X c+1:Nat):Int) - 1=(X c:Int):=by omega
 have vW:X e=X c+(X d+1):=by rw[h];simp
 have w:IntKind.i64.wrap ((X c:Int) - 1)=(X c:Int) - 1:=IntWalk.i64_in _ (by omega);have v:∀j,gi (List.map It.axV e) (X c) j=y.axV[j]?:=λj=>by rw[h];exact oE
 have E:=C y (by rw[h];simp);have YB:=wv y.ax1;have O:decide ((0:Int)<=(X c:Int))=G:=by simp
 have x:(0:Int)<=(X c:Int)/\(X c:Int)<(X (List.map It.axV e):Int):=⟨by omega,by rw[ab];omega⟩;obtain⟨M,_⟩:=o.close (by omega);rw[B];refine aD λa z=>?_;simp only[Mi,jw,O,w,al,cq,mZ,nb,v,It.axV,VV,seval];refine⟨x,x,?_⟩;refine ak (uq y.ax1 _) rfl ?_;simp only[cq,mZ,nb,iI,oZ,v,It.axV,w,ab,VV,seval];refine⟨by omega,⟨by omega,by simp only[maxLen];omega⟩,?_⟩;have e3:f.map It.axV++[[V.i .i64 3,.s (ff y.ax1),.I y.id]]=(f++[(⟨3,ff y.ax1,y.id⟩:It)]).map It.axV:=by simp[It.axV]
 rw[e3];have H:bA (f++[⟨3,ff y.ax1,y.id⟩])=bA f+X (ff y.ax1):=by simp[gz,bA]
 have W:X (f++[(⟨3,ff y.ax1,y.id⟩:It)])=X f+1:=by simp
 refine z _ (bL ?_ (ih c _ (k+1) rfl ⟨y::d,h⟩ M (by omega) λl D T q2 q3=>t l D T (by omega) (by omega)));repeat' constructor
set_option maxRecDepth 20000 in
def Xg(Q:N<J.length)(l:bH)(k0:Nat)(SO:k0<2^50)(bd:bW (lV J N l k0))(a:Nat)(hN:a<=20):∀(m:Nat) (k:Nat) (f d:List It) (id g1 g2:Nat),m<=a->id+m<=a->d.length+m<=a ->(∀y∈d,y.ax1.length<=5)->DU f d id->f.length+m<=a->bA f+18*m<=18*a->(k0<=k/\k+12*m<=k0+12*a) ->(∀(k:Nat) (f d:List It) (id g1 g2:Nat),id<=a->d.length<=a->(∀y∈d,y.ax1.length<=5)->DU f d id->f.length<=a->bA f<=18*a->(k0<=k/\k<=k0+12*a) ->((fj 3 (fh (.b true) (fj 5 (fh (.own J.length g1) (fh (.own (J.length+1) g2) (fj 130 fo)))))) λZZ=>K (.exit 0) ⟨ZZ,lV J N l k++[jw g1 Z f,jw g2 Z d]⟩)) ->gF J.length A Mj K (m+1) ⟨(.ptr N 0::uu 1 (.b true::.b true::uu 5 (.own J.length g1::.own (J.length+1) g2::.I id::.I m::uu 128 []))),lV J N l k++[jw g1 Z f,jw g2 Z d]⟩:=by
 intro m;induction m with
 |zero =>intro k f d id g1 g2 hm ap ja F H hf au hk h1;refine aD λR hR=>?_;simp only[Mj,VV,Int.reduceBEq,Int.reduceBNe,Nat.reduceAdd,Nat.reduceSub,Nat.reduceLeDiff,Nat.reduceEqDiff,Int.reduceToNat,reduceIte,reduceCtorEq];exact⟨nofun,λ_=>h1 k f d id g1 g2 (by omega) (by omega) F H (by omega) (by omega) (by omega) ..⟩
 |succ m ih =>
 intro k f d id g1 g2 hm ap ja F H hf au hk h1;have hw:IntKind.i64.wrap (((m+1:Nat):Int) - 1)=(m:Int):=by rw[IntWalk.i64_in _ (by omega)];omega
 refine B3 λR hR=>?_;simp only[Mj];refine cD.cut λR1 No=>?_;simp only[VV,Int.reduceBEq,Int.reduceBNe,Nat.reduceAdd,Nat.reduceSub,Nat.reduceLeDiff,Nat.reduceEqDiff,Int.reduceToNat,reduceIte,reduceCtorEq];refine⟨λ_=>?_,λh=>by simp at h<;>omega⟩;refine No _ (cD.fG (fr':=(.ptr N 0::uu 1 (.b true::.b true::uu 5 (.own J.length g1::.own (J.length+1) g2::.I id::.I (m+1:Nat)::uu 128 [])))) ?_ (by repeat' constructor));clear No R1;refine cD.aco λR2 Co=>cD.l9 ?_;refine cD.cut λR3 ac=>?_;simp only[jw,cq,mZ,nb,iI,oZ,VV,Int.reduceBEq,Int.reduceBNe,Nat.reduceAdd,Nat.reduceSub,Nat.reduceLeDiff,Nat.reduceEqDiff,Int.reduceToNat,reduceIte,reduceCtorEq];refine dV (Vl J N Q l k (by omega) 3 (by decide) _) rfl ?_;rintro _ _ ⟨t,r,rfl,ht,rE,rfl⟩;simp only[cq,mZ,nb,iI,oZ,VV,Int.reduceBEq,Int.reduceBNe,Nat.reduceAdd,Nat.reduceSub,Nat.reduceLeDiff,Nat.reduceEqDiff,Int.reduceToNat,reduceIte,reduceCtorEq];refine ac _ (cD.fG (fr':=(.ptr N 0::uu 1 (.b true::.b true::uu 5 (.own J.length g1::.own (J.length+1) g2::.I id::.I (m+1:Nat)::.ptr (J.length+2) 0::uu 127 [])))) ?_ (by repeat' constructor));clear ac R3;refine cD.aco λR4 af=>?_;have e:∀(x:It) (r1:Ob) (ext:ai) (j T:Nat) (o:List It) (q B:Nat) {fr:ar},(jw g1 true f::r1::.box 70 x.axV::(ext++[jw 0 Z (ayb (f++[x]))]))[j]?=S (jw B Z o)->ext.length+3≠j ->
   q+m<=a->o.length+m<=a->(∀y∈o,y.ax1.length<=5)->DU (ayb (f++[x])) o q->x.ax1.length<=18->(k<=T/\T<=k+12) ->
   qP fr (.ptr N 0::uu 1 (.b true::.b true::uu 5 (.own J.length g1::.own (J.length+j) B::.I q::.I (m+1:Nat)::.ptr (J.length+2) 0::uu 127 [])))->R4 ⟨fr,lV J N l T++(jw g1 Z f::r1::.box 70 x.axV::ext)⟩:=by
  intro x r1 ext j T o q B fr hj iV c1 c2 c3 c4 c5 c6 hc;have hb:=nZ x H.err;refine af _ (cD.fG ?_ hc);clear af hc;refine an ?_;simp only[jw,It.axV,cq,mZ,nb,iI,oZ,VV,Int.reduceBEq,Int.reduceBNe,Nat.reduceAdd,Nat.reduceSub,Nat.reduceLeDiff,Nat.reduceEqDiff,Int.reduceToNat,reduceIte,reduceCtorEq];refine agH (zs:=[.sl 3 (f.map It.axV),.sl 3 ([x].map It.axV)]) (σ1:=lV J N l T++(jw g1 true f::r1::.box 70 x.axV::ext)) ?_ (Lw f [x] (by omega) (by simp) (by omega) (by simp[bA];omega) _) ?_;.refine(Wk.fz J.length (E:=70) (sz:=3) (by':=32) (g:=g1) (sh:=Z) (rows:=f.map It.axV) (by rw[mZ];rfl)).trans ?_;rw[iI];simp only[az,aq,ev,gN,aQ,bj,cu,cH,fz,jR,cw,aR];exact Wk.fG (.cons (.refl _) (.cons (.lit _ _) .nil))
  simp only[cq,mZ,nb,iI,oZ,VV,Int.reduceBEq,Int.reduceBNe,Nat.reduceAdd,Nat.reduceSub,Nat.reduceLeDiff,Nat.reduceEqDiff,Int.reduceToNat,reduceIte,reduceCtorEq];refine Co _ (cD.fG (fr':=(.ptr N 0::uu 1 (.b true::.b true::uu 5 (.own (J.length+(ext.length+1+1+1)) 0::.own (J.length+j) B::.I q::.I (m+1:Nat)::uu 128 [])))) (an ?_) (by repeat' constructor));simp only[hw,VV,Int.reduceBEq,Int.reduceBNe,Nat.reduceAdd,Nat.reduceSub,Nat.reduceLeDiff,Nat.reduceEqDiff,Int.reduceToNat,reduceIte,reduceCtorEq];refine hR _ (vd (fr':=(.ptr N 0::uu 1 (.b true::.b true::uu 5 (.own (J.length+0) 0::.own (J.length+1) 0::.I q::.I m::uu 128 [])))) (J':=lV J N l T++[jw 0 Z (ayb (f++[x])),jw 0 Z o])
   ((Wk.fG (ys:=(.ptr N 0::uu 1 (.b true::.b true::uu 5 (.own (J.length+(ext.length+1+1+1)) 0::.own (J.length+j) B::.I q::.I m::uu 128 [])))) (by repeat' constructor)).trans
    (XR (i:=ext.length+1+1+1) (j:=j) (g1:=0) (g2:=B) (nq bd) iV (by simp[jw]) hj ?_)) (ih T (ayb (f++[x])) o q 0 0 (by omega) c1 c2 c3 c4 (by omega) (by omega) (by omega) h1));repeat first|exact .nil|refine .cons (.forget _) ?_|refine .cons (.own 0 (ext.length+1+1+1) 70 3 32 0 Z ((ayb (f++[x])).map It.axV) rfl (by simp;rfl)) ?_|refine .cons (.own 1 j 70 3 32 B Z (o.map It.axV) rfl hj) ?_|refine .cons (.dX _ (by simp only[Q,LW])) ?_
 refine cD.cut λR5 ad=>?_;simp only[cq,VV,Int.reduceBEq,Int.reduceBNe,Nat.reduceAdd,Nat.reduceSub,Nat.reduceLeDiff,Nat.reduceEqDiff,Int.reduceToNat,reduceIte,reduceCtorEq];refine dV (jx J N Q l r (by omega) 8 (by decide) (by decide) _) rfl ?_;rintro _ _ ⟨v,rfl,hv,rfl⟩;simp only[cq,VV,Int.reduceBEq,Int.reduceBNe,Nat.reduceAdd,Nat.reduceSub,Nat.reduceLeDiff,Nat.reduceEqDiff,Int.reduceToNat,reduceIte,reduceCtorEq];refine ad _ (cD.fG (fr':=(.ptr N 0::uu 1 (.b true::.b true::uu 5 (.own J.length g1::.own (J.length+1) g2::.I id::.I (m+1:Nat)::.ptr (J.length+2) 0::uu 14 (.I v::uu 112 []))))) (an ?_) (by repeat' constructor));clear ad R5;have Xy:IntKind.i64.wrap ((id:Int)+1)=((id+1:Nat):Int):=cT (by omega);have W:((id+1:Nat):Int)=(id:Int)+1:=by omega
 have C:(v=0\/v=1)\/v=2\/(v=3\/v=4)\/(v=5\/v=6)\/v=7:=by omega
 rcases C with C|rfl|C|C|rfl
 .have slot:∀{w:aL},w∈qL->DU (ayb (f++[⟨5,w,0⟩])) d id:=λh=>H.slot (xu _ h).1;rcases C with rfl|rfl;.simp only[cq,mZ,nb,iI,oZ,VV,Int.reduceBEq,Int.reduceBNe,Nat.reduceAdd,Nat.reduceSub,Nat.reduceLeDiff,Nat.reduceEqDiff,Int.reduceToNat,reduceIte,reduceCtorEq];refine dV (jx J N Q l (r+1) (by omega) 3 (by decide) (by decide) _) rfl ?_;rintro _ _ ⟨u,rfl,hu,rfl⟩;obtain⟨w,M,D⟩:=nB (ws:=qL) (n:=u.toNat) (by simp[qL];omega);simp only[qL,az,aq]at D;simp only[D,cq,mZ,nb,iI,oZ,VV,Int.reduceBEq,Int.reduceBNe,Nat.reduceAdd,Nat.reduceSub,Nat.reduceLeDiff,Nat.reduceEqDiff,Int.reduceToNat,reduceIte,reduceCtorEq];refine⟨by omega,?_⟩;exact e ⟨5,w,0⟩ (jw g2 Z d) [] 1 (r+1+1) d id g2 rfl (by simp) (by omega) (by omega) F (slot M) (by have:=(xu _ M).2;simp only;omega) (by omega) (by repeat' constructor)
  simp only[cq,mZ,nb,iI,oZ,VV,Int.reduceBEq,Int.reduceBNe,Nat.reduceAdd,Nat.reduceSub,Nat.reduceLeDiff,Nat.reduceEqDiff,Int.reduceToNat,reduceIte,reduceCtorEq];refine dV (jx J N Q l (r+1) (by omega) 3 (by decide) (by decide) _) rfl ?_;rintro _ _ ⟨u,rfl,hu,rfl⟩;obtain⟨w,M,D⟩:=nB (ws:=qL) (n:=u.toNat) (by simp[qL];omega);simp only[qL,az,aq]at D;simp only[D,cq,mZ,nb,iI,oZ,VV,Int.reduceBEq,Int.reduceBNe,Nat.reduceAdd,Nat.reduceSub,Nat.reduceLeDiff,Nat.reduceEqDiff,Int.reduceToNat,reduceIte,reduceCtorEq];refine⟨by omega,?_⟩;exact e ⟨5,w,0⟩ (jw g2 Z d) [] 1 (r+1+1) d id g2 rfl (by simp) (by omega) (by omega) F (slot M) (by have:=(xu _ M).2;simp only;omega) (by omega) (by repeat' constructor)
 .simp only[cq,mZ,nb,iI,oZ,Xy,VV,Int.reduceBEq,Int.reduceBNe,Nat.reduceAdd,Nat.reduceSub,Nat.reduceLeDiff,Nat.reduceEqDiff,Int.reduceToNat,reduceIte,reduceCtorEq];refine dV (jx J N Q l (r+1) (by omega) 2 (by decide) (by decide) _) rfl ?_;rintro _ _ ⟨u,rfl,hu,rfl⟩;obtain⟨w,M,D⟩:=nB (ws:=vy) (n:=u.toNat) (by simp[vy];omega);simp only[vy,az,aq]at D;obtain⟨w1,w3⟩:=I5 _ M;simp only[D,cq,mZ,nb,iI,oZ,Xy,VV,Int.reduceBEq,Int.reduceBNe,Nat.reduceAdd,Nat.reduceSub,Nat.reduceLeDiff,Nat.reduceEqDiff,Int.reduceToNat,reduceIte,reduceCtorEq];refine⟨by omega,?_⟩;have L:=H.empty w1 (by omega) (by omega);rw[<- W]at L;exact e ⟨4,w,((id+1:Nat):Int)⟩ (jw g2 Z d) [] 1 (r+1+1) d (id+1) g2 rfl (by simp) (by omega) (by omega) F L (by simp only;omega) (by omega) (by repeat' constructor)
 .rcases C with rfl|rfl
  .simp only[cq,mZ,nb,iI,oZ,Xy,VV,Int.reduceBEq,Int.reduceBNe,Nat.reduceAdd,Nat.reduceSub,Nat.reduceLeDiff,Nat.reduceEqDiff,Int.reduceToNat,reduceIte,reduceCtorEq];refine dV (jx J N Q l (r+1) (by omega) 3 (by decide) (by decide) _) rfl ?_;rintro _ _ ⟨u,rfl,hu,rfl⟩;obtain⟨w,M,D⟩:=nB (ws:=sA) (n:=u.toNat) (by simp[sA];omega);simp only[sA,az,aq]at D;obtain⟨w1,w2,w3⟩:=DE _ M;simp only[D,cq,mZ,nb,iI,oZ,Xy,ab,VV,Int.reduceBEq,Int.reduceBNe,Nat.reduceAdd,Nat.reduceSub,Nat.reduceLeDiff,Nat.reduceEqDiff,Int.reduceToNat,reduceIte,reduceCtorEq];refine⟨by omega,⟨by omega,by simp only[maxLen];omega⟩,?_⟩;have e3:d.map It.axV++[[V.i .i64 2,.s w,.I ((id+1:Nat):Int)]]=(d++[(⟨2,w,((id+1:Nat):Int)⟩:It)]).map It.axV:=by simp[It.axV]
   rw[e3];have L:=H.opens w1 w2 (by omega) (by omega);rw[<- W]at L;refine e ⟨2,w,((id+1:Nat):Int)⟩ (jw (g2+1) Z (d++[⟨2,w,((id+1:Nat):Int)⟩])) [] 1 (r+1+1) (d++[⟨2,w,((id+1:Nat):Int)⟩]) (id+1) (g2+1) rfl (by simp) (by omega) (by simp;omega) (λz p=>by
    rcases bJ.1 p with p|p;.exact F z p
    rw[cQ]at p;subst p;exact w3) L ?_ ?_ ?_;.simp only;omega
   .omega
   repeat' constructor
  simp only[cq,mZ,nb,iI,oZ,Xy,VV,Int.reduceBEq,Int.reduceBNe,Nat.reduceAdd,Nat.reduceSub,Nat.reduceLeDiff,Nat.reduceEqDiff,Int.reduceToNat,reduceIte,reduceCtorEq];refine dV (jx J N Q l (r+1) (by omega) 3 (by decide) (by decide) _) rfl ?_;rintro _ _ ⟨u,rfl,hu,rfl⟩;obtain⟨w,M,D⟩:=nB (ws:=sA) (n:=u.toNat) (by simp[sA];omega);simp only[sA,az,aq]at D;obtain⟨w1,w2,w3⟩:=DE _ M;simp only[D,cq,mZ,nb,iI,oZ,Xy,ab,VV,Int.reduceBEq,Int.reduceBNe,Nat.reduceAdd,Nat.reduceSub,Nat.reduceLeDiff,Nat.reduceEqDiff,Int.reduceToNat,reduceIte,reduceCtorEq];refine⟨by omega,⟨by omega,by simp only[maxLen];omega⟩,?_⟩;have e3:d.map It.axV++[[V.i .i64 2,.s w,.I ((id+1:Nat):Int)]]=(d++[(⟨2,w,((id+1:Nat):Int)⟩:It)]).map It.axV:=by simp[It.axV]
  rw[e3];have L:=H.opens w1 w2 (by omega) (by omega);rw[<- W]at L;refine e ⟨2,w,((id+1:Nat):Int)⟩ (jw (g2+1) Z (d++[⟨2,w,((id+1:Nat):Int)⟩])) [] 1 (r+1+1) (d++[⟨2,w,((id+1:Nat):Int)⟩]) (id+1) (g2+1) rfl (by simp) (by omega) (by simp;omega) (λz p=>by
   rcases bJ.1 p with p|p;.exact F z p
   rw[cQ]at p;subst p;exact w3) L ?_ ?_ ?_;.simp only;omega
  .omega
  repeat' constructor
 .rcases C with rfl|rfl
  .rcases fN d with P|⟨c,y,P⟩;.subst P;have O:decide ((0:Int)<=IntKind.i64.wrap (((0:Nat):Int) - 1))=Z:=rfl;simp only[cq,mZ,nb,iI,oZ,aq,aj,O,VV,Int.reduceBEq,Int.reduceBNe,Nat.reduceAdd,Nat.reduceSub,Nat.reduceLeDiff,Nat.reduceEqDiff,Int.reduceToNat,reduceIte,reduceCtorEq];exact e ⟨1,t,0⟩ (jw g2 Z []) [] 1 (r+1) [] id g2 rfl (by simp) (by omega) (by simp;omega) (by simp) (H.ax1 t) (by simp only;omega) (by omega) (by repeat' constructor)
   rw[fk]at P;subst P;have EL:(c++[y]).length=c.length+1:=by simp
   have Nd:IntKind.i64.wrap (((c.length+1:Nat):Int) - 1)=(c.length:Int):=by rw[IntWalk.i64_in _ (by omega)];omega
   have Dt:IntKind.i64.wrap ((c.length:Int)+1)=((c.length+1:Nat):Int):=cT (by omega);have O:decide ((0:Int)<=(c.length:Int))=true:=by simp
   have am:=F y (by simp);have YB:=wv y.ax1;have dP:∀j,gi (List.map It.axV (c++[y])) c.length j=y.axV[j]?:=λj=>oE;have U:(0:Int)<=(c.length:Int)/\(c.length:Int)<((c.length+1:Nat):Int):=⟨by omega,by omega⟩;obtain⟨L,hn⟩:=H.close (by omega);simp only[cq,mZ,nb,iI,oZ,ab,EL,Nd,O,dP,It.axV,al,VV,Int.reduceBEq,Int.reduceBNe,Nat.reduceAdd,Nat.reduceSub,Nat.reduceLeDiff,Nat.reduceEqDiff,Int.reduceToNat,reduceIte,reduceCtorEq];refine⟨U,U,?_⟩;refine ak (uq y.ax1 _) rfl ?_;simp only[cq,mZ,nb,iI,oZ,ab,EL,Nd,Dt,O,dP,It.axV,al,VV,Int.reduceBEq,Int.reduceBNe,Nat.reduceAdd,Nat.reduceSub,Nat.reduceLeDiff,Nat.reduceEqDiff,Int.reduceToNat,reduceIte,reduceCtorEq];have e4:List.take c.length (List.map It.axV (c++[y]))=List.map It.axV c:=by rw[gl];exact ma (by simp)
   have e5:List.take (c.length+1 - (c.length+1)) (List.drop (c.length+1) (List.map It.axV (c++[y])))=[]:=by simp
   simp only[e4,e5,bE,ab,aj,cg];refine⟨U,by omega,by omega,⟨by omega,by simp only[maxLen];omega⟩,by omega,⟨by omega,by simp only[maxLen];omega⟩,?_⟩;exact e ⟨3,ff y.ax1,y.id⟩ (jw g2 Z (c++[y])) [jw 1 Z c] 3 (r+1) c id 1 rfl (by simp) (by omega) (by omega) (λz p=>F z (by simp[p])) (by rw[hn];exact L) (by simp only;omega) (by omega) (by repeat' constructor)
  rcases fN d with P|⟨c,y,P⟩;.subst P;have O:decide ((0:Int)<=IntKind.i64.wrap (((0:Nat):Int) - 1))=Z:=rfl;simp only[cq,mZ,nb,iI,oZ,aq,aj,O,VV,Int.reduceBEq,Int.reduceBNe,Nat.reduceAdd,Nat.reduceSub,Nat.reduceLeDiff,Nat.reduceEqDiff,Int.reduceToNat,reduceIte,reduceCtorEq];exact e ⟨1,t,0⟩ (jw g2 Z []) [] 1 (r+1) [] id g2 rfl (by simp) (by omega) (by simp;omega) (by simp) (H.ax1 t) (by simp only;omega) (by omega) (by repeat' constructor)
  rw[fk]at P;subst P;have EL:(c++[y]).length=c.length+1:=by simp
  have Nd:IntKind.i64.wrap (((c.length+1:Nat):Int) - 1)=(c.length:Int):=by rw[IntWalk.i64_in _ (by omega)];omega
  have Dt:IntKind.i64.wrap ((c.length:Int)+1)=((c.length+1:Nat):Int):=cT (by omega);have O:decide ((0:Int)<=(c.length:Int))=true:=by simp
  have am:=F y (by simp);have YB:=wv y.ax1;have dP:∀j,gi (List.map It.axV (c++[y])) c.length j=y.axV[j]?:=λj=>oE;have U:(0:Int)<=(c.length:Int)/\(c.length:Int)<((c.length+1:Nat):Int):=⟨by omega,by omega⟩;obtain⟨L,hn⟩:=H.close (by omega);simp only[cq,mZ,nb,iI,oZ,ab,EL,Nd,O,dP,It.axV,al,VV,Int.reduceBEq,Int.reduceBNe,Nat.reduceAdd,Nat.reduceSub,Nat.reduceLeDiff,Nat.reduceEqDiff,Int.reduceToNat,reduceIte,reduceCtorEq];refine⟨U,U,?_⟩;refine ak (uq y.ax1 _) rfl ?_;simp only[cq,mZ,nb,iI,oZ,ab,EL,Nd,Dt,O,dP,It.axV,al,VV,Int.reduceBEq,Int.reduceBNe,Nat.reduceAdd,Nat.reduceSub,Nat.reduceLeDiff,Nat.reduceEqDiff,Int.reduceToNat,reduceIte,reduceCtorEq];have e4:List.take c.length (List.map It.axV (c++[y]))=List.map It.axV c:=by rw[gl];exact ma (by simp)
  have e5:List.take (c.length+1 - (c.length+1)) (List.drop (c.length+1) (List.map It.axV (c++[y])))=[]:=by simp
  simp only[e4,e5,bE,ab,aj,cg];refine⟨U,by omega,by omega,⟨by omega,by simp only[maxLen];omega⟩,by omega,⟨by omega,by simp only[maxLen];omega⟩,?_⟩;exact e ⟨3,ff y.ax1,y.id⟩ (jw g2 Z (c++[y])) [jw 1 Z c] 3 (r+1) c id 1 rfl (by simp) (by omega) (by omega) (λz p=>F z (by simp[p])) (by rw[hn];exact L) (by simp only;omega) (by omega) (by repeat' constructor)
 simp only[cq,mZ,nb,iI,oZ,VV,Int.reduceBEq,Int.reduceBNe,Nat.reduceAdd,Nat.reduceSub,Nat.reduceLeDiff,Nat.reduceEqDiff,Int.reduceToNat,reduceIte,reduceCtorEq];exact e ⟨1,t,0⟩ (jw g2 Z d) [] 1 (r+1) d id g2 rfl (by simp) (by omega) (by omega) F (H.ax1 t) (by simp only;omega) (by omega) (by repeat' constructor)

/- A part of a proof; the claim's last text says of what. -/
import Derived.Sort.KeysCollected
import Derived.Test.YtlakkaamfadipaaGreatDoorB14
import Derived.Test.YtlakkaamfadipaaGreatDoorB15
import Derived.Test.YtlakkaamfadipaaGreatDoorB17
set_option linter.all false

namespace Go.Pm
open Go Go.RowKit Go.Bt
def PC.ofRow{P:bo}{f:Nat}{args:aB}{J:ak}{E sz by':Nat}{rows:dF}(hT:Ti P E sz by')
  (h:∀(B:Nat) (w0 w:bD) (μ:Mem) (i:Array Value),lj P B w0 w J μ->VRs w J μ args i->Calls P f i w λe w'=>∃v vals,e=.returned v/\w'.ownsRow w.heap.size E sz v rows.length vals/\Below w.heap.size w w'/\kN w J μ rows sz vals) :
  PC P f args J (λr J'=>r=.own J.length 0/\J'=J++[.row E sz by' 0 false rows]):=by
 intro B w0 w μ i l u;refine(h B w0 w μ i l u).mono ?_;rintro e w' ⟨v,vals,rfl,k,q,x⟩
 have o:=l.z6 (w':=w') (.row E sz by' 0 false rows) v (yv q) (λb a=>by
   rcases k.2 with⟨rfl,_⟩|⟨g,c,d,rfl,m,_⟩
   .simp[lZ]at a
   .simp only[lZ,ae]at a;omega)
  (λs=>⟨hT,vals,⟨k.1,by
   rcases k.2 with j|⟨g,c,d,j,m,p⟩
   .exact .inl j
   .exact .inr ⟨g,c,d,j,cu l.base m,p⟩⟩,x.jF s.jF⟩)
 have t:(J++[.row E sz by' 0 false rows])[J.length]?=some (.row E sz by' 0 false rows):=by simp
 have n:=VR.uq (w:=w') (μ:=yO μ J.length v) t;rw[gR]at n;exact⟨_,v,_,_,rfl,⟨rfl,rfl⟩,o.1,n,o.2.jF⟩
def PC.ahh{P:bo}{f:Nat}{args:aB}{J:ak}{E sz by':Nat}{rows:dF}(hT:Ti P E sz by')
  (h:∀(B:Nat) (w0 w:bD) (μ:Mem) (a:Array Value),lj P B w0 w J μ->VRs w J μ args a->Calls P f a w λe w'=>∃v vals,e=.returned v/\w'.ownsRow w.heap.size E sz v rows.length vals/\Below w.heap.size w w'/\kN w J μ rows sz vals) :
  PC P f args J (λr J'=>r=.sl sz rows/\J'=J) :=
 λB w0 w μ a b c=>PC.fz b.closed (PC.ofRow hT h) B w0 w μ a b c
end Go.Pm
namespace Go.Proofs.Tryz
open Go Go.Pm Go.Bt
def AE(x n:Int)(b:0<n)(d:n<2^62)(J:ak):bM prog 14 [.I x,.I n] J (.I (place x n)):=by
 refine aZ func14 p14.2 λf c=>au ?_;simp only[p14,SS,seval];simp only[VV,seval];refine⟨by omega,λh=>?_,λh=>?_⟩
 .have h:x.tmod n<0:=by simpa using h
  have a:=tK (x:=x) b;have e:place x n=x.tmod n+n:=by simp only[place,az h]
  refine aO (.inr rfl) rfl ⟨?_,rfl⟩;rw[e]at a |-;simp only[Pm.one,aA,aR];rw[IntWalk.i64_in _ (by omega)]
 .have h:¬x.tmod n<0:=by simpa using h
  have e:place x n=x.tmod n:=by simp only[place,an h]
  exact aO (.inr rfl) rfl ⟨by rw[e];rfl,rfl⟩
def gT(S:ak)(a:Nat)(l:bH)(k:Nat):ak:=S.set a (.box 31 [.sl 1 (l.map bV),.I k])
def bf(S:ak)(a:Nat)(l:bH)(k:Nat):(gT S a l k).length=S.length:=by simp[gT]
def oF{S:ak}{a:Nat}{l:bH}{k:Nat}{loc:ak}(h:a<S.length):gT S a l k++loc=gT (S++loc) a l k:=by
 simp only[gT];rw[iu _ _ h]
def Vu{S:ak}{a:Nat}{l:bH}{k:Nat}(h:a<S.length):(gT S a l k)[a]?=some (.box 31 [.sl 1 (l.map bV),.I k]):=by
 simp[gT,h]
def Vt{S:ak}{a:Nat}{l:bH}{k k':Nat}:(gT S a l k).set a (.box 31 [.sl 1 (l.map bV),.I (k':Int)])=gT S a l k':=by
 simp[gT]
def aac(S:ak)(a:Nat)(d:a<S.length)(l:bH)(k:Nat)(i:k<2^60)(n:Int)(e:0<n)(f:n<2^62):
  PC prog 43 [.ptr a 0,.I n] (gT S a l k) (λr J'=>r=.I (place (l.getD k 0) n)/\J'=gT S a l (k+1)):=by
 refine aZ func43 p43.2 λm j=>au ?_;simp only[p43,SS,seval];have c:IntKind.i64.wrap ((k:Int)+1)=((k+1:Nat):Int):=cm (by omega)
 by_cases h:k<l.length
 .have b:decide ((k:Int)<(l.length:Int))=true:=by simp;omega
  simp only[Vu d,ag,b,c,Vt,ao,Be h,VV,seval];refine⟨by omega,?_⟩;refine aw (AE (l.getD k 0) n e f _) rfl ?_;simp only[VV,seval];exact fH (.inr rfl) rfl (Wk.refl _ _) rfl ⟨rfl,rfl⟩
 .have b:decide ((k:Int)<(l.length:Int))=false:=by simp;omega
  have g:l.getD k 0=0:=by rw[aq,cI (by omega)];rfl
  simp only[Vu d,ag,b,c,Vt,VV,seval];refine aw (AE 0 n e f _) rfl ?_;simp only[VV,seval];exact fH (.inr rfl) rfl (Wk.refl _ _) rfl ⟨by rw[g];rfl,rfl⟩
def qD(S:ak)(a:Nat)(d:a<S.length)(l:bH)(k:Nat)(c:k<2^60)(n:Int)(b:0<n)(e:n<2^62):
  PC prog 43 [.ptr a 0,.I n] (gT S a l k) (λr J'=>∃v:Int,r=.I v/\(0<=v/\v<n)/\J'=gT S a l (k+1)) :=
 (aac S a d l k c n b e).mono λ_ _ h=>⟨_,h.1,tK b,h.2⟩
def AW:dq:=[[114,101,100],[99,97,114],[82,101,100],[97],[99,97,114,115],[49,44,53],[50,50],[100,111,110,39,116],[46],[33],[32],[32,32],[60],[38],[123],[34],[92],[120,45,121],[10],[61],[125],[62],[9],[98]]
def lk{ws:dq}{n:Nat}(h:n<ws.length):∃w∈ws,gj (ws.map λs=>[V.s s]) n 0=some (V.s w):=by
 refine⟨ws[n],dC h,?_⟩;simp[gj,h]
def ac2(S:ak)(a:Nat)(d:a<S.length)(l:bH)(k:Nat)(c:k<2^60):
  PC prog 141 [.ptr a 0] (gT S a l k) (λr J'=>∃w:aG,r=.s w/\w∈AW/\J'=gT S a l (k+1)):=by
 refine aZ func141 al5.2 λg f=>au ?_;simp only[al5,SS,seval];simp only[VV,seval];refine cD (qD S a d l k c 24 (by decide) (by decide)) rfl ?_;rintro _ _ ⟨v,rfl,h,rfl⟩;obtain⟨w,b,e⟩:=lk (ws:=AW) (n:=v.toNat) (by simp[AW];omega);simp only[AW,aH,bR]at e;simp only[e,VV,seval];refine⟨by omega,?_⟩;exact fH (.inr rfl) rfl (Wk.refl _ _) rfl ⟨w,rfl,b,rfl⟩
def Y8{w:aG}(h:w∈AW):w.length<=5:=by
 revert w;decide
def ahw(S:ak)(a:Nat)(j:a<S.length)(l:bH){K:bl}(b:Nat)(u:b<2^59)(n:Nat)(x:n<2^20):∀(m k:Nat) (out:aG),m<=n->(b<=k/\k<=b+2*(n - m))->out.length<=6*(n - m) ->
  (∀(k:Nat) (out:aG),(b<=k/\k<=b+2*n)->out.length<=6*n->((fj 5 (fh (.s out) (fj 25 fo))) λq=>K (.exit 0) ⟨q,gT S a l k⟩)) ->
  fm S.length prog U6 K (m+1) ⟨(.ptr a 0::uu 4 (.s out::.I m::uu 24 [])),gT S a l k⟩:=by
 intro m
 induction m with
 |zero =>
  intro k out t p r d;refine ar λR g=>?_;simp only[U6,VV,seval];exact⟨nofun,λ_=>d k out (by omega) (by omega) ..⟩
 |succ m ih =>
  intro k out t p r d;have f:IntKind.i64.wrap (((m+1:Nat):Int) - 1)=(m:Int):=by rw[IntWalk.i64_in _ (by omega)];omega
  refine ar λR g=>?_;simp only[U6,f,VV,seval];refine⟨λ_=>?_,λh=>by simp at h<;>omega⟩;refine cD (ac2 S a j l k (by omega)) rfl ?_;rintro _ _ ⟨w,rfl,o,rfl⟩;have z:=Y8 o;simp only[f,VV,seval]
  by_cases i:out=[]
  .have e:(!out==[])=false:=by simp[i]
   refine ua (Q:=λ_ _=>True) (c:=false) (by simp only[e,VV,seval]<;>rfl) (nofun) rfl (nofun) λ_=>⟨.I 0,?_⟩;simp only[e,f,VV,seval];refine⟨by simp only[maxLen];omega,?_⟩;refine g _ (aK ?_ (ih (k+1) (out++w) (by omega) (by omega) (by rw[aj];omega) d))
   repeat' constructor
  .have e:(!out==[])=true:=by simp[i]
   refine ua (c:=true) (by simp only[e,VV,seval]<;>rfl) (λ_=>qD S a j l (k+1) (by omega) 3 (by decide) (by decide)) rfl ?_ (nofun);rintro _ _ _ ⟨v,rfl,y,rfl⟩;simp only[e,f,VV,seval];refine⟨λh=>⟨by simp only[maxLen];omega,by simp only[maxLen,aj,ai,al];omega,?_⟩,λh=>⟨by simp only[maxLen];omega,?_⟩⟩
   .refine g _ (aK ?_ (ih (k+1+1) (out++32::w) (by omega) (by omega) (by rw[aj,ai];omega) d))
    repeat' constructor
   .refine g _ (aK ?_ (ih (k+1+1) (out++w) (by omega) (by omega) (by rw[aj];omega) d))
    repeat' constructor
def ad7(S:ak)(a:Nat)(d:a<S.length)(l:bH)(k:Nat)(i:k<2^58)(n:Nat)(h:n<2^20):
  PC prog 79 [.ptr a 0,.I n] (gT S a l k) (λr J'=>∃(s:aG) (k':Nat),r=.s s/\s.length<=6*n/\(k<=k'/\k'<=k+2*n+1)/\J'=gT S a l k'):=by
 refine aZ func79 p79.2 λg e=>au ?_;have c:IntKind.i64.wrap ((n:Int)+1)=((n+1:Nat):Int):=cm (by omega);simp only[p79,SS,seval];simp only[c,VV,seval];refine cD (qD S a d l k (by omega) ((n+1:Nat):Int) (by omega) (by omega)) rfl ?_;rintro _ _ ⟨v,rfl,j,rfl⟩;obtain⟨m,rfl⟩:∃m:Nat,v=m:=⟨v.toNat,by omega⟩;simp only[c,bf,VV,seval];refine bZ.aK ?_ (m+1) (ahw S a d l (k+1) (by omega) m (by omega) m (k+1) [] (aD _) (by omega) (by simp) ?_)
 .repeat' constructor
 intro k' b o f;simp only[JE];intros;simp only[VV,seval];exact fH (.inr rfl) rfl (Wk.refl _ _) (by simp[bf]) ⟨b,k',rfl,by omega,by omega,rfl⟩
def ahu{n:Nat}{J:ak}{K:bl}(l:bH)(x:Int)(d:l.length<2^63):∀(rest pre:bH),l=pre++rest ->
  (rest.contains x=false->((fj 18 fo) λi=>K (.exit 0) ⟨i,J⟩))->(rest.contains x=true->((fj 4 (fh (.b true) (fj 13 fo))) λi=>K .ret ⟨i,J⟩)) ->
  fm n prog U4 K (rest.length+1) ⟨(.sl 1 (l.map bV)::.I x::uu 5 (.I l.length::.I pre.length::uu 9 [])),J⟩:=by
 intro rest
 induction rest with
 |nil =>
  intro pre a g f;have a:=cN a
  subst a;refine ar λR j=>?_;simp only[U4,VV,seval];exact⟨λh=>by simp at h,λ_=>g rfl ..⟩
 |cons c rest ih =>
  intro pre a g f;subst a;refine ar λR j=>?_;simp only[U4,bV,VV,seval];refine⟨λ_=>⟨by simp;omega,λh=>?_,λh=>?_⟩,λh=>by simp at h<;>omega⟩
  .have h:c=x:=by simpa using h
   exact f (by simp[h]) ..
  .have h:¬c=x:=by simpa using h
   have e:(c::rest).contains x=rest.contains x:=by
    have:(x==c)=false:=by simpa using λe=>h e.symm
    simp only[List.contains_cons,this,iY]
   rw[e]at g f;refine j _ (aK ?_ (ih (pre++[c]) (by simp) g f));rw[cm (by simp at d;omega)];simp only[aj,ai,al]
   repeat' constructor
def Qa(l:bH)(x:Int)(J:ak):bM prog 83 [.sl 1 (l.map bV),.I x] J (.b (l.contains x)):=by
 refine aZ func83 p83.2 λd c=>au ?_;have a:=mG (c 0 _ rfl).1;rw[ag]at a;simp only[p83,SS,seval];simp only[ag,VV,seval];refine bZ.aK ?_ (l.length+1) (ahu l x a l [] rfl (λh=>?_) (λh=>?_))
 .repeat' constructor
 .simp only[JE];intros;simp only[VV,seval];exact aO (.inr rfl) rfl ⟨by rw[h];rfl,rfl⟩
 .simp only[JE];intros;exact aO (.inr rfl) rfl ⟨by rw[h];rfl,rfl⟩
def oT(x:It)(J:ak):bM prog 81 [.agg x.awa] J (.b (b9 x)):=by
 refine aZ func81 p81.2 λa c=>au ?_;simp only[p81,It.awa,SS,seval];simp only[VV,seval];refine bg a (.inr rfl) rfl (by simp[LW]) ⟨?_,rfl⟩;simp only[Pm.one,b9,aA,aR]
def ahv{n:Nat}{J:ak}{K:bl}(s:aG)(a:s.length<2^63):∀(rest pre:aG),s=pre++rest->32 ∉ pre ->
  (32 ∉ s->((fh (.s s) (fj 17 fo)) λg=>K (.exit 0) ⟨g,J⟩))->(32∈s->((fj 2 (fh (.s (s.take (Lib.indexByte s 32).toNat)) (fj 15 fo))) λg=>K .ret ⟨g,J⟩)) ->
  fm n prog U5 K (rest.length+1) ⟨(.s s::uu 2 (.I pre.length::uu 14 [])),J⟩:=by
 intro rest
 induction rest with
 |nil =>
  intro pre b d i f;have b:=cN b
  subst b;refine ar λR k=>?_;simp only[U5,VV,seval];exact⟨λh=>by simp at h,λ_=>i d ..⟩
 |cons c rest ih =>
  intro pre b d i f;subst b;refine ar λR k=>?_;simp only[U5,VV,seval];refine⟨λ_=>⟨by simp;omega,λh=>⟨by simp;omega,?_⟩,λh=>?_⟩,λh=>by simp at h<;>omega⟩
  .have j:c=32:=by
    rw[show(32:Int)=((32:UInt8).toNat:Int)from rfl,Fp]at h;simpa using h
   subst j
   have e:(Lib.indexByte (pre++32::rest) 32).toNat=pre.length:=by
    rw[nX d];simp
   have:=f (by simp);rw[e]at this;exact this ..
  .have j:¬c=32:=by
    rw[show(32:Int)=((32:UInt8).toNat:Int)from rfl,Fp]at h;simpa using h
   refine k _ (aK ?_ (ih (pre++[c]) (by simp) (by simp[d,YB j]) i f));rw[cm (by simp at a;omega)];simp only[aj,ai,al]
   repeat' constructor
def oz(s:aG)(J:ak):bM prog 80 [.s s] J (.s (cW s)):=by
 refine aZ func80 p80.2 λc b=>au ?_;have a:=Dj (b 0 _ rfl).1;simp only[p80,SS,seval];simp only[VV,seval];refine bZ.aK ?_ (s.length+1) (ahv s a s [] rfl (by simp) (λh=>?_) (λh=>?_))
 .repeat' constructor
 .simp only[JE];intros;simp only[VV,seval];refine aO (.inr rfl) rfl ⟨?_,rfl⟩;have:Lib.indexByte s 32 = -1:=rX h;simp[Pm.one,cW,cutAt,this]
 .simp only[JE];intros;refine aO (.inr rfl) rfl ⟨?_,rfl⟩;have:0<=Lib.indexByte s 32:=mb h;simp[Pm.one,cW,cutAt,this]
def ahG{n:Nat}{J:ak}{K:bl}(a b:List It)(j:a.length<2^63)(p:a.length=b.length):∀(f c d i:List It),a=d++f->b=i++c->d.length=i.length ->
  (gL f c=true->((fj 26 fo) λq=>K (.exit 0) ⟨q,J⟩))->(gL f c=false->((fj 4 (fh (.b false) (fj 21 fo))) λq=>K .ret ⟨q,J⟩)) ->
  fm n prog Vi K (f.length+1) ⟨(.sl 3 (a.map It.awa)::.sl 3 (b.map It.awa)::uu 10 (.I a.length::.I d.length::uu 12 [])),J⟩:=by
 intro f
 induction f with
 |nil =>
  intro c d i g l o m k
  have:c=[]:=by
   subst g;subst l;simp at p;exact aW (by omega)
  subst this;have g:=cN g
  subst g;refine ar λR s=>?_;simp only[Vi,VV,seval];exact⟨λh=>by simp at h,λ_=>m rfl ..⟩
 |cons x f ih =>
  intro c d i g l o m k;cases c with
  |nil=>subst g;subst l;simp at p;omega
  |cons y c =>
   subst g;subst l;have v:(List.map It.awa (i++y::c)).getD d.length []=y.awa:=by rw[o];exact um
   have t:=dh d x (by simp at j;omega)
   refine ar λR s=>?_;simp only[Vi,ao,v,It.awa,gC,dD,VV,seval];have u:(0:Int)<=d.length/\(d.length:Int)<(List.map It.awa (d++x::f)).length:=by simp;omega
   have r:(0:Int)<=d.length/\(d.length:Int)<(List.map It.awa (i++y::c)).length:=by simp at p |-;omega
   have w:Hp x y=(x.awb==y.awb&&(x.awd==y.awd&&x.id==y.id)):=rfl;rw[<- w];refine⟨λ_=>⟨u,r,λh=>?_,λh=>?_⟩,λh=>by simp at h<;>omega⟩
   .have h:Hp x y=false:=by rw[dm]at h;exact h
    exact k (by simp[gL,h]) ..
   .have h:Hp x y=true:=by rw[dQ]at h;exact h
    have e:gL (x::f) (y::c)=gL f c:=by simp[gL,h]
    rw[e]at m k;refine s _ (aK ?_ (ih c (d++[x]) (i++[y]) (by simp) (by simp) (by simp[o]) m k));rw[t];repeat' constructor
def nz(a b:List It)(J:ak):bM prog 39 [.sl 3 (a.map It.awa),.sl 3 (b.map It.awa)] J (.b (gL a b)):=by
 refine aZ func39 p39.2 λg d=>au ?_;have c:=mG (d 0 _ rfl).1;rw[ag]at c;simp only[p39,SS,seval];simp only[ag,VV,seval];refine⟨λh=>?_,λh=>?_⟩
 .refine aO (.inr rfl) rfl ⟨?_,rfl⟩
  have:gL a b=false:=by
   cases e:gL a b with
   |false=>rfl
   |true=>have:=ML e;simp at h;omega
  simp[Pm.one,this]
 .have f:a.length=b.length:=by simp at h;omega
  refine bZ.aK ?_ (a.length+1) (ahG a b c f a b [] [] rfl rfl rfl (λh=>?_) (λh=>?_))
  .repeat' constructor
  .simp only[JE];intros;simp only[VV,seval];exact aO (.inr rfl) rfl ⟨by simp[Pm.one,h],rfl⟩
  .simp only[JE];intros;exact aO (.inr rfl) rfl ⟨by simp[Pm.one,h],rfl⟩
def ad6{J:ak}{K:bl}(N:Nat)(g:N<2^40):∀(k i:Nat),i+k=N ->
  ((fj 3 (fh (.own J.length N) (fj 11 fo))) λe=>K (.exit 0) ⟨e,J++[.row 3 1 8 N false ((eE N).map bV)]⟩) ->
  fm J.length prog N9 K (k+1) ⟨(.I N::uu 2 (.own J.length i::.I ((i+1:Nat):Int)::uu 10 [])),J++[.row 3 1 8 i false ((eE i).map bV)]⟩:=by
 intro k
 induction k with
 |zero =>
  intro i a b;have a:i=N:=by omega
  subst a;refine ar λR c=>?_;simp only[N9,VV,seval];exact⟨λh=>by simp at h<;>omega,λ_=>b ..⟩
 |succ k ih =>
  intro i a b;refine ar λR c=>?_;have f:(eE i).map bV++[[.I ((i+1:Nat):Int)]]=(eE (i+1)).map bV:=by simp[eE,La,bV]
  have d:(eE i).length=i:=by simp[eE]
  simp only[N9,f,ag,d,VV,seval];refine⟨λ_=>⟨⟨by omega,by simp only[maxLen];omega⟩,?_⟩,λh=>by simp at h<;>omega⟩;refine c _ (aK ?_ (ih (i+1) (by omega) b));rw[cm (by omega)]
  repeat' constructor
def W0(n:Nat)(b:n<2^40)(J:ak):bM prog 105 [.I n] J (.sl 1 ((eE n).map bV)):=by
 refine aZ func105 amv.2 λa c=>au ?_;simp only[amv,SS,seval];simp only[VV,seval];refine bZ.wk ((Wk.ij (k:=3) tI rfl).trans (Wk.fg ?_)) (bZ.uh (n+1) (ad6 n b n 0 (by omega) ?_))
 .simp only[VV,seval]
  repeat' constructor
 .simp only[JE];intros;simp only[VV,seval];refine mW 0 a (.inr rfl) rfl rfl ?_ ?_
  .simp[fz,oa,jP,GS]
  .simp[fz,oa,Pm.one]
def ahH{J:ak}{K:bl}(d:List It)(r:cn J)(a:d.length<2^40):∀(rest pre:List It) (acc:bH) (g:Nat),d=pre++rest->acc.length<=pre.length ->
  (∀g,((fj 3 (fh (.own J.length g) (fj 31 fo))) λo=>K (.exit 0) ⟨o,J++[.row 3 1 8 g true ((eF acc rest).map bV)]⟩)) ->
  fm J.length prog Vj K (rest.length+1) ⟨(.sl 3 (d.map It.awa)::uu 2 (.own J.length g::uu 2 (.I d.length::.I pre.length::uu 27 []))),J++[.row 3 1 8 g true (acc.map bV)]⟩:=by
 intro rest
 induction rest with
 |nil =>
  intro pre acc g k q f;have k:=cN k
  subst k;refine ar λR l=>?_;simp only[Vj,VV,seval];exact⟨λh=>by simp at h,λ_=>f g ..⟩
 |cons y rest ih =>
  intro pre acc g k q f;subst k
  have n:=dh pre y (by simp at a;omega)
  refine ar λR l=>?_;simp only[Vj,It.awa,VV,seval];refine⟨λ_=>⟨by simp;omega,?_⟩,λh=>by simp at h<;>omega⟩;refine aw (oT y _) rfl ?_;have j:(0:Int)<=pre.length/\(pre.length:Int)<(List.map It.awa (pre++y::rest)).length:=by simp;omega
  cases m:b9 y with
  |false =>
   have e:eF acc (y::rest)=eF acc rest:=by simp[eF,m]
   rw[e]at f;simp only[It.awa,VV,seval];refine⟨nofun,.I 0,nofun,?_⟩;refine bB (c:=false) (v:=.b false) (by rfl) (nofun) rfl ?_;simp only[VV,seval];refine l _ (aK ?_ (ih (pre++[y]) acc g (by simp) (by simp;omega) f));rw[n];repeat' constructor
  |true =>
   simp only[It.awa,VV,seval];refine⟨j,.I y.id,rfl,?_⟩;refine bB (c:=true) (by rfl) (λ_=>PC.fzs J.length (by simp only[jX];rfl) (Qa acc y.id _) (by simp only[aH,bR,ev,aR,aA,fz,oa,jx,aT])) rfl ?_;simp only[It.awa,VV,seval];refine⟨λh=>?_,λh=>?_⟩
   .have h:acc.contains y.id=false:=by rw[dm]at h;exact h
    have e:eF acc (y::rest)=eF (acc++[y.id]) rest:=by simp only[eF,m,h,iw,uQ,aT]
    rw[e]at f;have p:acc.map bV++[[V.i .i64 y.id]]=(acc++[y.id]).map bV:=by simp[bV]
    rw[p];refine⟨j,⟨by simp at a |-;omega,by simp at a |-;simp only[maxLen];omega⟩,?_⟩;refine l _ (aK ?_ (ih (pre++[y]) (acc++[y.id]) (g+1) (by simp) (by simp;omega) f));rw[n];repeat' constructor
   .have h:acc.contains y.id=true:=by rw[dQ]at h;exact h
    have e:eF acc (y::rest)=eF acc rest:=by simp only[eF,m,h,fO,gB];rfl
    rw[e]at f;refine l _ (aK ?_ (ih (pre++[y]) acc g (by simp) (by simp;omega) f));rw[n];repeat' constructor
def rJ(a:List It)(b:a.length<2^40)(J:ak):bM prog 36 [.sl 3 (a.map It.awa)] J (.sl 1 ((awm a).map bV)):=by
 refine aZ func36 p36.2 λc d=>au ?_;simp only[p36,SS,seval];simp only[ag,VV,seval];refine bZ.wk ((Wk.ij (k:=3) tI rfl).trans (Wk.ag7.trans (Wk.fg ?_))) (bZ.uh (a.length+1) (ahH a c b a [] [] 0 rfl (aD _) ?_))
 .simp only[VV,seval]
  repeat' constructor
 .intro g;simp only[JE];intros;simp only[VV,seval];refine mW 0 c (.inr rfl) rfl rfl ?_ ?_
  .simp[fz,oa,jP,GS]
  .simp[fz,oa,Pm.one,awm]
def Ip:Ti prog 61 3 32:=qJ (by kernel_rfl)
def aao{J:ak}{K:bl}(d:List It)(F:cn J)(c:d.length<2^40)(u:bd d<2^40):∀(rest pre out:List It) (g:Nat),d=pre++rest->out.length<=pre.length->bd out<=bd pre ->
  (∀g,((fj 3 (fh (.own J.length g) (fj 57 fo))) λM=>K (.exit 0) ⟨M,J++[.row 61 3 32 g false ((rest.foldl dO out).map It.awa)]⟩)) ->
  fm J.length prog QC K (rest.length+1) ⟨(.sl 3 (d.map It.awa)::uu 2 (.own J.length g::uu 4 (.I d.length::.I pre.length::uu 51 []))),J++[.row 61 3 32 g false (out.map It.awa)]⟩:=by
 intro rest
 induction rest with
 |nil =>
  intro pre out g l B w q;have l:=cN l
  subst l;refine ar λR f=>?_;simp only[QC,VV,seval];exact⟨λh=>by simp at h,λ_=>q g ..⟩
 |cons x rest ih =>
  intro pre out g l B w q;subst l
  have next:∀(a:List It) (p:Nat) {j:ak},dO out x=a->∀{R:ca} {v:aB},(∀m,fm J.length prog QC K (rest.length+1) m->R m) ->
    oJ v (.sl 3 ((pre++x::rest).map It.awa)::uu 2 (.own J.length p::uu 4 (.I (pre++x::rest).length::.I (IntKind.i64.wrap ((pre.length:Int)+1))::uu 51 [])))->R ⟨v,J++(.row 61 3 32 p false (a.map It.awa)::j)⟩:=by
   intro a p j A R v f C
   have L:=dh pre x (by simp at c;omega)
   rw[L]at C;have o:=vA out x;rw[A]at o;have H:(x::rest).foldl dO out=rest.foldl dO a:=by rw[dW,A]
   rw[H]at q;refine f _ (cG [_] j (cC F (by simp)) C ?_ (ih (pre++[x]) a p (by simp) (by simp;omega) (by simp only[fM,bd];omega) q));simp only[LW,ai,al,aY];omega
  have k:(out.length+1)*32<=2^47/\out.length+1<=maxLen:=by simp at c;simp[maxLen];omega
  refine ar λR f=>?_;simp only[QC,It.awa,VV,seval];refine⟨λ_=>⟨by simp;omega,λb=>?_,λb=>⟨λe=>?_,λe=>?_⟩⟩,λh=>by simp at h<;>omega⟩
  .have b:x.awb≠1:=by simpa using b
   have n:out.map It.awa++[[.I x.awb,.s x.awd,.I x.id]]=(out++[x]).map It.awa:=by simp[It.awa]
   refine⟨by rw[ag];exact k,?_⟩;rw[n];refine next (out++[x]) (g+1) (by simp[dO,b]) f ?_
   repeat' constructor
  .have b:x.awb=1:=by simpa using b
   have e:x.awd=[]:=by simpa using e
   refine next out g (by simp[dO,b,e]) f ?_
   repeat' constructor
  have b:x.awb=1:=by simpa using b
  have e:x.awd≠[]:=by simpa using e
  rcases dn out with G|⟨a,y,z⟩
  .subst G;have r:decide ((0:Int)<(([]:dF).length:Int))=false:=rfl;simp only[bR,r];refine⟨nofun,.I 0,nofun,?_⟩;simp only[VV,seval];refine⟨by decide,next [⟨1,x.awd,0⟩] (g+1) (by simp[dO,b,e]) f ?_⟩
   repeat' constructor
  .rw[da]at z;subst z
   have D:IntKind.i64.wrap (((a++[y]).length:Int) - 1)=a.length:=by
    have:(a++[y]).length<2^63:=by simp at B c |-;omega
    rw[IntWalk.i64_in _ (by simp at this |-;omega)];simp
   have E:gj (List.map It.awa (a++[y])) a.length 0=some (.I y.awb):=by
    rw[qR];rfl
   have r:decide ((0:Int)<((List.map It.awa (a++[y])).length:Int))=true:=by simp
   simp only[r,ag,D,ao,E];refine⟨λ_=>by simp;omega,.I y.awb,λ_=>⟨True,rfl,trivial⟩,?_⟩;have N:decide ((0:Int)<((a++[y]).length:Int))=true:=by simp
   have t:gj (List.map It.awa (a++[y])) a.length 1=some (.s y.awd):=by
    rw[qR];rfl
   simp only[N,D,ao,t,ag,VV,seval];have o:(0:Int)<=(a.length:Int)/\(a.length:Int)<((a++[y]).length:Int):=⟨by omega,by rw[aj,eI];omega⟩;refine⟨λi=>⟨o,?_,o,by omega,?_⟩,λi=>⟨k,?_⟩⟩
   .simp only[fM,bd]at w u;simp only[maxLen];omega
   .have i:y.awb=1:=by simpa using i
    have n:(List.map It.awa (a++[y])).set a.length (.I 1::.s (y.awd++x.awd)::.I 0::List.drop 3 y.awa)=(a++[(⟨1,y.awd++x.awd,0⟩:It)]).map It.awa:=by
     simp[List.set_append,It.awa]
    rw[n];refine next (a++[⟨1,y.awd++x.awd,0⟩]) g (by simp[dO,b,e,i]) f ?_
    repeat' constructor
   .have i:¬y.awb=1:=by simpa using i
    have n:List.map It.awa (a++[y])++[[.I 1,.s x.awd,.I 0]]=(a++[y]++[(⟨1,x.awd,0⟩:It)]).map It.awa:=by simp[It.awa]
    rw[n];refine next (a++[y]++[⟨1,x.awd,0⟩]) (g+1) (by simp[dO,b,e,i]) f ?_
    repeat' constructor
def Az(a:List It)(b:a.length<2^40)(d:bd a<2^40)(J:ak):bM prog 82 [.sl 3 (a.map It.awa)] J (.sl 3 ((awl a).map It.awa)):=by
 refine aZ func82 p82.2 λc f=>au ?_;simp only[p82,SS,seval];simp only[ag,VV,seval];refine bZ.wk ((Wk.ij (k:=3) Ip rfl).trans (Wk.fg ?_)) (bZ.uh (a.length+1) (aao a c b d a [] [] 0 rfl (aD _) (aD _) ?_))
 .simp only[VV,seval]
  repeat' constructor
 .intro g;simp only[JE];intros;simp only[VV,seval];refine mW 0 c (.inr rfl) rfl rfl ?_ ?_
  .simp[fz,oa,jP,GS]
  .have e:a.foldl dO []=awl a:=tN a;simp[fz,oa,Pm.one,e]
def jW(a b:List It)(g:a.length<2^39)(h:b.length<2^39)(e:bd a<2^39)(c:bd b<2^39)(J:ak):bM prog 48 [.sl 3 (a.map It.awa),.sl 3 (b.map It.awa)] J (.sl 3 ((awl (a++b)).map It.awa)):=by
 refine aZ func48 p48.2 λd f=>au ?_;simp only[p48,SS,seval];simp only[ag,VV,seval];refine⟨by simp[maxLen];omega,by simp[maxLen];omega,?_⟩;refine xl J.length (by simp only[jX];rfl) (Az (a++b) (by simp;omega) (by rw[fM];omega) _) (by simp[fz,oa,ev]) ?_;simp only[VV,seval];exact gq d (by rfl) (by simp[LW])
def jt{S:ak}{a:Nat}{l:bH}{k:Nat}{loc:ak}:(gT S a l k++loc)[S.length]?=loc[0]?:=by
 rw[aU (by rw[bf];exact aD _),bf,jm]
def nb{S:ak}{a:Nat}{l:bH}{k j:Nat}{loc:ak}:(gT S a l k++loc)[S.length+j]?=loc[j]?:=by
 rw[aU (by rw[bf];omega),bf,fF]
def eK{S:ak}{a:Nat}{l:bH}{k:Nat}{loc:ak}{o:Ob}:(gT S a l k++loc).set S.length o=gT S a l k++loc.set 0 o:=by
 rw[dA _ _ (by rw[bf];exact aD _),bf,jm]
def ki{S:ak}{a:Nat}{l:bH}{k j:Nat}{loc:ak}{o:Ob}:(gT S a l k++loc).set (S.length+j) o=gT S a l k++loc.set j o:=by
 rw[dA _ _ (by rw[bf];omega),bf,fF]
def fB{S:ak}{a:Nat}{l:bH}{k k':Nat}(h:cn (gT S a l k)):cn (gT S a l k'):=by
 intro id o b j x c
 by_cases e:a=id
 .subst e;simp only[gT]at b;rw[List.getElem?_set]at b;simp only[aT]at b;split at b
  .simp only[ae]at b;subst b;rcases j with _|_|j
   .simp only[Ob.refs,aM,ae]at c;subst c;exact .sl _ _
   .simp only[Ob.refs,bX,aM,ae]at c;subst c;exact .i _ _
   .simp[Ob.refs]at c
  .simp at b
 .have d:(gT S a l k)[id]?=some o:=by
   simp only[gT]at b |-;rw[bz e]at b |-;exact b
  have:=h id o d j x c;rw[bf]at this |-;exact this
def ff(S:ak)(a:Nat)(b:a<S.length)(l:bH)(k:Nat)(c:k<2^60)(n:Int)(g:0<n)(h:n<2^62)(loc:ak):
  PC prog 43 [.ptr a 0,.I n] (gT S a l k++loc) (λr J'=>∃v:Int,r=.I v/\(0<=v/\v<n)/\J'=gT S a l (k+1)++loc):=by
 rw[oF b];refine(qD (S++loc) a (by rw[aj];omega) l k c n g h).mono ?_;rintro r J' ⟨v,e,d,f⟩;exact⟨v,e,d,by rw[f,oF b]⟩
def Ov(S:ak)(a:Nat)(b:a<S.length)(l:bH)(k:Nat)(c:k<2^58)(n:Nat)(h:n<2^20)(loc:ak):
  PC prog 79 [.ptr a 0,.I n] (gT S a l k++loc) (λr J'=>∃(s:aG) (k':Nat),r=.s s/\s.length<=6*n/\(k<=k'/\k'<=k+2*n+1)/\J'=gT S a l k'++loc):=by
 rw[oF b];refine(ad7 (S++loc) a (by rw[aj];omega) l k c n h).mono ?_;rintro r J' ⟨s,k',f,d,g,e⟩;exact⟨s,k',f,d,g,by rw[e,oF b]⟩
def qa{f:List It}(x:It)(h:bQ [] f=0):bd (awl (f++[x]))<=bd f+x.awd.length/\(awl (f++[x])).length<=f.length+1:=by
 rw[fC (pc h)];exact vA f x
def Ak(t:aG):dq:=[[114,111,116],[100,97,115,32,65,117,116,111],[],[101,105,110,32]++t,t]
def Nk{t w:aG}(h:w∈Ak t):w.length<=t.length+8:=by
 simp only[Ak,bC,gw,s8]at h;rcases h with rfl|rfl|rfl|rfl|rfl<;>simp
def aht(S:ak)(a:Nat)(q:a<S.length)(l:bH){K:bl}(i:Nat)(Ht:i<2^50)(J:cn (gT S a l i))(src:List It)(r:bQ [] src=0)(D:src.length<=100)(M:bd src<=10000):
  ∀(rest pre f:List It) (k:Nat),src=pre++rest->Nc pre f->f.length<=2*pre.length->bd f<=bd pre+20*pre.length->(i<=k/\k<=i+10*pre.length) ->
  (∀(k:Nat) (f:List It),Nc src f->f.length<=2*src.length->bd f<=bd src+20*src.length->(i<=k/\k<=i+10*src.length)->((fj 5 (fh (.sl 3 (f.map It.awa)) (fj 40 fo))) λT=>K (.exit 0) ⟨T,gT S a l k⟩)) ->
  fm S.length prog QA K (rest.length+1) ⟨(.ptr a 0::.sl 3 (src.map It.awa)::uu 3 (.sl 3 (f.map It.awa)::uu 3 (.I src.length::.I pre.length::uu 35 []))),gT S a l k⟩:=by
 intro rest
 induction rest with
 |nil =>
  intro pre f k m hT E o G z;have m:=cN m
  subst m;refine ar λR H=>?_;simp only[QA,VV,seval];exact⟨λh=>by simp at h,λ_=>z k f hT E o G ..⟩
 |cons x rest ih =>
  intro pre f k m hT E o G z;subst m;have Hq:bd (pre++x::rest)=bd pre+(x.awd.length+bd rest):=by rw[fM];rfl
  have X:bd (pre++[x])=bd pre+x.awd.length:=by rw[fM];simp[bd]
  have U:(pre++[x]).length=pre.length+1:=by simp
  have Sy:(pre++x::rest).length=pre.length+(rest.length+1):=by simp
  have b:IntKind.i64.wrap ((pre.length:Int)+1)=(((pre++[x]).length:Nat):Int):=by
   rw[cm (by omega),U]
  have F:(0:Int)<=pre.length/\(pre.length:Int)<(List.map It.awa (pre++x::rest)).length:=by simp;omega
  refine ar λR H=>?_
  have d:∀(g:List It) (e:Nat) (A:aB) (p:ak),Nc (pre++[x]) g->g.length<=f.length+2->bd g<=bd f+x.awd.length+20->(k<=e/\e<=k+10) ->
    oJ A (.ptr a 0::.sl 3 ((pre++x::rest).map It.awa)::uu 3 (.sl 3 (g.map It.awa)::uu 3 (.I (pre++x::rest).length::.I (pre++[x]).length::uu 35 [])))->R ⟨A,gT S a l e++p⟩:=by
   intro g e A p V g2 g3 g4 P;refine H _ (ny (by rw[bf];exact aD _) (fB J) P ?_ (ih (pre++[x]) g e (by simp) V (by omega) (by omega) (by omega) z));simp only[bf,q,LW]
  by_cases c:x.awb=1
  .have y:(x.awb==1)=true:=by simp[c]
   simp only[QA,ao,It.awa,y,bf,jt,eK,VV,seval];refine⟨λ_=>⟨F,by simp only[maxLen];omega,?_⟩,λh=>by simp at h<;>omega⟩;refine cD (ff S a q l k (by omega) 5 (by decide) (by decide) _) rfl ?_;rintro _ _ ⟨v,rfl,O,rfl⟩;obtain⟨w,L,C⟩:=lk (ws:=Ak x.awd) (n:=v.toNat) (by simp[Ak];omega);have MQ:=Nk L;simp only[Ak,aH,bR,bJ,bc]at C;simp only[C,bf,jt,eK,b,VV,seval];refine⟨by omega,?_⟩
   have Y:x.id=0:=by
    rw[z8,Cl]at r;exact(BK c r.2.1).2.1
   have s:=qa ⟨1,w,0⟩ hT.err;refine ml (zs:=[.sl 3 (f.map It.awa),.sl 3 ([(⟨1,w,0⟩:It)].map It.awa)]) ?_ (jW f [⟨1,w,0⟩] (by omega) (by simp) (by omega) (by simp[bd];omega) _) ?_
   .simp only[c,Y];exact .cons (.refl _) (.cons (.lit _ _) .nil)
   .simp only[b,VV,seval];refine d _ _ _ _ (hT.awd c w) (by omega) (by simp only at s;omega) (by omega) ?_
    repeat' constructor
  .have y:(x.awb==1)=false:=by simpa using c
   simp only[QA,ao,It.awa,y,bf,jt,eK,VV,seval];refine⟨λ_=>⟨F,?_⟩,λh=>by simp at h<;>omega⟩;refine cD (ff S a q l k (by omega) 3 (by decide) (by decide) _) rfl ?_;rintro _ _ ⟨v,rfl,O,rfl⟩;have W:(⟨x.awb,x.awd,x.id⟩:It)=x:=rfl
   by_cases B:v=0
   .have u:(v==0)=true:=by simp[B]
    simp only[u,bf,jt,eK,b,VV,seval];refine cD (Ov S a q l (k+1) (by omega) 2 (by decide) _) rfl ?_;rintro _ _ ⟨t,e,rfl,Z,N,rfl⟩;have s:=qa ⟨1,t,0⟩ hT.err;simp only at s;have j:=hT.more t;have Q:=qa x j.err;simp only[bf,jt,eK,b,VV,seval];refine ml (zs:=[.sl 3 (f.map It.awa),.sl 3 ([(⟨1,t,0⟩:It)].map It.awa)]) (.cons (.refl _) (.cons (.lit _ _) .nil)) (jW f [⟨1,t,0⟩] (by omega) (by simp) (by omega) (by simp[bd];omega) _) ?_;simp only[bf,jt,eK,b,VV,seval];refine ml (zs:=[.sl 3 ((awl (f++[(⟨1,t,0⟩:It)])).map It.awa),.sl 3 ([x].map It.awa)]) (.cons (.refl _) (.cons (.lit _ _) .nil)) (jW _ [x] (by omega) (by simp) (by omega) (by simp[bd];omega) _) ?_;simp only[b,VV,seval];refine d _ _ _ _ (j.item r c) (by omega) (by omega) (by omega) ?_
    repeat' constructor
   .have u:(v==0)=false:=by simpa using B
    have Q:=qa x hT.err;simp only[u,bf,jt,eK,b,VV,seval];refine ml (zs:=[.sl 3 (f.map It.awa),.sl 3 ([x].map It.awa)]) (.cons (.refl _) (.cons (.lit _ _) .nil)) (jW f [x] (by omega) (by simp) (by omega) (by simp[bd];omega) _) ?_;simp only[b,VV,seval];refine d _ _ _ _ (hT.item r c) (by omega) (by omega) (by omega) ?_
    repeat' constructor
def Wu(S:ak)(a:Nat)(j:a<S.length)(l:bH)(k:Nat)(i:k<2^50)(src:List It)(d:bQ [] src=0)(b:src.length<=100)(c:bd src<=10000):
  PC prog 94 [.ptr a 0,.sl 3 (src.map It.awa)] (gT S a l k) (λr J'=>∃(f:List It) (k':Nat),r=.sl 3 (f.map It.awa)/\Nc src f/\f.length<=2*src.length/\bd f<=bd src+20*src.length/\(k<=k'/\k'<=k+10*src.length)/\J'=gT S a l k'):=by
 refine aZ func94 p94.2 λh n=>au ?_;simp only[p94,SS,seval];simp only[ag,bf,VV,seval];refine bZ.aK (fr':=(.ptr a 0::.sl 3 (src.map It.awa)::uu 3 (.sl 3 (([]:List It).map It.awa)::uu 3 (.I src.length::.I (([]:List It).length:Nat)::uu 35 [])))) ?_ (src.length+1) (aht S a j l k i h src d b c src [] [] k rfl Nc.nil (by simp) (by simp[bd]) (by simp) ?_)
 .simp only[bR,al]
  repeat first|exact .nil|refine .cons (.refl _) ?_|refine .cons (.nil _) ?_|refine .cons (.forget _) ?_
 intro k' f hT m e g;simp only[JE];intros;simp only[VV,seval];exact fH (.inr rfl) rfl (Wk.refl _ _) (by simp[bf]) ⟨f,k',rfl,hT,m,e,g,rfl⟩
def Hj(a:List It)(b:a.length<2^40)(d:bd a<2^40)(J:ak):PC prog 82 [.sl 3 (a.map It.awa)] J (λr J'=>r=.own J.length 0/\J'=J++[.row 61 3 32 0 false ((awl a).map It.awa)]):=by
 refine aZ func82 p82.2 λc f=>au ?_;simp only[p82,SS,seval];simp only[ag,VV,seval];refine bZ.wk ((Wk.ij (k:=3) Ip rfl).trans (Wk.fg ?_)) (bZ.uh (a.length+1) (aao a c b d a [] [] 0 rfl (aD _) (aD _) ?_))
 .simp only[VV,seval]
  repeat' constructor
 .intro g;simp only[JE];intros;simp only[VV,seval];have e:a.foldl dO []=awl a:=tN a;rw[e];exact zh 0 c (.inr rfl) rfl rfl rfl (by simp[Hn,Ob.gen]) (by simp[Pm.one,mv1,Ob.fresh])
def DL(a b:List It)(g:a.length<2^39)(h:b.length<2^39)(e:bd a<2^39)(c:bd b<2^39)(J:ak):PC prog 48 [.sl 3 (a.map It.awa),.sl 3 (b.map It.awa)] J (λr J'=>r=.own J.length 0/\J'=J++[.row 61 3 32 0 false ((awl (a++b)).map It.awa)]):=by
 refine aZ func48 p48.2 λd f=>au ?_;simp only[p48,SS,seval];simp only[ag,VV,seval];refine⟨by simp[maxLen];omega,by simp[maxLen];omega,?_⟩;refine xl J.length (by simp only[jX];rfl) (Hj (a++b) (by simp;omega) (by rw[fM];omega) _) (by simp[fz,oa,ev]) ?_;simp only[VV,seval];exact zh 1 d (.inr rfl) rfl rfl rfl (by simp[Hn,Ob.gen]) (by simp[Pm.one,mv1,Ob.fresh])
def wD(s:aG):(cW s).length<=s.length:=(uU s 32).1
def pn:dq:=[[110],[110,97,109,101],[120,49]]
def qP:dq:=[[98,114],[105,109,103,32,97]]
def qo:dq:=[[98],[105],[97,32,104,61,49]]
def xe:∀s∈pn,awj s=true/\s.length<=5:=by decide +kernel
def Cp:∀s∈qP,cV s=true/\s.length<=5:=by decide +kernel
def AX:∀s∈qo,cV s=true/\awj (cW s)=true/\s.length<=5:=by decide +kernel
def fL(g:Nat)(sh:Bool)(f:List It):Ob:=.row 61 3 32 g sh (f.map It.awa)
def MY{S:ak}{a:Nat}{l:bH}{k:Nat}{loc:ak}(m:cn (gT S a l k)){i j g1 g2:Nat}{c b:Bool}{f o:List It}(e:i≠j)(h1:loc[i]?=some (fL g1 c f))(g:loc[j]?=some (fL g2 b o))
  {xs ys:aB} (h:Mvs S.length loc [i,j] xs ys):Wk prog S.length xs (gT S a l k++loc) ys (gT S a l k++[fL 0 c f,fL 0 b o]):=by
 have:=Wk.amH (P:=prog) (xs:=xs) (ys:=ys) (J:=gT S a l k) (loc:=loc) (os:=[fL 0 c f,fL 0 b o]) [i,j] m (by simpa using e) rfl (λq n d=>by
  rcases q with _|_|q
  .simp only[aM,ae]at d;subst d;exact⟨_,h1,rfl,rfl⟩
  .simp only[bX,aM,ae]at d;subst d;exact⟨_,g,rfl,rfl⟩
  .simp at d) (by rw[bf];exact h)
 rwa [bf]at this
set_option maxRecDepth 20000 in
def aay(S:ak)(a:Nat)(l:bH)(k:Nat){K:bl}(e:List It)(U:e.length<=100)(M:∀y∈e,y.awd.length<=5)(id:Nat)(E:id<=100)(g2:Nat):∀(m:Nat) (g f:List It) (g1:Nat),g.length=m->(∃d,e=g++d)->BS f g id->f.length+m<=1000 ->
  (∀(n:List It) (g1:Nat),BS n [] id->n.length=f.length+m->bd n<=bd f+5*m->((fj 9 (fh (.own S.length g1) (fj 131 fo))) λG=>K (.exit 3) ⟨G,gT S a l k++[fL g1 false n,fL g2 false e]⟩)) ->
  fm S.length prog MA K (m+1) ⟨(uu 3 (.b true::uu 5 (.own S.length g1::.own (S.length+1) g2::uu 4 (.I ((m:Int) - 1)::uu 125 [])))),gT S a l k++[fL g1 false f,fL g2 false e]⟩:=by
 intro m
 induction m with
 |zero =>
  intro g f g1 p _ q J t;have C:decide ((0:Int)<=((0:Nat):Int) - 1)=false:=rfl;refine ar λR z=>?_;simp only[MA,C,VV,Int.reduceBEq,Int.reduceBNe,Nat.reduceAdd,Nat.reduceSub,Nat.reduceLeDiff,Nat.reduceEqDiff,Int.reduceToNat,reduceIte,reduceCtorEq];have o:=aW p;subst o;exact t f g1 q (by omega) (by omega) ..
 |succ m ih =>
  intro g f g1 p u q J t;obtain⟨d,h⟩:=u;rcases dn g with o|⟨c,y,o⟩
  .subst o;simp at p
  rw[da]at o;subst o;have r:c.length=m:=by simpa using p
  subst r;rw[bk,fI]at h;have A:((c.length+1:Nat):Int) - 1=(c.length:Int):=by omega
  have W:e.length=c.length+(d.length+1):=by rw[h];simp
  have w:IntKind.i64.wrap ((c.length:Int) - 1)=(c.length:Int) - 1:=IntWalk.i64_in _ (by omega);have v:∀j,gj (List.map It.awa e) c.length j=y.awa[j]?:=λj=>by rw[h];exact qR
  have Q:=M y (by rw[h];simp);have X:=wD y.awd;have F:decide ((0:Int)<=(c.length:Int))=true:=by simp
  have x:(0:Int)<=(c.length:Int)/\(c.length:Int)<((List.map It.awa e).length:Int):=⟨by omega,by rw[ag];omega⟩;obtain⟨O,_⟩:=q.close (by omega);rw[A];refine ar λR z=>?_;simp only[MA,fL,F,w,ao,bf,jt,nb,v,It.awa,VV,seval];refine⟨x,x,?_⟩;refine aw (oz y.awd _) rfl ?_;simp only[bf,jt,nb,eK,ki,v,It.awa,w,ag,VV,seval];refine⟨by omega,⟨by omega,by simp only[maxLen];omega⟩,?_⟩;have N:f.map It.awa++[[V.i .i64 3,.s (cW y.awd),.I y.id]]=(f++[(⟨3,cW y.awd,y.id⟩:It)]).map It.awa:=by simp[It.awa]
  rw[N];have D:bd (f++[⟨3,cW y.awd,y.id⟩])=bd f+(cW y.awd).length:=by simp[fM,bd]
  have L:(f++[(⟨3,cW y.awd,y.id⟩:It)]).length=f.length+1:=by simp
  refine z _ (aK ?_ (ih c _ (g1+1) rfl ⟨y::d,h⟩ O (by omega) λn B H T P=>t n B H (by omega) (by omega)))
  repeat' constructor
end Go.Proofs.Tryz

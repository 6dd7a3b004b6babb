/- A part of a proof; the claim's last text says of what. -/
import Derived.Test.YtlakkaamfadipaaGreatDoorM17
import Derived.Test.YtlakkaamfadipaaGreatDoorM23
import Derived.Test.YtlakkaamfadipaaGreatDoorM25
set_option linter.all false
set_option maxHeartbeats 4000000
open Bool renaming true->A,false->Z
open Go.Proofs.Tryz renaming prog->θ
open List renaming length->F

namespace Go.Proofs.Tryz
open Go Go.Pm Go.Bt
variable(S:ag)(a:Nat)(R:bG)(T:Bool)(m:List En)(P:Nat)(f:List It)(s:aJ){n t M:Int}{k X j:Nat}{o:Ob}{w L:aJ}{J U:ag}{l:bG}{K:bj}
def IC(s:aJ)(J:ag):bO θ 138 [.s s] J (.b (named s)):=by refine a6 func138 ajn λc a=>ay ?_;simp only[acX,SS,seval];simp only[VV,seval];refine b7 (by simp only[VV,seval]<;>rfl) (λ_=>lZ s _) rfl ?_;simp only[VV,seval];exact aY (.inr rfl) (by simp only[RS,seval];rfl) ⟨rfl,rfl⟩
def sX(e:En)(c:e.apa)(J:ag):bO θ 73 [.agg e.aoZ] J (.I (cJ e)):=by
 refine a6 func73 c73 λa m=>ay ?_;simp only[p73,SS,seval];simp only[En.aoZ,VV,seval];refine aA (pU e.ao2 _) rfl ?_;simp only[VV,seval];refine⟨λh=>?_,λh=>?_⟩
 .have h:bV e.ao2≠0:=by simpa using h
  exact bl a (.inr rfl) (by simp only[RS,seval];rfl) (by simp[LW]) ⟨by simp only[cJ,h,aU,fJ,dG];rfl,rfl⟩
 have g:bV e.ao2=0:=by simpa using h
 refine aA (pU e.ao7 _) rfl ?_;simp only[VV,seval];refine⟨λh=>?_,λh=>?_⟩
 .have h:bV e.ao7≠0:=by simpa using h
  refine bl a (.inr rfl) (by simp only[RS,seval];rfl) (by simp[LW]) ⟨?_,rfl⟩;simp only[cJ,g,h,aU,fJ,dG,gm,aQ];rfl
 have i:bV e.ao7=0:=by simpa using h
 refine aA (oM e.ao2 e.ao7 (by have:=c.ao2;omega) (by have:=c.ao7;omega) (by have:=c.nY;omega) (by have:=c.Mk;omega) _) rfl ?_;simp only[ae,VV,seval];refine b7 (by simp only[VV,seval]<;>rfl) (λ_=>Ep (ft e.ao2 e.ao7) e.ao2 _) rfl ?_;simp only[VV,seval];refine b7 (by simp only[VV,seval]<;>rfl) (λ_=>Ep (fI e.ao2 e.ao7) e.ao7 _) rfl ?_;simp only[VV,seval];have f:mr e=!((((F e.ao2:Int)==0)||!gQ (ft e.ao2 e.ao7) e.ao2)||!gQ (fI e.ao2 e.ao7) e.ao7):=by
  have:((F e.ao2:Int)==0)=(F e.ao2==0):=by rw[dL];simp
  simp only[mr,this];cases(F e.ao2==0)<;>cases gQ (ft e.ao2 e.ao7) e.ao2<;>cases gQ (fI e.ao2 e.ao7) e.ao7<;>rfl
 refine⟨λh=>?_,λh=>?_⟩;.rw[h]at f;refine bl a (.inr rfl) (by simp only[RS,seval];rfl) (by simp[LW]) ⟨?_,rfl⟩;simp only[cJ,g,i,f,fJ,gm,aQ];rfl
 rw[h]at f;have d:cJ e=if(parse e.b6).2.2≠0 then(parse e.b6).2.2 else if(parse e.next).2.2≠0 then(parse e.next).2.2 else
   if(named e.cW&&named e.cx)=Z then 4 else if e.ao9<0\/1073741824<e.ao9\/e.ape<1\/3<e.ape then 1 else 0:=by simp only[cJ,g,i,f,fJ,gm,aQ];rfl
 refine aA (Bg e.b6 (by have:=c.b6;omega) _) rfl ?_;simp only[VV,seval];refine⟨λh=>?_,λh=>?_⟩
 .have h:(parse e.b6).2.2≠0:=by simpa using h
  rw[d,aK h];exact km a (by rfl) (by simp[LW])
 have j:¬(parse e.b6).2.2≠0:=by simpa using h
 refine aA (Bg e.next (by have:=c.next;omega) _) rfl ?_;simp only[VV,seval];refine⟨λh=>?_,λh=>?_⟩
 .have h:(parse e.next).2.2≠0:=by simpa using h
  rw[d,au j,aK h];exact km a (by rfl) (by simp[LW])
 have l:¬(parse e.next).2.2≠0:=by simpa using h
 rw[au j,au l]at d;refine aA (IC e.cW _) rfl ?_;simp only[VV,seval];refine b7 (by simp only[VV,seval]<;>rfl) (λ_=>IC e.cx _) rfl ?_;simp only[VV,seval];have k:(!named e.cW||!named e.cx)=!(named e.cW&&named e.cx):=by cases named e.cW<;>cases named e.cx<;>rfl
 rw[k];refine⟨λh=>?_,λh=>⟨λb=>?_,λb=>?_⟩⟩
 .have h:(named e.cW&&named e.cx)=Z:=by rw[da]at h;exact h
  rw[d,aK h];exact km a (by rfl) (by simp[LW])
 .have h:¬(named e.cW&&named e.cx)=Z:=by rw[fB]at h;rw[h];simp
  have b:e.ao9<0\/1073741824<e.ao9\/e.ape<1\/3<e.ape:=by simp at b;omega
  rw[d,au h,aK b];exact km a (by rfl) (by simp[LW])
 have h:¬(named e.cW&&named e.cx)=Z:=by rw[fB]at h;rw[h];simp
 have b:¬(e.ao9<0\/1073741824<e.ao9\/e.ape<1\/3<e.ape):=by simp at b;omega
 rw[d,au h,au b];exact km a (by rfl) (by simp[LW])
def qz(e:En)(a:e.apa)(J:ag):bO θ 30 [.agg e.aoZ] J (.s (bf e)):=by
 refine a6 func30 c30 λb f=>ay ?_;simp only[p30,SS,seval];simp only[En.aoZ,VV,seval];refine aA (sX e a _) rfl ?_;simp only[VV,seval];refine⟨λh=>?_,λh=>?_⟩
 .have h:cJ e≠0:=by simpa using h
  exact bl b (.inr rfl) (by simp only[RS,seval];rfl) (by simp[LW]) ⟨by simp only[bf,h,aU,fJ,dG];rfl,rfl⟩
 have h:¬cJ e≠0:=by simpa using h
 refine aA (H3 e.ao2 (by have:=a.nY;omega) _) rfl ?_;simp only[VV,seval];have d:=Cf e.ao2 a.ao2 a.nY (λx c=>a.ids x (by simp[c]));have i:=a.b6;have g:=a.next;refine⟨by simp[maxLen];omega,by simp[maxLen];omega,by simp[maxLen];omega,by simp[maxLen];omega,?_⟩;refine bl b (.inr rfl) (by simp only[RS,seval];rfl) (by simp[LW]) ⟨?_,rfl⟩;simp[Pm.one,bf,au h,ed]
open Go.RowKit
def VG(f:zJ m)(z:∀e∈m,e.apa):∀(a pre:List En) (last:aJ),m=pre++a->(pre≠[]->∀y∈a,gw last (ed y)<0) ->(((fj 32 fo) λr=>K (.exit 0) ⟨r,J⟩)) ->fS (F J) θ Gg K (F a+1) ⟨(.sl 8 (m.map En.aoZ)::uu 2 (.s last::uu 6 (.I (F m)::.I (F pre)::uu 20 []))),J⟩:=by
 intro a;induction a with
 |nil =>intro pre last b k d;have b:=db b;subst b;refine aF λR l=>?_;simp only[Gg,VV,seval];exact⟨λh=>by simp at h,λ_=>d ..⟩
 |cons x a ih =>
 intro pre last b k d;have H:=f.len;have G:=uY b;have g:=dY pre x (by omega);have n:decide ((F pre:Int)<(F m:Int))=A:=by simp;omega
 have B:(m.map En.aoZ).getD (F pre) []=x.aoZ:=by rw[b];simp[aq]
 have j:x∈m:=by rw[b];simp
 have w:=f.ok x j;refine aF λR l=>?_;simp only[Gg,n,g,B,aG,ae,V.pure,VV,seval];have p:x.aoZ.take 8=x.aoZ:=by simp[En.aoZ]
 have q:bf x=ed x:=by simp[bf,w]
 have C:ed x≠[]:=by simp[ed]
 refine⟨⟨by omega,by omega⟩,by simp[En.aoZ],aA (qz x (z x j) _) (by simp only[p,VV,seval]) ?_⟩;have v:(ed x==[]||decide ((0:Int)<(F pre:Int))&&(Op.bytesLess (ed x) last||ed x==last))=Z:=by
  have D:(ed x==[])=Z:=by simpa using C
  rw[D,ia];by_cases i:pre=[];.simp[i]
  have o:=k i x (by simp);have L:=lF.mI (ed x) last;have t:Op.bytesLess (ed x) last=Z:=by rw[kS];simp;omega
  have E:(ed x==last)=Z:=by simp only[cU];intro h;rw[<- h,lF.self]at o;omega
  rw[t,E];simp
 simp only[q,v,g,VV,seval];have c:=f.NJ;rw[b]at c;simp only[cF,aC,KA,G9,lU]at c;refine l _ (aX (fr':=(.sl 8 (m.map En.aoZ)::uu 2 (.s (ed x)::uu 6 (.I (F m)::.I (F (pre++[x]))::uu 20 [])))) (by repeat' constructor) (ih (pre++[x]) (ed x) (by rw[b];simp) (λ_ y u=>c.2.1.1 (ed y) (gr u)) d))
def KF(a:zJ m)(d:∀e∈m,e.apa)(J:ag):bO θ 114 [.sl 8 (m.map En.aoZ)] J (.b A):=by
 refine a6 func114 ajC λi f=>ay ?_;have g:=a.len;have c:decide ((1024:Int)<(F m:Int))=Z:=by simp;omega
 simp only[adh,SS,seval];simp only[ae,c,VV,seval];refine cd.aX (fr':=(.sl 8 (m.map En.aoZ)::uu 2 (.s []::uu 6 (.I (F m)::.I (F ([]:List En):Nat)::uu 20 [])))) ?_ (F m+1) (VG m a d m [] [] rfl (λh=>(h rfl).elim) ?_);.repeat' constructor
 simp only[JE];intros;simp only[VV,seval];exact aY (.inr rfl) (by simp only[RS,seval];rfl) ⟨rfl,rfl⟩
def below:Nat:=F (m.takeWhile λe=>Op.bytesLess (ed e) s)
def VF(l:zJ m)(t:∀e∈m,e.apa)(k:aJ):∀(a pre:List En),m=pre++a ->(((fj 5 (fh (.I (F pre+below a k:Nat)) (fj 16 fo))) λq=>K (.exit 0) ⟨q,J⟩)) ->fS (F J) θ Gf K (F a+1) ⟨(.sl 8 (m.map En.aoZ)::.s k::uu 3 (.I (F pre)::uu 16 [])),J⟩:=by
 intro a;induction a with
 |nil =>
  intro pre b d;have b:=db b;subst b;refine aF λR n=>?_;simp only[below,List.takeWhile_nil,az,dQ]at d;have f:decide ((F m:Int)<(F m:Int))=Z:=by simp
  simp only[Gf,ae,f,VV,seval];refine⟨nofun,.u,nofun,?_⟩;refine b7 (c:=Z) (v:=.s []) (by simp only[VV,seval]<;>rfl) (nofun) rfl ?_;simp only[VV,seval];exact d ..
 |cons x a ih =>
 intro pre b d;have z:=l.len;have y:=uY b;have i:=dY pre x (by omega);have f:decide ((F pre:Int)<(F m:Int))=A:=by simp;omega
 have w:(m.map En.aoZ).getD (F pre) []=x.aoZ:=by rw[b];simp[aq]
 have j:x∈m:=by rw[b];simp
 have r:=l.ok x j;have o:x.aoZ.take 8=x.aoZ:=by simp[En.aoZ]
 have p:bf x=ed x:=by simp[bf,r]
 refine aF λR n=>?_;simp only[Gf,f,i,w,o,aG,ae,V.pure,VV,seval];refine⟨⟨by omega,by omega⟩,.agg x.aoZ,⟨rfl,by simp[En.aoZ]⟩,?_⟩;refine b7 (c:=A) (by simp only[VV,seval]<;>rfl) (λ_=>qz x (t x j) _) rfl ?_;simp only[p,i,VV,seval];refine⟨λh=>n _ (aX (fr':=(.sl 8 (m.map En.aoZ)::.s k::uu 3 (.I (F (pre++[x]))::uu 16 []))) (by repeat' constructor) (ih (pre++[x]) (by rw[b];simp) ?_)),λh=>?_⟩
 .have g:F (pre++[x])+below a k=F pre+below (x::a) k:=by simp only[below,fk,h,aU,ah,ai,az];omega
  rw[g];exact d
 have g:F pre+below (x::a) k=F pre:=by simp only[below,fk,h,aI,aQ,az,dQ]
 rw[g]at d;exact d ..
def KG(a:zJ m)(b:∀e∈m,e.apa)(k:aJ)(J:ag):bO θ 115 [.sl 8 (m.map En.aoZ),.s k] J (.I (below m k:Nat)):=by
 refine a6 func115 ajB λd c=>ay ?_;simp only[adg,SS,seval];simp only[VV,seval];refine cd.aX (fr':=(.sl 8 (m.map En.aoZ)::.s k::uu 3 (.I (F ([]:List En):Nat)::uu 16 []))) ?_ (F m+1) (VF m a b k m [] rfl ?_);.repeat' constructor
 simp only[JE];intros;simp only[az,bq,VV,seval];exact aY (.inr rfl) (by simp only[RS,seval];rfl) ⟨rfl,rfl⟩
def TY:below m s<=F m:=ajZ (ajV _)
def Ih(x n:Int)(b:0<n)(d:n<2^62)(J:ag):bO θ 14 [.I x,.I n] J (.I (place x n)):=by
 refine a6 func14 c14 λf c=>ay ?_;simp only[p14,SS,seval];simp only[VV,seval];refine⟨by omega,λh=>?_,λh=>?_⟩
 .have h:x.tmod n<0:=by simpa using h
  have a:=zb (x:=x) b;have e:place x n=x.tmod n+n:=by simp only[place,aK h]
  refine aY (.inr rfl) rfl ⟨?_,rfl⟩;rw[e]at a |-;simp only[Pm.one,aO,aZ];rw[IntWalk.i64_in _ (by omega)]
 have h:¬x.tmod n<0:=by simpa using h
 have e:place x n=x.tmod n:=by simp only[place,au h]
 exact aY (.inr rfl) rfl ⟨by rw[e];rfl,rfl⟩
def gT(k:Nat):ag:=S.set a (.box 31 [.sl 1 (R.map cg),.I k])
def bd:F (gT S a R P)=F S:=by simp[gT]
def lM(h:k<F J):gT J k l X++U=gT (J++U) k l X:=by simp only[gT];rw[eT _ _ h]
def MY(h:k<F J):(gT J k l X)[k]?=some (.box 31 [.sl 1 (l.map cg),.I X]):=by simp[gT,h]
def MW:(gT J k l X).set k (.box 31 [.sl 1 (l.map cg),.I (j:Int)])=gT J k l j:=by simp[gT]
def RF(e:a<F S)(l:bG)(k:Nat)(o:k<2^60)(n:Int)(d:0<n)(f:n<2^62): PC θ 43 [.ptr a 0,.I n] (gT S a l k) (λr i=>r=.I (place (l.getD k 0) n)/\i=gT S a l (k+1)):=by
 refine a6 func43 c43 λm j=>ay ?_;simp only[p43,SS,seval];have c:IntKind.i64.wrap ((k:Int)+1)=((k+1:Nat):Int):=cq (by omega);by_cases h:k<F l
 .have b:decide ((k:Int)<(F l:Int))=A:=by simp;omega
  simp only[MY e,ae,b,c,MW,aG,tG h,VV,seval];refine⟨by omega,?_⟩;refine aA (Ih (l.getD k 0) n d f _) rfl ?_;simp only[VV,seval];exact fv (.inr rfl) rfl (Wk.refl _ _) rfl ⟨rfl,rfl⟩
 have b:decide ((k:Int)<(F l:Int))=Z:=by simp;omega
 have g:l.getD k 0=0:=by rw[aq,bK (by omega)];rfl
 simp only[MY e,ae,b,c,MW,VV,seval];refine aA (Ih 0 n d f _) rfl ?_;simp only[VV,seval];exact fv (.inr rfl) rfl (Wk.refl _ _) rfl ⟨by rw[g];rfl,rfl⟩
def rD(e:a<F S)(l:bG)(k:Nat)(d:k<2^60)(n:Int)(b:0<n)(f:n<2^62): PC θ 43 [.ptr a 0,.I n] (gT S a l k) (λr c=>∃v:Int,r=.I v/\(0<=v/\v<n)/\c=gT S a l (k+1)) :=(RF S a e l k d n b f).mono λ_ _ h=>⟨_,h.1,zb b,h.2⟩
def tm:ei:=[[114,101,100],[99,97,114],[82,101,100],[97],[99,97,114,115],[49,44,53],[50,50],[100,111,110,39,116],[46],[33],[32],[32,32],[60],[38],[123],[34],[92],[120,45,121],[10],[61],[125],[62],[9],[98]]
def jT{ws:ei}{n:Nat}(h:n<F ws):∃w∈ws,gp (ws.map λs=>[V.s s]) n 0=some (V.s w):=by refine⟨ws[n],cS h,?_⟩;simp[gp,h]
def UF(f:a<F S)(l:bG)(k:Nat)(d:k<2^60): PC θ 141 [.ptr a 0] (gT S a l k) (λr c=>∃w:aJ,r=.s w/\w∈tm/\c=gT S a l (k+1)):=by refine a6 func141 ajl λi g=>ay ?_;simp only[acV,SS,seval];simp only[VV,seval];refine cB (rD S a f l k d 24 (by decide) (by decide)) rfl ?_;rintro _ _ ⟨v,rfl,h,rfl⟩;obtain⟨w,b,e⟩:=jT (ws:=tm) (n:=v.toNat) (by simp[tm];omega);simp only[tm,aC,bI]at e;simp only[e,VV,seval];refine⟨by omega,?_⟩;exact fv (.inr rfl) rfl (Wk.refl _ _) rfl ⟨w,rfl,b,rfl⟩
def QP(h:w∈tm):F w<=5:=by revert w;decide
def Y2(o:a<F S)(l:bG)(e:Nat)(x:e<2^59)(n:Nat)(z:n<2^20):∀(m k:Nat) (b:aJ),m<=n->(e<=k/\k<=e+2*(n - m))->F b<=6*(n - m) ->(∀(k:Nat) (b:aJ),(e<=k/\k<=e+2*n)->F b<=6*n->((fj 5 (fh (.s b) (fj 25 fo))) λq=>K (.exit 0) ⟨q,gT S a l k⟩)) ->fS (F S) θ Mz K (m+1) ⟨(.ptr a 0::uu 4 (.s b::.I m::uu 24 [])),gT S a l k⟩:=by
 intro m;induction m with
 |zero =>intro k b u p r d;refine aF λR i=>?_;simp only[Mz,VV,seval];exact⟨nofun,λ_=>d k b (by omega) (by omega) ..⟩
 |succ m ih =>
 intro k b u p r d;have g:IntKind.i64.wrap (((m+1:Nat):Int) - 1)=(m:Int):=by rw[IntWalk.i64_in _ (by omega)];omega
 refine aF λR i=>?_;simp only[Mz,g,VV,seval];refine⟨λ_=>?_,λh=>by simp at h<;>omega⟩;refine cB (UF S a o l k (by omega)) rfl ?_;rintro _ _ ⟨w,rfl,t,rfl⟩;have y:=QP t;simp only[g,VV,seval];by_cases j:b=[]
 .have f:(!b==[])=Z:=by simp[j]
  refine qU (Q:=λ_ _=>True) (c:=Z) (by simp only[f,VV,seval]<;>rfl) (nofun) rfl (nofun) λ_=>⟨.I 0,?_⟩;simp only[f,g,VV,seval];refine⟨by simp only[maxLen];omega,?_⟩;refine i _ (aX ?_ (ih (k+1) (b++w) (by omega) (by omega) (by rw[ai];omega) d));repeat' constructor
 have f:(!b==[])=A:=by simp[j]
 refine qU (c:=A) (by simp only[f,VV,seval]<;>rfl) (λ_=>rD S a o l (k+1) (by omega) 3 (by decide) (by decide)) rfl ?_ (nofun);rintro _ _ _ ⟨v,rfl,B,rfl⟩;simp only[f,g,VV,seval];refine⟨λh=>⟨by simp only[maxLen];omega,by simp only[maxLen,ai,ah,az];omega,?_⟩,λh=>⟨by simp only[maxLen];omega,?_⟩⟩;.refine i _ (aX ?_ (ih (k+1+1) (b++32::w) (by omega) (by omega) (by rw[ai,ah];omega) d));repeat' constructor
 refine i _ (aX ?_ (ih (k+1+1) (b++w) (by omega) (by omega) (by rw[ai];omega) d));repeat' constructor
def VN(e:a<F S)(l:bG)(k:Nat)(o:k<2^58)(n:Nat)(j:n<2^20): PC θ 79 [.ptr a 0,.I n] (gT S a l k) (λr f=>∃(s:aJ) (b:Nat),r=.s s/\F s<=6*n/\(k<=b/\b<=k+2*n+1)/\f=gT S a l b):=by
 refine a6 func79 c79 λi g=>ay ?_;have d:IntKind.i64.wrap ((n:Int)+1)=((n+1:Nat):Int):=cq (by omega);simp only[p79,SS,seval];simp only[d,VV,seval];refine cB (rD S a e l k (by omega) ((n+1:Nat):Int) (by omega) (by omega)) rfl ?_;rintro _ _ ⟨v,rfl,p,rfl⟩;obtain⟨m,rfl⟩:∃m:Nat,v=m:=⟨v.toNat,by omega⟩;simp only[d,bd,VV,seval];refine cd.aX ?_ (m+1) (Y2 S a e l (k+1) (by omega) m (by omega) m (k+1) [] (ax _) (by omega) (by simp) ?_);.repeat' constructor
 intro b c q h;simp only[JE];intros;simp only[VV,seval];exact fv (.inr rfl) rfl (Wk.refl _ _) (by simp[bd]) ⟨c,b,rfl,by omega,by omega,rfl⟩
def jo:(gT J k l X++U)[F J]?=U[0]?:=by rw[aD (by rw[bd];exact ax _),bd,fA]
def nb:(gT J k l X++U)[F J+j]?=U[j]?:=by rw[aD (by rw[bd];omega),bd,dD]
def eF:(gT J k l X++U).set (F J) o=gT J k l X++U.set 0 o:=by rw[b8 _ _ (by rw[bd];exact ax _),bd,fA]
def kC:(gT J k l X++U).set (F J+j) o=gT J k l X++U.set j o:=by rw[b8 _ _ (by rw[bd];omega),bd,dD]
def gG{a k':Nat}(h:bT (gT J k l a)):bT (gT J k l k'):=by
 intro id o b j x c;by_cases e:k=id
 .subst e;simp only[gT]at b;rw[List.getElem?_set]at b;simp only[aU]at b;split at b
  .simp only[aa]at b;subst b;rcases j with _|_|j;.simp only[Ob.refs,aH,aa]at c;subst c;exact .sl _ _
   .simp only[Ob.refs,bS,aH,aa]at c;subst c;exact .i _ _
   simp[Ob.refs]at c
  simp at b
 have d:(gT J k l a)[id]?=some o:=by simp only[gT]at b |-;rw[aN e]at b |-;exact b
 have:=h id o d j x c;rw[bd]at this |-;exact this
def ff(d:a<F S)(l:bG)(k:Nat)(e:k<2^60)(n:Int)(j:0<n)(g:n<2^62)(b:ag): PC θ 43 [.ptr a 0,.I n] (gT S a l k++b) (λr c=>∃v:Int,r=.I v/\(0<=v/\v<n)/\c=gT S a l (k+1)++b):=by rw[lM d];refine(rD (S++b) a (by rw[ai];omega) l k e n j g).mono ?_;rintro r c ⟨v,h,f,i⟩;exact⟨v,h,f,by rw[i,lM d]⟩
def M7(e:a<F S)(l:bG)(k:Nat)(f:k<2^58)(n:Nat)(m:n<2^20)(b:ag): PC θ 79 [.ptr a 0,.I n] (gT S a l k++b) (λr d=>∃(s:aJ) (c:Nat),r=.s s/\F s<=6*n/\(k<=c/\c<=k+2*n+1)/\d=gT S a l c++b):=by rw[lM e];refine(VN (S++b) a (by rw[ai];omega) l k f n m).mono ?_;rintro r d ⟨s,c,i,g,j,h⟩;exact⟨s,c,i,g,j,by rw[h,lM e]⟩
def lD{f:List It}(x:It)(h:bA [] f=0):aR (ao6 (f++[x]))<=aR f+F x.ao3/\F (ao6 (f++[x]))<=F f+1:=by rw[gq (na h)];exact oQ f x
def sF:ei:=[[114,111,116],[100,97,115,32,65,117,116,111],[],[101,105,110,32]++s,s]
def Fc(h:L∈sF w):F L<=F w+8:=by simp only[sF,bE,fK,vA]at h;rcases h with rfl|rfl|rfl|rfl|rfl<;>simp
def YZ(s:a<F S)(l:bG)(j:Nat)(Hh:j<2^50)(P:bT (gT S a l j))(src:List It)(r:bA [] src=0)(G:F src<=100)(Q:aR src<=10000): ∀(b pre f:List It) (k:Nat),src=pre++b->L5 pre f->F f<=2*F pre->aR f<=aR pre+20*F pre->(j<=k/\k<=j+10*F pre) ->(∀(k:Nat) (f:List It),L5 src f->F f<=2*F src->aR f<=aR src+20*F src->(j<=k/\k<=j+10*F src)->((fj 5 (fh (.sl 3 (f.map It.aoZ)) (fj 40 fo))) λZZ=>K (.exit 0) ⟨ZZ,gT S a l k⟩)) ->fS (F S) θ Ip K (F b+1) ⟨(.ptr a 0::.sl 3 (src.map It.aoZ)::uu 3 (.sl 3 (f.map It.aoZ)::uu 3 (.I (F src)::.I (F pre)::uu 35 []))),gT S a l k⟩:=by
 intro b;induction b with
 |nil =>intro pre f k o hT M p L C;have o:=db o;subst o;refine aF λR O=>?_;simp only[Ip,VV,seval];exact⟨λh=>by simp at h,λ_=>C k f hT M p L ..⟩
 |cons x b ih =>
 intro pre f k o hT M p L C;subst o;have Lh:aR (pre++x::b)=aR pre+(F x.ao3+aR b):=by rw[eJ];rfl
 have ad:aR (pre++[x])=aR pre+F x.ao3:=by rw[eJ];simp[aR]
 have U:F (pre++[x])=F pre+1:=by simp
 have XP:F (pre++x::b)=F pre+(F b+1):=by simp
 have c:IntKind.i64.wrap ((F pre:Int)+1)=((F (pre++[x]):Nat):Int):=by rw[cq (by omega),U]
 have H:(0:Int)<=F pre/\(F pre:Int)<F (List.map It.aoZ (pre++x::b)):=by simp;omega
 refine aF λR O=>?_;have d:∀(g:List It) (i:Nat) (D:ao) (q:ag),L5 (pre++[x]) g->F g<=F f+2->aR g<=aR f+F x.ao3+20->(k<=i/\i<=k+10) ->
   pe D (.ptr a 0::.sl 3 ((pre++x::b).map It.aoZ)::uu 3 (.sl 3 (g.map It.aoZ)::uu 3 (.I (F (pre++x::b))::.I (F (pre++[x]))::uu 35 [])))->R ⟨D,gT S a l i++q⟩:=by intro g i D q g1 g2 g3 g4 W;refine O _ (oK (by rw[bd];exact ax _) (gG P) W ?_ (ih (pre++[x]) g i (by simp) g1 (by omega) (by omega) (by omega) C));simp only[bd,s,LW]
 by_cases e:x.ao0=1
 .have z:(x.ao0==1)=A:=by simp[e]
  simp only[Ip,aG,It.aoZ,z,bd,jo,eF,VV,seval];refine⟨λ_=>⟨H,by simp only[maxLen];omega,?_⟩,λh=>by simp at h<;>omega⟩;refine cB (ff S a s l k (by omega) 5 (by decide) (by decide) _) rfl ?_;rintro _ _ ⟨v,rfl,V,rfl⟩;obtain⟨w,Lj,E⟩:=jT (ws:=sF x.ao3) (n:=v.toNat) (by simp[sF];omega);have Uh:=Fc Lj;simp only[sF,aC,bI,bo,bg]at E;simp only[E,bd,jo,eF,c,VV,seval];refine⟨by omega,?_⟩;have B:x.id=0:=by rw[sf,uL]at r;exact(ud e r.2.1).2.1
  have u:=lD ⟨1,w,0⟩ hT.err;refine mu (zs:=[.sl 3 (f.map It.aoZ),.sl 3 ([(⟨1,w,0⟩:It)].map It.aoZ)]) ?_ (jP f [⟨1,w,0⟩] (by omega) (by simp) (by omega) (by simp[aR];omega) _) ?_;.simp only[e,B];exact .cons (.refl _) (.cons (.lit _ _) .nil)
  simp only[c,VV,seval];refine d _ _ _ _ (hT.ao3 e w) (by omega) (by simp only at u;omega) (by omega) ?_;repeat' constructor
 have z:(x.ao0==1)=Z:=by simpa using e
 simp only[Ip,aG,It.aoZ,z,bd,jo,eF,VV,seval];refine⟨λ_=>⟨H,?_⟩,λh=>by simp at h<;>omega⟩;refine cB (ff S a s l k (by omega) 3 (by decide) (by decide) _) rfl ?_;rintro _ _ ⟨v,rfl,V,rfl⟩;have ac:(⟨x.ao0,x.ao3,x.id⟩:It)=x:=rfl;by_cases J:v=0
 .have y:(v==0)=A:=by simp[J]
  simp only[y,bd,jo,eF,c,VV,seval];refine cB (M7 S a s l (k+1) (by omega) 2 (by decide) _) rfl ?_;rintro _ _ ⟨t,i,rfl,ht,T,rfl⟩;have u:=lD ⟨1,t,0⟩ hT.err;simp only at u;have m:=hT.more t;have X:=lD x m.err;simp only[bd,jo,eF,c,VV,seval];refine mu (zs:=[.sl 3 (f.map It.aoZ),.sl 3 ([(⟨1,t,0⟩:It)].map It.aoZ)]) (.cons (.refl _) (.cons (.lit _ _) .nil)) (jP f [⟨1,t,0⟩] (by omega) (by simp) (by omega) (by simp[aR];omega) _) ?_;simp only[bd,jo,eF,c,VV,seval];refine mu (zs:=[.sl 3 ((ao6 (f++[(⟨1,t,0⟩:It)])).map It.aoZ),.sl 3 ([x].map It.aoZ)]) (.cons (.refl _) (.cons (.lit _ _) .nil)) (jP _ [x] (by omega) (by simp) (by omega) (by simp[aR];omega) _) ?_;simp only[c,VV,seval];refine d _ _ _ _ (m.item r e) (by omega) (by omega) (by omega) ?_;repeat' constructor
 have y:(v==0)=Z:=by simpa using J
 have X:=lD x hT.err;simp only[y,bd,jo,eF,c,VV,seval];refine mu (zs:=[.sl 3 (f.map It.aoZ),.sl 3 ([x].map It.aoZ)]) (.cons (.refl _) (.cons (.lit _ _) .nil)) (jP f [x] (by omega) (by simp) (by omega) (by simp[aR];omega) _) ?_;simp only[c,VV,seval];refine d _ _ _ _ (hT.item r e) (by omega) (by omega) (by omega) ?_;repeat' constructor
def NZ(n:a<F S)(l:bG)(k:Nat)(m:k<2^50)(src:List It)(g:bA [] src=0)(b:F src<=100)(d:aR src<=10000): PC θ 94 [.ptr a 0,.sl 3 (src.map It.aoZ)] (gT S a l k) (λr j=>∃(f:List It) (c:Nat),r=.sl 3 (f.map It.aoZ)/\bA [] f=0/\F f<=2*F src/\aR f<=aR src+20*F src/\(k<=c/\c<=k+10*F src)/\j=gT S a l c):=by
 refine a6 func94 c94 λi p=>ay ?_;simp only[p94,SS,seval];simp only[ae,bd,VV,seval];refine cd.aX (fr':=(.ptr a 0::.sl 3 (src.map It.aoZ)::uu 3 (.sl 3 (([]:List It).map It.aoZ)::uu 3 (.I (F src)::.I (F ([]:List It):Nat)::uu 35 [])))) ?_ (F src+1) (YZ S a n l k m i src g b d src [] [] k rfl L5.nil (by simp) (by simp[aR]) (by simp) ?_);.simp only[bI,az];repeat first|exact .nil|refine .cons (.refl _) ?_|refine .cons (.nil _) ?_|refine .cons (.forget _) ?_
 intro c f hT o e h;simp only[JE];intros;simp only[VV,seval];exact fv (.inr rfl) rfl (Wk.refl _ _) (by simp[bd]) ⟨f,c,rfl,hT.err,o,e,h,rfl⟩
def zP(a:F f<2^40)(d:aR f<2^40)(J:ag):PC θ 82 [.sl 3 (f.map It.aoZ)] J (λr c=>r=.own (F J) 0/\c=J++[.row 61 3 32 0 Z ((ao6 f).map It.aoZ)]):=by
 refine a6 func82 c82 λb h=>ay ?_;simp only[p82,SS,seval];simp only[ae,VV,seval];refine cd.wk ((Wk.jV (k:=3) HE rfl).trans (Wk.gW ?_)) (cd.xA (F f+1) (RP f b a d f [] [] 0 rfl (ax _) (ax _) ?_));.simp only[VV,seval];repeat' constructor
 intro g;simp only[JE];intros;simp only[VV,seval];have e:f.foldl cM []=ao6 f:=nG f;rw[e];exact rq 0 b (.inr rfl) rfl rfl rfl (by simp[zT,Ob.gen]) (by simp[Pm.one,RJ,Ob.fresh])
def Fv(b:List It)(h:F f<2^39)(i:F b<2^39)(e:aR f<2^39)(c:aR b<2^39)(J:ag):PC θ 48 [.sl 3 (f.map It.aoZ),.sl 3 (b.map It.aoZ)] J (λr a=>r=.own (F J) 0/\a=J++[.row 61 3 32 0 Z ((ao6 (f++b)).map It.aoZ)]):=by refine a6 func48 c48 λd g=>ay ?_;simp only[p48,SS,seval];simp only[ae,VV,seval];refine⟨by simp[maxLen];omega,by simp[maxLen];omega,?_⟩;refine pQ (F J) (by simp only[iP];rfl) (zP (f++b) (by simp;omega) (by rw[eJ];omega) _) (by simp[fz,sk,ev]) ?_;simp only[VV,seval];exact rq 1 d (.inr rfl) rfl rfl rfl (by simp[zT,Ob.gen]) (by simp[Pm.one,RJ,Ob.fresh])
def sJ:F (dj s)<=F s:=(uh s 32).1
def nK:ei:=[[110],[110,97,109,101],[120,49]]
def rL:ei:=[[98,114],[105,109,103,32,97]]
def oU:ei:=[[98],[105],[97,32,104,61,49]]
def tn:∀s∈nK,apb s=A/\F s<=5:=by decide +kernel
def DK:∀s∈rL,dx s=A/\F s<=5:=by decide +kernel
def zu:∀s∈oU,dx s=A/\apb (dj s)=A/\F s<=5:=by decide +kernel
def gj:Ob:=.row 61 3 32 a T (f.map It.aoZ)
def PX{S:ag}{a:Nat}{l:bG}{k:Nat}{loc:ag}(h:bT (gT S a l k)){i j g1 g2:Nat}{c b:Bool}{f o:List It}(m:i≠j)(h1:loc[i]?=some (gj g1 c f))(e:loc[j]?=some (gj g2 b o)) {xs ys:ao} (g:Ye (F S) loc [i,j] xs ys):Wk θ (F S) xs (gT S a l k++loc) ys (gT S a l k++[gj 0 c f,gj 0 b o]):=by
 have:=Wk.adG (P:=θ) (xs:=xs) (ys:=ys) (J:=gT S a l k) (loc:=loc) (os:=[gj 0 c f,gj 0 b o]) [i,j] h (by simpa using m) rfl (λq n d=>by
  rcases q with _|_|q;.simp only[aH,aa]at d;subst d;exact⟨_,h1,rfl,rfl⟩
  .simp only[bS,aH,aa]at d;subst d;exact⟨_,e,rfl,rfl⟩
  simp at d) (by rw[bd];exact g);rwa [bd]at this
set_option maxRecDepth 20000 in
def R0(vJ:F f<=100)(C:∀y∈f,F y.ao3<=5)(id:Nat)(J:id<=100)(r:Nat):∀(m:Nat) (h c:List It) (k:Nat),F h=m->(∃d,f=h++d)->zK c h id->F c+m<=1000 ->(∀(l:List It) (k:Nat),bA [] l=0->F l=F c+m->aR l<=aR c+5*m->((fj 9 (fh (.own (F S) k) (fj 131 fo))) λM=>K (.exit 3) ⟨M,gT S a R P++[gj k Z l,gj r Z f]⟩)) ->fS (F S) θ MQ K (m+1) ⟨(uu 3 (.b A::uu 5 (.own (F S) k::.own (F S+1) r::uu 4 (.I ((m:Int) - 1)::uu 125 [])))),gT S a R P++[gj k Z c,gj r Z f]⟩:=by
 intro m;induction m with
 |zero =>intro h c k q _ p Q u;have G:decide ((0:Int)<=((0:Nat):Int) - 1)=Z:=rfl;refine aF λe z=>?_;simp only[MQ,G,VV,Int.reduceBEq,Int.reduceBNe,Nat.reduceAdd,Nat.reduceSub,Nat.reduceLeDiff,Nat.reduceEqDiff,Int.reduceToNat,reduceIte,reduceCtorEq];exact u c k p.err (by omega) (by omega) ..
 |succ m ih =>
 intro h c k q W p Q u;obtain⟨d,n⟩:=W;rcases fR h with o|⟨g,y,o⟩;.subst o;simp at q
 rw[fg]at o;subst o;have t:F g=m:=by simpa using q
 subst t;rw[aS,ki]at n;have B:((F g+1:Nat):Int) - 1=(F g:Int):=by omega
 have Hg:F f=F g+(F d+1):=by rw[n];simp
 have w:IntKind.i64.wrap ((F g:Int) - 1)=(F g:Int) - 1:=IntWalk.i64_in _ (by omega);have v:∀j,gp (List.map It.aoZ f) (F g) j=y.aoZ[j]?:=λj=>by rw[n];exact tH
 have Zp:=C y (by rw[n];simp);have Wa:=sJ y.ao3;have L:decide ((0:Int)<=(F g:Int))=A:=by simp
 have x:(0:Int)<=(F g:Int)/\(F g:Int)<(F (List.map It.aoZ f):Int):=⟨by omega,by rw[ae];omega⟩;obtain⟨E,_⟩:=p.close (by omega);rw[B];refine aF λe z=>?_;simp only[MQ,gj,L,w,aG,bd,jo,nb,v,It.aoZ,VV,seval];refine⟨x,x,?_⟩;refine aA (qy y.ao3 _) rfl ?_;simp only[bd,jo,nb,eF,kC,v,It.aoZ,w,ae,VV,seval];refine⟨by omega,⟨by omega,by simp only[maxLen];omega⟩,?_⟩;have U:c.map It.aoZ++[[V.i .i64 3,.s (dj y.ao3),.I y.id]]=(c++[(⟨3,dj y.ao3,y.id⟩:It)]).map It.aoZ:=by simp[It.aoZ]
 rw[U];have H:aR (c++[⟨3,dj y.ao3,y.id⟩])=aR c+F (dj y.ao3):=by simp[eJ,aR]
 have T:F (c++[(⟨3,dj y.ao3,y.id⟩:It)])=F c+1:=by simp
 refine z _ (aX ?_ (ih g _ (k+1) rfl ⟨y::d,n⟩ E (by omega) λl D O q2 X=>u l D O (by omega) (by omega)));repeat' constructor
set_option maxRecDepth 20000 in
def R8(P:a<F S)(l:bG)(X:Nat)(Hh:X<2^50)(bn:bT (gT S a l X))(c:Nat)(hN:c<=20):∀(m:Nat) (k:Nat) (f e:List It) (id g1 g2:Nat),m<=c->id+m<=c->F e+m<=c ->(∀y∈e,F y.ao3<=5)->zK f e id->F f+m<=c->aR f+18*m<=18*c->(X<=k/\k+12*m<=X+12*c) ->(∀(k:Nat) (f e:List It) (id g1 g2:Nat),id<=c->F e<=c->(∀y∈e,F y.ao3<=5)->zK f e id->F f<=c->aR f<=18*c->(X<=k/\k<=X+12*c) ->((fj 3 (fh (.b A) (fj 5 (fh (.own (F S) g1) (fh (.own (F S+1) g2) (fj 130 fo)))))) λZZ=>K (.exit 0) ⟨ZZ,gT S a l k++[gj g1 Z f,gj g2 Z e]⟩)) ->fS (F S) θ MR K (m+1) ⟨(.ptr a 0::uu 1 (.b A::.b A::uu 5 (.own (F S) g1::.own (F S+1) g2::.I id::.I m::uu 128 []))),gT S a l k++[gj g1 Z f,gj g2 Z e]⟩:=by
 intro m;induction m with
 |zero =>intro k f e id g1 g2 hm am fc J H hf ap hk h1;refine aF λR hR=>?_;simp only[MR,VV,Int.reduceBEq,Int.reduceBNe,Nat.reduceAdd,Nat.reduceSub,Nat.reduceLeDiff,Nat.reduceEqDiff,Int.reduceToNat,reduceIte,reduceCtorEq];exact⟨nofun,λ_=>h1 k f e id g1 g2 (by omega) (by omega) J H (by omega) (by omega) (by omega) ..⟩
 |succ m ih =>
 intro k f e id g1 g2 hm am fc J H hf ap hk h1;have hw:IntKind.i64.wrap (((m+1:Nat):Int) - 1)=(m:Int):=by rw[IntWalk.i64_in _ (by omega)];omega
 refine xW λR hR=>?_;simp only[MR];refine cd.cut λR1 Ns=>?_;simp only[VV,Int.reduceBEq,Int.reduceBNe,Nat.reduceAdd,Nat.reduceSub,Nat.reduceLeDiff,Nat.reduceEqDiff,Int.reduceToNat,reduceIte,reduceCtorEq];refine⟨λ_=>?_,λh=>by simp at h<;>omega⟩;refine Ns _ (cd.gW (fr':=(.ptr a 0::uu 1 (.b A::.b A::uu 5 (.own (F S) g1::.own (F S+1) g2::.I id::.I (m+1:Nat)::uu 128 [])))) ?_ (by repeat' constructor));clear Ns R1;refine cd.P8 λR2 af=>cd.js ?_;refine cd.cut λR3 ac=>?_;simp only[gj,bd,jo,nb,eF,kC,VV,Int.reduceBEq,Int.reduceBNe,Nat.reduceAdd,Nat.reduceSub,Nat.reduceLeDiff,Nat.reduceEqDiff,Int.reduceToNat,reduceIte,reduceCtorEq];refine cB (M7 S a P l k (by omega) 3 (by decide) _) rfl ?_;rintro _ _ ⟨t,B,rfl,ht,si,rfl⟩;simp only[bd,jo,nb,eF,kC,VV,Int.reduceBEq,Int.reduceBNe,Nat.reduceAdd,Nat.reduceSub,Nat.reduceLeDiff,Nat.reduceEqDiff,Int.reduceToNat,reduceIte,reduceCtorEq];refine ac _ (cd.gW (fr':=(.ptr a 0::uu 1 (.b A::.b A::uu 5 (.own (F S) g1::.own (F S+1) g2::.I id::.I (m+1:Nat)::.ptr (F S+2) 0::uu 127 [])))) ?_ (by repeat' constructor));clear ac R3;refine cd.P8 λR4 ad=>?_;have o:∀(x:It) (r1:Ob) (ext:ag) (j Q:Nat) (p:List It) (r C:Nat) {fr:ao},(gj g1 A f::r1::.box 61 x.aoZ::(ext++[gj 0 Z (ao6 (f++[x]))]))[j]?=some (gj C Z p)->F ext+3≠j ->
   r+m<=c->F p+m<=c->(∀y∈p,F y.ao3<=5)->zK (ao6 (f++[x])) p r->F x.ao3<=18->(k<=Q/\Q<=k+12) ->
   pe fr (.ptr a 0::uu 1 (.b A::.b A::uu 5 (.own (F S) g1::.own (F S+j) C::.I r::.I (m+1:Nat)::.ptr (F S+2) 0::uu 127 [])))->R4 ⟨fr,gT S a l Q++(gj g1 Z f::r1::.box 61 x.aoZ::ext)⟩:=by
  intro x r1 ext j Q p r C fr hj gn c1 c2 c3 c4 c5 c6 hc;have hb:=lD x H.err;refine ad _ (cd.gW ?_ hc);clear ad hc;refine ay ?_;simp only[gj,It.aoZ,bd,jo,nb,eF,kC,VV,Int.reduceBEq,Int.reduceBNe,Nat.reduceAdd,Nat.reduceSub,Nat.reduceLeDiff,Nat.reduceEqDiff,Int.reduceToNat,reduceIte,reduceCtorEq];refine Xp (zs:=[.sl 3 (f.map It.aoZ),.sl 3 ([x].map It.aoZ)]) (σ1:=gT S a l Q++(gj g1 A f::r1::.box 61 x.aoZ::ext)) ?_ (Fv f [x] (by omega) (by simp) (by omega) (by simp[aR];omega) _) ?_;.refine(Wk.fz (F S) (E:=61) (sz:=3) (by':=32) (g:=g1) (sh:=Z) (rows:=f.map It.aoZ) (by rw[jo];rfl)).trans ?_;rw[eF];simp only[aC,bI,ev,ek,aO,aZ,lT,kf,fz,sk,lu,aU];exact Wk.gW (.cons (.refl _) (.cons (.lit _ _) .nil))
  simp only[bd,jo,nb,eF,kC,VV,Int.reduceBEq,Int.reduceBNe,Nat.reduceAdd,Nat.reduceSub,Nat.reduceLeDiff,Nat.reduceEqDiff,Int.reduceToNat,reduceIte,reduceCtorEq];refine af _ (cd.gW (fr':=(.ptr a 0::uu 1 (.b A::.b A::uu 5 (.own (F S+(F ext+1+1+1)) 0::.own (F S+j) C::.I r::.I (m+1:Nat)::uu 128 [])))) (ay ?_) (by repeat' constructor));simp only[hw,VV,Int.reduceBEq,Int.reduceBNe,Nat.reduceAdd,Nat.reduceSub,Nat.reduceLeDiff,Nat.reduceEqDiff,Int.reduceToNat,reduceIte,reduceCtorEq];refine hR _ (u6 (fr':=(.ptr a 0::uu 1 (.b A::.b A::uu 5 (.own (F S+0) 0::.own (F S+1) 0::.I r::.I m::uu 128 [])))) (J':=gT S a l Q++[gj 0 Z (ao6 (f++[x])),gj 0 Z p])
   ((Wk.gW (ys:=(.ptr a 0::uu 1 (.b A::.b A::uu 5 (.own (F S+(F ext+1+1+1)) 0::.own (F S+j) C::.I r::.I m::uu 128 [])))) (by repeat' constructor)).trans
    (PX (i:=F ext+1+1+1) (j:=j) (g1:=0) (g2:=C) (gG bn) gn (by simp[gj]) hj ?_)) (ih Q (ao6 (f++[x])) p r 0 0 (by omega) c1 c2 c3 c4 (by omega) (by omega) (by omega) h1));repeat first|exact .nil|refine .cons (.forget _) ?_|refine .cons (.own 0 (F ext+1+1+1) 61 3 32 0 Z ((ao6 (f++[x])).map It.aoZ) rfl (by simp;rfl)) ?_|refine .cons (.own 1 j 61 3 32 C Z (p.map It.aoZ) rfl hj) ?_|refine .cons (.fU _ (by simp only[P,LW])) ?_
 refine cd.cut λR5 Us=>?_;simp only[bd,VV,Int.reduceBEq,Int.reduceBNe,Nat.reduceAdd,Nat.reduceSub,Nat.reduceLeDiff,Nat.reduceEqDiff,Int.reduceToNat,reduceIte,reduceCtorEq];refine cB (ff S a P l B (by omega) 8 (by decide) (by decide) _) rfl ?_;rintro _ _ ⟨v,rfl,hv,rfl⟩;simp only[bd,VV,Int.reduceBEq,Int.reduceBNe,Nat.reduceAdd,Nat.reduceSub,Nat.reduceLeDiff,Nat.reduceEqDiff,Int.reduceToNat,reduceIte,reduceCtorEq];refine Us _ (cd.gW (fr':=(.ptr a 0::uu 1 (.b A::.b A::uu 5 (.own (F S) g1::.own (F S+1) g2::.I id::.I (m+1:Nat)::.ptr (F S+2) 0::uu 14 (.I v::uu 112 []))))) (ay ?_) (by repeat' constructor));clear Us R5;have W:IntKind.i64.wrap ((id:Int)+1)=((id+1:Nat):Int):=cq (by omega);have ZI:((id+1:Nat):Int)=(id:Int)+1:=by omega
 have T:(v=0\/v=1)\/v=2\/(v=3\/v=4)\/(v=5\/v=6)\/v=7:=by omega
 rcases T with T|rfl|T|T|rfl
 .have slot:∀{w:aJ},w∈nK->zK (ao6 (f++[⟨5,w,0⟩])) e id:=λh=>H.slot (tn _ h).1;rcases T with rfl|rfl;.simp only[bd,jo,nb,eF,kC,VV,Int.reduceBEq,Int.reduceBNe,Nat.reduceAdd,Nat.reduceSub,Nat.reduceLeDiff,Nat.reduceEqDiff,Int.reduceToNat,reduceIte,reduceCtorEq];refine cB (ff S a P l (B+1) (by omega) 3 (by decide) (by decide) _) rfl ?_;rintro _ _ ⟨u,rfl,hu,rfl⟩;obtain⟨w,L,D⟩:=jT (ws:=nK) (n:=u.toNat) (by simp[nK];omega);simp only[nK,aC,bI]at D;simp only[D,bd,jo,nb,eF,kC,VV,Int.reduceBEq,Int.reduceBNe,Nat.reduceAdd,Nat.reduceSub,Nat.reduceLeDiff,Nat.reduceEqDiff,Int.reduceToNat,reduceIte,reduceCtorEq];refine⟨by omega,?_⟩;exact o ⟨5,w,0⟩ (gj g2 Z e) [] 1 (B+1+1) e id g2 rfl (by simp) (by omega) (by omega) J (slot L) (by have:=(tn _ L).2;simp only;omega) (by omega) (by repeat' constructor)
  simp only[bd,jo,nb,eF,kC,VV,Int.reduceBEq,Int.reduceBNe,Nat.reduceAdd,Nat.reduceSub,Nat.reduceLeDiff,Nat.reduceEqDiff,Int.reduceToNat,reduceIte,reduceCtorEq];refine cB (ff S a P l (B+1) (by omega) 3 (by decide) (by decide) _) rfl ?_;rintro _ _ ⟨u,rfl,hu,rfl⟩;obtain⟨w,L,D⟩:=jT (ws:=nK) (n:=u.toNat) (by simp[nK];omega);simp only[nK,aC,bI]at D;simp only[D,bd,jo,nb,eF,kC,VV,Int.reduceBEq,Int.reduceBNe,Nat.reduceAdd,Nat.reduceSub,Nat.reduceLeDiff,Nat.reduceEqDiff,Int.reduceToNat,reduceIte,reduceCtorEq];refine⟨by omega,?_⟩;exact o ⟨5,w,0⟩ (gj g2 Z e) [] 1 (B+1+1) e id g2 rfl (by simp) (by omega) (by omega) J (slot L) (by have:=(tn _ L).2;simp only;omega) (by omega) (by repeat' constructor)
 .simp only[bd,jo,nb,eF,kC,W,VV,Int.reduceBEq,Int.reduceBNe,Nat.reduceAdd,Nat.reduceSub,Nat.reduceLeDiff,Nat.reduceEqDiff,Int.reduceToNat,reduceIte,reduceCtorEq];refine cB (ff S a P l (B+1) (by omega) 2 (by decide) (by decide) _) rfl ?_;rintro _ _ ⟨u,rfl,hu,rfl⟩;obtain⟨w,L,D⟩:=jT (ws:=rL) (n:=u.toNat) (by simp[rL];omega);simp only[rL,aC,bI]at D;obtain⟨w1,w3⟩:=DK _ L;simp only[D,bd,jo,nb,eF,kC,W,VV,Int.reduceBEq,Int.reduceBNe,Nat.reduceAdd,Nat.reduceSub,Nat.reduceLeDiff,Nat.reduceEqDiff,Int.reduceToNat,reduceIte,reduceCtorEq];refine⟨by omega,?_⟩;have G:=H.empty w1 (by omega) (by omega);rw[<- ZI]at G;exact o ⟨4,w,((id+1:Nat):Int)⟩ (gj g2 Z e) [] 1 (B+1+1) e (id+1) g2 rfl (by simp) (by omega) (by omega) J G (by simp only;omega) (by omega) (by repeat' constructor)
 .rcases T with rfl|rfl
  .simp only[bd,jo,nb,eF,kC,W,VV,Int.reduceBEq,Int.reduceBNe,Nat.reduceAdd,Nat.reduceSub,Nat.reduceLeDiff,Nat.reduceEqDiff,Int.reduceToNat,reduceIte,reduceCtorEq];refine cB (ff S a P l (B+1) (by omega) 3 (by decide) (by decide) _) rfl ?_;rintro _ _ ⟨u,rfl,hu,rfl⟩;obtain⟨w,L,D⟩:=jT (ws:=oU) (n:=u.toNat) (by simp[oU];omega);simp only[oU,aC,bI]at D;obtain⟨w1,w2,w3⟩:=zu _ L;simp only[D,bd,jo,nb,eF,kC,W,ae,VV,Int.reduceBEq,Int.reduceBNe,Nat.reduceAdd,Nat.reduceSub,Nat.reduceLeDiff,Nat.reduceEqDiff,Int.reduceToNat,reduceIte,reduceCtorEq];refine⟨by omega,⟨by omega,by simp only[maxLen];omega⟩,?_⟩;have e3:e.map It.aoZ++[[V.i .i64 2,.s w,.I ((id+1:Nat):Int)]]=(e++[(⟨2,w,((id+1:Nat):Int)⟩:It)]).map It.aoZ:=by simp[It.aoZ]
   rw[e3];have G:=H.opens w1 w2 (by omega) (by omega);rw[<- ZI]at G;refine o ⟨2,w,((id+1:Nat):Int)⟩ (gj (g2+1) Z (e++[⟨2,w,((id+1:Nat):Int)⟩])) [] 1 (B+1+1) (e++[⟨2,w,((id+1:Nat):Int)⟩]) (id+1) (g2+1) rfl (by simp) (by omega) (by simp;omega) (λz q=>by
    rcases bR.1 q with q|q;.exact J z q
    rw[cj]at q;subst q;exact w3) G ?_ ?_ ?_;.simp only;omega
   .omega
   repeat' constructor
  simp only[bd,jo,nb,eF,kC,W,VV,Int.reduceBEq,Int.reduceBNe,Nat.reduceAdd,Nat.reduceSub,Nat.reduceLeDiff,Nat.reduceEqDiff,Int.reduceToNat,reduceIte,reduceCtorEq];refine cB (ff S a P l (B+1) (by omega) 3 (by decide) (by decide) _) rfl ?_;rintro _ _ ⟨u,rfl,hu,rfl⟩;obtain⟨w,L,D⟩:=jT (ws:=oU) (n:=u.toNat) (by simp[oU];omega);simp only[oU,aC,bI]at D;obtain⟨w1,w2,w3⟩:=zu _ L;simp only[D,bd,jo,nb,eF,kC,W,ae,VV,Int.reduceBEq,Int.reduceBNe,Nat.reduceAdd,Nat.reduceSub,Nat.reduceLeDiff,Nat.reduceEqDiff,Int.reduceToNat,reduceIte,reduceCtorEq];refine⟨by omega,⟨by omega,by simp only[maxLen];omega⟩,?_⟩;have e3:e.map It.aoZ++[[V.i .i64 2,.s w,.I ((id+1:Nat):Int)]]=(e++[(⟨2,w,((id+1:Nat):Int)⟩:It)]).map It.aoZ:=by simp[It.aoZ]
  rw[e3];have G:=H.opens w1 w2 (by omega) (by omega);rw[<- ZI]at G;refine o ⟨2,w,((id+1:Nat):Int)⟩ (gj (g2+1) Z (e++[⟨2,w,((id+1:Nat):Int)⟩])) [] 1 (B+1+1) (e++[⟨2,w,((id+1:Nat):Int)⟩]) (id+1) (g2+1) rfl (by simp) (by omega) (by simp;omega) (λz q=>by
   rcases bR.1 q with q|q;.exact J z q
   rw[cj]at q;subst q;exact w3) G ?_ ?_ ?_;.simp only;omega
  .omega
  repeat' constructor
 .rcases T with rfl|rfl
  .rcases fR e with O|⟨d,y,O⟩;.subst O;have M:decide ((0:Int)<=IntKind.i64.wrap (((0:Nat):Int) - 1))=Z:=rfl;simp only[bd,jo,nb,eF,kC,bI,az,M,VV,Int.reduceBEq,Int.reduceBNe,Nat.reduceAdd,Nat.reduceSub,Nat.reduceLeDiff,Nat.reduceEqDiff,Int.reduceToNat,reduceIte,reduceCtorEq];exact o ⟨1,t,0⟩ (gj g2 Z []) [] 1 (B+1) [] id g2 rfl (by simp) (by omega) (by simp;omega) (by simp) (H.ao3 t) (by simp only;omega) (by omega) (by repeat' constructor)
   rw[fg]at O;subst O;have vJ:F (d++[y])=F d+1:=by simp
   have Nh:IntKind.i64.wrap (((F d+1:Nat):Int) - 1)=(F d:Int):=by rw[IntWalk.i64_in _ (by omega)];omega
   have sB:IntKind.i64.wrap ((F d:Int)+1)=((F d+1:Nat):Int):=cq (by omega);have M:decide ((0:Int)<=(F d:Int))=A:=by simp
   have Zp:=J y (by simp);have Wa:=sJ y.ao3;have fG:∀j,gp (List.map It.aoZ (d++[y])) (F d) j=y.aoZ[j]?:=λj=>tH;have U:(0:Int)<=(F d:Int)/\(F d:Int)<((F d+1:Nat):Int):=⟨by omega,by omega⟩;obtain⟨G,hn⟩:=H.close (by omega);simp only[bd,jo,nb,eF,kC,ae,vJ,Nh,M,fG,It.aoZ,aG,VV,Int.reduceBEq,Int.reduceBNe,Nat.reduceAdd,Nat.reduceSub,Nat.reduceLeDiff,Nat.reduceEqDiff,Int.reduceToNat,reduceIte,reduceCtorEq];refine⟨U,U,?_⟩;refine aA (qy y.ao3 _) rfl ?_;simp only[bd,jo,nb,eF,kC,ae,vJ,Nh,sB,M,fG,It.aoZ,aG,VV,Int.reduceBEq,Int.reduceBNe,Nat.reduceAdd,Nat.reduceSub,Nat.reduceLeDiff,Nat.reduceEqDiff,Int.reduceToNat,reduceIte,reduceCtorEq];have e4:List.take (F d) (List.map It.aoZ (d++[y]))=List.map It.aoZ d:=by rw[cF];exact List.take_left' (by simp)
   have e5:List.take (F d+1 - (F d+1)) (List.drop (F d+1) (List.map It.aoZ (d++[y])))=[]:=by simp
   simp only[e4,e5,bM,ae,az,dQ];refine⟨U,by omega,by omega,⟨by omega,by simp only[maxLen];omega⟩,by omega,⟨by omega,by simp only[maxLen];omega⟩,?_⟩;exact o ⟨3,dj y.ao3,y.id⟩ (gj g2 Z (d++[y])) [gj 1 Z d] 3 (B+1) d id 1 rfl (by simp) (by omega) (by omega) (λz q=>J z (by simp[q])) (by rw[hn];exact G) (by simp only;omega) (by omega) (by repeat' constructor)
  rcases fR e with O|⟨d,y,O⟩;.subst O;have M:decide ((0:Int)<=IntKind.i64.wrap (((0:Nat):Int) - 1))=Z:=rfl;simp only[bd,jo,nb,eF,kC,bI,az,M,VV,Int.reduceBEq,Int.reduceBNe,Nat.reduceAdd,Nat.reduceSub,Nat.reduceLeDiff,Nat.reduceEqDiff,Int.reduceToNat,reduceIte,reduceCtorEq];exact o ⟨1,t,0⟩ (gj g2 Z []) [] 1 (B+1) [] id g2 rfl (by simp) (by omega) (by simp;omega) (by simp) (H.ao3 t) (by simp only;omega) (by omega) (by repeat' constructor)
  rw[fg]at O;subst O;have vJ:F (d++[y])=F d+1:=by simp
  have Nh:IntKind.i64.wrap (((F d+1:Nat):Int) - 1)=(F d:Int):=by rw[IntWalk.i64_in _ (by omega)];omega
  have sB:IntKind.i64.wrap ((F d:Int)+1)=((F d+1:Nat):Int):=cq (by omega);have M:decide ((0:Int)<=(F d:Int))=A:=by simp
  have Zp:=J y (by simp);have Wa:=sJ y.ao3;have fG:∀j,gp (List.map It.aoZ (d++[y])) (F d) j=y.aoZ[j]?:=λj=>tH;have U:(0:Int)<=(F d:Int)/\(F d:Int)<((F d+1:Nat):Int):=⟨by omega,by omega⟩;obtain⟨G,hn⟩:=H.close (by omega);simp only[bd,jo,nb,eF,kC,ae,vJ,Nh,M,fG,It.aoZ,aG,VV,Int.reduceBEq,Int.reduceBNe,Nat.reduceAdd,Nat.reduceSub,Nat.reduceLeDiff,Nat.reduceEqDiff,Int.reduceToNat,reduceIte,reduceCtorEq];refine⟨U,U,?_⟩;refine aA (qy y.ao3 _) rfl ?_;simp only[bd,jo,nb,eF,kC,ae,vJ,Nh,sB,M,fG,It.aoZ,aG,VV,Int.reduceBEq,Int.reduceBNe,Nat.reduceAdd,Nat.reduceSub,Nat.reduceLeDiff,Nat.reduceEqDiff,Int.reduceToNat,reduceIte,reduceCtorEq];have e4:List.take (F d) (List.map It.aoZ (d++[y]))=List.map It.aoZ d:=by rw[cF];exact List.take_left' (by simp)
  have e5:List.take (F d+1 - (F d+1)) (List.drop (F d+1) (List.map It.aoZ (d++[y])))=[]:=by simp
  simp only[e4,e5,bM,ae,az,dQ];refine⟨U,by omega,by omega,⟨by omega,by simp only[maxLen];omega⟩,by omega,⟨by omega,by simp only[maxLen];omega⟩,?_⟩;exact o ⟨3,dj y.ao3,y.id⟩ (gj g2 Z (d++[y])) [gj 1 Z d] 3 (B+1) d id 1 rfl (by simp) (by omega) (by omega) (λz q=>J z (by simp[q])) (by rw[hn];exact G) (by simp only;omega) (by omega) (by repeat' constructor)
 simp only[bd,jo,nb,eF,kC,VV,Int.reduceBEq,Int.reduceBNe,Nat.reduceAdd,Nat.reduceSub,Nat.reduceLeDiff,Nat.reduceEqDiff,Int.reduceToNat,reduceIte,reduceCtorEq];exact o ⟨1,t,0⟩ (gj g2 Z e) [] 1 (B+1) e id g2 rfl (by simp) (by omega) (by omega) J (H.ao3 t) (by simp only;omega) (by omega) (by repeat' constructor)
set_option maxRecDepth 4000 in
def Jh(s:a<F S)(l:bG)(k:Nat)(z:k<2^49)(c:Nat)(L:c<=20): PC θ 34 [.ptr a 0,.I c,.b true,.b true] (gT S a l k) (λr t=>∃(f:List It) (k':Nat),r=.sl 3 (f.map It.aoZ)/\bA [] f=0/\F f<=2*c/\aR f<=23*c/\(k<=k'/\k'<=k+12*c+1)/\t=gT S a l k'):=by
 refine a6 func34 c34 λp y=>?_;have q:IntKind.i64.wrap ((c:Int)+1)=((c+1:Nat):Int):=cq (by omega);simp only[p34,SS,seval];refine cd.cut λR e=>?_;simp only[bd,VV,seval];refine e _ ?_;clear e R;refine cd.cut λR e=>?_;simp only[bd,VV,seval];refine e _ ?_;clear e R;refine cd.cut λR e=>?_;simp only[bd,VV,seval];refine e _ ?_;clear e R;refine cd.cut λR e=>?_;simp only[bd,q,VV,seval];refine cB (rD S a s l k (by omega) ((c+1:Nat):Int) (by omega) (by omega)) rfl ?_;rintro _ _ ⟨v,rfl,H,rfl⟩;obtain⟨m,rfl⟩:∃m:Nat,v=m:=⟨v.toNat,by omega⟩;simp only[bd,q,VV,seval];refine cd.wk (((Wk.gW (ys:=(.ptr a 0::uu 1 (.b true::.b true::uu 5 (.nil::.nil::.I (0:Nat)::.I m::uu 128 [])))) (by repeat' constructor)).trans (Wk.jV (P:=θ) (J:=gT S a l (k+1)) (k:=9) HE rfl)).trans ((Wk.mV (P:=θ) (J:=gT S a l (k+1)) [_] (k:=10) HE rfl).trans (Wk.gW (ys:=(.ptr a 0::uu 1 (.b true::.b true::uu 5 (.own (F S) 0::.own (F S+1) 0::.I (0:Nat)::.I m::uu 128 [])))) ?_)))
  (cd.xA (m+1) (R8 S a s l (k+1) (by omega) (gG p) m (by omega) m (k+1) [] [] 0 0 0 (ax _) (by omega) (by simp) (by simp) zK.nil (by simp) (by simp[aR]) (by omega) ?_));.simp only[bd,ah,az,VV,seval];repeat' constructor
 intro k' f d id o j D G w x c5 K B;simp only[JE];intros;simp only[VV,seval];refine e _ (cd.gW (fr':=(uu 3 (.b true::uu 5 (.own (F S) o::.own (F S+1) j::uu 130 [])))) ?_ (by repeat' constructor));clear e R;refine cd.cut λR e=>?_;simp only[gj,bd,jo,nb,eF,kC,ae,VV,seval];have n:IntKind.i64.wrap ((F d:Int) - 1)=(F d:Int) - 1:=IntWalk.i64_in _ (by omega);rw[n];refine cd.aX (fr':=(uu 3 (.b true::uu 5 (.own (F S) o::.own (F S+1) j::uu 4 (.I ((F d:Int) - 1)::uu 125 []))))) (by repeat' constructor) (F d+1) (R0 S a l k' d (by omega) w id (by omega) j (F d) d f o rfl ⟨[],by simp⟩ x (by omega) ?_);intro i h u M C;simp only[JE];intros;simp only[gj,VV,seval];refine e _ (ay ?_);clear e R;simp only[gj,bd,jo,nb,eF,kC,VV,seval];refine fv (xs':=[.sl 3 (i.map It.aoZ)]) (.inr rfl) rfl ((Wk.fz (F S) (E:=61) (sz:=3) (by':=32) (g:=h) (sh:=Z) (rows:=i.map It.aoZ) (by rw[jo];rfl)).trans ?_) ?_ ⟨i,k',rfl,u,by omega,by omega,by omega,rfl⟩;.rw[eF];simp only[aC,bI,ev,ek,aO,aZ,lT,kf,fz,sk,lu,aU];have:=Wk.DM (P:=θ) (xs:=[.sl 3 (i.map It.aoZ)]) (loc:=[Ob.row 61 3 32 h true (i.map It.aoZ),Ob.row 61 3 32 j Z (d.map It.aoZ)]) (gG (k':=k') p) (by simp only[bd,LW]);rw[bd]at this;exact this
 rfl
def W1(h:a<F S)(l:bG)(k:Nat)(j:k<2^49)(c:Nat)(s:c<=20)(d:ag): PC θ 34 [.ptr a 0,.I c,.b A,.b A] (gT S a l k++d) (λr g=>∃(f:List It) (e:Nat),r=.sl 3 (f.map It.aoZ)/\bA [] f=0/\F f<=2*c/\aR f<=23*c/\(k<=e/\e<=k+12*c+1)/\g=gT S a l e++d):=by rw[lM h];refine(Jh (S++d) a (by rw[ai];omega) l k j c s).mono ?_;rintro r g ⟨f,e,o,m,q,n,p,i⟩;exact⟨f,e,o,m,q,n,p,by rw[i,lM h]⟩
def N0(h:a<F S)(l:bG)(k:Nat)(o:k<2^50)(src:List It)(j:bA [] src=0)(c:F src<=100)(e:aR src<=10000)(b:ag): PC θ 94 [.ptr a 0,.sl 3 (src.map It.aoZ)] (gT S a l k++b) (λr g=>∃(f:List It) (d:Nat),r=.sl 3 (f.map It.aoZ)/\bA [] f=0/\F f<=2*F src/\aR f<=aR src+20*F src/\(k<=d/\d<=k+10*F src)/\g=gT S a l d++b):=by rw[lM h];refine(NZ (S++b) a (by rw[ai];omega) l k o src j c e).mono ?_;rintro r g ⟨f,d,q,i,m,p,s,n⟩;exact⟨f,d,q,i,m,p,s,by rw[n,lM h]⟩
def wV:ei:=[[83,97,118,101],[114,101,100,32,99,97,114],[82,101,100,32,99,97,114,115]]
def Jg:∀s∈wV,bA [] [⟨1,s,0⟩]=0/\F s<=8:=by decide +kernel
def wW:ei:=[[],[],[83,97,118,101],[114,101,100,32,99,97,114]]
def wX:ei:=[[],[],[120],[83,97,118,101]]
def rM:ei:=[[],[97,110,110],[98,111,98]]
def pN:ei:=[[],[112],[113]]
def aac:(∀s∈wW,s∈Cd)/\(∀s∈wX,s∈Cd)/\(∀s∈rM,s∈tt)/\∀s∈pN,s∈tt:=by decide +kernel
set_option maxRecDepth 20000 in
def Tu(c:a<F S)(l:bG)(k:Nat)(hk:k<2^48): PC θ 41 [.ptr a 0] (gT S a l k) (λr J'=>∃(e:En) (k':Nat),r=.agg e.aoZ/\xx e/\(k<=k'/\k'<=k+200)/\J'=gT S a l k'):=by
 refine a6 func41 c41 λM dN=>?_;simp only[p41,SS,seval];refine cd.cut λR b=>?_;simp only[bd,VV,seval];refine b _ ?_;clear b R;refine cd.cut λR b=>?_;simp only[bd,VV,seval];refine cB (W1 S a c l k (by omega) 4 (by decide) _) rfl ?_;rintro _ _ ⟨H,G,rfl,O,f2,f3,f4,rfl⟩;simp only[bd,jo,nb,eF,kC,VV,seval];refine b _ (cd.gW (fr':=(.ptr a 0::uu 1 (.ptr (F S) 0::.sl 3 (H.map It.aoZ)::uu 52 []))) ?_ (by repeat' constructor));clear b R;refine cd.cut λR b=>?_;have g:∀(f:List It) (u:Nat) {J:ao},bA [] f=0->f≠[]->F f<=8->aR f<=92->(k<=u/\u<=k+50)->pe J (.ptr a 0::uu 1 (.ptr (F S) 0::.sl 3 (f.map It.aoZ)::uu 52 [])) ->
   R ⟨J,gT S a l u++[.box 37 [.nil,.nil,.s [],.s [],.s [],.s [],.I 0,.I 0]]⟩:=by
  intro f u J K T c3 c4 c5 hc;refine b _ (cd.gW ?_ hc);clear b R;refine cd.cut λR b=>?_;simp only[bd,jo,nb,eF,kC,VV,seval];refine cB (N0 S a c l u (by omega) f K (by omega) (by omega) _) rfl ?_;rintro _ _ ⟨t,d,rfl,X,t2,t3,t4,rfl⟩;simp only[bd,jo,nb,eF,kC,VV,seval];refine b _ (cd.gW (fr':=(.ptr a 0::uu 1 (.ptr (F S) 0::.sl 3 (f.map It.aoZ)::.sl 3 (t.map It.aoZ)::uu 51 []))) ?_ (by repeat' constructor));clear b R;refine cd.cut λR b=>?_;simp only[bd,jo,nb,eF,kC,VV,seval];refine aA (oM f t (by omega) (by omega) (by omega) (by omega) _) rfl ?_;simp only[bd,jo,nb,eF,kC,VV,seval];refine b _ (cd.gW (fr':=(.ptr a 0::uu 1 (.ptr (F S) 0::uu 2 (.sl 3 ((ft f t).map It.aoZ)::.sl 3 ((fI f t).map It.aoZ)::uu 49 [])))) (ay ?_) (by repeat' constructor));clear b R;simp only[bd,jo,nb,eF,kC,VV,seval];refine cB (ff S a c l d (by omega) 4 (by decide) (by decide) _) rfl ?_;rintro _ _ ⟨Q,rfl,Sq,rfl⟩;obtain⟨j,Nh,i⟩:=jT (ws:=wW) (n:=Q.toNat) (by simp[wW];omega);simp only[wW,aC,bI]at i;simp only[i,bd,jo,nb,eF,kC,VV,seval];refine⟨by omega,?_⟩;refine cB (ff S a c l (d+1) (by omega) 4 (by decide) (by decide) _) rfl ?_;rintro _ _ ⟨v2,rfl,XN,rfl⟩;obtain⟨p,W,o⟩:=jT (ws:=wX) (n:=v2.toNat) (by simp[wX];omega);simp only[wX,aC,bI]at o;simp only[i,o,bd,jo,nb,eF,kC,VV,seval];iterate 3 (try refine ak (by omega) ?_)
  refine cB (ff S a c l (d+1+1) (by omega) 3 (by decide) (by decide) _) rfl ?_;rintro _ _ ⟨v3,rfl,U,rfl⟩;obtain⟨x,E,y⟩:=jT (ws:=rM) (n:=v3.toNat) (by simp[rM];omega);simp only[rM,aC,bI]at y;simp only[i,o,y,bd,jo,nb,eF,kC,VV,seval];iterate 4 (try refine ak (by omega) ?_)
  refine cB (ff S a c l (d+1+1+1) (by omega) 3 (by decide) (by decide) _) rfl ?_;rintro _ _ ⟨v4,rfl,ad,rfl⟩;obtain⟨q,D,B⟩:=jT (ws:=pN) (n:=v4.toNat) (by simp[pN];omega);simp only[pN,aC,bI]at B;simp only[i,o,y,B,bd,jo,nb,eF,kC,VV,seval];iterate 6 (try refine ak (by omega) ?_)
  refine cB (ff S a c l (d+1+1+1+1) (by omega) 50 (by decide) (by decide) _) rfl ?_;rintro _ _ ⟨z,rfl,af,rfl⟩;simp only[i,o,y,B,bd,jo,nb,eF,kC,VV,seval];iterate 6 (try refine ak (by omega) ?_)
  refine cB (ff S a c l (d+1+1+1+1+1) (by omega) 3 (by decide) (by decide) _) rfl ?_;rintro _ _ ⟨m,rfl,ac,rfl⟩;have C:IntKind.i64.wrap (1+m)=1+m:=IntWalk.i64_in _ (by omega);simp only[i,o,y,B,C,bd,jo,nb,eF,kC,VV,seval];refine⟨by omega,?_⟩;obtain⟨i1,L,i3,i4⟩:=aac;have hE:xx ⟨ft f t,fI f t,j,p,x,q,z,1+m⟩:=PR K X T (by omega) (by omega) (by omega) (by omega) (i1 _ Nh) (L _ W) (i3 _ E) (i4 _ D) (by omega) (by omega);refine fv (xs:=[.agg (En.aoZ ⟨ft f t,fI f t,j,p,x,q,z,1+m⟩)]) (xs':=[.agg (En.aoZ ⟨ft f t,fI f t,j,p,x,q,z,1+m⟩)]) (.inr rfl) (by simp only[lg,u7,jo,VV,seval];rfl) ?_ rfl ⟨_,d+1+1+1+1+1+1,rfl,hE,by omega,rfl⟩;have:=Wk.DM (P:=θ) (xs:=[.agg (En.aoZ ⟨ft f t,fI f t,j,p,x,q,z,1+m⟩)]) (loc:=[Ob.box 37 (En.aoZ ⟨ft f t,fI f t,j,p,x,q,z,1+m⟩)]) (gG (k':=d+1+1+1+1+1+1) M) (by simp only[En.aoZ,bd,LW]);rw[bd]at this;exact this
 simp only[ae,bd,jo,nb,eF,kC,VV,seval];refine⟨λh=>?_,λh=>?_⟩;.refine cB (ff S a c l G (by omega) 3 (by decide) (by decide) _) rfl ?_;rintro _ _ ⟨v,rfl,hv,rfl⟩;obtain⟨w,V,e⟩:=jT (ws:=wV) (n:=v.toNat) (by simp[wV];omega);obtain⟨j,p⟩:=Jg _ V;simp only[wV,aC,bI]at e;simp only[e,bd,jo,nb,eF,kC,VV,seval];refine⟨by omega,?_⟩;refine g [⟨1,w,0⟩] (G+1) j (by simp) (by simp) (by simp[aR];omega) (by omega) ?_;simp only[aC,bI,It.aoZ];repeat first|exact .nil|refine .cons (.refl _) ?_|refine .cons (.lit _ _) ?_|refine .cons (.forget _) ?_
 have h:H≠[]:=by rintro rfl;simp at h
 refine g H G O h (by omega) (by omega) (by omega) ?_;repeat' constructor
def Jo(f:a<F S)(l:bG)(k:Nat)(g:k<2^48)(b:ag): PC θ 41 [.ptr a 0] (gT S a l k++b) (λr d=>∃(e:En) (c:Nat),r=.agg e.aoZ/\xx e/\(k<=c/\c<=k+200)/\d=gT S a l c++b):=by rw[lM f];refine(Tu (S++b) a (by rw[ai];omega) l k g).mono ?_;rintro r d ⟨e,c,j,h,m,i⟩;exact⟨e,c,j,h,m,by rw[i,lM f]⟩
structure Yf (q:Qr):Prop where
 en:∃e,xx e/\q.ao2=e.ao2/\q.b6=e.b6/\q.next=e.next
 now:0<=q.now/\q.now<90
 threshold:1<=q.threshold/\q.threshold<=102
 oc:1<=q.oc/\q.oc<=12
def Ro(h:a<F S)(l:bG)(k:Nat)(v:k<2^47): PC θ 13 [.ptr a 0] (gT S a l k) (λr o=>∃(q:Qr) (k':Nat),r=.agg q.aoZ/\Yf q/\(k<=k'/\k'<=k+300)/\o=gT S a l k'):=by
 refine a6 func13 c13 λn u=>?_;simp only[p13,SS,seval];refine cd.cut λR f=>?_;simp only[bd,VV,seval];refine f _ ?_;clear f R;refine cd.cut λR f=>?_;simp only[bd,jo,nb,eF,kC,VV,seval];refine cB (Jo S a h l k (by omega) _) rfl ?_;rintro _ _ ⟨e,b,rfl,p,w,rfl⟩;simp only[En.aoZ,bd,jo,nb,eF,kC,VV,seval];refine f _ (ay ?_);clear f R;simp only[bd,jo,nb,eF,kC,V.pure,VV,seval];refine cB (ff S a h l b (by omega) 90 (by decide) (by decide) _) rfl ?_;rintro _ _ ⟨g,rfl,t,rfl⟩;simp only[bd,jo,nb,eF,kC,V.pure,VV,seval];refine cB (ff S a h l (b+1) (by omega) 102 (by decide) (by decide) _) rfl ?_;rintro _ _ ⟨d,rfl,x,rfl⟩;have j:IntKind.i64.wrap (1+d)=1+d:=IntWalk.i64_in _ (by omega);simp only[j,bd,jo,nb,eF,kC,V.pure,VV,seval];refine cB (ff S a h l (b+1+1) (by omega) 12 (by decide) (by decide) _) rfl ?_;rintro _ _ ⟨c,rfl,s,rfl⟩;have m:IntKind.i64.wrap (1+c)=1+c:=IntWalk.i64_in _ (by omega);simp only[j,m,bd,jo,nb,eF,kC,V.pure,VV,seval];have i:∀loc:ag,Wk θ (F S) [.agg (Qr.aoZ ⟨e.ao2,e.b6,e.next,g,1+d,1+c⟩)] (gT S a l (b+1+1+1)++loc) [.agg (Qr.aoZ ⟨e.ao2,e.b6,e.next,g,1+d,1+c⟩)] (gT S a l (b+1+1+1)):=λloc=>by have:=Wk.DM (P:=θ) (xs:=[.agg (Qr.aoZ ⟨e.ao2,e.b6,e.next,g,1+d,1+c⟩)]) (loc:=loc) (gG (k':=b+1+1+1) n) (by simp only[Qr.aoZ,bd,LW]);rw[bd]at this;exact this
 exact fv (xs':=[.agg (Qr.aoZ ⟨e.ao2,e.b6,e.next,g,1+d,1+c⟩)]) (.inr rfl) (by simp only[lg,u7,jo,VV,seval];rfl) (i _) rfl ⟨_,b+1+1+1,rfl,⟨⟨e,p,rfl,rfl,rfl⟩,t,by simp only;omega,by simp only;omega⟩,by omega,rfl⟩
def Rp(e:a<F S)(l:bG)(k:Nat)(f:k<2^47)(b:ag): PC θ 13 [.ptr a 0] (gT S a l k++b) (λr d=>∃(q:Qr) (c:Nat),r=.agg q.aoZ/\Yf q/\(k<=c/\c<=k+300)/\d=gT S a l c++b):=by rw[lM e];refine(Ro (S++b) a (by rw[ai];omega) l k f).mono ?_;rintro r d ⟨q,c,i,g,j,h⟩;exact⟨q,c,i,g,j,by rw[h,lM e]⟩
def YA:Ti θ 37 8 128:=nQ (by kernel_rfl)
def oW:Ob:=.row 37 8 128 a T (m.map En.aoZ)
def Tv{out:List En}{n:Nat}(h:n<F out):∃x∈out,(out.map En.aoZ).getD n []=x.aoZ :=⟨out[n],cS h,by simp[aq,h]⟩
def vU:ei:=[[32],[46],[32,99,97,114],[115]]
def Fj(h:w∈vU):F w<=4:=by revert w;decide
set_option maxRecDepth 20000 in
def Zi(G:a<F S)(l:bG)(O:Nat)(Hh:O<2^46)(bn:bT (gT S a l O))(d:Nat)(hN:d<=20):∀(m:Nat) (k:Nat) (out:List En) (g:Nat),m<=d->F out+m<=d->(∀o∈out,pd (F out) o)->k+1000*m<=O+1000*d ->(∀(k:Nat) (out:List En) (g:Nat),(∀o∈out,pd (F out) o)->F out<=d->k<=O+1000*d->((fj 5 (fh (.own (F S) g) (fj 53 fo))) λZZ=>K (.exit 0) ⟨ZZ,gT S a l k++[oW g Z out]⟩)) ->fS (F S) θ MU K (m+1) ⟨(.ptr a 0::uu 4 (.own (F S) g::.I m::uu 52 [])),gT S a l k++[oW g Z out]⟩:=by
 intro m;induction m with
 |zero =>intro k out g hm vJ M hk U;refine aF λR hR=>?_;simp only[MU,VV,seval];exact⟨λh=>by simp at h,λ_=>U k out g M (by omega) (by omega) ..⟩
 |succ m ih =>
 intro k out g hm vJ M hk U;have hw:IntKind.i64.wrap (((m+1:Nat):Int) - 1)=(m:Int):=by rw[IntWalk.i64_in _ (by omega)];omega
 refine xW λR hR=>?_;simp only[MU];refine cd.cut λR1 Ns=>?_;simp only[VV,seval];refine⟨λ_=>?_,λh=>by simp at h<;>omega⟩;refine Ns _ (cd.gW (fr':=(.ptr a 0::uu 4 (.own (F S) g::.I (m+1:Nat)::uu 52 []))) ?_ (by repeat' constructor));clear Ns R1;refine cd.P8 λR2 ad=>cd.js ?_;have again:∀(f:List En) (q i:Nat) (ext:ag) {p:ao},(∀o∈f,pd (F f) o)->F f<=F out+1->i<=k+1000->pe p (.ptr a 0::uu 4 (.own (F S) q::.I (m+1:Nat)::uu 52 []))->R2 ⟨p,gT S a l i++(oW q Z f::ext)⟩:=by
  intro f q i ext p X c2 c3 H;refine ad _ (cd.gW (ay ?_) H);simp only[hw,VV,seval];have sB:Wk θ (F S) (.ptr a 0::uu 4 (.own (F S) q::.I m::uu 52 [])) (gT S a l i++(oW q Z f::ext)) (.ptr a 0::uu 4 (.own (F S) q::.I m::uu 52 [])) (gT S a l i++[oW q Z f]):=by have:=Wk.xe (P:=θ) (n:=F S) (xs:=(.ptr a 0::uu 4 (.own (F S) q::.I m::uu 52 []))) (J:=gT S a l i++[oW q Z f]) (loc:=ext) (by simp[bd]) (cL (gG bn) (by simp[oW])) (fi.1 (by rw[ai,bd];simp only[ah,az,Nat.lt_add_one,Nat.lt_add_right 1 G,bq,LW]));rwa [aS,ki]at this
  exact hR _ (u6 ((Wk.gW (by repeat' constructor)).trans sB) (ih i f q (by omega) (by omega) X (by omega) U))
 refine cd.cut λR3 D=>?_;simp only[oW,bd,jo,nb,eF,kC,VV,seval];refine cB (Jo S a G l k (by omega) _) rfl ?_;rintro _ _ ⟨e,y,rfl,hE,si,rfl⟩;simp only[En.aoZ,bd,jo,nb,eF,kC,VV,seval];refine D _ (cd.gW (fr':=(.ptr a 0::uu 4 (.own (F S) g::.I (m+1:Nat)::.ptr (F S+1) 0::uu 51 []))) ?_ (by repeat' constructor));clear D R3;refine cd.P8 λR4 W=>?_;have r:∀(e:En) (i:Nat) (ext:ag) {p:ao},pd (F out+1) e->i<=k+1000->pe p (.ptr a 0::uu 4 (.own (F S) g::.I (m+1:Nat)::.ptr (F S+1) 0::uu 51 [])) ->
   R4 ⟨p,gT S a l i++(oW g Z out::.box 37 e.aoZ::ext)⟩:=by
  intro e i ext p X c3 H;refine W _ (cd.gW (ay ?_) H);simp only[oW,En.aoZ,bo,bg,bd,jo,nb,eF,kC,ae,V.pure,VV,seval];refine⟨⟨by omega,by simp only[maxLen];omega⟩,?_⟩;have e0:out.map En.aoZ++[[.sl 3 (e.ao2.map It.aoZ),.sl 3 (e.ao7.map It.aoZ),.s e.b6,.s e.next,.s e.cW,.s e.cx,.I e.ao9,.I e.ape]]=(out++[e]).map En.aoZ:=by simp[En.aoZ]
  rw[e0];refine again (out++[e]) (g+1) i _ (λz B=>?_) (by simp) c3 (by repeat' constructor);rw[ai,iQ];rcases bR.1 B with B|B;.exact(M z B).mono (by omega)
  rw[cj]at B;subst B;exact X
 refine cd.cut λR5 Us=>?_;have skip:∀(i:Nat) {p:ao},i<=y+1->pe p (.ptr a 0::uu 4 (.own (F S) g::.I (m+1:Nat)::.ptr (F S+1) 0::uu 19 (.b Z::uu 31 [])))->R5 ⟨p,gT S a l i++[oW g Z out,.box 37 e.aoZ]⟩:=by intro i p pM H;refine Us _ (cd.gW (cd.adK rfl (ay ?_)) H);simp only[VV,seval];exact r e i [] (hE.toB _) (by omega) (by repeat' constructor)
 simp only[oW,bd,jo,nb,eF,kC,ae,VV,seval];by_cases gn:out=[]
 .have C:decide ((0:Int)<(F out:Int))=Z:=by simp[gn]
  refine qU (Q:=λ_ _=>True) (c:=Z) (by simp only[C,VV,seval]<;>rfl) (λh=>by simp at h) rfl (λh=>by simp at h) λ_=>⟨.I 0,?_⟩;simp only[C,VV,seval];refine skip y (by omega) ?_;repeat' constructor
 have C:decide ((0:Int)<(F out:Int))=A:=by have:=dJ.2 gn;simp;omega
 refine qU (c:=A) (by simp only[C,VV,seval]<;>rfl) (λ_=>ff S a G l y (by omega) 2 (by decide) (by decide) _) rfl ?_ (λh=>by simp at h);rintro _ _ _ ⟨v,rfl,hv,rfl⟩;by_cases JZ:v=0
 .have T:(v==0)=A:=by simp[JZ]
  simp only[C,T,VV,seval];refine Us _ (cd.gW (fr':=(.ptr a 0::uu 4 (.own (F S) g::.I (m+1:Nat)::.ptr (F S+1) 0::uu 19 (.b A::uu 31 [])))) (cd.adJ rfl ?_) (by repeat' constructor));clear Us skip R5;refine cd.cut λR6 E=>?_;simp only[oW,bd,jo,nb,eF,kC,ae,VV,seval];refine cB (ff S a G l (y+1) (by omega) (F out) (by have:=dJ.2 gn;omega) (by omega) _) rfl ?_;rintro _ _ ⟨j,rfl,hj,rfl⟩;simp only[oW,bd,jo,nb,eF,kC,ae,VV,seval];obtain⟨x,ac,Ng⟩:=Tv (out:=out) (n:=j.toNat) (by omega);have u:=M x ac;simp only[Ng,En.aoZ,V.pure,VV,seval];refine⟨⟨hj.1,hj.2⟩,?_⟩;refine E _ (cd.gW (fr':=(.ptr a 0::uu 4 (.own (F S) g::.I (m+1:Nat)::.ptr (F S+1) 0::.ptr (F S+2) 0::uu 50 []))) ?_ (by repeat' constructor));clear E R6;refine cd.cut λR7 L=>?_;simp only[bd,jo,nb,eF,kC,V.pure,VV,seval];refine cB (ff S a G l (y+1+1) (by omega) 4 (by decide) (by decide) _) rfl ?_;rintro _ _ ⟨w,rfl,af,rfl⟩;obtain⟨t,ht,et⟩:=jT (ws:=vU) (n:=w.toNat) (by simp[vU];omega);have xC:=Fj ht;simp only[vU,aC,bI]at et;have b1:=u.kt;have b2:=u.iY;have b3:=u.sG;have b4:=u.px;simp only[et,bd,jo,nb,eF,kC,V.pure,VV,seval];refine⟨by omega,?_⟩;refine mu (zs:=[.sl 3 (x.ao2.map It.aoZ),.sl 3 ([(⟨1,t,0⟩:It)].map It.aoZ)]) (.cons (.refl _) (.cons (.lit _ _) .nil)) (jP x.ao2 [⟨1,t,0⟩] (by omega) (by simp) (by omega) (by simp[aR];omega) _) ?_;simp only[bd,jo,nb,eF,kC,V.pure,VV,seval];obtain⟨_,_,f1,f2⟩:=A4 u.src (oV u.ok).nonempty t;refine L _ (cd.gW (fr':=(.ptr a 0::uu 4 (.own (F S) g::.I (m+1:Nat)::.ptr (F S+1) 0::.ptr (F S+2) 0::.sl 3 ((ao6 (x.ao2++[⟨1,t,0⟩])).map It.aoZ)::uu 49 []))) (ay ?_) (by repeat' constructor));clear L R7;simp only[bd,jo,nb,eF,kC,V.pure,VV,seval];refine aA (oM (ao6 (x.ao2++[⟨1,t,0⟩])) x.ao7 (by omega) (by omega) (by omega) (by omega) _) rfl ?_;simp only[bd,jo,nb,eF,kC,V.pure,VV,seval];refine r ⟨ft (ao6 (x.ao2++[⟨1,t,0⟩])) x.ao7,fI (ao6 (x.ao2++[⟨1,t,0⟩])) x.ao7,e.b6,e.next,e.cW,e.cx,e.ao9,e.ape⟩ (y+1+1+1) _ (N8 (by omega) (hE.toB 0) u xC) (by omega) ?_;repeat' constructor
 have T:(v==0)=Z:=by simpa using JZ
 simp only[C,T,VV,seval];refine skip (y+1) (by omega) ?_;repeat' constructor
def LK(f:a<F S)(l:bG)(k:Nat)(q:k<2^45)(b:Nat)(t:b<=20): PC θ 17 [.ptr a 0,.I b] (gT S a l k) (λr h=>∃(c:List En) (k':Nat),r=.sl 8 (c.map En.aoZ)/\(∀o∈c,pd (F c) o)/\F c<=b/\k'<=k+1000*b+1/\h=gT S a l k'):=by
 refine a6 func17 c17 λe n=>ay ?_;have d:IntKind.i64.wrap ((b:Int)+1)=((b+1:Nat):Int):=cq (by omega);simp only[p17,SS,seval];simp only[bd,d,VV,seval];refine cB (rD S a f l k (by omega) ((b+1:Nat):Int) (by omega) (by omega)) rfl ?_;rintro _ _ ⟨v,rfl,s,rfl⟩;obtain⟨m,rfl⟩:∃m:Nat,v=m:=⟨v.toNat,by omega⟩;simp only[bd,d,VV,seval];refine cd.wk (((Wk.gW (ys:=(.ptr a 0::uu 4 (.nil::.I m::uu 52 []))) (by repeat' constructor)).trans (Wk.jV (P:=θ) (J:=gT S a l (k+1)) (k:=5) YA rfl)).trans (Wk.gW (ys:=(.ptr a 0::uu 4 (.own (F S) 0::.I m::uu 52 []))) ?_))
  (cd.xA (m+1) (Zi S a f l (k+1) (by omega) (gG e) m (by omega) m (k+1) [] 0 (ax _) (by simp) (by simp) (by omega) ?_));.simp only[bd,ah,az,VV,seval];repeat' constructor
 intro k' c g i j p;simp only[JE];intros;simp only[oW,bd,jo,nb,eF,kC,VV,seval];refine fv (xs':=[.sl 8 (c.map En.aoZ)]) (.inr rfl) rfl ((Wk.fz (F S) (E:=37) (sz:=8) (by':=128) (g:=g) (sh:=Z) (rows:=c.map En.aoZ) (by rw[jo];rfl)).trans ?_) rfl ⟨c,k',rfl,i,by omega,by omega,rfl⟩;rw[eF];simp only[aC,bI,ev,ek,aO,aZ,lT,kf,fz,sk,lu,aU];have:=Wk.DM (P:=θ) (xs:=[.sl 8 (c.map En.aoZ)]) (loc:=[Ob.row 37 8 128 g true (c.map En.aoZ)]) (gG (k':=k') e) (by simp only[bd,LW]);rw[bd]at this;exact this
structure QrB (q:Qr):Prop where
 ok:fb q=0
 kt:q.ao2.length<=70
 iY:aR q.ao2<=600
 prev:q.b6.length<=7
 next:q.next.length<=7
def H8{q:Qr}(h1:bA [] q.ao2=0)(a:q.ao2≠[])(c:F q.ao2<=100)(b:aR q.ao2<=900)(i:(parse q.b6).2.2=0)(d:(parse q.next).2.2=0)(g:0<=q.now/\q.now<90)(f:1<=q.threshold/\q.threshold<=102)(e:1<=q.oc/\q.oc<=12):fb q=0:=by unfold fb;rw[au (by rw[qP h1 c b];decide),au (λh=>a (aL h)),au (by omega),au (by omega),au (by omega)]
def Jp{e:En}(d:k<=20)(h:pd k e)(c:0<=n/\n<90)(b:1<=t/\t<=102)(a:1<=M/\M<=12):QrB ⟨e.ao2,e.b6,e.next,n,t,M⟩:=by have p:=xa.1 h.ok;have f:=h.kt;have g:=h.iY;exact⟨H8 h.src (oV h.ok).nonempty (by simp only;omega) (by simp only;omega) p.2.2.2.1 p.2.2.2.2.1 c b a,by simp only;omega,by simp only;omega,h.prev,h.next⟩
def P4{e:En}(g:k<=20)(h:pd k e)(l:F w<=4)(d:0<=n/\n<90)(c:1<=t/\t<=102)(b:1<=M/\M<=12):QrB ⟨ao6 (e.ao2++[⟨1,w,0⟩]),e.b6,e.next,n,t,M⟩:=by have p:=xa.1 h.ok;have i:=h.kt;have m:=h.iY;obtain⟨f,a,j,o⟩:=A4 h.src (oV h.ok).nonempty w;exact⟨H8 f a (by simp only;omega) (by simp only;omega) p.2.2.2.1 p.2.2.2.2.1 d c b,by simp only;omega,by simp only;omega,h.prev,h.next⟩
set_option maxRecDepth 20000 in
def IL(z:a<F S)(l:bG)(k:Nat)(hk:k<2^45)(f:List En)(Wq:∀e∈f,pd (F f) e)(hn:F f<=20): PC θ 19 [.ptr a 0,.sl 8 (f.map En.aoZ)] (gT S a l k) (λr J'=>∃(q:Qr) (k':Nat),r=.agg q.aoZ/\QrB q/\k'<=k+1000/\J'=gT S a l k'):=by
 refine a6 func19 c19 λbn dN=>?_;simp only[p19,SS,seval];refine cd.cut λR o=>?_;simp only[bd,VV,seval];refine o _ ?_;clear o R;refine cd.cut λR o=>?_;simp only[bd,jo,nb,eF,kC,VV,seval];refine cB (Rp S a z l k (by omega) _) rfl ?_;rintro _ _ ⟨q,i,rfl,⟨⟨e,hE,q1,W,T⟩,H,C,M⟩,si,rfl⟩;simp only[Qr.aoZ,bd,jo,nb,eF,kC,VV,seval];refine o _ (cd.gW (fr':=(.ptr a 0::.sl 8 (f.map En.aoZ)::uu 2 (.ptr (F S) 0::.ptr (F S+1) 0::uu 37 []))) ?_ (by repeat' constructor));clear o R;refine cd.P8 λR o=>?_;have D:=hE.toB 0;have G:QrB q:=by have:=Jp (by omega) D H C M;obtain⟨qs,qp,qn,qw,qt,qm⟩:=q;simp only at q1 W T this;rw[q1,W,T];exact this
 have g:∀(q:Qr) (d:Nat) (ext:ag) {m:ao},QrB q->d<=k+1000->pe m (uu 4 (.ptr (F S) 0::.ptr (F S+1) 0::uu 37 []))->R ⟨m,gT S a l d++(.box 24 [.nil,.s [],.s [],.I 0,.I 0,.I 0]::.box 24 q.aoZ::ext)⟩:=by
  intro q d ext m hq O E;refine o _ (cd.gW (ay ?_) E);simp only[Qr.aoZ,bd,jo,nb,eF,kC,V.pure,VV,seval];have J:∀loc:ag,Wk θ (F S) [.agg q.aoZ] (gT S a l d++loc) [.agg q.aoZ] (gT S a l d):=λloc=>by have:=Wk.DM (P:=θ) (xs:=[.agg q.aoZ]) (loc:=loc) (gG (k':=d) bn) (by simp only[Qr.aoZ,bd,LW]);rw[bd]at this;exact this
  exact fv (xs':=[.agg q.aoZ]) (.inr rfl) (by simp only[lg,u7,jo,VV,seval];rfl) (J _) rfl ⟨_,d,rfl,hq,O,rfl⟩
 refine cd.cut λR5 K=>?_;have skip:∀(d:Nat) {m:ao},d<=i+1->pe m (uu 1 (.sl 8 (f.map En.aoZ)::uu 2 (.ptr (F S) 0::.ptr (F S+1) 0::uu 10 (.b Z::uu 26 []))))->R5 ⟨m,gT S a l d++[.box 24 [.nil,.s [],.s [],.I 0,.I 0,.I 0],.box 24 q.aoZ]⟩:=by intro d m O E;refine K _ (cd.gW (cd.adK rfl (ay ?_)) E);simp only[VV,seval];exact g q d [] G (by omega) (by repeat' constructor)
 simp only[bd,jo,nb,eF,kC,ae,VV,seval];by_cases gn:f=[]
 .have p:decide ((0:Int)<(F f:Int))=Z:=by simp[gn]
  refine qU (Q:=λ_ _=>True) (c:=Z) (by simp only[p,VV,seval]<;>rfl) (λh=>by simp at h) rfl (λh=>by simp at h) λ_=>⟨.I 0,?_⟩;simp only[p,VV,seval];refine skip i (by omega) ?_;repeat' constructor
 have yt:=dJ.2 gn;have p:decide ((0:Int)<(F f:Int))=A:=by simp;omega
 refine qU (c:=A) (by simp only[p,VV,seval]<;>rfl) (λ_=>ff S a z l i (by omega) 4 (by decide) (by decide) _) rfl ?_ (λh=>by simp at h);rintro _ _ _ ⟨v,rfl,hv,rfl⟩;by_cases X:0<v
 .have B:decide (0<v)=A:=by simp[X]
  simp only[p,B,VV,seval];refine K _ (cd.gW (fr':=(.ptr a 0::.sl 8 (f.map En.aoZ)::uu 2 (.ptr (F S) 0::.ptr (F S+1) 0::uu 10 (.b A::uu 26 [])))) (cd.adJ rfl ?_) (by repeat' constructor));clear K skip R5;refine cd.cut λR6 t=>?_;simp only[bd,jo,nb,eF,kC,ae,VV,seval];refine cB (ff S a z l (i+1) (by omega) (F f) (by omega) (by omega) _) rfl ?_;rintro _ _ ⟨j,rfl,U,rfl⟩;simp only[bd,jo,nb,eF,kC,ae,VV,seval];obtain⟨x,L,Ng⟩:=Tv (out:=f) (n:=j.toNat) (by omega);have y:=Wq x L;simp only[Ng,En.aoZ,V.pure,VV,seval];refine⟨⟨U.1,U.2⟩,?_⟩;refine t _ (cd.gW (fr':=(.ptr a 0::uu 3 (.ptr (F S) 0::.ptr (F S+1) 0::.ptr (F S+2) 0::uu 36 []))) ?_ (by repeat' constructor));clear t R6;refine cd.cut λR7 u=>?_;simp only[Qr.aoZ,bd,jo,nb,eF,kC,V.pure,VV,seval];refine u _ (cd.gW (fr':=(.ptr a 0::uu 3 (.ptr (F S) 0::.ptr (F S+1) 0::uu 37 []))) (ay ?_) (by repeat' constructor));clear u R7;simp only[bd,jo,nb,eF,kC,V.pure,VV,seval];refine cB (ff S a z l (i+1+1) (by omega) 2 (by decide) (by decide) _) rfl ?_;rintro _ _ ⟨w,rfl,sB,rfl⟩;have b1:=y.kt;have b2:=y.iY;simp only[bd,jo,nb,eF,kC,V.pure,VV,seval];refine⟨λh=>?_,λh=>?_⟩;.refine mu (zs:=[.sl 3 (x.ao2.map It.aoZ),.sl 3 ([(⟨1,[32,114,101,100],0⟩:It)].map It.aoZ)]) (.cons (.refl _) (.cons (.lit _ _) .nil)) (jP x.ao2 [⟨1,[32,114,101,100],0⟩] (by omega) (by simp) (by omega) (by simp[aR]) _) ?_;simp only[bd,jo,nb,eF,kC,V.pure,VV,seval];refine g ⟨ao6 (x.ao2++[⟨1,[32,114,101,100],0⟩]),x.b6,x.next,q.now,q.threshold,q.oc⟩ (i+1+1+1) _ (P4 hn y (by simp) H C M) (by omega) ?_;repeat' constructor
  refine g ⟨x.ao2,x.b6,x.next,q.now,q.threshold,q.oc⟩ (i+1+1+1) _ (Jp hn y H C M) (by omega) ?_;repeat' constructor
 have B:decide (0<v)=Z:=by simpa using X
 simp only[p,B,VV,seval];refine skip (i+1) (by omega) ?_;repeat' constructor
structure CS (p:Pn):Prop where
 ok:pW p=0
 fw:0<=p.fw/\p.fw<=58
def qB:ei:=[[],[],[97,110,110]]
def oN:ei:=[[],[],[113]]
def Bl:(∀s∈qB,named s=A)/\∀s∈oN,named s=A:=by decide +kernel
def aab(e:0<=n/\n<4)(b:w∈qB)(a:L∈oN)(c:0<=t/\t<=58)(d:0<=M/\M<12):CS ⟨n,w,L,t,M⟩:=by refine⟨?_,c⟩;unfold pW;simp only;rw[au (by omega),au (by rw[Bl.1 w b,Bl.2 L a];decide)]
def Yy:Ti θ 84 5 56:=nQ (by kernel_rfl)
def wo(f:List Pn):Ob:=.row 84 5 56 a T (f.map Pn.aoZ)
def YN(a:0<=n/\n<3)(b:0<=t/\t<30):0<=n*t/\n*t<=58:=by
 have h:n=0\/n=1\/n=2:=by omega
 rcases h with rfl|rfl|rfl<;>omega
def Tt{x:V}:(∃a:Prop,some (True,x)=some (a,x)/\a)=True:=eq_true ⟨True,rfl,trivial⟩
set_option maxRecDepth 20000 in
def Zh(i:a<F S)(l:bG)(w:Nat)(Hh:w<2^46)(bn:bT (gT S a l w))(b:Nat)(hN:b<=20):∀(m:Nat) (k:Nat) (c:List Pn) (g:Nat),m<=b->F c+m<=b->(∀o∈c,CS o)->k+1000*m<=w+1000*b ->(∀(k:Nat) (c:List Pn) (g:Nat),(∀o∈c,CS o)->F c<=b->k<=w+1000*b->((fj 5 (fh (.own (F S) g) (fj 33 fo))) λZZ=>K (.exit 0) ⟨ZZ,gT S a l k++[wo g Z c]⟩)) ->fS (F S) θ MT K (m+1) ⟨(.ptr a 0::uu 4 (.own (F S) g::.I m::uu 32 [])),gT S a l k++[wo g Z c]⟩:=by
 intro m;induction m with
 |zero =>intro k c g hm vJ C hk O;refine aF λR hR=>?_;simp only[MT,VV,seval];exact⟨λh=>by simp at h,λ_=>O k c g C (by omega) (by omega) ..⟩
 |succ m ih =>
 intro k c g hm vJ C hk O;have hw:IntKind.i64.wrap (((m+1:Nat):Int) - 1)=(m:Int):=by rw[IntWalk.i64_in _ (by omega)];omega
 refine xW λR hR=>?_;simp only[MT];refine cd.cut λR1 Ns=>?_;simp only[VV,seval];refine⟨λ_=>?_,λh=>by simp at h<;>omega⟩;refine Ns _ (cd.gW (fr':=(.ptr a 0::uu 4 (.own (F S) g::.I (m+1:Nat)::uu 32 []))) ?_ (by repeat' constructor));clear Ns R1;refine cd.P8 λR2 X=>cd.js ?_;have again:∀(d:List Pn) (e f:Nat) (ext:ag) {Q:ao},(∀o∈d,CS o)->F d<=F c+1->f<=k+1000->pe Q (.ptr a 0::uu 4 (.own (F S) e::.I (m+1:Nat)::uu 32 []))->R2 ⟨Q,gT S a l f++(wo e Z d::ext)⟩:=by
  intro d e f ext Q c1 c2 c3 hc;refine X _ (cd.gW (ay ?_) hc);simp only[hw,VV,seval];have sB:Wk θ (F S) (.ptr a 0::uu 4 (.own (F S) e::.I m::uu 32 [])) (gT S a l f++(wo e Z d::ext)) (.ptr a 0::uu 4 (.own (F S) e::.I m::uu 32 [])) (gT S a l f++[wo e Z d]):=by have:=Wk.xe (P:=θ) (n:=F S) (xs:=(.ptr a 0::uu 4 (.own (F S) e::.I m::uu 32 []))) (J:=gT S a l f++[wo e Z d]) (loc:=ext) (by simp[bd]) (cL (gG bn) (by simp[wo])) (fi.1 (by rw[ai,bd];simp only[ah,az,Nat.lt_add_one,Nat.lt_add_right 1 i,bq,LW]));rwa [aS,ki]at this
  exact hR _ (u6 ((Wk.gW (by repeat' constructor)).trans sB) (ih f d e (by omega) (by omega) c1 (by omega) O))
 refine ay ?_;simp only[wo,bd,jo,nb,eF,kC,V.pure,ae,VV,seval];refine cB (ff S a i l k (by omega) 4 (by decide) (by decide) _) rfl ?_;rintro _ _ ⟨y,rfl,Sq,rfl⟩;simp only[bd,jo,nb,eF,kC,V.pure,VV,seval];refine cB (ff S a i l (k+1) (by omega) 3 (by decide) (by decide) _) rfl ?_;rintro _ _ ⟨D,rfl,XN,rfl⟩;obtain⟨W,x,p⟩:=jT (ws:=qB) (n:=D.toNat) (by simp[qB];omega);simp only[qB,aC,bI]at p;have r:(0<=D/\D<3)=True:=eq_true XN;simp only[p,r,Tt,gL,bd,jo,nb,eF,kC,V.pure,VV,seval];refine cB (ff S a i l (k+1+1) (by omega) 3 (by decide) (by decide) _) rfl ?_;rintro _ _ ⟨H,rfl,B,rfl⟩;obtain⟨T,He,q⟩:=jT (ws:=oN) (n:=H.toNat) (by simp[oN];omega);simp only[oN,aC,bI]at q;have v:(0<=H/\H<3)=True:=eq_true B;simp only[p,q,r,v,Tt,gL,bd,jo,nb,eF,kC,V.pure,VV,seval];refine cB (ff S a i l (k+1+1+1) (by omega) 3 (by decide) (by decide) _) rfl ?_;rintro _ _ ⟨t,rfl,M,rfl⟩;simp only[p,q,r,v,Tt,gL,bd,jo,nb,eF,kC,V.pure,VV,seval];refine cB (ff S a i l (k+1+1+1+1) (by omega) 30 (by decide) (by decide) _) rfl ?_;rintro _ _ ⟨u,rfl,U,rfl⟩;have E:=YN M U;have wm:IntKind.i64.wrap (t*u)=t*u:=IntWalk.i64_in _ (by omega);simp only[wm,p,q,r,v,Tt,gL,bd,jo,nb,eF,kC,V.pure,VV,seval];refine cB (ff S a i l (k+1+1+1+1+1) (by omega) 12 (by decide) (by decide) _) rfl ?_;rintro _ _ ⟨L,rfl,G,rfl⟩;simp only[wm,p,q,r,v,Tt,gL,bd,jo,nb,eF,kC,ae,V.pure,VV,seval];refine⟨⟨by omega,by simp only[maxLen];omega⟩,?_⟩;have e0:c.map Pn.aoZ++[[.I y,.s W,.s T,.I (t*u),.I L]]=(c++[(⟨y,W,T,t*u,L⟩:Pn)]).map Pn.aoZ:=by simp[Pn.aoZ]
 rw[e0];refine again (c++[⟨y,W,T,t*u,L⟩]) (g+1) (k+1+1+1+1+1+1) [] ?_ (by simp) (by omega) ?_
 .intro z j;rcases bR.1 j with j|j;.exact C z j
  rw[cj]at j;subst j;exact aab Sq x He E G
 repeat' constructor
def FE(f:a<F S)(l:bG)(k:Nat)(q:k<2^45)(b:Nat)(t:b<=20): PC θ 18 [.ptr a 0,.I b] (gT S a l k) (λr h=>∃(c:List Pn) (k':Nat),r=.sl 5 (c.map Pn.aoZ)/\(∀o∈c,CS o)/\F c<=b/\k'<=k+1000*b+1/\h=gT S a l k'):=by
 refine a6 func18 c18 λe n=>ay ?_;have d:IntKind.i64.wrap ((b:Int)+1)=((b+1:Nat):Int):=cq (by omega);simp only[p18,SS,seval];simp only[bd,d,VV,seval];refine cB (rD S a f l k (by omega) ((b+1:Nat):Int) (by omega) (by omega)) rfl ?_;rintro _ _ ⟨v,rfl,s,rfl⟩;obtain⟨m,rfl⟩:∃m:Nat,v=m:=⟨v.toNat,by omega⟩;simp only[bd,d,VV,seval];refine cd.wk (((Wk.gW (ys:=(.ptr a 0::uu 4 (.nil::.I m::uu 32 []))) (by repeat' constructor)).trans (Wk.jV (P:=θ) (J:=gT S a l (k+1)) (k:=5) Yy rfl)).trans (Wk.gW (ys:=(.ptr a 0::uu 4 (.own (F S) 0::.I m::uu 32 []))) ?_))
  (cd.xA (m+1) (Zh S a f l (k+1) (by omega) (gG e) m (by omega) m (k+1) [] 0 (ax _) (by simp) (by simp) (by omega) ?_));.simp only[bd,ah,az,VV,seval];repeat' constructor
 intro k' c g i j p;simp only[JE];intros;simp only[wo,bd,jo,nb,eF,kC,VV,seval];refine fv (xs':=[.sl 5 (c.map Pn.aoZ)]) (.inr rfl) rfl ((Wk.fz (F S) (E:=84) (sz:=5) (by':=56) (g:=g) (sh:=Z) (rows:=c.map Pn.aoZ) (by rw[jo];rfl)).trans ?_) rfl ⟨c,k',rfl,i,by omega,by omega,rfl⟩;rw[eF];simp only[aC,bI,ev,ek,aO,aZ,lT,kf,fz,sk,lu,aU];have:=Wk.DM (P:=θ) (xs:=[.sl 5 (c.map Pn.aoZ)]) (loc:=[Ob.row 84 5 56 g true (c.map Pn.aoZ)]) (gG (k':=k') e) (by simp only[bd,LW]);rw[bd]at this;exact this
end Go.Proofs.Tryz

/- A part of a proof; the claim's last text says of what. -/
import Derived.Test.YtlakkaamfadipaaGreatDoorM22
set_option linter.all false
open Option renaming some->N
open Bool renaming true->A,false->Z
open List renaming length->F

namespace Go.Bt
open Go Go.Pm
variable(q:List It)(U:ei)(s:List It)(a:Int)(H:ei)(X:TK)(b:Int)(t:It){Q:GK}{c:Int}{l J:List It}{K:List TK}{S:TK}{P:bG}{R B:ei}
def mf{α:Type}(f g:α->Int)(K:List α):dd (λk=>f k+g k) K=dd f K+dd g K:=by induction K with|nil=>rfl|cons k K ih=>simp only[dd,aC,ca]at ih |-;omega
def qo{α:Type}(f:α->Int){K L:List α}(d:K.Nodup)(e:L.Nodup)(h:∀k,f k≠0->k∈K/\k∈L):dd f K=dd f L:=by
 have a:∀M:List α,dd f M=dd f (M.filter λk=>f k != 0):=λM=>by
  induction M with
  |nil=>rfl
  |cons k M ih =>
  simp only[dd,aC,ca,dS]at ih |-;by_cases c:f k=0;.simp only[c,Ql,aI,aQ];omega
  have:(f k != 0)=A:=by simpa using c
  rw[aK this];simp only[aC,ca];omega
 rw[a K,a L];refine xN f ((vD (d.filter _) (e.filter _)).2 λk=>?_);simp only[cV,nq,fJ];exact⟨λ⟨_,b⟩=>⟨(h k b).2,b⟩,λ⟨_,b⟩=>⟨(h k b).1,b⟩⟩
def ng(k:GK):∀(a:ei) (C:List (GK×Int)) (last:aJ),(bZ k (eX C last a)).getD 0=(bZ k C).getD 0+ko k last a
 |[],C,last=>by simp only[eX,ko,qO];by_cases h:k=(last,[])<;>simp[h,eq_comm]
 |w::r,C,last=>by
  simp only[eX,ko];rw[ng k r,qO];by_cases h:k=(last,w);.simp[h];omega
  rw[au h,au (λe=>h e.symm)];omega
def AI(k:TK):∀(l:List It) (C:List (TK×Int)),(bZ k (kh C l)).getD 0=(bZ k C).getD 0+eN k l
 |[],C=>by simp[kh,eN]
 |t::r,C=>by
  simp only[kh,eN];rw[AI k r];unfold uW;by_cases h:(cG t).2=A
  .rw[aK h,aK h,qO];by_cases a:k=eI (cG t).1;.subst a;simp;omega
   rw[au a,au (by simpa using λe=>a e.symm)];omega
  rw[au h,au h];simp
def rN(k:GK):∀(a:ei) (last:aJ),0<=ko k last a|[],last=>by simp only[ko];split<;>omega|w::r,last=>by have:=rN k r w;simp only[ko];split<;>omega
def pP(l:List It):0<=eN X l:=by induction l with|nil=>exact cP _|cons x l ih=>simp only[eN];split<;>omega
def Jw(l m:List It):eN X (l++m)=eN X l+eN X m:=by induction l with|nil=>simp[eN]|cons x l ih=>simp only[bo,eN,ih];omega
def gK0:List GK:=(eX [] [] U).map (·.1)
def Yc:List TK:=(kh [] q).map (·.1)
def yB:(gK0 U).Nodup:=(jh U [] [] 0 CN.nil).2.1
def yG:(Yc q).Nodup:=(vr q [] 0 CN.nil).2.1
def pE{α:Type}[DecidableEq α]{C:List (α×Int)}{k:α}(h:(bZ k C).getD 0≠0):k∈C.map (·.1):=by
 induction C with
 |nil=>simp[bZ,eO]at h
 |cons p C ih =>
 rw[jj]at h;by_cases e:k=p.1;.subst e;simp
 rw[au e]at h;exact dw _ (ih h)
def Nv(h:ko Q [] R≠0):Q∈gK0 R:=pE (by rw[ng];simpa[bZ,eO]using h)
def G4(h:eN S l≠0):S∈Yc l:=pE (by rw[AI];simpa[bZ,eO]using h)
def LF{g:Gr}(h:g∈eX [] [] R):g.2=ko g.1 [] R:=by have b:=l5 (yB R) h;have a:=ng g.1 R [] [];rw[b]at a;simpa[bZ,eO]using a
def GZ{p:TK×Int}(h:p∈kh [] l):p.2=eN p.1 l:=by have b:=l5 (yG l) h;have a:=AI p.1 l [];rw[b]at a;simpa[bZ,eO]using a
def FA:∀(a:List Gr) (n:Int),FC n a=n+(a.map (·.2)).sum|[],n=>by simp[FC]|g::a,n=>by have:=FA a (n+g.2);simp only[FC,dK,aC,ca]at this |-;rw[this];omega
def HK{a:bG}(h:P.Perm a):P.sum=a.sum:=by have:=xN (λx:Int=>x) h;simpa[dd]using this
def Eu{K:List GK}(a:K.Nodup)(b:∀k,ko k [] U≠0->k∈K):FC 0 (cE U)=dd (λk=>ko k [] U) K:=by
 rw[FA,fm,HK ((gR U).map (·.2))];have e:(eX [] [] U).map (·.2)=(gK0 U).map λk=>ko k [] U:=by unfold gK0;rw[im];exact di λg c=>LF c
 rw[e];exact qo _ (yB U) a λk h=>⟨Nv h,b k h⟩
def A1(h:TK->Int){K:List TK}(b:K.Nodup):∀(l:List It),(∀x∈l,∀k,uW x=N k->k∈K)->dd (λk=>h k*eN k l) K=(l.map λx=>match uW x with|some k=>h k|none=>0).sum
 |[],_=>by
  have:dd (λk=>h k*eN k []) K=dd (λ_=>0) K:=eK λk _=>by simp[eN]
  rw[this,ql];rfl
 |x::l,hm=>by
  have ih:=A1 h b l λy f=>hm y (by simp[f]);simp only[aC,ca];rw[<- ih];cases c:uW x with
  |none =>simp only[eN,c];rw[fm];exact eK λk _=>by simp
  |some a =>
  have d:=hm x (by simp) a c;have e:dd (λk=>h k*eN k (x::l)) K=dd (λk=>(if a=k then h k else 0)+h k*eN k l) K:=eK λk _=>by
   simp only[eN,c,aa];split;.rw[jK,Int.mul_one]
   rw[fm,fm]
  rw[e,mf];congr 1;clear e ih hm;induction K with
  |nil=>simp at d
  |cons k K ih =>
  simp only[eu]at b;simp only[dd,aC,ca];by_cases e:a=k
  .subst e;have:dd (λk=>if a=k then h k else 0) K=dd (λ_=>0) K:=eK λk g=>by rw[au];rintro rfl;exact b.1 g
   rw[ql]at this;simp only[dd]at this;simp[this]
  have:=ih b.2 (by rcases bE.1 d with rfl|h;exact absurd rfl e;exact h);simp only[dd]at this;simp[this,e]
def hW:Int:=if lQ X then 0 else wK X
def hT:Int:=if lQ X then 1 else 0
def TL(h:(cG t).2=A):uW t=N (eI (cG t).1):=by unfold uW;rw[aK h]
def TJ(h:¬(cG t).2=A):uW t=none:=by unfold uW;rw[au h]
def Mb:∀(l:List It) (n:Int),D2 n l=n+(l.map λx=>match uW x with|some k=>hW k|none=>0).sum
 |[],n=>by simp[D2]
 |t::r,n=>by
  have ih:=Mb r;simp only[D2,aC,ca];rw[ih];by_cases h:(cG t).2=A;.rw[TL t h];have e:lQ (eI (cG t).1)=bW (cG t).1:=rfl;have a:wK (eI (cG t).1)=weight (cG t).1:=sD rfl;simp only[h,cY,hW,e,a];cases bW (cG t).1<;>simp<;>omega
  rw[TJ t h];simp only[h,eA,aI,aQ];omega
def Mh:∀(l:List It) (n:Int),D6 n l=n+(l.map λx=>match uW x with|some k=>hT k|none=>0).sum
 |[],n=>by simp[D6]
 |t::r,n=>by
  have ih:=Mh r;simp only[D6,aC,ca];rw[ih];by_cases h:(cG t).2=A;.rw[TL t h];have e:lQ (eI (cG t).1)=bW (cG t).1:=rfl;simp only[h,cY,hT,e];cases bW (cG t).1<;>simp<;>omega
  rw[TJ t h];simp only[h,eA,aI,aQ];omega
def NF{x:It}(a:x∈l)(b:uW x=N S):eN S l≠0:=by
 induction l with
 |nil=>simp at a
 |cons y l ih =>
 have:=pP S l;simp only[eN];rcases bE.1 a with rfl|h;.rw[aK b];omega
 have:=ih h;split<;>omega
def Mc(a:K.Nodup)(b:∀k,eN k l≠0->k∈K):D2 0 l=dd (λk=>hW k*eN k l) K:=by rw[Mb,fm,A1 hW a l λx d k c=>b k (NF d c)]
def Mi(a:K.Nodup)(b:∀k,eN k l≠0->k∈K):D6 0 l=dd (λk=>hT k*eN k l) K:=by rw[Mh,fm,A1 hT a l λx d k c=>b k (NF d c)]
def JQ{b:Type}(id:Int):∀(L:List (Int×b)) (a:Int×b->Option Sm) (s:Sm),(∀e∈L,e.1≠id)->jt id s (L.filterMap λe=>(a e).map λt=>(e.1,t))=s
 |[],a,s,_=>rfl
 |e::L,a,s,h=>by have c:=h e (by simp);have ih:=JQ id L a s λx d=>h x (by simp[d]);rw[ix];cases a e with|none=>exact ih|some t =>show jt id (if e.1=id then s.add t else s) _=s;rw[au c];exact ih
def CP{c:Type}:∀(L:List (Int×c)) (a:Int×c->Option Sm),(L.map (·.1)).Nodup->∀{e:Int×c},e∈L->∀s:Sm,jt e.1 s (L.filterMap λe=>(a e).map λt=>(e.1,t))=s.add ((a e).getD uB)
 |[],a,_,e,b,s=>by simp at b
 |x::L,a,hn,e,b,s=>by
  simp only[aC,eu]at hn;rw[ix];rcases bE.1 b with rfl|b;.have d:∀s,jt e.1 s (L.filterMap λe=>(a e).map λt=>(e.1,t))=s:=λs=>JQ e.1 L a s λy f h=>hn.1 (h▸br.2 ⟨y,f,rfl⟩);cases i:a e with|none=>simp only[iF,Ae,Sm.ae9];exact d s|some t =>show jt e.1 (if e.1=e.1 then s.add t else s) _=_;rw[aK rfl,d];rfl
  have g:x.1≠e.1:=λh=>hn.1 (h▸br.2 ⟨e,b,rfl⟩);have ih:=CP L a hn.2 b s;cases i:a x with|none=>exact ih|some t =>show jt e.1 (if x.1=e.1 then s.add t else s) _=_;rw[au g];exact ih
def MZ(h:0<=c):mn 0 c=0:=by unfold mn;split<;>omega
abbrev QH:=Int×(List It×Nat)
variable{L:List QH}
def Ic(L:List QH)(k:GK):df:=L.filterMap λe=>(bZ k (eX [] [] (a8 e.2.1))).map λc=>(e.1,c)
def Ie(L:List QH)(k:TK):df:=L.filterMap λe=>(bZ k (kh [] e.2.1)).map λc=>(e.1,c)
def V4(i:(L.map (·.1)).Nodup){e:QH}(f:e∈L)(k:GK)(g:0<=c)(s:Sm):jt e.1 s (kG c (Ic L k))=s.add ⟨mn (ko k [] (a8 e.2.1)) c,0,0⟩:=by
 have h:=CP L (λe=>(bZ k (eX [] [] (a8 e.2.1))).map λv=>(⟨mn v c,0,0⟩:Sm)) i f s;have d:kG c (Ic L k)=L.filterMap λe=>((bZ k (eX [] [] (a8 e.2.1))).map λv=>(⟨mn v c,0,0⟩:Sm)).map λt=>(e.1,t):=by unfold kG Ic;rw[List.map_filterMap];congr 1;funext e;cases bZ k (eX [] [] (a8 e.2.1))<;>rfl
 rw[d,h];congr 1;have a:=ng k (a8 e.2.1) [] [];cases b:bZ k (eX [] [] (a8 e.2.1))with|none=>rw[b]at a;simp[bZ,eO]at a;rw[<- a];simp[uB,MZ g]|some v=>rw[b]at a;simp[bZ,eO]at a;rw[<- a];rfl
def wG(m:Int):Sm:=if lQ X then⟨0,0,m⟩else⟨0,m*wK X,0⟩
def V2(i:(L.map (·.1)).Nodup){e:QH}(f:e∈L)(k:TK)(g:0<=c)(s:Sm):jt e.1 s (oh k c (Ie L k))=s.add (wG k (mn (eN k e.2.1) c)):=by
 have h:=CP L (λe=>(bZ k (kh [] e.2.1)).map λv=>wG k (mn v c)) i f s;have d:oh k c (Ie L k)=L.filterMap λe=>((bZ k (kh [] e.2.1)).map λv=>wG k (mn v c)).map λt=>(e.1,t):=by unfold oh Ie;rw[List.map_filterMap];congr 1;funext e;cases bZ k (kh [] e.2.1)<;>rfl
 rw[d,h];congr 1;have a:=AI k e.2.1 [];cases b:bZ k (kh [] e.2.1)with|none=>rw[b]at a;simp[bZ,eO]at a;rw[<- a];simp[uB,wG,MZ g]|some v=>rw[b]at a;simp[bZ,eO]at a;rw[<- a];rfl
def Nb{L:List QH}(c:(L.map (·.1)).Nodup){e:QH}(b:e∈L):∀(a:List Gr),(∀g∈a,0<=g.2)->∀s:Sm,jt e.1 s (a.flatMap λg=>kG g.2 (Ic L g.1))=s.add ⟨(a.map λg=>mn (ko g.1 [] (a8 e.2.1)) g.2).sum,0,0⟩|[],_,s=>by simp[jt,Sm.add]|g::a,h,s=>by rw[dR,uj,V4 c b g.1 (h g (by simp)),Nb c b a (λx d=>h x (by simp[d])),Sm.add_assoc];simp only[Sm.add,aC,ca,uz]
def Nc{L:List QH}(b:(L.map (·.1)).Nodup){e:QH}(a:e∈L):∀(D:List (TK×Int)),(∀p∈D,0<=p.2)->∀s:Sm,jt e.1 s (D.flatMap λp=>oh p.1 p.2 (Ie L p.1)) =s.add ⟨0,(D.map λp=>hW p.1*mn (eN p.1 e.2.1) p.2).sum,(D.map λp=>hT p.1*mn (eN p.1 e.2.1) p.2).sum⟩|[],_,s=>by simp[jt,Sm.add]|p::D,h,s=>by rw[dR,uj,V2 b a p.1 (h p (by simp)),Nc b a D (λx c=>h x (by simp[c])),Sm.add_assoc];simp only[Sm.add,aC,ca,wG,hW,hT];split<;>simp[Int.mul_comm]
def sv:Sm :=⟨dd (λk=>mn (ko k [] (a8 s)) (ko k [] (a8 q))) (gK0 (a8 q)),dd (λk=>hW k*mn (eN k s) (eN k q)) (Yc q),dd (λk=>hT k*mn (eN k s) (eN k q)) (Yc q)⟩
def aaJ(b:(L.map (·.1)).Nodup){e:QH}(c:e∈L)(q:List It){D:List (TK×Int)}(j:D.Perm (kh [] q)): (bZ e.1 (dU (dU [] ((cE (a8 q)).flatMap λg=>kG g.2 (Ic L g.1))) (D.flatMap λp=>oh p.1 p.2 (Ie L p.1)))).getD uB=sv q e.2.1:=by
 rw[vl,vl];have i:(bZ e.1 ([]:List pk)).getD uB=uB:=rfl;rw[i,CO e.1 _ (gR _),CO e.1 _ j];have a:∀g∈eX [] [] (a8 q),0<=g.2:=λg h=>by rw[LF h];exact rN _ _ _
 have m:∀p∈kh [] q,0<=p.2:=λp h=>by rw[GZ h];exact pP _ _
 rw[Nb b c _ a,Nc b c _ m];have l:(eX [] [] (a8 q)).map (λg=>mn (ko g.1 [] (a8 e.2.1)) g.2)=(gK0 (a8 q)).map λk=>mn (ko k [] (a8 e.2.1)) (ko k [] (a8 q)):=by unfold gK0;rw[im];exact di λg a=>by rw[LF a];rfl
 have d:∀h:TK->Int,(kh [] q).map (λp=>h p.1*mn (eN p.1 e.2.1) p.2)=(Yc q).map λk=>h k*mn (eN k e.2.1) (eN k q):=λh=>by unfold Yc;rw[im];exact di λp f=>by rw[GZ f];rfl
 rw[l,d,d];simp[sv,Sm.add,uB,dd]
def Dt:Int:=hW X*pos (eN X q - eN X s)
def qQ:Int:=hT X*mz (eN X q - eN X s)
def zo:iL q s X=Dt q s X+qQ q s X:=by unfold iL Dt qQ hW hT;split<;>simp
def RK:b=mn a b+pos (b - a):=by unfold mn pos;(repeat' split)<;>omega
def M0:a=mn a b+pos (a - b):=by unfold mn pos;(repeat' split)<;>omega
def YO:b+a=2*mn a b+mz (b - a):=by unfold mn mz;(repeat' split)<;>omega
def E6:mz (a - b)=mz (b - a):=by unfold mz;(repeat' split)<;>omega
def Ez(h:0<=c):mn c 0=0:=by unfold mn;split<;>omega
def ow:List TK:=Yc (q++s)
def kT:(ow q s).Nodup:=yG _
def yK(h:eN S l≠0):S∈ow l J:=G4 (by rw[Jw];have:=pP S l;have:=pP S J;omega)
def CK(h:eN S J≠0):S∈ow l J:=G4 (by rw[Jw];have:=pP S l;have:=pP S J;omega)
def GW(h:TK->Int)(q s:List It):dd (λk=>h k*mn (eN k s) (eN k q)) (Yc q)=dd (λk=>h k*mn (eN k s) (eN k q)) (ow q s) :=
 qo _ (yG q) (kT q s) λk b=>by have a:eN k q≠0:=λe=>b (by simp only[e];rw[Ez (pP k s),Int.mul_zero]);exact⟨G4 a,yK a⟩
def QT:D2 0 q=(sv q s).weight+dd (Dt q s) (ow q s):=by rw[Mc (kT q s) λk h=>yK h];simp only[sv];rw[GW,<- mf];refine eK λk _=>?_;simp only[Dt];rw[<- Int.mul_add,<- RK]
def QS:D2 0 s=(sv q s).weight+dd (Dt s q) (ow q s):=by rw[Mc (kT q s) λk h=>CK h];simp only[sv];rw[GW,<- mf];refine eK λk _=>?_;simp only[Dt];rw[<- Int.mul_add,<- M0]
def Q1{α:Type}(f:α->Int)(K:List α):dd (λk=>a*f k) K=a*dd f K:=by induction K with|nil=>simp[dd]|cons k K ih=>simp only[dd,aC,ca]at ih |-;rw[ih,jK]
def UI:D6 0 q+D6 0 s=2*(sv q s).tags+dd (qQ q s) (ow q s):=by rw[Mi (kT q s) λk h=>yK h,Mi (kT q s) λk h=>CK h];simp only[sv];rw[GW,<- mf,<- Q1,<- mf];refine eK λk _=>?_;simp only[qQ];have h:=YO (eN k s) (eN k q);have e:hT k*eN k q+hT k*eN k s=hT k*(eN k q+eN k s):=(jK ..).symm;rw[e,h,jK,Int.mul_left_comm]
def AG(c:lQ S=A)(l:List It):iH S l=eN S l:=by
 induction l with
 |nil=>rfl
 |cons x l ih =>
 simp only[iH,eN,ih];congr 1;have e:eI x=S<->uW x=N S:=by
  constructor
  .rintro rfl;have a:bW x=A:=c;have b:cG x=(⟨x.ao0,x.ao3,0⟩,bW x):=by unfold cG;rw[au];simp only[bW,dW,b9]at a;omega
   unfold uW;rw[b];simp only[a,aU];rfl
  intro h;have f:=AH h;have a:bW x=A:=by rw[<- f.2.1];exact c
  have b:cG x=(⟨x.ao0,x.ao3,0⟩,bW x):=by unfold cG;rw[au];simp only[bW,dW,b9]at a;omega
  unfold uW at h;rw[b]at h;simp only[a,aU,aa]at h;exact h
 by_cases h:eI x=S;.rw[aK h,aK (e.1 h)]
 rw[au h,au (λd=>h (e.2 d))]
def AY:po q s=dd (qQ q s) (ow q s):=by
 rw[Ea];have i:(J3 [] q++J5 q [] s).Nodup:=by rw[fp];refine⟨yb _ _,yc _ _ _,λx g y f=>?_⟩;rintro rfl;exact((pF _ _ _).1 g).2.2 ((od _ _ _ _).1 f).2.2.1
 have e:dd (λk=>mz (iH k q - iH k s)) (J3 [] q++J5 q [] s)=dd (qQ q s) (J3 [] q++J5 q [] s):=eK λk c=>by
  have a:lQ k=A:=by
   rcases bR.1 c with h|h;.exact((pF _ _ _).1 h).1
   exact((od _ _ _ _).1 h).1
  simp only[qQ,hT,a,aU,Int.one_mul,AG a]
 rw[e];refine qo _ i (kT q s) λk c=>?_;have a:lQ k=A:=by cases h:lQ k with|true=>rfl|false=>exact absurd (by simp[qQ,hT,h]) c
 by_cases d:eN k q=0
 .have b:eN k s≠0:=λb=>c (by simp[qQ,d,b,mz]);refine⟨List.mem_append_right _ ((od _ _ _ _).2 ⟨a,rfl,?_,?_⟩),CK b⟩;.rw[AG a];exact d
  rw[AG a];exact b
 exact⟨List.mem_append_left _ ((pF _ _ _).2 ⟨a,rfl,by rw[AG a];exact d⟩),yK d⟩
def G6:List GK:=(eX (eX [] [] U) [] H).map (·.1)
def o9:(G6 U H).Nodup:=(jh H _ [] _ (jh U [] [] 0 CN.nil)).2.1
def JO(k:GK):(bZ k (eX (eX [] [] U) [] H)).getD 0=ko k [] U+ko k [] H:=by rw[ng,ng];simp[bZ,eO]
def T6(h:ko Q [] R≠0):Q∈G6 R B:=pE (by rw[JO];have:=rN Q R [];have:=rN Q B [];omega)
def aaR(h:ko Q [] B≠0):Q∈G6 R B:=pE (by rw[JO];have:=rN Q R [];have:=rN Q B [];omega)
def ae7:(sv q s).fD=dd (λk=>mn (ko k [] (a8 s)) (ko k [] (a8 q))) (G6 (a8 q) (a8 s)) :=
 qo _ (yB _) (o9 _ _) λk b=>by have a:ko k [] (a8 q)≠0:=λe=>b (by simp only[e];rw[Ez (rN k _ _)]);exact⟨Nv a,T6 a⟩
def U2:FC 0 (cE (a8 q))=(sv q s).fD+dd (kN [] (a8 q) [] (a8 s)) (G6 (a8 q) (a8 s)):=by rw[Eu _ (o9 (a8 q) (a8 s)) λk h=>T6 h,ae7,<- mf];exact eK λk _=>RK _ _
def U1:FC 0 (cE (a8 s))=(sv q s).fD+dd (kN [] (a8 s) [] (a8 q)) (G6 (a8 q) (a8 s)):=by rw[Eu _ (o9 (a8 q) (a8 s)) λk h=>aaR h,ae7,<- mf];exact eK λk _=>M0 _ _
def TT:tF (jB q) (jB s) (sv q s)<=iM s q:=by
 have e:=uC s q;have j:=kT q s;have c:=M8 j e.symm;have b:=M8 j e;have J:dd (iL q s) (ow q s)=dd (Dt q s) (ow q s)+dd (qQ q s) (ow q s):=by rw[<- mf];exact eK λk _=>zo q s k
 have C:dd (iL s q) (ow q s)=dd (Dt s q) (ow q s)+dd (qQ q s) (ow q s):=by rw[<- mf];refine eK λk _=>?_;rw[zo s q k];simp only[qQ,E6 (eN k s)]
 have L:po s q=dd (qQ q s) (ow q s):=by
  have h:po s q=po q s:=by
   have a:=u3 s q;have v:dd (qQ s q) (ow s q)=dd (qQ q s) (ow q s):=by
    have:dd (qQ s q) (ow s q)=dd (qQ q s) (ow s q):=eK λk _=>by simp only[qQ,E6 (eN k s)]
    rw[this];refine qo _ (kT s q) j λk p=>?_;by_cases c:eN k q=0;.have b:eN k s≠0:=λb=>p (by simp[qQ,c,b,mz]);exact⟨yK b,CK b⟩
    exact⟨CK c,yK c⟩
   rw[AY,AY,v]
  rw[h,AY]
 obtain⟨w,_,E,i⟩:=IN (o9 (a8 q) (a8 s)) e.symm;obtain⟨I,_,P,l⟩:=IN (o9 (a8 q) (a8 s)) e;have i:=i [] [];have l:=l [] [];rw[aK rfl]at i l;have x:=QT q s;have O:=QS q s;have G:=UI q s;have D:=U2 q s;have B:=U1 q s;have H:=(Ml s q).1;rw[Cp];have u:∀f:GK->Int,(∀k,0<=f k)->∀K:List GK,0<=dd f K:=λf t K=>by have:=vP (f:=f) (g:=λ_=>0) (K:=K) λk _=>t k;rw[ql]at this;exact this
 have M:=u (kN [] (a8 q) [] (a8 s)) (λk=>by unfold kN pos;split<;>omega) (G6 (a8 q) (a8 s));generalize dd (iL q s) (ow q s)=x1 at *;generalize dd (iL s q) (ow q s)=x2 at *;generalize dd (Dt q s) (ow q s)=y1 at *;generalize dd (Dt s q) (ow q s)=y2 at *;generalize dd (qQ q s) (ow q s)=z at *;generalize dd (kN [] (a8 q) [] (a8 s)) (G6 (a8 q) (a8 s))=u1 at *;generalize dd (kN [] (a8 s) [] (a8 q)) (G6 (a8 q) (a8 s))=u2 at *;simp only[tF,jB];generalize (sv q s).weight=cw at *;generalize (sv q s).tags=ct at *;generalize (sv q s).fD=cp at *;generalize tv s q=d at *;generalize po s q=r at *;have n:mx (FC 0 (cE (a8 q))) (FC 0 (cE (a8 s))) - cp+1<=d.ediv 4*2+1/\0<=mx (FC 0 (cE (a8 q))) (FC 0 (cE (a8 s))) - cp+1:=by unfold mx;have:d.ediv 4=d / 4:=rfl;rw[this];split<;>omega
 rw[ey n.2];have y:(mx (FC 0 (cE (a8 q))) (FC 0 (cE (a8 s))) - cp+1) / 2<=d / 4:=by have:d.ediv 4=d / 4:=rfl;rw[this]at n;omega
 generalize (mx (FC 0 (cE (a8 q))) (FC 0 (cE (a8 s))) - cp+1) / 2=m at *;have o:mx (D2 0 q) (D2 0 s) - cw+3*(D6 0 q+D6 0 s - 2*ct)<=d+2*r:=by unfold mx;split<;>omega
 unfold mx at o |-;split<;>omega
def Vb:mx a b=mx b a:=by unfold mx;(repeat' split)<;>omega
def Gs(c:1<=a/\a<=100)(h:a<=dm s q)(i:F q<=2^20)(n:F s<=2^20):tF (jB q) (jB s) (sv q s)<=my (mx (ic q) (ic s)) a:=by
 have m:=TT q s;have g:=Jt s q;have k:=xq s q;have e:mx (ic q) (ic s)=gZ s q:=Vb _ _;rw[e];generalize tF (jB q) (jB s) (sv q s)=B at *;unfold dm at h;generalize gZ s q=T at *;generalize iM s q=d at *;unfold my;rw[au (by omega)];split;.omega
 rename_i o;have hT:1<=T:=by omega
 rw[au (by omega)]at h;rw[au (by omega:¬(1073741824:Int)<T)];have l:0<=mx (T - d) 0:=by unfold mx;split<;>omega
 rw[ey (by omega)]at h;rw[ey (vF (by omega) (by omega))];have b:a*T<=100*mx (T - d) 0:=by have:=Int.mul_le_of_le_ediv (by omega:(0:Int)<T) h;exact this
 refine(Int.le_ediv_iff_mul_le (by decide)).2 ?_;have j:1*T<=a*T:=rV c.1 (by omega);have f:mx (T - d) 0=T - d:=by unfold mx at b |-;split<;>simp_all<;>omega
 rw[f]at b;rw[Int.mul_sub,Int.mul_comm T a];omega
structure fe where
 id:Int
 key:aJ
 en:En
 cR:List It
variable{M:List fe}
def fe.aoZ(s:fe):ao:=[.i .i64 s.id,.s s.key,.sl 3 (s.en.ao2.map It.aoZ),.sl 3 (s.en.ao7.map It.aoZ),.s s.en.b6,.s s.en.next,.s s.en.cW,.s s.en.cx,.i .i64 s.en.ao9,.i .i64 s.en.ape,.sl 3 (s.cR.map It.aoZ)]
def rC{α:Type}(p:α->Bool)(l:List α):Nat:=F (l.takeWhile p)
def Mr{α:Type}(p:α->Bool)(l:List α):rC p l<=F l:=ajZ (ajV _)
def tV{α:Type}{p:α->Bool}{l:List α}(h:l.Pairwise λa b=>p b=A->p a=A):∀(k:Nat) (y:α),l[k]?=N y->(p y=A<->k<rC p l):=by
 induction l with
 |nil=>intro k y h;simp at h
 |cons a l ih =>
 replace h:=lU.1 h;intro k y c;by_cases d:p a=A
 .have e:rC p (a::l)=rC p l+1:=by simp[rC,fk,d]
  cases k with|zero=>simp only[aH,aa]at c;subst c;rw[e];simp[d]|succ k =>have:=ih h.2 k y (by simpa using c);rw[this,e];omega
 have e:rC p (a::l)=0:=by simp[rC,fk,d]
 rw[e];refine⟨λf=>?_,λh=>by omega⟩;cases k with|zero=>simp only[aH,aa]at c;subst c;exact absurd f d|succ k=>exact absurd (h.1 y (bc (by simpa using c)) f) d
def Im{d:Type}{lt:d->d->Prop}[DecidableRel lt](f:∀x,¬lt x x)(n:∀x y z,lt x y->lt y z->lt x z){l:List d}(h:l.Pairwise lt){t:d}:t∈l<->l[rC (λx=>decide (lt x t)) l]?=N t:=by
 have g:l.Pairwise λa b=>decide (lt b t)=A->decide (lt a t)=A:=h.imp λ{a b} Jc hb=>by simp only[a7]at hb |-;exact n _ _ _ Jc hb
 refine⟨λq=>?_,bc⟩;obtain⟨k,c⟩:=eC.1 q;have m:=tV g k t c;have m:¬k<rC (λx=>decide (lt x t)) l:=λh=>f t (by simpa using m.2 h);have j:=(ab.1 c).1;have e:rC (λx=>decide (lt x t)) l=k:=by
  refine bC λs=>?_;have o:l[rC (λx=>decide (lt x t)) l]?=N l[rC (λx=>decide (lt x t)) l]:=an (by omega);have p:=tV g _ _ o;have i:=xy.1 h _ k (by omega:rC (λx=>decide (lt x t)) l<F l) j (by omega);have r:l[k]=t:=by rw[an j]at c;simpa using c
  rw[r]at i;have:=p.1 (by simpa using i);omega
 rw[e];exact c
abbrev mM(M:List fe):Prop:=(M.map fe.key).Pairwise λa b=>gw a b<0
def gP(M:List fe)(k:aJ):Nat:=rC (λs=>decide (gw s.key k<0)) M
def Gw(M:List fe)(k:aJ):gP M k<=F M:=Mr _ _
def yk(h:mM M)(k:aJ)(i:Nat)(x:fe)(d:M[i]?=N x):gw x.key k<0<->i<gP M k:=by
 have c:M.Pairwise λa b=>decide (gw b.key k<0)=A->decide (gw a.key k<0)=A:=(Qp.1 h).imp λ{a b} Jc hb=>by simp only[a7]at hb |-;exact p8 Jc hb
 have:=tV c i x d;simpa[gP]using this
def Rx{α b:Type}(f:α->b)(p:b->Bool)(l:List α):rC p (l.map f)=rC (λx=>p (f x)) l:=by
 induction l with
 |nil=>rfl
 |cons a l ih =>
 simp only[rC,aC,fk]at ih |-;split;.simp[ih]
 rfl
def tY(h:mM M)(k:aJ):k∈M.map fe.key<->∃x,M[gP M k]?=N x/\x.key=k:=by have:=Im (lt:=λa b=>gw a b<0) (λx c=>by rw[lF.self]at c;omega) (λx y z=>p8) h (t:=k);rw[this,Rx,bu,al];exact Hp
def wH(l:bG)(t:Int):Nat:=rC (λx=>decide (x<t)) l
def Px(h:P.Pairwise λa b=>a<b)(t:Int)(i:Nat)(x:Int)(d:P[i]?=N x):x<t<->i<wH P t:=by
 have c:P.Pairwise λa b=>decide (b<t)=A->decide (a<t)=A:=h.imp λ{a b} Jc hb=>by simp only[a7]at hb |-;omega
 have:=tV c i x d;simpa[wH]using this
def V5(h:P.Pairwise λa b=>a<b)(t:Int):t∈P<->P[wH P t]?=N t :=Im (lt:=λa b:Int=>a<b) (λx e=>by omega) (λx y z d c=>by omega) h
def jg(id:Int)(l:df):df:=l.filter λp=>!(p.1==id)
def lf{α b:Type}[DecidableEq α](C:List (α×b))(a:α):List (α×b):=C.filter λp=>!decide (p.1=a)
def tl{α c:Type}[DecidableEq α](x a:α)(C:List (α×c)):bZ x (lf C a)=if x=a then none else bZ x C:=by
 induction C with
 |nil=>simp[lf,bZ,eO]
 |cons p C ih =>
 unfold lf at ih |-;rw[dS];by_cases e:p.1=a
 .rw[au (by simp[e]),ih,jj];by_cases h:x=a;.rw[aK h,aK h]
  rw[au h,au h,au (λb=>h (b.trans e))]
 rw[aK (by simp[e]),jj,jj,ih];by_cases h:x=p.1;.rw[aK h,aK h,au (λb=>e (h.symm.trans b))]
 rw[au h,au h]
def wY{α k:Type}[DecidableEq α]{d:Nat}{c:α->V}{ve:k->V}(g:∀a b,cA d (c a) (c b)=N (decide (a=b)))(a:α):∀(C:List (α×k)) (n:Nat),(C.map (·.1)).Nodup->∀b,bZ a C=N b ->∃i,eL d (c a) (emap c ve C) n=N (N (n+i,ve b))/\(emap c ve C).eraseIdx i=emap c ve (lf C a)
 |[],n,_,b,h=>by simp[bZ,eO]at h
 |p::C,n,hn,b,h=>by
  have l:=eu.1 hn;rw[jj]at h;by_cases e:a=p.1
  .rw[aK e]at h;cases h;refine⟨0,by simp[emap,eL,g,e],?_⟩;have:lf (p::C) a=C:=by unfold lf;rw[ly (by simp[e]),lj.2];intro q m;have:q.1≠a:=λr=>l.1 (by have:=gr (f:=(·.1)) m;rw[show q.1=p.1 from r.trans e]at this;exact this);simp[this]
   rw[this];simp[emap]
  rw[au e]at h;obtain⟨i,o,j⟩:=wY (ve:=ve) g a C (n+1) l.2 b h;refine⟨i+1,?_,?_⟩
  .have:eL d (c a) (emap c ve (p::C)) n=eL d (c a) (emap c ve C) (n+1):=by simp[emap,eL,g,e]
   rw[this,o];congr 3;omega
  have:lf (p::C) a=p::lf C a:=by unfold lf;rw[jv (by simp;exact λh=>e h.symm)]
  rw[this];simp only[emap,aC,List.eraseIdx_cons_succ]at j |-;rw[j]
section
variable {α:Type} [DecidableEq α] {E n:Nat} {T:ag} {G:List (α×(Nat×Nat))} {f:α->df}
def uv(f:α->df)(k:α)(id:Int):α->df:=λx=>if x=k then jg id (f x)else f x
def iI.cut(h:iI E n T G f){k:α}{j g:Nat}(l:bZ k G=N (n+j,g))(id:Int)(d:Nat):iI E n (T.set j (je E d (jg id (f k)))) (fZ G k (n+j,d)) (uv f k id):=by
 obtain⟨o,y,u⟩:=h.row k _ _ l;have:o=j:=by omega
 subst this;refine⟨KW h.nodup _ _,λx r d a=>?_,λx a=>?_,λx q r s p a b=>?_⟩
 .rw[gf]at a;split at a;.rename_i e;subst e;simp only[aa,aB]at a;obtain⟨rfl,rfl⟩:=a;exact⟨o,rfl,by rw[aw (ab.1 u).1];simp[uv]⟩
  rename_i e;obtain⟨i,t,v⟩:=h.row x r d a;have w:o≠i:=λc=>by subst c;exact e (h.inj x k r d g a (by rw[l,t]))
  exact⟨i,t,by rw[aN w,v];simp[uv,e]⟩
 .rw[gf]at a;split at a;.simp at a
  rename_i e;simp[uv,e,h.zU x a]
 rw[gf]at a b;split at a<;>split at b;.rename_i m c;rw[m,c]
 .rename_i m c;simp only[aa,aB]at a;rw[<- a.1]at b;exact absurd (h.inj q k _ p g b l) c
 .rename_i m c;simp only[aa,aB]at b;rw[<- b.1]at a;exact absurd (h.inj x k _ s g a l) m
 exact h.inj x q r s p a b
def RE{a:Type}{G:List (α×a)}(h:(G.map (·.1)).Nodup)(k:α):((lf G k).map (·.1)).Nodup :=h.sublist (List.filter_sublist.map _)
def iI.del(h:iI E n T G f){k:α}(d:f k=[]):iI E n T (lf G k) f :=⟨RE h.nodup k,λx r g a=>by
  rw[tl]at a;split at a;.cases a
  exact h.row x r g a,λx a=>by
  rw[tl]at a;split at a;.rename_i e;rw[e,d]
  exact h.zU x a,λx j r i c a b=>by
  rw[tl]at a b;split at a;.cases a
  split at b;.cases b
  exact h.inj x j r i c a b⟩
def kq(f:α->df)(id:Int):List (α×Int)->α->df|[]=>f|g::r=>kq (uv f g.1 id) id r
def LO(f:α->df)(id:Int)(D:List (α×Int))(g:α×Int):kq f id (D++[g])=uv (kq f id D) g.1 id:=by induction D generalizing f with|nil=>rfl|cons x D ih=>simp only[bo,kq,ih]
def OR(id:Int)(l:df):jg id (jg id l)=jg id l:=by simp[jg]
def xf(id:Int)(k:α):∀(D:List (α×Int)) (f:α->df),kq f id D k=if k∈D.map (·.1)then jg id (f k)else f k
 |[],f=>by simp[kq]
 |g::r,f=>by
  rw[kq,xf id k r];by_cases e:k=g.1;.subst e;simp only[uv,aU,aC,bE,Ho,OR,ite_self]
  by_cases a:k∈r.map (·.1);.rw[aK a,aK (by simp only[aC,bE];exact .inr a),uv,au e]
  rw[au a,au (by simp only[aC,bE];rintro(h|h);exact e h;exact a h),uv,au e]
end
variable(R:List En)(U:List It)(S:ei)(Q:aJ){v:Int}{l:List It}{X:Nat}
def C3.del{α b:Type}[DecidableEq α][DecidableEq b]{G:List (α×(Nat×Nat))}{H:List (b×(Nat×Nat))}(h:C3 G H)(k:α):C3 (lf G k) H:=λx g f y d e a c=>by
 rw[tl]at a;split at a;.cases a
 exact h _ _ _ _ _ _ a c
def Sb:Bool :=
 match S.getLast? with|none=>Z|some x=>!Op.bytesLess x Q
def BO:List En->ei->ei×Bool|[],out=>(out,A)|e::r,out=>if cJ e≠0 then([],Z)else if Sb out (ed e)=A then([],Z)else BO r (out++[ed e])
def keysOf:ei×Bool:=if 1024<F R then([],Z)else BO R []
def KA:Prop:=S.Pairwise λa b=>gw a b<0
def ED:∀(m:List En) (a:ei),(∀e∈m,cJ e=0)->KA (a++m.map ed)->BO m a=(a++m.map ed,A)
 |[],a,_,_=>by simp[BO]
 |e::r,a,h,ha=>by
  simp only[BO];rw[au (by simp[h e (by simp)]),au ?_,ED r _ (λx b=>h x (by simp[b])) (by simpa using ha)];.simp
  simp only[Sb];rcases fR a with rfl|⟨o,x,rfl⟩;.simp
  simp only[fg,kI,ju,qc,kS];simp only[KA,aC,fg,G9]at ha;have:=ha.2.2 x (by simp) (ed e) (by simp);simp[this]
def GV(l:ei):Nat:=l.countP λy=>decide (y<Q)
def find:Int :=if(keysOf R).2=Z\/GV Q (keysOf R).1=F (keysOf R).1\/(keysOf R).1.getD (GV Q (keysOf R).1) []≠Q then -1 else GV Q (keysOf R).1
structure zJ (m:List En):Prop where
 len:m.length<=1024
 ok:∀e∈m,cJ e=0
 NJ:KA (m.map ed)
def zJ.keys{m:List En}(h:zJ m):keysOf m=(m.map ed,A):=by have a:=h.len;simp only[keysOf];rw[au (by omega),ED m [] h.ok (by simpa using h.NJ)];simp
def HJ{α:Type}[DecidableEq α](a:α)(v:Int):∀C:List (α×Int),((fZ C a v).map (·.2)).sum=(C.map (·.2)).sum - (bZ a C).getD 0+v
 |[]=>by simp[fZ,bZ,eO]
 |p::C=>by
  have ih:=HJ a v C;rw[jj];by_cases h:a=p.1;.simp only[fZ,aK h,aC,ca,gM];omega
  simp only[fZ,au h,aC,ca,ih];omega
def A0{α:Type}[DecidableEq α](C:List (α×Int))(a:α)(d:Int):((bump C a d).map (·.2)).sum=(C.map (·.2)).sum+d:=by unfold bump;rw[HJ];omega
def Cb:∀(a:ei) (C:List (GK×Int)) (last:aJ),((eX C last a).map (·.2)).sum=(C.map (·.2)).sum+F a+1|[],C,last=>by simp only[eX,A0];simp|w::r,C,last=>by simp only[eX,Cb r,A0,ah];omega
def NG:∀(l:List It) (C:List (TK×Int)),((kh C l).map (·.2)).sum<=(C.map (·.2)).sum+F l
 |[],C=>by simp[kh]
 |t::r,C=>by
  have h:=NG r (if(cG t).2 then bump C (eI (cG t).1) 1 else C);simp only[kh,ah];split at h;.rename_i a;rw[A0]at h;rw[aK a];omega
  rename_i a;rw[au a];omega
def Ca:((cE S).map (·.2)).sum=(F S:Int)+1:=by rw[HK ((gR S).map (·.2)),Cb];simp
def V3(c:Int)(f:0<=c)(a:Nat):∀b:df,F b<=a->jL (kG c b)<=a*c:=by
 have d:∀b:df,jL (kG c b)<=F b*c:=by
  intro b;induction b with
  |nil=>simp[jL,kG]
  |cons p b ih =>
  have h:mn p.2 c<=c:=by unfold mn;split<;>omega
  have e:((F (p::b):Nat):Int)*c=F b*c+c:=by simp only[ah,tK,Ux];omega
  rw[e];simp only[jL,kG,aC,ca,Sm.size]at ih |-;omega
 intro b g;refine eD (d b) (rV (by omega) f)
def V1(k:TK)(c:Int)(n:0<=c)(a:Nat):∀b:df,(∀p∈b,0<=p.2)->F b<=a->jL (oh k c b)<=a*(4*c):=by
 have d:∀b:df,(∀p∈b,0<=p.2)->jL (oh k c b)<=F b*(4*c):=by
  intro b;induction b with
  |nil=>intro _;simp[jL,oh]
  |cons p b ih =>
  intro f;have ih:=ih λx l=>f x (by simp[l]);have g:=f p (by simp);have h:0<=mn p.2 c/\mn p.2 c<=c:=by unfold mn;split<;>omega
  have j:=xF ⟨k.1,k.2,0⟩;have m:mn p.2 c*weight ⟨k.1,k.2,0⟩<=mn p.2 c*4:=lO j.2 h.1;have e:((F (p::b):Nat):Int)*(4*c)=F b*(4*c)+4*c:=by simp only[ah,tK,Ux];omega
  rw[e];simp only[jL,oh,aC,ca,Sm.size]at ih |-;by_cases i:lQ k=A;.simp only[i,aU]at ih |-;omega
  simp only[i,aI,aQ]at ih |-;omega
 intro b g f;refine eD (d b g) (rV (by omega) (by omega))
def I1(a:Nat)(f:GK->df)(c:∀k,F (f k)<=a):∀b:List Gr,(∀g∈b,0<=g.2)->jL (b.flatMap λg=>kG g.2 (f g.1))<=a*(b.map (·.2)).sum|[],_=>by simp[jL]|g::b,h=>by have i:=V3 g.2 (h g (by simp)) a (f g.1) (c _);have e:=I1 a f c b λx d=>h x (by simp[d]);rw[dR,qq,aC,ca,jK];omega
def I0(a:Nat)(f:TK->df)(b:∀k,F (f k)<=a)(h0:∀k,∀p∈f k,0<=p.2):∀D:List (TK×Int),(∀p∈D,0<=p.2)->jL (D.flatMap λp=>oh p.1 p.2 (f p.1))<=a*(4*(D.map (·.2)).sum)|[],_=>by simp[jL]|p::D,h=>by have e:=V1 p.1 p.2 (h p (by simp)) a (f p.1) (h0 _) (b _);have d:=I0 a f b h0 D λx c=>h x (by simp[c]);rw[dR,qq,aC,ca,jK 4,jK];omega
def QR:∀(l:List It) (n:Int),n<=D2 n l/\D2 n l<=n+4*F l
 |[],n=>by simp[D2]
 |t::r,n=>by
  have h:=QR r (if(cG t).2&&!bW (cG t).1 then n+weight (cG t).1 else n);have b:=xF (cG t).1;simp only[D2,ah];split at h;.rename_i a;rw[aK a];omega
  rename_i a;rw[au a];omega
def QY:∀(l:List It) (n:Int),n<=D6 n l/\D6 n l<=n+F l
 |[],n=>by simp[D6]
 |t::r,n=>by
  have h:=QY r (if(cG t).2&&bW (cG t).1 then n+1 else n);simp only[D6,ah];split at h;.rename_i a;rw[aK a];omega
  rename_i a;rw[au a];omega
def HI(h:F U<2^27):(jB U).ok (2^40)/\0<=ic U/\ic U<=2^40:=by
 have d:=QR U 0;have b:=QY U 0;have e:=vN U;have c:=mN U;have a:FC 0 (cE (a8 U))=(F (a8 U):Int)+1:=by rw[FA,Ca];omega
 refine⟨⟨?_,?_,?_⟩,by omega,by omega⟩;.simp only[jB,a];omega
 .simp only[jB];omega
 simp only[jB];omega
def Jf{k:TK}(h:bZ k (kh [] l)=N v):0<=v:=by have:=(vr l [] 0 CN.nil).2.2 k v h;omega
def LD{k:GK}{a:ei}(h:bZ k (eX [] [] a)=N v):0<=v:=by have:=(jh a [] [] 0 CN.nil).2.2 k v h;omega
def xa{e:En}:cJ e=0<->bV e.ao2=0/\bV e.ao7=0/\mr e=A/\(parse e.b6).2.2=0/\(parse e.next).2.2=0/\(named e.cW&&named e.cx)=A/\¬(e.ao9<0\/1073741824<e.ao9\/e.ape<1\/3<e.ape):=by
 unfold cJ;constructor
 .intro h;split at h;.omega
  split at h;.omega
  split at h;.omega
  split at h;.omega
  split at h;.omega
  split at h;.omega
  split at h;.omega
  rename_i g d c f i a b;exact⟨by omega,by omega,by simpa using c,by omega,by omega,by simpa using a,b⟩
 rintro⟨g,d,c,f,i,a,b⟩;rw[au (by omega),au (by omega),au (by rw[c];decide),au (by omega),au (by omega),au (by rw[a];decide),au b]
structure pd (k:Nat) (e:En):Prop where
 ok:cJ e=0
 kt:e.ao2.length<=40+k
 iY:aR e.ao2<=400+4*k
 sG:e.ao7.length<=100
 px:aR e.ao7<=900
 prev:e.b6.length<=7
 next:e.next.length<=7
 cW:e.cW.length<=3
 cx:e.cx.length<=3
def xx.toB{e:En}(h:xx e)(k:Nat):pd k e :=
 ⟨h.ok,by have:=h.kt;omega,by have:=h.iY;omega,h.sG,h.px,h.prev,h.next,h.cW,h.cx⟩
def pd.mono{e:En}{m:Nat}(h:pd X e)(a:X<=m):pd m e :=
 ⟨h.ok,by have:=h.kt;omega,by have:=h.iY;omega,h.sG,h.px,h.prev,h.next,h.cW,h.cx⟩
def yR(h:bV l=0):bA [] l=0:=by
 simp only[bV]at h;split at h;.simp at h
 exact h
def pd.src{e:En}(h:pd X e):bA [] e.ao2=0:=yR (ov h.ok).1
def pd.tgt{e:En}(h:pd X e):bA [] e.ao7=0:=yR (ov h.ok).2
def pd.apa{e:En}(c:X<=20)(h:pd X e):e.apa:=by
 have:=ov h.ok;have g:=h.kt;have d:=h.iY;have j:=h.sG;have f:=h.px;have i:=h.prev;have b:=h.next;refine⟨by omega,by omega,by omega,by omega,by omega,by omega,λx a=>?_⟩;rcases bR.1 a with a|a;.have:=tO this.1 x a;omega
 have:=tO this.2 x a;omega
def IB{x:It}(h:l≠[]):cM l x≠[]:=by
 unfold cM;split;.simp
 split;.exact h
 split;.split<;>simp
 simp
def HF(g:List It):aR (U++g)=aR U+aR g:=by induction U with|nil=>simp[aR]|cons x U ih=>simp only[bo,aR,ih];omega
def A4(h:bA [] l=0)(b:l≠[])(t:aJ):bA [] (ao6 (l++[⟨1,t,0⟩]))=0/\ao6 (l++[⟨1,t,0⟩])≠[]/\F (ao6 (l++[⟨1,t,0⟩]))<=F l+1/\aR (ao6 (l++[⟨1,t,0⟩]))<=aR l+F t:=by
 have a:=BG (l++[⟨1,t,0⟩]);refine⟨(nc t h).1,?_,?_,?_⟩;.rw[gq (na h)];exact IB b
 .have:=a.2;simpa using this
 have:=a.1;rw[HF]at this;simpa[aR]using this
def N8{e x:En}(I:X<=20)(b:pd 0 e)(a:pd X x){t:aJ}(G:F t<=4): pd (X+1) ⟨ft (ao6 (x.ao2++[⟨1,t,0⟩])) x.ao7,fI (ao6 (x.ao2++[⟨1,t,0⟩])) x.ao7,e.b6,e.next,e.cW,e.cx,e.ao9,e.ape⟩:=by
 obtain⟨i,q,L,J⟩:=A4 a.src (oV a.ok).nonempty t;generalize ao6 (x.ao2++[⟨1,t,0⟩])=f at *;have hT:=a.tgt;have E:=a.kt;have K:=a.iY;have H:=a.sG;have M:=a.px;generalize x.ao7=g at *;have d:F (bU f g)<=999:=by have:=EX f g;omega
 obtain⟨k,j⟩:=xl i hT d;have l:=qT f g;have v:bA [] (ft f g)=0:=by rw[k];exact pG d l.1 i
 have w:bA [] (fI f g)=0:=by rw[j];exact pG d l.2 hT
 have m:F (ft f g)=F f:=by rw[k,ae]
 have B:F (fI f g)=F g:=by rw[j,ae]
 have C:aR (ft f g)=aR f:=by rw[k,py]
 have y:aR (fI f g)=aR g:=by rw[j,py]
 obtain⟨n,z⟩:=JA i hT d;have p:bV (ft f g)=0:=qP v (by omega) (by omega);have D:bV (fI f g)=0:=qP w (by omega) (by omega);have c:F (ft f g)≠0:=by rw[m];exact λh=>q (aL h)
 have u:mr ⟨ft f g,fI f g,e.b6,e.next,e.cW,e.cx,e.ao9,e.ape⟩=A:=by simp only[mr,n,z,tZ.2 rfl,dM,da,cU,fJ];exact c
 obtain⟨_,_,_,o,p5,r,s⟩:=xa.1 b.ok;exact⟨xa.2 ⟨p,D,u,o,p5,r,s⟩,by simp only[m];omega,by simp only[C];omega,by simp only[B];omega,by simp only[y];omega,b.prev,b.next,b.cW,b.cx⟩
def vO:F (cR U)<=F U+aR U:=by induction U with|nil=>simp[cR]|cons x U ih =>have:=xK x;simp only[cR,dR,ai,ah,aR]at ih |-;omega
def uJ:List It:=[⟨1,[83,97,118,101],0⟩]
def La:En:=⟨uJ,[⟨1,[83,105,99,104,101,114,110],0⟩],[97],[98],[],[],0,3⟩
def Se:Qr:=⟨uJ,[97],[98],0,50,5⟩
def kPn:Pn:=⟨3,[],[],0,10⟩
def adI:cJ La=0:=by decide +kernel
def Zk:fb Se=0:=by decide +kernel
def af4:qA []=0:=by decide +kernel
def BP:cR uJ=[⟨6,[83,97,118,101],0⟩]:=by rfl
def VW:(oH La [kPn] Se).aoZ=[.i .i64 0,.i .i64 100,.i .i64 2,.i .i64 10,.i .i64 92]:=by rfl
end Go.Bt

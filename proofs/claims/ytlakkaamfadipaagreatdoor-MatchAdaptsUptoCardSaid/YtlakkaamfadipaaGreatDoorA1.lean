/- A part of a proof; the claim's last text says of what. -/
import Derived.Shelf.SlLaysE0
import Derived.Shelf.RegionOpenPlain
import Derived.Deep.LoopGhost
import Derived.Deep.RegionLaw
import Derived.Lib.SliceRun
import Derived.Test.YtlakkaamfadipaaGreatDoorB20
import Derived.Test.YtlakkaamfadipaaGreatDoorB24
set_option linter.all false
set_option maxHeartbeats 4000000
set_option maxRecDepth 20000

namespace Go.Proofs
open Go.Shelf
def Tryz.Ko:Go.Shelf.Ren:=⟨λ| 45=>144|n=>n,λ| 22=>25|23=>3|3=>3|4=>4|0=>0|n=>n,λ| n=>n⟩
def Tryz.ai2:Go.Proofs.SlLaysE0.n45 prog Ko:=⟨by kernel_rfl,⟨f144.name,by decide,func144.trans (congrArg some (by kernel_rfl))⟩,underlying0,isAgg0,sizeOf0,zeroValue0,underlying3,isAgg3,sizeOf3,zeroValue3,underlying4,isAgg4,sizeOf4,zeroValue4,underlying25,isAgg25,sizeOf25,zeroValue25⟩
def Tryz.CH:Go.Shelf.Ren:=⟨λ| 6=>205|8=>126|9=>245|19=>194|20=>195|21=>263|22=>264|23=>265|24=>266|25=>267|26=>268|27=>269|28=>270|29=>271|36=>284|31=>235|32=>236|37=>285|38=>286|39=>200|41=>297|n=>n,λ| 27=>90|29=>9|3=>3|32=>173|26=>90|0=>0|44=>229|46=>231|4=>4|36=>223|35=>222|41=>109|5=>5|9=>9|53=>255|57=>259|63=>275|64=>151|n=>n,λ| n=>n⟩
def Tryz.SY:Go.Proofs.SlLaysM.n6 prog CH:=⟨by kernel_rfl,⟨f205.name,by decide,func205.trans (congrArg some (by kernel_rfl))⟩,func126.trans (congrArg some (by kernel_rfl)),⟨f245.name,by decide,func245.trans (congrArg some (by kernel_rfl))⟩,func194.trans (congrArg some (by kernel_rfl)),func195.trans (congrArg some (by kernel_rfl)),⟨f263.name,by decide,func263.trans (congrArg some (by kernel_rfl))⟩,⟨f264.name,by decide,func264.trans (congrArg some (by kernel_rfl))⟩,⟨f265.name,by decide,func265.trans (congrArg some (by kernel_rfl))⟩,⟨f266.name,by decide,func266.trans (congrArg some (by kernel_rfl))⟩,⟨f267.name,by decide,func267.trans (congrArg some (by kernel_rfl))⟩,⟨f268.name,by decide,func268.trans (congrArg some (by kernel_rfl))⟩,⟨f269.name,by decide,func269.trans (congrArg some (by kernel_rfl))⟩,⟨f270.name,by decide,func270.trans (congrArg some (by kernel_rfl))⟩,⟨f271.name,by decide,func271.trans (congrArg some (by kernel_rfl))⟩,func235.trans (congrArg some (by kernel_rfl)),func236.trans (congrArg some (by kernel_rfl)),⟨f284.name,by decide,func284.trans (congrArg some (by kernel_rfl))⟩,⟨f285.name,by decide,func285.trans (congrArg some (by kernel_rfl))⟩,⟨f286.name,by decide,func286.trans (congrArg some (by kernel_rfl))⟩,⟨f200.name,by decide,func200.trans (congrArg some (by kernel_rfl))⟩,⟨f297.name,by decide,func297.trans (congrArg some (by kernel_rfl))⟩,underlying0,isAgg0,sizeOf0,zeroValue0,underlying3,isAgg3,sizeOf3,zeroValue3,underlying4,isAgg4,sizeOf4,zeroValue4,underlying5,isAgg5,sizeOf5,zeroValue5,underlying9,isAgg9,sizeOf9,zeroValue9,underlying90,isAgg90,sizeOf90,zeroValue90,underlying90,isAgg90,sizeOf90,zeroValue90,underlying9,isAgg9,sizeOf9,zeroValue9,underlying173,isAgg173,sizeOf173,zeroValue173,underlying222,isAgg222,sizeOf222,zeroValue222,underlying223,isAgg223,sizeOf223,zeroValue223,underlying109,isAgg109,sizeOf109,zeroValue109,underlying229,isAgg229,sizeOf229,zeroValue229,underlying231,isAgg231,sizeOf231,zeroValue231,underlying255,isAgg255,sizeOf255,zeroValue255,underlying259,isAgg259,sizeOf259,zeroValue259,underlying275,isAgg275,sizeOf275,zeroValue275,underlying151,isAgg151,sizeOf151,zeroValue151⟩
end Go.Proofs
namespace Go.Proofs.Tryz
open Go Go.Pm
set_option maxRecDepth 100000
def p37:bj prog f37:=⟨_,by cbv⟩
def ZP:=(⟨_,by cbv⟩:Nf (dY prog f143))
def zu:bK:=(⟨_,by cbv⟩:Nf (dV ZP.1 0 [])).1
def Z4:bj prog f143:=⟨(λa=>(⟨_,by cbv⟩:Nf (eL ZP.1 [a])).1) zu,by kernel_rfl⟩
def q84:=(⟨_,by cbv⟩:Nf (dY prog f84))
def AJ:bK:=(⟨_,by cbv⟩:Nf (dV q84.1 0 [])).1
def DZ:bK:=(λa=>(⟨_,by cbv⟩:Nf (dV q84.1 1 [a])).1) AJ
def p84:bj prog f84:=⟨(λa b=>(⟨_,by cbv⟩:Nf (eL q84.1 [a,b])).1) AJ DZ,by kernel_rfl⟩
def ZO:=(⟨_,by cbv⟩:Nf (dY prog f146))
def nW:bK:=(⟨_,by cbv⟩:Nf (dV ZO.1 0 [])).1
def Z3:bj prog f146:=⟨(λa=>(⟨_,by cbv⟩:Nf (eL ZO.1 [a])).1) nW,by kernel_rfl⟩
def q86:=(⟨_,by cbv⟩:Nf (dY prog f86))
def AI:bK:=(⟨_,by cbv⟩:Nf (dV q86.1 0 [])).1
def AH:bK:=(⟨_,by cbv⟩:Nf (dV q86.1 1 [])).1
def DY:bK:=(⟨_,by cbv⟩:Nf (dV q86.1 2 [])).1
def p86:bj prog f86:=⟨(λa c b=>(⟨_,by cbv⟩:Nf (eL q86.1 [a,c,b])).1) AI AH DY,by kernel_rfl⟩
def ZM:=(⟨_,by cbv⟩:Nf (dY prog f148))
def zr:bK:=(⟨_,by cbv⟩:Nf (dV ZM.1 0 [])).1
def Z1:bj prog f148:=⟨(λa=>(⟨_,by cbv⟩:Nf (eL ZM.1 [a])).1) zr,by kernel_rfl⟩
def ZK:=(⟨_,by cbv⟩:Nf (dY prog f150))
def zp:bK:=(⟨_,by cbv⟩:Nf (dV ZK.1 0 [])).1
def ZY:bj prog f150:=⟨(λa=>(⟨_,by cbv⟩:Nf (eL ZK.1 [a])).1) zp,by kernel_rfl⟩
def ZL:=(⟨_,by cbv⟩:Nf (dY prog f149))
def zq:bK:=(⟨_,by cbv⟩:Nf (dV ZL.1 0 [])).1
def Z0:bj prog f149:=⟨(λa=>(⟨_,by cbv⟩:Nf (eL ZL.1 [a])).1) zq,by kernel_rfl⟩
def q89:=(⟨_,by cbv⟩:Nf (dY prog f89))
def DX:bK:=(⟨_,by cbv⟩:Nf (dV q89.1 0 [])).1
def p89:bj prog f89:=⟨(λa=>(⟨_,by cbv⟩:Nf (eL q89.1 [a])).1) DX,by kernel_rfl⟩
def p38:bj prog f38:=⟨_,by cbv⟩
def q91:=(⟨_,by cbv⟩:Nf (dY prog f91))
def DV:bK:=(⟨_,by cbv⟩:Nf (dV q91.1 0 [])).1
def p91:bj prog f91:=⟨(λa=>(⟨_,by cbv⟩:Nf (eL q91.1 [a])).1) DV,by kernel_rfl⟩
def q92:=(⟨_,by cbv⟩:Nf (dY prog f92))
def DU:bK:=(⟨_,by cbv⟩:Nf (dV q92.1 0 [])).1
def p92:bj prog f92:=⟨(λa=>(⟨_,by cbv⟩:Nf (eL q92.1 [a])).1) DU,by kernel_rfl⟩
def ZJ:=(⟨_,by cbv⟩:Nf (dY prog f152))
def zo:bK:=(⟨_,by cbv⟩:Nf (dV ZJ.1 0 [])).1
def ZX:bj prog f152:=⟨(λa=>(⟨_,by cbv⟩:Nf (eL ZJ.1 [a])).1) zo,by kernel_rfl⟩
def q90:=(⟨_,by cbv⟩:Nf (dY prog f90))
def DW:bK:=(⟨_,by cbv⟩:Nf (dV q90.1 0 [])).1
def p90:bj prog f90:=⟨(λa=>(⟨_,by cbv⟩:Nf (eL q90.1 [a])).1) DW,by kernel_rfl⟩
def q88:=(⟨_,by cbv⟩:Nf (dY prog f88))
def rN:bK:=(⟨_,by cbv⟩:Nf (dV q88.1 0 [])).1
def p88:bj prog f88:=⟨(λa=>(⟨_,by cbv⟩:Nf (eL q88.1 [a])).1) rN,by kernel_rfl⟩
def q93:=(⟨_,by cbv⟩:Nf (dY prog f93))
def DT:bK:=(⟨_,by cbv⟩:Nf (dV q93.1 0 [])).1
def p93:bj prog f93:=⟨(λa=>(⟨_,by cbv⟩:Nf (eL q93.1 [a])).1) DT,by kernel_rfl⟩
def q40:=(⟨_,by cbv⟩:Nf (dY prog f40))
def D3:bK:=(⟨_,by cbv⟩:Nf (dV q40.1 0 [])).1
def p40:bj prog f40:=⟨(λa=>(⟨_,by cbv⟩:Nf (eL q40.1 [a])).1) D3,by kernel_rfl⟩
def akB:=(⟨_,by cbv⟩:Nf (dY prog f151))
def N0:bK:=(⟨_,by cbv⟩:Nf (dV akB.1 0 [])).1
def al2:bj prog f151:=⟨(λa=>(⟨_,by cbv⟩:Nf (eL akB.1 [a])).1) N0,by kernel_rfl⟩
def q87:=(⟨_,by cbv⟩:Nf (dY prog f87))
def My:bK:=(⟨_,by cbv⟩:Nf (dV q87.1 0 [])).1
def U2:bK:=(λa=>(⟨_,by cbv⟩:Nf (dV q87.1 1 [a])).1) My
def p87:bj prog f87:=⟨(λa b=>(⟨_,by cbv⟩:Nf (eL q87.1 [a,b])).1) My U2,by kernel_rfl⟩
def q11:=(⟨_,by cbv⟩:Nf (dY prog f11))
def QR:bK:=(⟨_,by cbv⟩:Nf (dV q11.1 0 [])).1
def Vp:bK:=(λa=>(⟨_,by cbv⟩:Nf (dV q11.1 1 [a])).1) QR
def p11:bj prog f11:=⟨(λa b=>(⟨_,by cbv⟩:Nf (eL q11.1 [a,b])).1) QR Vp,by kernel_rfl⟩
def q9:=(⟨_,by cbv⟩:Nf (dY prog f9))
def ZV:bK:=(⟨_,by cbv⟩:Nf (dV q9.1 0 [])).1
def adq:bK:=(λa=>(⟨_,by cbv⟩:Nf (dV q9.1 1 [a])).1) ZV
def p9:bj prog f9:=⟨(λa b=>(⟨_,by cbv⟩:Nf (eL q9.1 [a,b])).1) ZV adq,by kernel_rfl⟩
end Go.Proofs.Tryz
namespace Go.Bt
open Go Go.Pm
def leB(x y:aG):Bool:=decide (x<=y)
def uI:∀{x y:aG},x<y<->fS x y<0
 |[],[]=>by simp[fS]
 |[],_::_=>by simp[fS]
 |_::_,[]=>by simp[fS]
 |a::x,b::y=>by
  rw[L4,uI (x:=x) (y:=y)];simp only[fS]
  by_cases c:a<b
  .simp[c]
  .by_cases d:b<a
   .have:a≠b:=by rintro rfl;exact c d
    simp[c,d,this]
   .have e:a=b:=Fh (ud.1 d) (ud.1 c);subst e;simp[c]
def pe(x y:aG):leB x y=decide (fS x y<=0):=by
 have h:(x<=y)<->¬(y<x):=Fk;have a:=gi.my x y;simp only[leB,decide_eq_decide,h,uI];omega
instance:DecidableEq It:=λ_ _=>decidable_of_iff _ vC
def fE(f:List It)(n:Int):It:=(f.find? λx=>b9 x&&x.id==n).getD gH
def vB(b:List It)(x:It)(m:Int):Bool:=x.awb==(fE b m).awb&&x.awd==(fE b m).awd
def jR(a b:List It):bH->bH->eR
 |[],_=>[]
 |n::r,left=>match left.find? (vB b (fE a n))with
  |none=>jR a b r left
  |some m=>(n,m)::jR a b r (left.erase m)
def kI(a b:List It):eR:=jR a b (awm a) (awm b)
def wM(a b:List It)(ys:bH):bH->bH->eR
 |[],_=>[]
 |n::r,to=>match ys.find? (λm=>!to.contains m&&vB b (fE a n) m)with
  |none=>wM a b ys r to
  |some m=>(n,m)::wM a b ys r (to++[m])
def IZ(a b:List It)(ys:bH)(d:ys.Nodup):∀(l c:bH),wM a b ys l c=jR a b l (ys.filter λm=>!c.contains m)
 |[],_=>rfl
 |n::r,c=>by
  simp only[wM,jR]
  have e:(ys.filter λm=>!c.contains m).find? (vB b (fE a n))=ys.find? (λm=>!c.contains m&&vB b (fE a n) m):=by
   rw[List.find?_filter];congr 1;funext m;simp
  rw[e];cases h:ys.find? (λm=>!c.contains m&&vB b (fE a n) m)with
  |none=>exact IZ a b ys d r c
  |some m =>
   simp only;rw[IZ a b ys d r (c++[m])];congr 2;rw[List.Nodup.erase_eq_filter (d.filter _),UF];refine Fj λx _=>?_
   by_cases f:x=m<;>simp[f]
def iM(f:List It):dq:=(f.filter λx=>x.awb==5).map (·.awd)
def iH(f:List It):dq:=(iM f).mergeSort leB
def mw(l:dq)(s:aG):dq:=l.takeWhile (λy=>leB y s)++s::l.dropWhile λy=>leB y s
def CI(f:List It):dq:=(iM f).foldl mw []
def yn(a b c:aG)(h1:leB a b=true)(e:leB b c=true):leB a c=true:=by
 rw[pe,aV]at h1 e |-;have g:=gi.my a b;have h:=gi.my b c;have i:=gi.my a c
 by_cases d:fS a b=0
 .rw[kh]at d;subst d;exact e
 .by_cases f:fS b c=0
  .rw[kh]at f;subst f;exact h1
  .have:=lY (x:=a) (y:=b) (z:=c) (by omega) (by omega);omega
def yo(a b:aG):(leB a b||leB b a)=true:=by
 rw[pe,pe,eD,aV,aV];have:=gi.my a b;omega
def Jy{a b:aG}(h1:leB a b=true)(c:leB b a=true):a=b:=by
 rw[pe,aV]at h1 c;have:=gi.my a b;exact kh.1 (by omega)
def sX(l:dq)(s:aG):(mw l s).Perm (s::l):=by
 have:=uf (a:=s) (l₁:=l.takeWhile λy=>leB y s) (l₂:=l.dropWhile λy=>leB y s)
 rwa [lQ]at this
def tQ:∀{l:dq} (s:aG),l.Pairwise (λa b=>leB a b=true)->(mw l s).Pairwise λa b=>leB a b=true
 |[],s,_=>by simp[mw]
 |y::l,s,h=>by
  rw[dx]at h;simp only[mw,cy,List.dropWhile_cons]
  by_cases d:leB y s=true
  .simp only[d,aT,bJ,dx];refine⟨λz c=>?_,tQ s h.2⟩;rcases bC.1 ((sX l s).mem_iff.1 c)with rfl|c
   .exact d
   .exact h.1 z c
  .simp only[d,aI,aS,bc,dx];have e:leB s y=true:=by have:=yo s y;simpa[d]using this
   refine⟨λz c=>?_,h⟩;rcases bC.1 c with rfl|c
   .exact e
   .exact yn _ _ _ e (h.1 z c)
def pD(f:List It):CI f=iH f:=by
 have c:∀(m l:dq),l.Pairwise (λa b=>leB a b=true)->(m.foldl mw l).Perm (l++m)/\(m.foldl mw l).Pairwise λa b=>leB a b=true:=by
  intro m
  induction m with
  |nil=>intro l h;simpa using h
  |cons s m ih =>
   intro l h;have:=ih (mw l s) (tQ s h);refine⟨this.1.trans ?_,this.2⟩;refine((sX l s).append_right m).trans ?_;exact uf.symm
 have d:=c (iM f) [] List.Pairwise.nil;have e:(iH f).Pairwise λa b=>leB a b=true:=wq yn yo _;refine pC (λa b _ _=>Jy) d.2 e (d.1.trans ?_);rw[bc];exact(uz _ _).symm
def fy(d:Int)(C:List (It×Int))(l:List It):List (It×Int):=l.foldl (λC x=>bump C x d) C
def oE(s t:List It):List (It×Int):=fy (-1) (fy 1 [] (tg s)) (tg t)
def ky(C:List (It×Int)):Bool:=C.all λp=>p.2==0
def nZ(d:Int)(x:It):∀(l:List It) (C:List (It×Int)),(cX x (fy d C l)).getD 0=(cX x C).getD 0+d*(l.count x:Nat)
 |[],C=>by simp[fy]
 |y::l,C=>by
  have h:=nZ d x l (bump C y d);simp only[fy,dW]at h |-;rw[h,sZ,List.count_cons]
  by_cases a:x=y
  .subst a;simp[lK];omega
  .have:¬y=x:=λe=>a e.symm;simp[a,this]
def CB.fy{d:Int}(a : -1<=d/\d<=1):∀(l:List It) {n:Nat} {C:List (It×Int)},CB n C->CB (n+l.length) (Bt.fy d C l)
 |[],_,_,h=>h
 |t::r,n,C,h=>by
  have:=CB.fy a r (h.bump t d a);exact this.mono (by simp only[ai];omega)
def kC.fy(d:Int):∀(l:List It) {C:List (It×Int)},kC C->kC (Bt.fy d C l)
 |[],_,h=>h
 |t::r,C,h=>kC.fy d r (h.yO t _)
def Bf{C:List (It×Int)}(c:kC C):ky C=true<->∀x,(cX x C).getD 0=0:=by
 simp only[ky,bY,cE];constructor
 .intro h x;cases a:cX x C with
  |none=>rfl
  |some v =>
   obtain⟨p,b,e⟩:∃p∈C,p=(x,v):=by
    clear h c
    induction C with
    |nil=>simp[cX,gM]at a
    |cons q C ih =>
     rw[ln]at a;split at a
     .rename_i e;simp only[ae]at a;exact⟨q,by simp,by rw[e,<- a]⟩
     .obtain⟨p,b,e⟩:=ih a;exact⟨p,by simp[b],e⟩
   have:=h p b;subst e;simpa using this
 .intro h p b;have:=h p.1;rw[oA c b]at this;simpa using this
def yZ(s t:List It):ky (oE s t)=true<->∀x,(tg s).count x=(tg t).count x:=by
 rw[oE,Bf (kC.fy _ _ (kC.fy _ _ (by simp[kC])))];refine forall_congr' λx=>?_;rw[nZ,nZ,yz];simp only[ue];omega
def Gf{s t:List It}(e:s.length=t.length)(h:∀x∈s,s.count x=t.count x)(x:It):s.count x=t.count x:=by
 have b:s.Perm (t.filter λx=>decide (x∈s)):=by
  rw[BV];intro y
  by_cases a:y∈s
  .rw[List.count_filter (by simpa using a),h y a]
  .rw[Db.2 a,Db.2 λc=>a (by simpa using(cZ.1 c).2)]
 have d:(t.filter λx=>decide (x∈s))=t:=by
  rw[kg,<- List.length_filter_eq_length_iff,<- b.length_eq,e]
 rw[d]at b;exact b.count_eq x
def jN(s t:List It):Bool:=(shape s).isSome&&(shape t).isSome&&(shape s==shape t)&&ky (oE s t)&&(iH s==iH t)
def ow(s t:List It):Bool:=(shape s).isSome&&(shape t).isSome&&(shape s==shape t)&&(CI s==CI t)&&decide ((tg s).length=(tg t).length)&&(tg s).all λx=>(tg s).count x==(tg t).count x
def O0(s t:List It):ow s t=jN s t:=by
 have e:(decide ((tg s).length=(tg t).length)&&(tg s).all λx=>(tg s).count x==(tg t).count x)=ky (oE s t):=by
  rw[cB,yZ];simp only[aJ,aV,bY,cE];constructor
  .rintro⟨b,a⟩;exact Gf b a
  .intro h;exact⟨(BV.2 h).length_eq,λx _=>h x⟩
 simp only[ow,jN,pD];rw[<- e]
 ac_rfl
def nK(e:En)(src:List It):List It:=rename e.awf ((kI e.awc src).map (·.1)) ((kI e.awc src).map (·.2))
def jY(e:En)(src:List It):List It×Bool:=if jN src (nK e src)then(nK e src,true)else([],false)
end Go.Bt
namespace Go.Proofs.Tryz
open Go Go.Pm Go.Bt
def vM(S:ak)(a:Nat)(d:a<S.length)(l:bH)(k:Nat)(j:k<2^45)(N:Nat)(p:N<=20):
  PC prog 17 [.ptr a 0,.I N] (gT S a l k) (λr J'=>∃(out:List En) (k':Nat),r=.sl 8 (out.map En.awa)/\(∀o∈out,pL out.length o)/\out.length<=N/\k'<=k+1000*N+1/\J'=gT S a l k'):=by
 refine aZ func17 p17.2 λc h=>au ?_;have b:IntKind.i64.wrap ((N:Int)+1)=((N+1:Nat):Int):=cm (by omega);simp only[p17,SS,seval];simp only[bf,b,VV,seval];refine cD (qD S a d l k (by omega) ((N+1:Nat):Int) (by omega) (by omega)) rfl ?_;rintro _ _ ⟨v,rfl,n,rfl⟩;obtain⟨m,rfl⟩:∃m:Nat,v=m:=⟨v.toNat,by omega⟩;simp only[bf,b,VV,seval]
 refine bZ.wk (((Wk.fg (ys:=(.ptr a 0::uu 4 (.nil::.I m::uu 52 []))) (by repeat' constructor)).trans (Wk.ij (P:=prog) (J:=gT S a l (k+1)) (k:=5) Iq rfl)).trans (Wk.fg (ys:=(.ptr a 0::uu 4 (.own S.length 0::.I m::uu 52 []))) ?_))
  (bZ.uh (m+1) (Oj S a d l (k+1) (by omega) (fB c) m (by omega) m (k+1) [] 0 (aD _) (by simp) (by simp) (by omega) ?_))
 .simp only[bf,ai,al,VV,seval]
  repeat' constructor
 intro k' out g e f i;simp only[JE];intros;simp only[qq,bf,jt,nb,eK,ki,VV,seval];refine fH (xs':=[.sl 8 (out.map En.awa)]) (.inr rfl) rfl ((Wk.fz S.length (E:=37) (sz:=8) (by':=128) (g:=g) (sh:=false) (rows:=out.map En.awa) (by rw[jt];rfl)).trans ?_) rfl ⟨out,k',rfl,e,by omega,by omega,rfl⟩;rw[eK];simp only[aH,bR,ev,fX,aA,aR,fK,iE,fz,oa,jx,aT];have:=Wk.vN (P:=prog) (xs:=[.sl 8 (out.map En.awa)]) (loc:=[Ob.row 37 8 128 g true (out.map En.awa)]) (fB (k':=k') c) (by simp only[bf,LW]);rw[bf]at this;exact this
def RR(f:List It):aB:=[.sl 3 (f.map It.awa)]
def aaD{J:ak}{K:bl}(m:cn J)(d:List (List It))(e c:Int)(f:List It)(i:f.length<2^40):∀(rest pre:List It) (n:Int),f=pre++rest ->
  (∀n:Int,((fh (.sl 1 (d.map RR)) (fj 2 (fh (.I n) (fj 4 (fh (.I e) (fh (.I c) (fj 21 fo))))))) λo=>K (.exit 2) ⟨o,J⟩)) ->
  fm J.length prog QR K (rest.length+1) ⟨(.sl 1 (d.map RR)::uu 2 (.I n::uu 4 (.I e::.I c::uu 5 (.sl 3 (f.map It.awa)::.I f.length::.I pre.length::uu 13 [])))),J⟩:=by
 intro rest
 induction rest with
 |nil =>
  intro pre n a b;have a:=cN a
  subst a;refine ar λR g=>?_;simp only[QR,VV,seval];exact⟨λh=>by simp at h,λ_=>b n ..⟩
 |cons x rest ih =>
  intro pre n a b;have p:=mT a
  have k:=dh pre x (by omega)
  have l:(List.map It.awa f).getD pre.length []=x.awa:=by rw[a];exact um
  have j:decide ((pre.length:Int)<(f.length:Int))=true:=by simp;omega
  refine ar λR g=>?_;simp only[QR,ao,l,j,k,It.awa,ag,V.pure,VV,seval];refine⟨⟨by omega,by omega⟩,?_⟩;refine g _ (ny (aD _) m ?_ ?_ (ih (pre++[x]) (IntKind.i64.wrap (n+IntKind.i64.wrap (1+x.awd.length))) (by rw[a];simp) b))
  .repeat' constructor
  .simp only[LW]
def aaC{J:ak}{K:bl}(l:cn J)(a:List (List It))(o:a.length<2^40)(c:∀f∈a,f.length<2^40):∀(rest pre:List (List It)) (n:Int),a=pre++rest ->
  (∀n:Int,((fj 3 (fh (.I n) (fj 27 fo))) λm=>K (.exit 0) ⟨m,J⟩)) ->
  fm J.length prog Vp K (rest.length+1) ⟨(.sl 1 (a.map RR)::uu 2 (.I n::uu 4 (.I a.length::.I pre.length::uu 21 []))),J⟩:=by
 intro rest
 induction rest with
 |nil =>
  intro pre n b d;have b:=cN b
  subst b;refine ar λR g=>?_;simp only[Vp,VV,seval];exact⟨λh=>by simp at h,λ_=>d n ..⟩
 |cons f rest ih =>
  intro pre n b d;have p:=mT b
  have e:=dh pre f (by omega)
  have j:gj (a.map RR) pre.length 0=some (.sl 3 (f.map It.awa)):=by rw[b,qR];rfl
  have i:decide ((pre.length:Int)<(a.length:Int))=true:=by simp;omega
  have k:=c f (by rw[b];simp);refine ar λR g=>?_;simp only[Vp,ao,j,i,e,ag,V.pure,VV,seval];refine⟨⟨by omega,by omega⟩,?_⟩;refine bZ.aK (fr':=(.sl 1 (a.map RR)::uu 2 (.I n::uu 4 (.I a.length::.I pre.length::uu 5 (.sl 3 (f.map It.awa)::.I f.length::.I (([]:List It).length:Nat)::uu 13 []))))) (by repeat' constructor) (f.length+1) (aaD l a _ _ f k f [] n rfl ?_);intro n;simp only[JE];intros;simp only[e,VV,seval];refine g _ (aK ?_ (ih (pre++[f]) n (by rw[b];simp) d))
  repeat' constructor
def aaF(a:List (List It))(d:a.length<2^40)(c:∀f∈a,f.length<2^40)(J:ak):PC prog 11 [.sl 1 (a.map RR)] J (λr J'=>∃b:Bool,r=.b b/\J'=J):=by
 refine aZ func11 p11.2 λe g=>au ?_;simp only[p11,SS,seval];simp only[ag,VV,seval];refine bZ.aK (fr':=(.sl 1 (a.map RR)::uu 2 (.I (0:Int)::uu 4 (.I a.length::.I (([]:List (List It)).length:Nat)::uu 21 [])))) (by repeat' constructor) (a.length+1) (aaC e a d c a [] 0 rfl ?_);intro n;simp only[JE];intros;simp only[VV,seval];exact aO (.inr rfl) (by simp only[RS,seval];rfl) ⟨_,rfl,rfl⟩
def TC{n:Nat}{J:ak}{K:bl}(a b:bH)(j:a.length<2^63)(o:a.length=b.length):∀(f d c i:bH),a=c++f->b=i++d->c.length=i.length ->
  (f=d->((fj 26 fo) λp=>K (.exit 0) ⟨p,J⟩))->(f≠d->((fj 4 (fh (.b false) (fj 21 fo))) λp=>K .ret ⟨p,J⟩)) ->
  fm n prog DX K (f.length+1) ⟨(.sl 1 (a.map bV)::.sl 1 (b.map bV)::uu 10 (.I a.length::.I c.length::uu 12 [])),J⟩:=by
 intro f
 induction f with
 |nil =>
  intro d c i g k l q m
  have:d=[]:=by
   subst g;subst k;simp at o;exact aW (by omega)
  subst this;have g:=cN g
  subst g;refine ar λR s=>?_;simp only[DX,VV,seval];exact⟨λh=>by simp at h,λ_=>q rfl ..⟩
 |cons x f ih =>
  intro d c i g k l q m;cases d with
  |nil=>subst g;subst k;simp at o;omega
  |cons y d =>
   subst g;subst k;have v:gj (List.map bV (i++y::d)) c.length 0=some (.I y):=by rw[l,qR];rfl
   have t:=dh c x (by simp at j;omega)
   refine ar λR s=>?_;have w:gj (List.map bV (c++x::f)) c.length 0=some (.I x):=by rw[qR];rfl
   simp only[DX,ao,w,v,VV,seval];have u:(0:Int)<=c.length/\(c.length:Int)<(List.map bV (c++x::f)).length:=by simp;omega
   have r:(0:Int)<=c.length/\(c.length:Int)<(List.map bV (i++y::d)).length:=by simp at o |-;omega
   refine⟨λ_=>⟨u,r,λh=>?_,λh=>?_⟩,λh=>by simp at h<;>omega⟩
   .have h:¬x=y:=by simpa using h
    exact m (by simp[h]) ..
   .have h:x=y:=by simpa using h
    subst h;refine s _ (aK ?_ (ih d (c++[x]) (i++[x]) (by simp) (by simp) (by simp[l]) (λe=>q (by rw[e])) (λe=>m (by simpa using e))));rw[t];repeat' constructor
def pX(a b:bH)(J:ak):bM prog 89 [.sl 1 (a.map bV),.sl 1 (b.map bV)] J (.b (a==b)):=by
 refine aZ func89 p89.2 λg d=>au ?_;have c:=mG (d 0 _ rfl).1;rw[ag]at c;simp only[p89,SS,seval];simp only[ag,VV,seval];refine⟨λh=>?_,λh=>?_⟩
 .refine aO (.inr rfl) rfl ⟨?_,rfl⟩;have:a≠b:=λe=>by subst e;simp at h
  simp[Pm.one,this]
 .have f:a.length=b.length:=by simp at h;omega
  refine bZ.aK ?_ (a.length+1) (TC a b c f a b [] [] rfl rfl rfl (λh=>?_) (λh=>?_))
  .repeat' constructor
  .simp only[JE];intros;simp only[VV,seval];exact aO (.inr rfl) rfl ⟨by simp[Pm.one,h],rfl⟩
  .simp only[JE];intros;exact aO (.inr rfl) rfl ⟨by simp[Pm.one,h],rfl⟩
set_option maxRecDepth 20000 in
def Xm(S:ak)(a:Nat)(F:a<S.length)(l:bH){K:bl}(G:Nat)(Ht:G<2^50)(bn:cn (gT S a l G))(N:Nat)(hN:N<=20):∀(m:Nat) (k:Nat) (f c:List It) (id g1 g2:Nat),m<=N->id+m<=N->c.length+m<=N ->
  (∀y∈c,y.awd.length<=5)->f.length+m<=N->bd f+18*m<=18*N->(G<=k/\k+12*m<=G+12*N) ->
  (∀(k:Nat) (f c:List It) (id g1 g2:Nat),id<=N->c.length<=N->(∀y∈c,y.awd.length<=5)->f.length<=N->bd f<=18*N->(G<=k/\k<=G+12*N) ->
   ((fj 3 (fh (.b false) (fj 5 (fh (.own S.length g1) (fh (.own (S.length+1) g2) (fj 130 fo)))))) λZZ=>K (.exit 0) ⟨ZZ,gT S a l k++[fL g1 false f,fL g2 false c]⟩)) ->
  fm S.length prog I2 K (m+1) ⟨(.ptr a 0::uu 1 (.b true::.b false::uu 5 (.own S.length g1::.own (S.length+1) g2::.I id::.I m::uu 128 []))),gT S a l k++[fL g1 false f,fL g2 false c]⟩:=by
 intro m
 induction m with
 |zero =>
  intro k f c id g1 g2 hm W iG A hf Z hk X;refine ar λR hR=>?_;simp only[I2,↓IT,VV,seval];exact⟨nofun,λ_=>X k f c id g1 g2 (by omega) (by omega) A (by omega) (by omega) (by omega) ..⟩
 |succ m ih =>
  intro k f c id g1 g2 hm W iG A hf Z hk X;have hw:IntKind.i64.wrap (((m+1:Nat):Int) - 1)=(m:Int):=by rw[IntWalk.i64_in _ (by omega)];omega
  refine sN λR hR=>?_;simp only[I2];refine bZ.cut λR1 EC=>?_;simp only[↓IT,VV,seval];refine⟨λ_=>?_,λh=>by simp at h<;>omega⟩;refine EC _ (bZ.fg (fr':=(.ptr a 0::uu 1 (.b true::.b false::uu 5 (.own S.length g1::.own (S.length+1) g2::.I id::.I (m+1:Nat)::uu 128 [])))) ?_ (by repeat' constructor));clear EC R1;refine bZ.HC λR2 XZ=>bZ.lZ ?_;refine bZ.cut λR3 Ad=>?_;simp only[fL,bf,jt,nb,eK,ki,↓IT,VV,seval];refine cD (Ov S a F l k (by omega) 3 (by decide) _) rfl ?_;rintro _ _ ⟨t,r,rfl,ht,tn,rfl⟩;simp only[bf,jt,nb,eK,ki,↓IT,VV,seval];refine Ad _ (bZ.fg (fr':=(.ptr a 0::uu 1 (.b true::.b false::uu 5 (.own S.length g1::.own (S.length+1) g2::.I id::.I (m+1:Nat)::.ptr (S.length+2) 0::uu 127 [])))) ?_ (by repeat' constructor));clear Ad R3;refine bZ.HC λR4 L=>?_
  have e:∀(x:It) (M:Ob) (ext:ak) (j C:Nat) (d:List It) (p o:Nat) {Q:aB},(fL g1 true f::M::.box 61 x.awa::(ext++[fL 0 false (awl (f++[x]))]))[j]?=some (fL o false d)->ext.length+3≠j ->
    p+m<=N->d.length+m<=N->(∀y∈d,y.awd.length<=5)->x.awd.length<=18->(k<=C/\C<=k+12) ->
    oJ Q (.ptr a 0::uu 1 (.b true::.b false::uu 5 (.own S.length g1::.own (S.length+j) o::.I p::.I (m+1:Nat)::.ptr (S.length+2) 0::uu 127 [])))->R4 ⟨Q,gT S a l C++(fL g1 false f::M::.box 61 x.awa::ext)⟩:=by
   intro x M ext j C d p o Q hj iR c1 c2 c3 c5 c6 hc
   have hb:bd (awl (f++[x]))<=bd f+x.awd.length/\(awl (f++[x])).length<=f.length+1:=by
    have h:=pd (f++[x]);rw[fM]at h;simpa[bd]using h
   refine L _ (bZ.fg ?_ hc);clear L hc;refine au ?_;simp only[fL,It.awa,bf,jt,nb,eK,ki,↓IT,VV,seval];refine V8 (zs:=[.sl 3 (f.map It.awa),.sl 3 ([x].map It.awa)]) (σ1:=gT S a l C++(fL g1 true f::M::.box 61 x.awa::ext)) ?_ (DL f [x] (by omega) (by simp) (by omega) (by simp[bd];omega) _) ?_
   .refine(Wk.fz S.length (E:=61) (sz:=3) (by':=32) (g:=g1) (sh:=false) (rows:=f.map It.awa) (by rw[jt];rfl)).trans ?_;rw[eK];simp only[aH,bR,ev,fX,aA,aR,fK,iE,fz,oa,jx,aT];exact Wk.fg (.cons (.refl _) (.cons (.lit _ _) .nil))
   simp only[bf,jt,nb,eK,ki,↓IT,VV,seval];refine XZ _ (bZ.fg (fr':=(.ptr a 0::uu 1 (.b true::.b false::uu 5 (.own (S.length+(ext.length+1+1+1)) 0::.own (S.length+j) o::.I p::.I (m+1:Nat)::uu 128 [])))) (au ?_) (by repeat' constructor));simp only[hw,↓IT,VV,seval]
   refine hR _ (rF (fr':=(.ptr a 0::uu 1 (.b true::.b false::uu 5 (.own (S.length+0) 0::.own (S.length+1) 0::.I p::.I m::uu 128 [])))) (J':=gT S a l C++[fL 0 false (awl (f++[x])),fL 0 false d])
    ((Wk.fg (ys:=(.ptr a 0::uu 1 (.b true::.b false::uu 5 (.own (S.length+(ext.length+1+1+1)) 0::.own (S.length+j) o::.I p::.I m::uu 128 [])))) (by repeat' constructor)).trans
     (MY (i:=ext.length+1+1+1) (j:=j) (g1:=0) (g2:=o) (fB bn) iR (by simp[fL]) hj ?_)) (ih C (awl (f++[x])) d p 0 0 (by omega) c1 c2 c3 (by omega) (by omega) (by omega) X))
   repeat first|exact .nil|refine .cons (.forget _) ?_|refine .cons (.own 0 (ext.length+1+1+1) 61 3 32 0 false ((awl (f++[x])).map It.awa) rfl (by simp;rfl)) ?_|refine .cons (.own 1 j 61 3 32 o false (d.map It.awa) rfl hj) ?_|refine .cons (.jF _ (by simp only[F,LW])) ?_
  refine bZ.cut λR5 RF=>?_;simp only[bf,↓IT,VV,seval];refine cD (ff S a F l r (by omega) 8 (by decide) (by decide) _) rfl ?_;rintro _ _ ⟨v,rfl,hv,rfl⟩;simp only[bf,↓IT,VV,seval];refine RF _ (bZ.fg (fr':=(.ptr a 0::uu 1 (.b true::.b false::uu 5 (.own S.length g1::.own (S.length+1) g2::.I id::.I (m+1:Nat)::.ptr (S.length+2) 0::uu 14 (.I v::uu 112 []))))) (au ?_) (by repeat' constructor));clear RF R5;have H:IntKind.i64.wrap ((id:Int)+1)=((id+1:Nat):Int):=cm (by omega);have aa:((id+1:Nat):Int)=(id:Int)+1:=by omega
  have D:(v=0\/v=1)\/v=2\/(v=3\/v=4)\/(v=5\/v=6)\/v=7:=by omega
  rcases D with D|rfl|D|D|rfl
  .rcases D with rfl|rfl
   all_goals
    simp only[bf,jt,nb,eK,ki,↓IT,VV,seval];refine cD (ff S a F l (r+1) (by omega) 3 (by decide) (by decide) _) rfl ?_;rintro _ _ ⟨u,rfl,hu,rfl⟩;obtain⟨w,J,B⟩:=lk (ws:=pn) (n:=u.toNat) (by simp[pn];omega);simp only[pn,aH,bR]at B;simp only[B,bf,jt,nb,eK,ki,↓IT,VV,seval];refine⟨by omega,?_⟩;exact e ⟨5,w,0⟩ (fL g2 false c) [] 1 (r+1+1) c id g2 rfl (by simp) (by omega) (by omega) A (by have:=(xe _ J).2;simp only;omega) (by omega) (by repeat' constructor)
  .simp only[bf,jt,nb,eK,ki,H,↓IT,VV,seval];refine cD (ff S a F l (r+1) (by omega) 2 (by decide) (by decide) _) rfl ?_;rintro _ _ ⟨u,rfl,hu,rfl⟩;obtain⟨w,J,B⟩:=lk (ws:=qP) (n:=u.toNat) (by simp[qP];omega);simp only[qP,aH,bR]at B;obtain⟨w1,w3⟩:=Cp _ J;simp only[B,bf,jt,nb,eK,ki,H,↓IT,VV,seval];refine⟨by omega,?_⟩;exact e ⟨4,w,((id+1:Nat):Int)⟩ (fL g2 false c) [] 1 (r+1+1) c (id+1) g2 rfl (by simp) (by omega) (by omega) A (by simp only;omega) (by omega) (by repeat' constructor)
  .rcases D with rfl|rfl
   all_goals
    simp only[bf,jt,nb,eK,ki,H,↓IT,VV,seval];refine cD (ff S a F l (r+1) (by omega) 3 (by decide) (by decide) _) rfl ?_;rintro _ _ ⟨u,rfl,hu,rfl⟩;obtain⟨w,J,B⟩:=lk (ws:=qo) (n:=u.toNat) (by simp[qo];omega);simp only[qo,aH,bR]at B;obtain⟨w1,w2,w3⟩:=AX _ J;simp only[B,bf,jt,nb,eK,ki,H,ag,↓IT,VV,seval];refine⟨by omega,⟨by omega,by simp only[maxLen];omega⟩,?_⟩;have e3:c.map It.awa++[[V.i .i64 2,.s w,.I ((id+1:Nat):Int)]]=(c++[(⟨2,w,((id+1:Nat):Int)⟩:It)]).map It.awa:=by simp[It.awa]
    rw[e3]
    refine e ⟨2,w,((id+1:Nat):Int)⟩ (fL (g2+1) false (c++[⟨2,w,((id+1:Nat):Int)⟩])) [] 1 (r+1+1) (c++[⟨2,w,((id+1:Nat):Int)⟩]) (id+1) (g2+1) rfl (by simp) (by omega) (by simp;omega) (λz q=>by
     rcases bP.1 q with q|q
     .exact A z q
     .rw[cv]at q;subst q;exact w3) ?_ ?_ ?_
    .simp only;omega
    .omega
    .repeat' constructor
  .rcases D with rfl|rfl
   all_goals
    rcases Nat.eq_zero_or_pos c.length with O|O
    .have O:=aW O;subst O;have P:decide ((0:Int)<=IntKind.i64.wrap (-1))=false:=rfl;simp only[bf,jt,nb,eK,ki,bR,al,P,H,↓IT,VV,seval];exact e ⟨3,[98],((id+1:Nat):Int)⟩ (fL g2 false []) [] 1 (r+1) [] (id+1) g2 rfl (by simp) (by omega) (by simp;omega) (by simp) (by simp) (by omega) (by repeat' constructor)
    .have HU:IntKind.i64.wrap ((c.length:Int) - 1)=(c.length:Int) - 1:=IntWalk.i64_in _ (by omega);have wx:IntKind.i64.wrap ((c.length:Int) - 1+1)=(c.length:Int):=by rw[IntWalk.i64_in _ (by omega)];omega
     have P:decide ((0:Int)<=(c.length:Int) - 1)=true:=by simp;omega
     simp only[bf,jt,nb,eK,ki,ag,HU,wx,P,↓IT,VV,seval];refine cD (ff S a F l (r+1) (by omega) c.length (by omega) (by omega) _) rfl ?_;rintro _ _ ⟨v,rfl,hv,rfl⟩;obtain⟨i,rfl⟩:∃i:Nat,v=i:=⟨v.toNat,by omega⟩;have hi:i<c.length:=by omega
     have hy:=dC hi;generalize Y:c[i]=y at hy;have ft:∀j,gj (List.map It.awa c) i j=y.awa[j]?:=λj=>by simp[gj,hi,Y]
     have T:(0:Int)<=(i:Int)/\(i:Int)<(c.length:Int):=by omega
     have U:IntKind.i64.wrap ((i:Int)+1)=((i+1:Nat):Int):=cm (by omega);have Po:=A y hy;have JH:=wD y.awd;simp only[bf,jt,nb,eK,ki,ag,ft,It.awa,ao,↓IT,VV,seval];refine⟨T,T,?_⟩;refine aw (oz y.awd _) rfl ?_;have t1:(List.take i (c.map It.awa)).length=i:=by rw[aP,ag];omega
     have t2:List.take (c.length - (i+1)) (List.drop (i+1) (c.map It.awa))=List.drop (i+1) (c.map It.awa):=bW (by simp);have t3:(List.drop (i+1) (c.map It.awa)).length=c.length - (i+1):=by simp
     have e4:List.take i (c.map It.awa)++List.drop (i+1) (c.map It.awa)=(c.take i++c.drop (i+1)).map It.awa:=by rw[cM,eu,eO]
     have vJ:(c.take i++c.drop (i+1)).length=c.length - 1:=by rw[aj,aP,bA];omega
     simp only[bf,jt,nb,eK,ki,ag,ft,U,t1,t2,t3,e4,It.awa,ao,↓IT,VV,seval]
     iterate 8 (try refine aC (by first|exact T|omega|exact⟨by omega,by simp only[maxLen];omega⟩|exact⟨by omega,by omega⟩|exact⟨by omega,by omega,by omega⟩) ?_)
     exact e ⟨3,cW y.awd,y.id⟩ (fL g2 false c) [fL 1 false (c.take i++c.drop (i+1))] 3 (r+1+1) (c.take i++c.drop (i+1)) id 1 rfl (by simp) (by omega) (by omega) (λz q=>by
      rcases bP.1 q with q|q
      .exact A z (cF q)
      .exact A z (cH q)) (by simp only;omega) (by omega) (by repeat' constructor)
  .simp only[bf,jt,nb,eK,ki,↓IT,VV,seval];exact e ⟨1,t,0⟩ (fL g2 false c) [] 1 (r+1) c id g2 rfl (by simp) (by omega) (by omega) A (by simp only;omega) (by omega) (by repeat' constructor)
def Xl{S:ak}{a:Nat}{l:bH}{k:Nat}{K:bl}(f c:List It)(g1 g2:Nat)(z:Int)
  (h1:((fj 9 (fh (.own S.length g1) (fj 131 fo))) λd=>K (.exit 3) ⟨d,gT S a l k++[fL g1 false f,fL g2 false c]⟩)) :
  fm S.length prog MA K 1 ⟨(uu 3 (.b false::uu 5 (.own S.length g1::.own (S.length+1) g2::uu 4 (.I z::uu 125 [])))),gT S a l k++[fL g1 false f,fL g2 false c]⟩:=by
 refine ar λR e=>?_;simp only[MA,gB,↓IT,VV,seval];exact h1 ..
set_option maxRecDepth 4000 in
def abI(S:ak)(a:Nat)(o:a<S.length)(l:bH)(k:Nat)(u:k<2^49)(N:Nat)(y:N<=20):
  PC prog 34 [.ptr a 0,.I N,.b true,.b false] (gT S a l k) (λr J'=>∃(f:List It) (k':Nat),r=.sl 3 (f.map It.awa)/\f.length<=N/\bd f<=18*N/\(k<=k'/\k'<=k+12*N+1)/\J'=gT S a l k'):=by
 refine aZ func34 c34 λn q=>?_;have j:IntKind.i64.wrap ((N:Int)+1)=((N+1:Nat):Int):=cm (by omega);simp only[p34,SS,seval];refine bZ.cut λR c=>?_;simp only[bf,VV,seval];refine c _ ?_;clear c R;refine bZ.cut λR c=>?_;simp only[bf,VV,seval];refine c _ ?_;clear c R;refine bZ.cut λR c=>?_;simp only[bf,VV,seval];refine c _ ?_;clear c R;refine bZ.cut λR c=>?_;simp only[bf,j,VV,seval];refine cD (qD S a o l k (by omega) ((N+1:Nat):Int) (by omega) (by omega)) rfl ?_;rintro _ _ ⟨v,rfl,w,rfl⟩;obtain⟨m,rfl⟩:∃m:Nat,v=m:=⟨v.toNat,by omega⟩;simp only[bf,j,VV,seval]
 refine bZ.wk (((Wk.fg (ys:=(.ptr a 0::uu 1 (.b true::.b false::uu 5 (.nil::.nil::.I (0:Nat)::.I m::uu 128 [])))) (by repeat' constructor)).trans (Wk.ij (P:=prog) (J:=gT S a l (k+1)) (k:=9) Ip rfl)).trans ((Wk.jA (P:=prog) (J:=gT S a l (k+1)) [_] (k:=10) Ip rfl).trans (Wk.fg (ys:=(.ptr a 0::uu 1 (.b true::.b false::uu 5 (.own S.length 0::.own (S.length+1) 0::.I (0:Nat)::.I m::uu 128 [])))) ?_)))
  (bZ.uh (m+1) (Xm S a o l (k+1) (by omega) (fB n) m (by omega) m (k+1) [] [] 0 0 0 (aD _) (by omega) (by simp) (by simp) (by simp) (by simp[bd]) (by omega) ?_))
 .simp only[bf,ai,al,VV,seval]
  repeat' constructor
 intro k' f d id e h z p s t c6 x;simp only[JE];intros;simp only[VV,seval];refine c _ (bZ.fg (fr':=(uu 3 (.b false::uu 5 (.own S.length e::.own (S.length+1) h::uu 130 [])))) ?_ (by repeat' constructor));clear c R;refine bZ.cut λR c=>?_;simp only[fL,bf,jt,nb,eK,ki,ag,VV,seval];have i:IntKind.i64.wrap ((d.length:Int) - 1)=(d.length:Int) - 1:=IntWalk.i64_in _ (by omega);rw[i];refine bZ.aK (fr':=(uu 3 (.b false::uu 5 (.own S.length e::.own (S.length+1) h::uu 4 (.I ((d.length:Int) - 1)::uu 125 []))))) (by repeat' constructor) 1 (Xl f d e h _ ?_);simp only[JE];intros;simp only[fL,VV,seval];refine c _ (au ?_);clear c R;simp only[fL,bf,jt,nb,eK,ki,VV,seval];refine fH (xs':=[.sl 3 (f.map It.awa)]) (.inr rfl) rfl ((Wk.fz S.length (E:=61) (sz:=3) (by':=32) (g:=e) (sh:=false) (rows:=f.map It.awa) (by rw[jt];rfl)).trans ?_) ?_ ⟨f,k',rfl,by omega,by omega,by omega,rfl⟩
 .rw[eK];simp only[aH,bR,ev,fX,aA,aR,fK,iE,fz,oa,jx,aT];have:=Wk.vN (P:=prog) (xs:=[.sl 3 (f.map It.awa)]) (loc:=[Ob.row 61 3 32 e true (f.map It.awa),Ob.row 61 3 32 h false (d.map It.awa)]) (fB (k':=k') n) (by simp only[bf,LW]);rw[bf]at this;exact this
 .rfl
set_option maxRecDepth 100000
def ZN:=(⟨_,by cbv⟩:Nf (dY prog f147))
def zt:bK:=(⟨_,by cbv⟩:Nf (dV ZN.1 0 [])).1
def Z2:bj prog f147:=⟨(λa=>(⟨_,by cbv⟩:Nf (eL ZN.1 [a])).1) zt,by kernel_rfl⟩
def l5{pre rest:bH}{x:Int}:gj (List.map bV (pre++x::rest)) pre.length 0=some (.I x):=by
 simp[gj,bV]
def Ef{J:ak}{K:bl}(a b:bH)(f:a.length<2^63)(j:a.length=b.length):∀(g c d i:bH),a=d++g->b=i++c->d.length=i.length ->
  (g=c->((fj 26 fo) λk=>K (.exit 0) ⟨k,J⟩))->(g≠c->((fj 4 (fh (.b false) (fj 21 fo))) λk=>K .ret ⟨k,J⟩)) ->
  fm J.length prog zt K (g.length+1) ⟨(.sl 1 (a.map bV)::.sl 1 (b.map bV)::uu 10 (.I a.length::.I d.length::uu 12 [])),J⟩
 |[],c,d,i,ha,hb,hp,h1,h2=>by
  have:c=[]:=by
   subst ha;subst hb;simp at j;have:c.length=0:=by omega
   exact fG.1 this
  subst this;subst ha;refine ar λR l=>?_;simp only[zt,W,seval];exact⟨λh=>by simp at h,λ_=>h1 rfl ..⟩
 |x::g,[],d,i,ha,hb,hp,h1,h2=>by
  subst ha;subst hb;simp at j;omega
 |x::g,y::c,d,i,ha,hb,hp,h1,h2=>by
  subst ha;subst hb;refine ar λR l=>?_;have m:gj (List.map bV (i++y::c)) d.length 0=some (.I y):=by rw[hp];exact l5
  simp only[zt,m,bV,W,seval];refine⟨λ_=>⟨by simp;omega,by simp;omega,λh=>?_,λh=>?_⟩,λh=>by simp at h;omega⟩
  .simp at h;exact h2 (by simp[h]) ..
  .simp at h;subst h;refine l _ (aK ?_ (Ef _ _ f j g c (d++[x]) (i++[x]) (by simp) (by simp) (by simp[hp]) (λe=>h1 (by rw[e])) (λe=>h2 (by simp[e]))));rw[cm (by simp at f;omega)];simp only[aj,ai,al]
   repeat' constructor
def r7(a b:bH)(J:ak):bM prog 147 [.sl 1 (a.map bV),.sl 1 (b.map bV)] J (.b (a==b)):=by
 refine aZ func147 Z2.2 λg f=>au ?_;have c:=mG (f 0 _ rfl).1;rw[ag]at c;simp only[Z2,SS,seval];simp only[ag,W,seval];refine⟨λh=>?_,λh=>?_⟩
 .refine aO (.inr rfl) rfl ⟨?_,rfl⟩;simp at h;simp only[Pm.one,aA,aR,V.b.injEq];exact(beq_eq_false_iff_ne.2 λe=>h (by rw[e])).symm
 .simp at h;refine bZ.aK ?_ (a.length+1) (Ef a b c (by omega) a b [] [] rfl rfl rfl (λd=>?_) (λd=>?_))
  .simp only[W,seval]
   repeat' constructor
  .simp only[W,seval];simp only[JE];intros;exact aO (.inr rfl) rfl ⟨by simp[Pm.one,d],rfl⟩
  .simp only[W,seval];simp only[JE];intros;exact aO (.inr rfl) rfl ⟨by simp[Pm.one,d],rfl⟩

set_option maxHeartbeats 1000000
def Ot{J:ak}{K:bl}(n:Int)(f:List It)(i:cn J)(d:f.length<2^40):∀(rest pre:List It),f=pre++rest ->
  (rest.find? (λx=>b9 x&&x.id==n)=none->((fj 4 (fh (.ptr J.length 0) (fj 19 fo))) λe=>K (.exit 0) ⟨e,J++[.box 61 gH.awa]⟩)) ->
  (∀x,rest.find? (λx=>b9 x&&x.id==n)=some x->((fj 4 (fh (.ptr J.length 0) (fj 19 fo))) λe=>K .ret ⟨e,J++[.box 61 x.awa,.box 61 x.awa]⟩)) ->
  fm J.length prog zu K (rest.length+1) ⟨(uu 1 (.I n::uu 2 (.ptr J.length 0::uu 2 (.sl 3 (f.map It.awa)::.I f.length::.I pre.length::uu 14 [])))),J++[.box 61 gH.awa]⟩:=by
 intro rest
 induction rest with
 |nil =>
  intro pre b c a;have b:=cN b
  subst b;refine ar λR g=>?_;simp only[zu,VV,seval];exact⟨λh=>by simp at h,λ_=>c rfl ..⟩
 |cons y rest ih =>
  intro pre b c a;subst b;refine ar λR g=>?_;simp only[zu,gH,It.awa,VV,seval];refine⟨λ_=>⟨by simp;omega,?_⟩,λh=>by simp at h;omega⟩;refine aw (rW y _) rfl ?_;simp only[It.awa,VV,seval];rw[ng]at c a;refine⟨λh=>?_,λh=>?_⟩
  .simp only[h]at a;exact a y rfl ..
  .simp only[h]at c a;refine g _ (cG [_] [_] (cC i (by simp[gH,It.awa,LW])) ?_ ?_ (ih (pre++[y]) (by simp) c a))
   .rw[cm (by simp at d;omega)];simp only[aj,ai,al]
    repeat' constructor
   .simp only[LW,ai,al,aY];omega
def yB(f:List It)(n:Int)(a:f.length<2^40)(J:ak):bM prog 143 [.sl 3 (f.map It.awa),.I n] J (.agg (fE f n).awa):=by
 refine aZ func143 Z4.2 λb c=>au ?_;simp only[Z4,SS,seval];simp only[ag,VV,seval];refine bZ.aK (fr':=(uu 1 (.I n::uu 2 (.ptr J.length 0::uu 2 (.sl 3 (f.map It.awa)::.I f.length::.I (([]:List It).length:Nat)::uu 14 []))))) (by repeat' constructor) (f.length+1) (Ot n f b a f [] rfl ?_ ?_)
 .intro h;simp only[JE];intros;simp only[gH,It.awa,VV,seval];exact bg b (.inr rfl) (by simp only[RS,seval];rfl) (by simp only[LW]) ⟨by simp[Pm.one,fE,h,gH,It.awa],rfl⟩
 .intro x h;simp only[JE];intros;simp only[It.awa,VV,seval];exact bg b (.inr rfl) (by simp only[RS,seval];rfl) (by simp only[LW]) ⟨by simp[Pm.one,fE,h,It.awa],rfl⟩
def Oo{J:ak}{K:bl}(f:List It)(k:cn J)(a:f.length<2^40):∀(rest pre out:List It) (g:Nat),f=pre++rest->out.length<=pre.length ->
  (∀g,((fj 3 (fh (.own J.length g) (fj 16 fo))) λl=>K (.exit 0) ⟨l,J++[.row 61 3 32 g false ((out++tg rest).map It.awa)]⟩)) ->
  fm J.length prog zr K (rest.length+1) ⟨(uu 3 (.own J.length g::uu 2 (.sl 3 (f.map It.awa)::.I f.length::.I pre.length::uu 11 []))),J++[.row 61 3 32 g false (out.map It.awa)]⟩:=by
 intro rest
 induction rest with
 |nil =>
  intro pre out g c m b;have c:=cN c
  subst c;rw[show tg []=[]from rfl,bL]at b;refine ar λR j=>?_;simp only[zr,VV,seval];exact⟨λh=>by simp at h,λ_=>b g ..⟩
 |cons y rest ih =>
  intro pre out g c m b;subst c;have i:(out.length+1)*32<=2^47/\out.length+1<=maxLen:=by simp at a;simp[maxLen];omega
  refine ar λR j=>?_;simp only[zr,It.awa,VV,seval];refine⟨λ_=>⟨by simp;omega,?_⟩,λh=>by simp at h;omega⟩;refine aw (rW y _) rfl ?_;simp only[It.awa,VV,seval];refine⟨λd=>⟨by rw[ag];exact i,?_⟩,λd=>?_⟩
  .have e:out++tg (y::rest)=(out++[y])++tg rest:=by simp[tg,d]
   have n:out.map It.awa++[[.I y.awb,.s y.awd,.I y.id]]=(out++[y]).map It.awa:=by simp[It.awa]
   rw[e]at b;rw[n];refine j _ (cG [_] [_] (cC k (by simp)) ?_ ?_ (ih (pre++[y]) (out++[y]) (g+1) (by simp) (by simp;omega) b))
   .rw[cm (by simp at a;omega)];simp only[aj,ai,al]
    repeat' constructor
   .simp only[LW,ai,al,aY];omega
  .have e:out++tg (y::rest)=out++tg rest:=by simp[tg,d]
   rw[e]at b;refine j _ (cG [_] [_] (cC k (by simp)) ?_ ?_ (ih (pre++[y]) out g (by simp) (by simp;omega) b))
   .rw[cm (by simp at a;omega)];simp only[aj,ai,al]
    repeat' constructor
   .simp only[LW,ai,al,aY];omega
def Dq(f:List It)(a:f.length<2^40)(J:ak):bM prog 148 [.sl 3 (f.map It.awa)] J (.sl 3 ((tg f).map It.awa)):=by
 refine aZ func148 Z1.2 λb c=>au ?_;simp only[Z1,SS,seval];simp only[ag,VV,seval];refine bZ.wk ((Wk.ij (k:=3) yX rfl).trans (Wk.fg ?_)) (bZ.uh (f.length+1) (Oo f b a f [] [] 0 rfl (aD _) ?_))
 .simp only[VV,seval]
  repeat' constructor
 .intro g;simp only[JE];intros;simp only[bc,VV,seval];refine mW 0 b (.inr rfl) rfl rfl ?_ ?_
  .simp[fz,oa,LW]
  .exact⟨by simp[fz,oa,Pm.one],rfl⟩

set_option maxHeartbeats 2000000
def jL(g:Nat)(l:bH):Ob:=.row 3 1 8 g false (l.map bV)
def Hi(f:List It):V:=match Bt.shape f with
 |some p=>.iQ [.sl 1 (p.1.map bV),.sl 1 (p.2.map bV),.b true]
 |none=>.iQ [.sl 1 [],.sl 1 [],.b false]
def nF(l:bH)(x:Int):l.map bV++[[V.i .i64 x]]=(l++[x]).map bV:=by simp[bV]
def Oq{J:ak}{K:bl}(f:List It)(Z:cn J)(j:f.length<2^40):∀(rest pre:List It) (c o:bH) (g1 g2:Nat),f=pre++rest->c.length<=pre.length->o.length<=pre.length ->
  (eG rest (c,o)=none->∀loc,((fj 2 (fh (.nil) (fh (.nil) (fh (.b false) (fj 58 fo))))) λO=>K .ret ⟨O,J++loc⟩)) ->
  (∀p,eG rest (c,o)=some p->∀g1 g2,((fj 2 (fh (.own J.length g1) (fh (.own (J.length+1) g2) (fj 59 fo)))) λO=>K (.exit 0) ⟨O,J++[jL g1 p.1,jL g2 p.2]⟩)) ->
  fm J.length prog nW K (rest.length+1) ⟨(uu 2 (.own J.length g1::.own (J.length+1) g2::uu 3 (.sl 3 (f.map It.awa)::.I f.length::.I pre.length::uu 53 []))),J++[jL g1 c,jL g2 o]⟩:=by
 intro rest
 induction rest with
 |nil =>
  intro pre c o g1 g2 w x Y A u;have w:=cN w
  subst w;refine ar λR s=>?_;simp only[nW,VV,seval];exact⟨λh=>by simp at h,λ_=>u _ rfl g1 g2 ..⟩
 |cons y rest ih =>
  intro pre c o g1 g2 w x Y A u;subst w
  have r:=dh pre y (by simp at j;omega)
  have iU:∀(g1 g2:Nat) (c o:bH),cn (J++[jL g1 c,jL g2 o]):=λ_ _ _ _=>cC Z (by simp[jL]);have E:(c.length+1)*8<=2^47/\c.length+1<=maxLen:=by simp at j;simp[maxLen];omega
  have Q:(o.length+1)*8<=2^47/\o.length+1<=maxLen:=by simp at j;simp[maxLen];omega
  obtain⟨k,t,i⟩:=y;simp only[eG,jQ]at A u
  have d:∀(z a:bH) (m q:Nat) {loc:ak} {R:ca} {N:aB},eG (⟨k,t,i⟩::rest) (c,o)=eG rest (z,a)->z.length<=c.length+1->a.length<=o.length+1->(∀B,fm J.length prog nW K (rest.length+1) B->R B) ->
    oJ N (uu 2 (.own J.length m::.own (J.length+1) q::uu 3 (.sl 3 ((pre++⟨k,t,i⟩::rest).map It.awa)::.I (pre++(⟨k,t,i⟩:It)::rest).length::.I (pre++[(⟨k,t,i⟩:It)]).length::uu 53 [])))->R ⟨N,J++([jL m z,jL q a]++loc)⟩:=by
   intro z a m q loc R N e l1 l2 s x;simp only[eG,jQ]at e;rw[e]at A u;refine s _ (cG [_,_] loc (iU _ _ _ _) x ?_ (ih (pre++[⟨k,t,i⟩]) z a m q (by simp) (by simp;omega) (by simp;omega) A u));simp only[LW,ai,al,aY];omega
  refine ar λR s=>?_
  by_cases H:k=2
  .subst H;simp only[nW,It.awa,jL,r,↓IT,VV,seval];refine⟨λ_=>⟨by simp;omega,⟨by rw[ag];exact Q,?_⟩⟩,λh=>by simp at h<;>omega⟩;rw[nF];exact d c (o++[i]) g1 (g2+1) (by simp[eG,jQ]) (by omega) (by simp) s (by repeat' constructor)
  by_cases D:k=3
  .subst D;rcases dn o with C|⟨a,l,C⟩
   .subst C;simp only[nW,It.awa,jL,r,↓IT,VV,seval];refine⟨λ_=>⟨by simp;omega,?_⟩,λh=>by simp at h<;>omega⟩;refine⟨by rw[ag];exact E,?_⟩;rw[nF];exact d (c++[i]) [] (g1+1) g2 (by simp[eG,jQ]) (by simp) (by simp) s (by repeat' constructor)
   .rw[da]at C;subst C;have M:(a++[l]).length=a.length+1:=by simp
    have T:IntKind.i64.wrap (((a.length+1:Nat):Int) - 1)=(a.length:Int):=by rw[IntWalk.i64_in _ (by simp at j Y;omega)];omega
    have U:gj ((a++[l]).map bV) a.length 0=some (.I l):=l5;have W:(((a.length+1:Nat):Int)==0)=false:=by simp;omega
    have JI:List.take a.length ((a++[l]).map bV)=a.map bV:=by simp
    have V:(0:Int)<=(a.length:Int)/\(a.length:Int)<((a.length+1:Nat):Int):=⟨by omega,by omega⟩
    by_cases G:l=i
    .subst G;simp only[nW,It.awa,jL,r,ag,M,T,U,W,ao,↓IT,VV,seval];refine⟨λ_=>⟨by simp;omega,V,_,rfl,?_⟩,λh=>by simp at h<;>omega⟩;simp only[kO,ag,M,T,r,ao,↓IT,VV,seval];refine⟨⟨by omega,by omega⟩,?_⟩
     have F:∀{b:Ob} {S:aB},oJ S (uu 2 (.own J.length g1::.sub (J.length+1) g2 0 a.length::uu 3 (.sl 3 ((pre++⟨3,t,l⟩::rest).map It.awa)::.I (pre++(⟨3,t,l⟩:It)::rest).length::.I (pre++[(⟨3,t,l⟩:It)]).length::uu 53 []))) ->
       Wk prog J.length S (J++[jL g1 c,jL g2 (a++[l]),b]) (uu 2 (.own J.length g1::.own (J.length+1) (g2+1)::uu 3 (.sl 3 ((pre++⟨3,t,l⟩::rest).map It.awa)::.I (pre++(⟨3,t,l⟩:It)::rest).length::.I (pre++[(⟨3,t,l⟩:It)]).length::uu 53 []))) (J++([jL g1 c,jL (g2+1) a]++[b])):=by
      intro b S x;have h:=Wk.PE (P:=prog) (n:=J.length) (xs:=(uu 2 (.own J.length g1::.sub (J.length+1) g2 0 a.length::uu 3 (.sl 3 ((pre++⟨3,t,l⟩::rest).map It.awa)::.I (pre++(⟨3,t,l⟩:It)::rest).length::.I (pre++[(⟨3,t,l⟩:It)]).length::uu 53 [])))) (J:=J++[jL g1 c,jL g2 (a++[l]),b]) (id:=J.length+1) (g:=g2) (hi:=a.length) (rows:=(a++[l]).map bV) (by simp only[qv];rfl) 3 rfl;rw[JI,ub]at h;exact(Wk.fg x).trans h
     refine s _ (rF (F ?_) (d c a g1 (g2+1) ?_ ?_ ?_ (λ_ h=>h) ?_))
     .repeat' constructor
     .simp[eG,jQ]
     .omega
     .simp;omega
     .repeat' constructor
    .have X:(l==i)=false:=by simpa using G
     simp only[nW,It.awa,jL,r,ag,M,T,U,W,X,ao,↓IT,VV,seval];refine⟨λ_=>⟨by simp;omega,V,_,rfl,?_⟩,λh=>by simp at h<;>omega⟩;simp only[X,↓IT,VV,seval];exact A (by simp[G]) [_,_,_] ..
  .have L:(k==2)=false:=by simpa using H
   have v:(k==3)=false:=by simpa using D
   simp only[nW,It.awa,jL,r,L,v,↓IT,VV,seval];refine⟨λ_=>⟨by simp;omega,nofun,.I 0,nofun,?_⟩,λh=>by simp at h<;>omega⟩;simp only[v,r,↓IT,VV,seval];exact d c o g1 g2 (by simp[eG,jQ,H,D]) (by omega) (by omega) s (by repeat' constructor)
def Aq(f:List It)(a:f.length<2^40)(J:ak):bM prog 146 [.sl 3 (f.map It.awa)] J (Hi f):=by
 refine aZ func146 Z3.2 λc i=>au ?_;simp only[Z3,SS,seval];simp only[ag,VV,seval];refine bZ.wk (((Wk.ij (k:=2) sK rfl).trans (Wk.jA [_] (k:=3) sK rfl)).trans (Wk.fg ?_)) (bZ.uh (f.length+1) (Oq f c a f [] [] [] 0 0 rfl (aD _) (aD _) ?_ ?_))
 .simp only[ai,al,VV,seval]
  repeat' constructor
 .intro h g;simp only[JE];intros;simp only[VV,seval];refine kb (ys:=[.sl 1 [],.sl 1 [],.b false]) c (.inr rfl) (by simp only[RS,seval]) (.cons (.nil _) (.cons (.nil _) (.cons (.refl _) .nil))) (by simp[LW]) ⟨?_,rfl⟩;rw[Hi,show Bt.shape f=none from h];rfl
 .intro p h e d;simp only[JE];intros;simp only[VV,seval];refine fH (xs:=[.own J.length e,.own (J.length+1) d,.b true]) (xs':=[.sl 1 (p.1.map bV),.sl 1 (p.2.map bV),.b true]) (.inr rfl) (by simp only[RS,seval]) ((Wk.rZ 0 rfl).trans ((Wk.rZ 1 rfl).trans ((Wk.fg ?_).trans (Wk.vN c (by simp only[LW]))))) rfl ⟨?_,rfl⟩
  .simp[fz,oa]
   repeat' constructor
  .rw[Hi,show Bt.shape f=some p from h];rfl

set_option maxHeartbeats 2000000
def adY{J:ak}{K:bl}(n:Int)(f:List It)(c:f.length<2^40):∀(rest pre:List It),f=pre++rest ->
  (rest.find? (λx=>b9 x&&x.id==n)=none->((fj 4 (fh (.ptr J.length 0) (fj 26 fo))) λe=>K (.exit 0) ⟨e,J++[.box 61 gH.awa]⟩)) ->
  (∀x,rest.find? (λx=>b9 x&&x.id==n)=some x->((fj 4 (fh (.ptr J.length 0) (fj 26 fo))) λe=>K .ret ⟨e,J++[.box 61 x.awa]⟩)) ->
  fm J.length prog N0 K (rest.length+1) ⟨(.sl 3 (f.map It.awa)::.I n::uu 2 (.ptr J.length 0::uu 2 (.I f.length::.I pre.length::uu 22 []))),J++[.box 61 gH.awa]⟩:=by
 intro rest
 induction rest with
 |nil =>
  intro pre d b a;have d:=cN d
  subst d;refine ar λR j=>?_;simp only[N0,VV,seval];exact⟨λh=>by simp at h,λ_=>b rfl ..⟩
 |cons y rest ih =>
  intro pre d b a;subst d;have m:pre.length<(pre++y::rest).length:=by simp
  have k:decide ((pre.length:Int)<((pre++y::rest).length:Int))=true:=by simp;omega
  have i:(0:Int)<=(pre.length:Int)/\(pre.length:Int)<((pre++y::rest).length:Int):=by omega
  have g:=dh pre y (by simp at c;omega)
  refine ar λR j=>?_;simp only[N0,gH,It.awa,k,g,ag,↓IT,VV,seval];refine⟨i,?_⟩;refine aw (oT y _) rfl ?_;simp only[It.awa,g,ag,↓IT,VV,seval];rw[ng]at b a;refine⟨λ_=>i,_,λ_=>rfl,?_⟩;have l:(b9 y==true)=b9 y:=by cases b9 y<;>rfl
  simp only[l,It.awa,g,ag,↓IT,VV,seval];refine⟨λh=>⟨i,?_⟩,λh=>?_⟩
  .simp only[h]at a;exact a y rfl ..
  .simp only[h]at b a;exact j _ (aK (by repeat' constructor) (ih (pre++[y]) (by simp) b a))
def IP(f:List It)(n:Int)(a:f.length<2^40)(J:ak):bM prog 151 [.sl 3 (f.map It.awa),.I n] J (.agg (fE f n).awa):=by
 refine aZ func151 al2.2 λb c=>au ?_;simp only[al2,SS,seval];simp only[ag,VV,seval];refine bZ.aK (fr':=(.sl 3 (f.map It.awa)::.I n::uu 2 (.ptr J.length 0::uu 2 (.I f.length::.I (([]:List It).length:Nat)::uu 22 [])))) (by repeat' constructor) (f.length+1) (adY n f a f [] rfl ?_ ?_)
 .intro h;simp only[JE];intros;simp only[gH,It.awa,VV,seval];exact bg b (.inr rfl) (by simp only[RS,seval];rfl) (by simp only[LW]) ⟨by simp[Pm.one,fE,h,gH,It.awa],rfl⟩
 .intro x h;simp only[JE];intros;simp only[It.awa,VV,seval];exact bg b (.inr rfl) (by simp only[RS,seval];rfl) (by simp only[LW]) ⟨by simp[Pm.one,fE,h,It.awa],rfl⟩
def Tz{J:ak}{K:bl}(f:List It)(a:f.length<2^40):∀(rest pre out:List It) (g:Nat),f=pre++rest->out.length<=pre.length ->
  (∀g,((fj 3 (fh (.own J.length g) (fj 20 fo))) λn=>K (.exit 0) ⟨n,J++[.row 61 3 32 g false ((out++tg rest).map It.awa)]⟩)) ->
  fm J.length prog DU K (rest.length+1) ⟨(.sl 3 (f.map It.awa)::uu 2 (.own J.length g::uu 2 (.I f.length::.I pre.length::uu 16 []))),J++[.row 61 3 32 g false (out.map It.awa)]⟩:=by
 intro rest
 induction rest with
 |nil =>
  intro pre out g c o b;have c:=cN c
  subst c;rw[show tg []=[]from rfl,bL]at b;refine ar λR j=>?_;simp only[DU,VV,seval];exact⟨λh=>by simp at h,λ_=>b g ..⟩
 |cons y rest ih =>
  intro pre out g c o b;subst c;have i:(out.length+1)*32<=2^47/\out.length+1<=maxLen:=by simp at a;simp[maxLen];omega
  have m:decide ((pre.length:Int)<((pre++y::rest).length:Int))=true:=by simp;omega
  have q:pre.length<(pre++y::rest).length:=by simp
  have l:(0:Int)<=(pre.length:Int)/\(pre.length:Int)<((pre++y::rest).length:Int):=by omega
  have k:=dh pre y (by simp at a;omega)
  refine ar λR j=>?_;simp only[DU,It.awa,m,k,ag,↓IT,VV,seval];refine⟨l,?_⟩;refine aw (oT y _) rfl ?_;simp only[It.awa,k,ag,↓IT,VV,seval];refine⟨λd=>⟨l,i,?_⟩,λd=>?_⟩
  .have e:out++tg (y::rest)=(out++[y])++tg rest:=by simp[tg,d]
   have p:out.map It.awa++[[.I y.awb,.s y.awd,.I y.id]]=(out++[y]).map It.awa:=by simp[It.awa]
   rw[e]at b;rw[p];exact j _ (aK (by repeat' constructor) (ih (pre++[y]) (out++[y]) (g+1) (by simp) (by simp;omega) b))
  .have e:out++tg (y::rest)=out++tg rest:=by simp[tg,d]
   rw[e]at b;exact j _ (aK (by repeat' constructor) (ih (pre++[y]) out g (by simp) (by simp;omega) b))
def xY(f:List It)(a:f.length<2^40)(J:ak):bM prog 92 [.sl 3 (f.map It.awa)] J (.sl 3 ((tg f).map It.awa)):=by
 refine aZ func92 p92.2 λb c=>au ?_;simp only[p92,SS,seval];simp only[ag,VV,seval];refine bZ.wk ((Wk.ij (k:=3) yX rfl).trans (Wk.fg ?_)) (bZ.uh (f.length+1) (Tz f a f [] [] 0 rfl (aD _) ?_))
 .simp only[VV,seval]
  repeat' constructor
 .intro g;simp only[JE];intros;simp only[bc,VV,seval];refine mW 0 b (.inr rfl) rfl rfl ?_ ?_
  .simp[fz,oa,LW]
  .exact⟨by simp[fz,oa,Pm.one],rfl⟩

set_option maxHeartbeats 2000000
def TD{J:ak}{K:bl}(f:List It)(j:f.length<2^40):∀(rest pre:List It) (c o:bH) (g1 g2:Nat),f=pre++rest->c.length<=pre.length->o.length<=pre.length ->
  (eG rest (c,o)=none->∀loc,((fj 2 (fh (.nil) (fh (.nil) (fh (.b false) (fj 58 fo))))) λQ=>K .ret ⟨Q,J++loc⟩)) ->
  (∀p,eG rest (c,o)=some p->∀g1 g2,((fj 5 (fh (.own J.length g1) (fh (.own (J.length+1) g2) (fj 56 fo)))) λQ=>K (.exit 0) ⟨Q,J++[jL g1 p.1,jL g2 p.2]⟩)) ->
  fm J.length prog rN K (rest.length+1) ⟨(.sl 3 (f.map It.awa)::uu 4 (.own J.length g1::.own (J.length+1) g2::uu 3 (.I f.length::.I pre.length::uu 51 []))),J++[jL g1 c,jL g2 o]⟩:=by
 intro rest
 induction rest with
 |nil =>
  intro pre c o g1 g2 w x X B u;have w:=cN w
  subst w;refine ar λR s=>?_;simp only[rN,VV,seval];exact⟨λh=>by simp at h,λ_=>u _ rfl g1 g2 ..⟩
 |cons y rest ih =>
  intro pre c o g1 g2 w x X B u;subst w
  have v:=dh pre y (by simp at j;omega)
  have z:decide ((pre.length:Int)<((pre++y::rest).length:Int))=true:=by simp;omega
  have sr:pre.length<(pre++y::rest).length:=by simp
  have r:(0:Int)<=(pre.length:Int)/\(pre.length:Int)<((pre++y::rest).length:Int):=by omega
  have G:(c.length+1)*8<=2^47/\c.length+1<=maxLen:=by simp at j;simp[maxLen];omega
  have S:(o.length+1)*8<=2^47/\o.length+1<=maxLen:=by simp at j;simp[maxLen];omega
  obtain⟨k,t,i⟩:=y;simp only[eG,jQ]at B u
  have d:∀(A a:bH) (m q:Nat) {R:ca} {O:aB},eG (⟨k,t,i⟩::rest) (c,o)=eG rest (A,a)->A.length<=c.length+1->a.length<=o.length+1->(∀C,fm J.length prog rN K (rest.length+1) C->R C) ->
    oJ O (.sl 3 ((pre++⟨k,t,i⟩::rest).map It.awa)::uu 4 (.own J.length m::.own (J.length+1) q::uu 3 (.I (pre++(⟨k,t,i⟩:It)::rest).length::.I (pre++[(⟨k,t,i⟩:It)]).length::uu 51 [])))->R ⟨O,J++[jL m A,jL q a]⟩:=by
   intro A a m q R O e l1 l2 s x;simp only[eG,jQ]at e;rw[e]at B u;exact s _ (aK x (ih (pre++[⟨k,t,i⟩]) A a m q (by simp) (by simp;omega) (by simp;omega) B u))
  refine ar λR s=>?_
  by_cases M:k=2
  .subst M;simp only[rN,It.awa,jL,v,z,ag,↓IT,VV,seval];refine⟨r,r,S,?_⟩;rw[nF];exact d c (o++[i]) g1 (g2+1) (by simp[eG,jQ]) (by omega) (by simp) s (by repeat' constructor)
  by_cases F:k=3
  .subst F;rcases dn o with D|⟨a,l,D⟩
   .subst D;simp only[rN,It.awa,jL,v,z,ag,al,↓IT,VV,seval];refine⟨r,r,G,?_⟩;rw[nF];exact d (c++[i]) [] (g1+1) g2 (by simp[eG,jQ]) (by simp) (by simp) s (by repeat' constructor)
   .rw[da]at D;subst D;have Y:(a++[l]).length=a.length+1:=by simp
    have Z:IntKind.i64.wrap (((a.length+1:Nat):Int) - 1)=(a.length:Int):=by rw[IntWalk.i64_in _ (by simp at j X;omega)];omega
    have U:gj ((a++[l]).map bV) a.length 0=some (.I l):=l5;have W:(((a.length+1:Nat):Int)==0)=false:=by simp;omega
    have JI:List.take a.length ((a++[l]).map bV)=a.map bV:=by simp
    have V:(0:Int)<=(a.length:Int)/\(a.length:Int)<((a.length+1:Nat):Int):=⟨by omega,by omega⟩
    by_cases L:l=i
    .subst L;simp only[rN,It.awa,jL,v,z,ag,Y,Z,U,W,kO,ao,↓IT,VV,seval];refine⟨r,V,r,⟨by omega,by omega⟩,?_⟩
     have H:∀{T:aB},oJ T (.sl 3 ((pre++⟨3,t,l⟩::rest).map It.awa)::uu 4 (.own J.length g1::.sub (J.length+1) g2 0 a.length::uu 3 (.I (pre++(⟨3,t,l⟩:It)::rest).length::.I (pre++[(⟨3,t,l⟩:It)]).length::uu 51 []))) ->
       Wk prog J.length T (J++[jL g1 c,jL g2 (a++[l])]) (.sl 3 ((pre++⟨3,t,l⟩::rest).map It.awa)::uu 4 (.own J.length g1::.own (J.length+1) (g2+1)::uu 3 (.I (pre++(⟨3,t,l⟩:It)::rest).length::.I (pre++[(⟨3,t,l⟩:It)]).length::uu 51 []))) (J++[jL g1 c,jL (g2+1) a]):=by
      intro T x;have h:=Wk.PE (P:=prog) (n:=J.length) (xs:=(.sl 3 ((pre++⟨3,t,l⟩::rest).map It.awa)::uu 4 (.own J.length g1::.sub (J.length+1) g2 0 a.length::uu 3 (.I (pre++(⟨3,t,l⟩:It)::rest).length::.I (pre++[(⟨3,t,l⟩:It)]).length::uu 51 [])))) (J:=J++[jL g1 c,jL g2 (a++[l])]) (id:=J.length+1) (g:=g2) (hi:=a.length) (rows:=(a++[l]).map bV) (by simp only[qv];rfl) 6 rfl;rw[JI,ub]at h;exact(Wk.fg x).trans h
     refine s _ (rF (H ?_) (d c a g1 (g2+1) ?_ ?_ ?_ (λ_ h=>h) ?_))
     .repeat' constructor
     .simp[eG,jQ]
     .omega
     .simp;omega
     .repeat' constructor
    .have OI:(l==i)=false:=by simpa using L
     simp only[rN,It.awa,jL,v,z,ag,Y,Z,U,W,OI,ao,↓IT,VV,seval];refine⟨r,V,r,?_⟩;exact B (by simp[L]) [_,_] ..
  .have N:(k==2)=false:=by simpa using M
   have E:(k==3)=false:=by simpa using F
   simp only[rN,It.awa,jL,v,z,N,E,ag,↓IT,VV,seval];refine⟨r,?_⟩;exact d c o g1 g2 (by simp[eG,jQ,M,F]) (by omega) (by omega) s (by repeat' constructor)
def vm(f:List It)(a:f.length<2^40)(J:ak):bM prog 88 [.sl 3 (f.map It.awa)] J (Hi f):=by
 refine aZ func88 p88.2 λc i=>au ?_;simp only[p88,SS,seval];simp only[ag,VV,seval];refine bZ.wk (((Wk.ij (k:=5) sK rfl).trans (Wk.jA [_] (k:=6) sK rfl)).trans (Wk.fg ?_)) (bZ.uh (f.length+1) (TD f a f [] [] [] 0 0 rfl (aD _) (aD _) ?_ ?_))
 .simp only[ai,al,VV,seval]
  repeat' constructor
 .intro h g;simp only[JE];intros;simp only[VV,seval];refine kb (ys:=[.sl 1 [],.sl 1 [],.b false]) c (.inr rfl) (by simp only[RS,seval]) (.cons (.nil _) (.cons (.nil _) (.cons (.refl _) .nil))) (by simp[LW]) ⟨?_,rfl⟩;rw[Hi,show Bt.shape f=none from h];rfl
 .intro p h e d;simp only[JE];intros;simp only[VV,seval];refine fH (xs:=[.own J.length e,.own (J.length+1) d,.b true]) (xs':=[.sl 1 (p.1.map bV),.sl 1 (p.2.map bV),.b true]) (.inr rfl) (by simp only[RS,seval]) ((Wk.rZ 0 rfl).trans ((Wk.rZ 1 rfl).trans ((Wk.fg ?_).trans (Wk.vN c (by simp only[LW]))))) rfl ⟨?_,rfl⟩
  .simp[fz,oa]
   repeat' constructor
  .rw[Hi,show Bt.shape f=some p from h];rfl
end Go.Proofs.Tryz
namespace Go.Pm
open Go Go.RowKit Go.Sort Go.Proofs
def PC.IC{P:bo}{a:Shelf.Ren}(L:SlLaysM.n6 P a){E by' g id:Nat}(l:dq)(c:l.length<2^30){J:ak}(h1:J[id]?=some (.row E 1 by' g false (l.map λx=>[.s x]))):
  PC P (a.f 6) [.own id g] J (λr J'=>r=.iQ []/\J'=J.set id (.row E 1 by' g false ((l.mergeSort λx y=>decide (x<=y)).map λx=>[.s x]))) :=
 PC.Nr (ve:=λx=>.s x) (λx h=>by
  obtain⟨y,rfl,b,d⟩:=h.qf;refine⟨rfl,?_,.s _ _ rfl d⟩;subst b;rfl) (AnyM.slices_Sort_string L) (AnyM.slices_Sort_string_none L) l c h1
open Go.Shelf Go.Lib
def rB{P:bo}{w:bD}{g o:Nat}{t:TypeId}{c:Array Value}{d:List Value}(e:w.heap[g]?=some (.cells c t (0,0)))(h:o+d.length<=c.size)(h1:∀v∈d,v.oneCell'=true):
  w.setCells g o d=w.setRow g (c.toList.take o++d++c.toList.drop (o+d.length)).toArray:=by
 have a:=run_storeCells_at P g o t d 0 c w e (by simpa using h) h1
 have b:=run_storeCells_cells (P:=P) g o d 0 w (λj f=>by
  simp only[World.cell?,de,e];rw[bO (by omega)];rfl) (λj f=>by simp[World.frozen?,e]) h1
 rw[a]at b;simpa using b.symm
def u6{P:bo}(w:bD)(t e ty:TypeId)(z:Value)(h:P.underlying t=some (.slice e))(j:∀w,(zeroValue e).run P w=.ok z w)(g o n c:Nat)(k:0<n)(a:Array Value)(T:TypeId)(i:w.heap[g]?=some (.cells a T (0,0)))(f:o+n*z.cells.size<=a.size)(h1:∀v∈(Builtin.zeroCells z.cells n).toList,v.oneCell'=true):
  (Builtin.clear_ #[t] ty #[.slice (some ⟨g,o,none⟩) n c]).run P w=.ok (.tuple #[]) (w.setRow g (a.toList.take o++(Builtin.zeroCells z.cells n).toList++a.toList.drop (o+n*z.cells.size)).toArray):=by
 have b:(Builtin.zeroCells z.cells n).toList.length=n*z.cells.size:=by simp[Builtin.zeroCells]
 have d:=run_storeCells_at P g o T (Builtin.zeroCells z.cells n).toList 0 a w i (by rw[b];simpa using f) h1;simp only[de,b]at d;obtain⟨m,rfl⟩:∃m,n=m+1:=⟨n - 1,by omega⟩;simp[Builtin.clear_,run_underlying h,j,d]
set_option maxRecDepth 1000000 in
def vQ{P:bo}{l:Ren}(L:SlLaysE0.n45 P l)(k:Nat)(F:TypeInfo)(z:Value)(TW:P.info? (l.t 23)=some F)(Pk:F.size=k)(E:z.cells.size=k)(H:∀w,(zeroValue (l.t 23)).run P w=.ok z w)(Z:∀w,(Go.sizeOf (l.t 23)).run P w=.ok k w)(JL:∀q,q<k->(z.cells.getD q undef).oneCell'=true)
  (g n c i:Nat) (b:Array Value) (T:TypeId) (w:bD) (hi:i<n) (Ez:n<=c) (Y:c<=9223372036854775807) (r:w.heap[g]?=some (.cells b T (0,0))) (p:b.size=c*k) (B:∀v∈b.toList.take (n*k),v.oneCell'=true) :
  Calls P (l.f 45) #[.slice (some ⟨g,0,none⟩) n c,.int .i64 i,.int .i64 ((i:Int)+1)] w λe w'=>e=.returned (.slice (some ⟨g,0,none⟩) (n - 1) c)/\∃row,w'=w.drew.setRow g row/\row.size=c*k /\
   row.toList.take ((n - 1)*k)=b.toList.take (i*k)++(b.toList.take (n*k)).drop ((i+1)*k):=by
 have mixed:=L.mixed;have t0:=L.t0;have a0:=L.a0;have z0:=L.z0;have v0:=L.v0;have t3:=L.t3;have a3:=L.a3;have z3:=L.z3;have v3:=L.v3;have t4:=L.t4;have a4:=L.a4;have z4:=L.z4;have v4:=L.v4;have o:=L.t22;have ab:=L.a22;have R:=L.z22;have af:=L.v22;have aa:n*k<=c*k:=bI _ Ez;have ad:(i+1)*k<=n*k:=bI _ hi;generalize s:(b.toList.take (n*k)).drop ((i+1)*k)=news;have d:news.length=(n - (i+1))*k:=by rw[<- s];simp only[bA,aP,bh,p,s9];omega
 have O:∀u∈news,u.oneCell'=true:=λu j=>B u (cH (s.symm▸j))
 have M:∀t u,news[t]?=some u->w.cell? ⟨g,(i+1)*k+t,none⟩=some u:=by
  intro t u j;rw[<- s,db,ee]at j;split at j
  .simp only[World.cell?,r];simpa using j
  .cases j
 obtain⟨A,hA,vG⟩:∃A:Addr,(if c=i+1 then some (⟨g,0,none⟩:Addr)else some ⟨g,(i+1)*k,none⟩)=some A/\(∀t u,news[t]?=some u->w.drew.cell? (A.add t)=some u):=by
  by_cases h:c=i+1
  .refine⟨⟨g,0,none⟩,by simp[h],λt u j=>?_⟩
   have h0:news.length=0:=by
    rw[d];have:n - (i+1)=0:=by omega
    rw[this];simp
   rw[fG.1 h0]at j;simp at j
  .exact⟨⟨g,(i+1)*k,none⟩,by simp[h],λt u j=>by rw[Addr.add_lit];exact M t u j⟩
 have qi:(i+(n - (i+1)))=n - 1:=by omega
 have fk:¬(c=i):=by omega
 have HU:IntKind.i64.wrap ((i:Int)+1)=(i:Int)+1:=by rw[IntKind.wrap_i64];omega
 have JH:((i:Int)+1).toNat=i+1:=by omega
 have Rp:¬((i:Int)=(i:Int)+1):=by omega
 have yQ:(0:Int)<=(i:Int)+1:=by omega
 have mj:(i:Int)+1<=(n:Int):=by omega
 have av:(i:Int)<=(i:Int)+1:=by omega
 have V:¬(c=i+(n - (i+1))):=by omega
 have ac:i<=c:=by omega
 have ap:i+1<=c:=by omega
 have s3:∀t,t<news.length->(w.drew.cell? ⟨g,0+i*k+t,none⟩).isSome=true/\w.drew.frozen? ⟨g,0+i*k+t,none⟩=false:=by
  intro t S
  have U:i*k+t<b.size:=by
   rw[p];rw[d]at S;have:i*k+(n - (i+1))*k<=n*k:=by rw[<- Nat.add_mul];exact bI _ (by omega)
   omega
  refine⟨?_,?_⟩
  .show(w.cell? _).isSome=true;simp only[World.cell?,r,aY];rw[bO U];rfl
  .show w.frozen? _=false;simp[World.frozen?,r]
 have I:i*k+news.length<=b.size:=by
  rw[d,<- Nat.add_mul,p];exact bI _ (by omega)
 obtain⟨a,x⟩:∃a,a=(b.toList.take (i*k)++news++b.toList.drop (i*k+news.length)).toArray:=⟨_,rfl⟩
 have m:w.drew.setCells g (0+i*k) news=w.drew.setRow g a:=by
  rw[aY,rB (P:=P) (w:=w.drew) r I O,x]
 have y:a.size=c*k:=by
  rw[x];simp only[eU,aj,aP,bA,bh,p]at I |-;omega
 have JP:(w.drew.setRow g a).heap[g]?=some (.cells a T (0,0)):=setRow_heap w.drew g b a T (0,0) r;have am:(n - 1)*k+1*k=n*k:=by rw[<- Nat.add_mul];congr 1;omega
 have Q:(Builtin.zeroCells z.cells 1).toList.length=k:=by simp[Builtin.zeroCells,E]
 have N:∀v∈(Builtin.zeroCells z.cells 1).toList,v.oneCell'=true:=by
  intro v K;simp only[Builtin.zeroCells,ir,mh,we,bF,eC]at K;obtain⟨q,hq,rfl⟩:=K;have D:q % z.cells.size<z.cells.size:=tc _ (by omega);rw[rY _ _ D];exact JL _ (by omega)
 have W:∀G C,(Builtin.clear_ #[l.t 22] G #[.slice (some ⟨g,(n - 1)*k,none⟩) (n - (n - 1)) C]).run P (w.drew.setRow g a)=.ok (.tuple #[]) ((w.drew.setRow g a).setRow g (a.toList.take ((n - 1)*k)++(Builtin.zeroCells z.cells 1).toList++a.toList.drop ((n - 1)*k+1*k)).toArray):=λG C=>by
  have h1:n - (n - 1)=1:=by omega
  rw[h1];have:=u6 (P:=P) (w.drew.setRow g a) (l.t 22) (l.t 23) G z o H g ((n - 1)*k) 1 C (by omega) a T JP (by rw[E,y];omega) N
  rwa [E]at this
 generalize (Builtin.zeroCells z.cells 1).toList=zc at W Q;have hW:Hid (w.drew.setCells g (0+i*k) news=w.drew.setRow g a):=m
 have hC:Hid (a.toList=b.toList.take (i*k)++news++b.toList.drop (i*k+news.length)):=by
  show a.toList=_;rw[x]
 clear m x s M N;obtain⟨_,_,X⟩:=L.f45
 go_enter X,SlBodyN.n45_ntmps l
 go_wp2_with fail
 go_region_law_o (refine step_append_room rfl (.tmp 22) (.tmp 25) (l.t 22) rfl (l.t 23) F k o TW Pk g 0 i c (by simp[Act.eval,Act.put]) A (n - (i+1)) (c - (i+1)) news (by simp[Act.eval,Act.put]) d vG O (by omega) s3 ?_;rw[hW.out])
 go_wp2
 go_ret
 have BG:(b.toList.take (i*k)++news).length=(n - 1)*k:=by
  rw[aj,aP,bh,d,p,fb (by omega),<- Nat.add_mul];congr 1
 have J:(a.toList.take ((n - 1)*k)).length=(n - 1)*k:=by
  rw[aP,bh,y];omega
 refine⟨rfl,_,by rw[setRow_setRow],?_,?_⟩
 .simp only[eU,aj,bA,J,Q,bh,y];omega
 .show List.take ((n - 1)*k) (a.toList.take ((n - 1)*k)++_)=_;rw[dL (xH J.symm),lB,YD,hC.out,Bh BG]
def kN.take{w:bD}{J:ak}{μ:Mem}{xs:dF}{sz:Nat}{vals:List Value}(h:kN w J μ xs sz vals)(m:Nat)(l:m<=xs.length):kN w J μ (xs.take m) sz (vals.take (m*sz)):=by
 refine⟨λq a=>h.1 q (cF a),λi j x b=>?_⟩
 have d:i<m:=by
  obtain⟨q,a,_⟩:=jz b;have:=(ah.1 a).1;rw[aP]at this;omega
 have c:gj xs i j=some x:=by
  simp only[gj,ee,az d]at b |-;exact b
 obtain⟨e,u,k,g⟩:=h.2 i j x c
 have n:j<sz:=by
  obtain⟨q,a,f⟩:=jz c;have:=h.1 q (bE a);have:=(ah.1 f).1;omega
 refine⟨e,u,?_,g⟩;have:(i+1)*sz<=m*sz:=bI _ d;rw[cJ,ir]at this;rw[ee,az (by omega)];exact k
def kN.drop{w:bD}{J:ak}{μ:Mem}{xs:dF}{sz:Nat}{vals:List Value}(h:kN w J μ xs sz vals)(m:Nat):kN w J μ (xs.drop m) sz (vals.drop (m*sz)):=by
 refine⟨λq c=>h.1 q (cH c),λi j x a=>?_⟩
 have b:gj xs (m+i) j=some x:=by
  simp only[gj,db]at a |-;exact a
 obtain⟨d,u,f,e⟩:=h.2 _ j x b;refine⟨d,u,?_,e⟩;rw[db,<- f,cJ,iW]
def PC.yF{P:bo}{c:Ren}(L:SlLaysE0.n45 P c){k by' g id i:Nat}{rows:dF}{J:ak}(A:(P.info? (c.t 23)).map (λi=>(i.zero.map (λz=>(z.cells.size,z.cells.all (·.oneCell'))),i.size))=some (some (k,true),k))(hi:i<rows.length)(hl:rows.length<2^30)(h1:J[id]?=some (.row (c.t 23) k by' g false rows)):
  PC P (c.f 45) [.own id g,.i .i64 i,.i .i64 ((i:Int)+1)] J (λr J'=>r=.own id (g+1)/\J'=J.set id (.row (c.t 23) k by' (g+1) false (rows.take i++rows.drop (i+1)))):=by
 cases o:P.info? (c.t 23)with
 |none=>simp[o]at A
 |some Q =>
 simp only[o,cL,ae,aQ]at A;obtain⟨s,R⟩:=A;cases h:Q.zero with
 |none=>simp[h]at s
 |some z =>
 simp only[h,cL,ae,aQ]at s;refine PC.Vr h1 λB w0 w μ F T m=>?_;have I:=(m.2 0 _ rfl).mK h1;have S:=(m.2 1 _ rfl).iF;have M:=(m.2 2 _ rfl).iF;obtain⟨_,a,D,E⟩:=T.obj id _ h1
 have e:F=#[μ id,.int .i64 i,.int .i64 ((i:Int)+1)]:=by
  obtain⟨q⟩:=F
  match q,m.1 with
  |[u,v,y],_=>simp at I S M;rw[I,S,M]
 rw[e];have o1:=kN.one T E D.1;rcases D.2 with⟨_,hn⟩|⟨x,p,d,V,hB,O,Y,G,pN,C⟩
 .omega
 rw[V];refine(vQ L k Q z o R s.1 (λw=>by simp[zeroValue,run_typeInfo w o,h]) (λw=>by simp[sizeOf,run_typeInfo w o,R]) (λq aa=>?_) x rows.length p i d (c.t 23) w hi Y (by unfold maxLen at G;omega) O pN (λv m=>o1 v (C▸m))).mono ?_
 .have:=YL.1 s.2 q (by omega);rw[cx,bO (by omega)];exact this
 rintro e w' ⟨rfl,row,rfl,X,H⟩;have N:a.length=rows.length*k:=D.1;have ab:(i+1)*k<=rows.length*k:=bI _ hi;have K:i*k<=rows.length*k:=bI _ (by omega);have l:(rows.take i++rows.drop (i+1)).length=rows.length - 1:=by simp only[aj,aP,bA];omega
 have n:i*k+(rows.length - (i+1))*k=(rows.length - 1)*k:=by rw[<- Nat.add_mul];congr 1;omega
 have Z:(a.take (i*k)++a.drop ((i+1)*k)).length=(rows.length - 1)*k:=by
  rw[s9]at n;simp only[aj,aP,bA,N];omega
 rw[C,show d.toList.take (i*k)=a.take (i*k)by rw[<- C,lB,fb K]]at H;refine⟨_,a.take (i*k)++a.drop ((i+1)*k),rfl,?_,λb W=>.inl W,?_,?_⟩
 .refine⟨rfl,rfl,rfl,?_,λj hj iR=>?_⟩
  .simp only[World.setRow,World.drew,xL];exact aD _
  .have U:¬x=j:=λe=>iR (by rw[e];rfl);simp only[World.setRow,World.drew,dp,an U]
 .rw[l];exact⟨Z,.inr ⟨x,p,row,rfl,hB,setRow_heap w.drew x d _ (c.t 23) (0,0) O,by omega,G,X,H⟩⟩
 .exact(E.take i (by omega)).append (E.drop (i+1)) (by simp only[aP,N,fb K,fb (YE hi)])
end Go.Pm

/- Part of a proof. -/
import Derived.Test.YtfeddmfijllgmaaGreatDoorZ17
import Derived.Test.YtfeddmfijllgmaaGreatDoorZ21
set_option linter.all false
set_option maxHeartbeats 2000000
open Bool renaming true->G,false->Z
open Go.Proofs.Tryz renaming prog->A
open List renaming length->X
namespace Go.Proofs.Tryz
open Go Go.Pm Go.Bt
variable(b:aL)(U:ai)(q:V)(M:Ob)(n:Int)(N:gf)(a:Nat)(r:Rb)(o:bf)(l:bH){c R:Bool}{t:Int}{m:Nat}{x:Ob}{Q:Rb}{T P F:aL}{J:ai}{K:bG}
def kx(e:En)(d:e.axZ)(J:ai):bh A 149 [.agg e.axV] J (.I (cY e)):=by
 refine aT func149 anI.2 λb m=>an ?_;simp only[anI,SS,seval];simp only[En.axV,VV,seval];refine ak (qX e.ax3 _) rfl ?_;simp only[VV,seval];refine⟨λh=>?_,λh=>?_⟩
 .have h:cU e.ax3≠0:=by simpa using h
  exact aS b rfl (by simp[LW]) ⟨by simp only[cY,h,aR,gj,eP];rfl,rfl⟩
 have i:cU e.ax3=0:=by simpa using h
 refine ak (qX e.ax4 _) rfl ?_;simp only[VV,seval];refine⟨λh=>?_,λh=>?_⟩
 .have h:cU e.ax4≠0:=by simpa using h
  refine aS b rfl (by simp[LW]) ⟨?_,rfl⟩;simp only[cY,i,h,aR,gj,eP,fU,bo];rfl
 have j:cU e.ax4=0:=by simpa using h
 refine ak (NN e.ax3 e.ax4 (by have:=d.ax3;omega) (by have:=d.ax4;omega) (by have:=d.kz;omega) (by have:=d.rl;omega) _) rfl ?_;simp only[ab,VV,seval];refine cm (by simp only[VV,seval]<;>rfl) (λ_=>th (iX e.ax3 e.ax4) e.ax3 _) rfl ?_;simp only[VV,seval];refine cm (by simp only[VV,seval]<;>rfl) (λ_=>th (jL e.ax3 e.ax4) e.ax4 _) rfl ?_;simp only[VV,seval];have a:oo e=!((((X e.ax3:Int)==0)||!iJ (iX e.ax3 e.ax4) e.ax3)||!iJ (jL e.ax3 e.ax4) e.ax4):=by
  have:((X e.ax3:Int)==0)=(X e.ax3==0):=by rw[ei];simp
  simp only[oo,this];cases(X e.ax3==0)<;>cases iJ (iX e.ax3 e.ax4) e.ax3<;>cases iJ (jL e.ax3 e.ax4) e.ax4<;>rfl
 refine⟨λh=>?_,λh=>?_⟩;.rw[h]at a;refine aS b rfl (by simp[LW]) ⟨?_,rfl⟩;simp only[cY,i,j,a,gj,fU,bo];rfl
 rw[h]at a;have f:cY e=if(parse e.cJ).2.2≠0 then(parse e.cJ).2.2 else if(parse e.next).2.2≠0 then(parse e.next).2.2 else
   if(named e.dL&&named e.dh)=Z then 4 else if e.ayd<0\/1073741824<e.ayd\/e.ayf<1\/3<e.ayf then 1 else 0:=by simp only[cY,i,j,a,gj,fU,bo];rfl
 refine ak (qa e.cJ (by have:=d.cJ;omega) _) rfl ?_;simp only[VV,seval];refine⟨λh=>?_,λh=>?_⟩
 .have h:(parse e.cJ).2.2≠0:=by simpa using h
  rw[f,aO h];exact aS b rfl (by simp[LW]) ⟨rfl,rfl⟩
 have k:¬(parse e.cJ).2.2≠0:=by simpa using h
 refine ak (qa e.next (by have:=d.next;omega) _) rfl ?_;simp only[VV,seval];refine⟨λh=>?_,λh=>?_⟩
 .have h:(parse e.next).2.2≠0:=by simpa using h
  rw[f,ao k,aO h];exact aS b rfl (by simp[LW]) ⟨rfl,rfl⟩
 have l:¬(parse e.next).2.2≠0:=by simpa using h
 rw[ao k,ao l]at f;refine cm (by simp only[VV,seval]<;>rfl) (λ_=>qb e.dL _) rfl ?_;simp only[VV,seval];refine cm (by simp only[VV,seval]<;>rfl) (λ_=>qb e.dh _) rfl ?_;simp only[VV,seval];have g:((!e.dL==[]&&!ayc e.dL)||(!e.dh==[]&&!ayc e.dh))=!(named e.dL&&named e.dh):=by simp only[named];cases e.dL==[]<;>cases e.dh==[]<;>cases ayc e.dL<;>cases ayc e.dh<;>rfl
 rw[g];refine⟨λh=>?_,λh=>⟨λc=>?_,λc=>?_⟩⟩
 .have h:(named e.dL&&named e.dh)=Z:=by rw[dt]at h;exact h
  rw[f,aO h];exact aS b rfl (by simp[LW]) ⟨rfl,rfl⟩
 .have h:¬(named e.dL&&named e.dh)=Z:=by rw[eI]at h;rw[h];simp
  have c:e.ayd<0\/1073741824<e.ayd\/e.ayf<1\/3<e.ayf:=by simp at c;omega
  rw[f,ao h,aO c];exact aS b rfl (by simp[LW]) ⟨rfl,rfl⟩
 have h:¬(named e.dL&&named e.dh)=Z:=by rw[eI]at h;rw[h];simp
 have c:¬(e.ayd<0\/1073741824<e.ayd\/e.ayf<1\/3<e.ayf):=by simp at c;omega
 rw[f,ao h,ao c];exact aS b rfl (by simp[LW]) ⟨rfl,rfl⟩
def GM(e:En)(a:e.axZ)(J:ai):bh A 201 [.agg e.axV] J (.s (dw e)):=by refine aT func201 amZ.2 λc f=>an ?_;simp only[amZ,SS,seval];simp only[En.axV,VV,seval];refine ak (Cr e.ax3 a.ax3 a.kz (λx b=>a.ids x (by simp[b])) _) rfl ?_;simp only[VV,seval];have d:=oC e.ax3 a.ax3 a.kz (λx b=>a.ids x (by simp[b]));have h:=a.cJ;have g:=a.next;refine⟨by simp[maxLen];omega,by simp[maxLen];omega,by simp[maxLen];omega,by simp[maxLen];omega,?_⟩;refine aS c rfl (by simp[LW]) ⟨?_,rfl⟩;simp[Pm.cM,dw]
def J2(e:En)(b:e.axZ)(J:ai):bh A 152 [.agg e.axV] J (.s (fZ e)):=by
 refine aT func152 anG.2 λa c=>an ?_;simp only[anG,SS,seval];simp only[En.axV,VV,seval];refine ak (kx e b _) rfl ?_;simp only[VV,seval];refine⟨λh=>?_,λh=>?_⟩
 .have h:cY e≠0:=by simpa using h
  exact aS a rfl (by simp[LW]) ⟨by simp only[fZ,h,aR,gj,eP];rfl,rfl⟩
 have h:¬cY e≠0:=by simpa using h
 refine ak (GM e b _) rfl ?_;simp only[VV,seval];exact aS a rfl (by simp[LW]) ⟨by simp only[fZ,ao h];rfl,rfl⟩
def Dj(J:ai):bh A 222 [.agg o.axV] J (.agg (ayk o).axV):=by
 refine aT func222 amQ.2 λa b=>an ?_;simp only[amQ,SS,seval];simp only[bf.axV,cz.axV,En.axV,VV,seval];refine⟨λh=>?_,λh=>?_⟩
 .have h:o.axW≠2:=by simpa using h
  refine aS a (by simp only[RS,seval];rfl) (by simp[LW]) ⟨?_,rfl⟩;simp only[ayk,aO h];rfl
 have h:¬o.axW≠2:=by simpa using h
 refine aS a (by simp only[RS,seval];rfl) (by simp[LW]) ⟨?_,rfl⟩;simp only[ayk,ao h];rfl
def WZ(e:En)(J:ai):bh A 221 [.agg e.axV] J (.b (ny e)):=by
 refine aT func221 amR.2 λa f=>an ?_;simp only[amR,SS,seval];simp only[En.axV,ab,VV,seval];have c:((X e.ax4:Int)==0)=(X e.ax4==0):=by rw[ei];simp
 have d:ny e=((X e.ax4==0)&&(e.dL==[]&&(e.dh==[]&&(e.ayd==0&&e.ayf==0)))):=rfl;rw[c,d];cases (X e.ax4)==0<;>simp only[VV,seval];.exact gL a (by rfl) (by simp[LW])
 cases e.dL==[]<;>simp only[VV,seval];.exact gL a (by rfl) (by simp[LW])
 cases e.dh==[]<;>simp only[VV,seval];.exact gL a (by rfl) (by simp[LW])
 cases e.ayd==0<;>simp only[VV,seval];.exact gL a (by rfl) (by simp[LW])
 exact gL a (by rfl) (by simp[LW])
def aeR(f:X l<2^63):∀(a b:bH),l=b++a ->(a.any (λm=>decide (128<m))=Z->((fj 1 (fh (q) (fj 60 fo))) λj=>K (.exit 0) ⟨j,J⟩))->(a.any (λm=>decide (128<m))=G->((fj 1 (fh (q) (fh (.I 1) (fj 59 fo)))) λj=>K .ret ⟨j,J⟩)) ->gF m A Mb K (X a+1) ⟨(uu 1 (q::uu 28 (.sl 1 (l.map cG)::.I (X l)::.I (X b)::uu 29 []))),J⟩:=by
 intro a;induction a with
 |nil =>intro b d i g;have d:=dH d;subst d;refine aD λR k=>?_;simp only[Mb,VV,seval];exact⟨λh=>by simp at h,λ_=>i rfl ..⟩
 |cons c a ih =>
 intro b d i g;subst d;refine aD λR k=>?_;simp only[Mb,cG,VV,seval];refine⟨λ_=>⟨by simp;omega,λh=>?_,λh=>?_⟩,λh=>by simp at h<;>omega⟩
 .have h:128<c:=by simpa using h
  exact g (by simp[h]) ..
 have h:¬128<c:=by simpa using h
 have e:(c::a).any (λm=>decide (128<m))=a.any (λm=>decide (128<m)):=by simp[h]
 rw[e]at i g;refine k _ (bL ?_ (ih (b++[c]) (by simp) i g));rw[cT (by simp at f;omega)];simp only[ae,ah,aj];repeat' constructor
def qi(g:o.axZ)(J:ai):bh A 168 [.agg o.axV] J (.I (eO o)):=by
 refine aT func168 anr.2 λa p=>an ?_;have q:=g.ax5;simp only[anr,SS,seval];simp only[bf.axV,cz.axV,En.axV,VV,seval];refine ak (BU o.aZ _) rfl ?_;simp only[VV,seval];refine⟨λh=>?_,λh=>?_⟩
 .have h:jO o.aZ=false:=by cases d:jO o.aZ with|false=>rfl|true=>rw[d]at h;simp at h
  refine aS a (by simp only[RS,seval];rfl) (by simp[LW]) ⟨?_,rfl⟩;simp only[eO,h,aR];rfl
 have f:¬jO o.aZ=false:=by intro d;rw[d]at h;simp at h
 have j:eO o=if(o.axW≠1/\o.axW≠2)\/jf o.ax5≠o.ax5 then 1 else
   if o.ax5.any (λn=>decide (128<n))then 1 else
   if mB o.ax5 o.aZ.bR≠o.aZ.ax0 - 1 then 11 else
   if o.axW=2/\ny o.axY=false then 1 else cY (ayk o):=by simp only[eO,ao f]
 have m:1<=o.aZ.ax0/\o.aZ.ax0<=128:=by
  have:jO o.aZ=G:=by simpa using f
  simp only[jO,bz]at this;omega
 rw[j];have k:(bif (o.axW != 1)then(o.axW != 2)else false)=decide (o.axW≠1/\o.axW≠2):=by rw[ei];by_cases l:o.axW=1<;>by_cases b:o.axW=2<;>simp[l,b]
 refine cm (by simp only[VV,seval]<;>rfl) (λ_=>Oe o.ax5 _) rfl ?_;simp only[VV,seval];refine cm (by simp only[VV,seval]<;>rfl) (λ_=>Nv (rY o.ax5 []) o.ax5 _) rfl ?_;simp only[VV,seval];have c:X o.ax5<2^63:=by omega
 refine⟨λh=>?_,λh=>cD.bL ?_ (X o.ax5+1) (aeR (.ptr (X J) 0) o.ax5 c o.ax5 [] rfl (λe=>?_) (λe=>?_))⟩
 .have h:(o.axW≠1/\o.axW≠2)\/jf o.ax5≠o.ax5:=by simpa[jf]using h
  refine aS a (by simp only[RS,seval];rfl) (by simp[LW]) ⟨?_,rfl⟩;rw[aO h];rfl
 .simp only[ab,aj,VV,seval];repeat' constructor
 .have h:¬((o.axW≠1/\o.axW≠2)\/jf o.ax5≠o.ax5):=by
   intro b;have:(o.axW != 1&&o.axW != 2||!rY o.ax5 []==o.ax5)=G:=by simpa[jf]using b
   rw[h]at this;simp at this
  rw[ao h,ao (show ¬(o.ax5.any λn=>decide (128<n))=G by rw[e];simp)];simp only[JE];intros;simp only[VV,seval];refine ak (pW o.ax5 o.aZ.bR _) rfl ?_;simp only[VV,seval];have i:IntKind.i64.wrap (o.aZ.ax0 - 1)=o.aZ.ax0 - 1:=IntWalk.i64_in _ (by omega);rw[i];refine⟨λh=>?_,λh=>?_⟩
  .have h:mB o.ax5 o.aZ.bR≠o.aZ.ax0 - 1:=by simpa using h
   refine aS a (by simp only[RS,seval];rfl) (by simp[LW]) ⟨?_,rfl⟩;rw[aO h];rfl
  have h:¬mB o.ax5 o.aZ.bR≠o.aZ.ax0 - 1:=by simpa using h
  rw[ao h];refine cm (by simp only[VV,seval]<;>rfl) (λ_=>WZ o.axY _) rfl ?_;simp only[VV,seval];refine⟨λh=>?_,λh=>?_⟩
  .have h:o.axW=2/\ny o.axY=false:=by simpa using h
   refine aS a (by simp only[RS,seval];rfl) (by simp[LW]) ⟨?_,rfl⟩;rw[aO h];rfl
  have h:¬(o.axW=2/\ny o.axY=false):=by simpa using h
  rw[ao h];refine ak (Dj o _) rfl ?_;simp only[VV,seval];refine ak (kx (ayk o) (vk g) _) rfl ?_;simp only[VV,seval];exact gL a (by rfl) (by simp[LW])
 have h:¬((o.axW≠1/\o.axW≠2)\/jf o.ax5≠o.ax5):=by
  intro b;have:(o.axW != 1&&o.axW != 2||!rY o.ax5 []==o.ax5)=G:=by simpa[jf]using b
  rw[h]at this;simp at this
 rw[ao h,aO e];simp only[JE];intros;simp only[VV,seval];exact gL a (by rfl) (by simp[LW])
def Z7(b:o.axZ)(J:ai):bh A 259 [.agg o.axV] J (.s (cF o)):=by
 refine aT func259 amu.2 λa c=>an ?_;simp only[amu,SS,seval];simp only[bf.axV,cz.axV,En.axV,VV,seval];refine ak (qi o b _) rfl ?_;simp only[VV,seval];refine⟨λh=>?_,λh=>?_⟩
 .have h:eO o≠0:=by simpa using h
  exact aS a (by simp only[RS,seval];rfl) (by simp[LW]) ⟨by simp only[cF,h,aR,gj,eP];rfl,rfl⟩
 have h:¬eO o≠0:=by simpa using h
 refine ak (Dj o _) rfl ?_;simp only[VV,seval];refine ak (J2 (ayk o) (vk b) _) rfl ?_;simp only[VV,seval];exact aS a (by simp only[RS,seval];rfl) (by simp[LW]) ⟨by simp only[cF,ao h];rfl,rfl⟩
def ak8:n.fdiv (2^min 8 IntKind.i64.bits)=n / 256:=by
 have:(2:Int)^min 8 IntKind.i64.bits=256:=by decide
 rw[this,ic _ (by decide)]
def agX:n.fdiv (2^min 16 IntKind.i64.bits)=n / 65536:=by
 have:(2:Int)^min 16 IntKind.i64.bits=65536:=by decide
 rw[this,ic _ (by decide)]
def Jn:IntKind.u8.wrap n=((jT n).toNat:Int):=by
 have a:IntKind.u8.wrap n=n % 256:=by simp[IntKind.wrap,IntKind.bits,IntKind.signed]
 rw[a];have b:0<=n % 256:=agT _ (by decide);have c:n % 256<256:=TG _ (by decide);simp only[jT,oG];omega
def agZ:aC b++[[V.i .u8 (jT (n / 256)).toNat],[V.i .u8 (jT n).toNat]]=aC (b++sN n):=by simp[aC,sN]
def E0(c:X b<2^46)(J ext:ai):PC A 206 [.own (X J) a,.I n] (J++(.row 5 1 1 a Z (aC b)::ext)) (λr d=>r=.own (X J) (a+1)/\d=J++(.row 5 1 1 (a+1) Z (aC (b++sN n))::ext)):=by refine aT func206 ad4.2 λe f=>an ?_;simp only[ad4,SS,seval];simp only[ak8,Jn,bC,agZ,maxLen,VV,seval,-Int.reduceLE];refine⟨by omega,by omega,?_⟩;exact fp rfl (Wk.refl _ _) rfl ⟨rfl,rfl⟩
def V4(a:X b<2^46)(J:ai):PC A 206 [.lit 1 (aC b),.I n] J (λr c=>r=.own (X J) 0/\c=J++[.row 5 1 1 0 Z (aC (b++sN n))]):=by refine aT func206 ad4.2 λd e=>an ?_;simp only[ad4,SS,seval];simp only[ak8,Jn,bC,agZ,maxLen,gm,aI,VV,seval,-Int.reduceLE];refine⟨by omega,by omega,?_⟩;exact fp rfl (Wk.refl _ _) rfl ⟨rfl,rfl⟩
def VI(c:X b<2^45)(J ext:ai):PC A 205 [.own (X J) a,.I n] (J++(.row 5 1 1 a Z (aC b)::ext)) (λr d=>r=.own (X J) (a+2)/\d=J++(.row 5 1 1 (a+2) Z (aC (b++DS n))::ext)):=by refine aT func205 ad5.2 λe f=>an ?_;simp only[ad5,SS,seval];simp only[agX,VV,seval,-Int.reduceLE];refine⟨by decide,?_⟩;refine ak (E0 b (n / 65536) a (by omega) J ext) rfl ?_;simp only[VV,seval];refine ak (E0 (b++sN (n / 65536)) n (a+1) (by simp[sN];omega) J ext) rfl ?_;simp only[VV,seval];refine fp rfl (Wk.refl _ _) rfl ⟨rfl,?_⟩;simp only[DS,aJ]
def S2(a:X b<2^45)(J:ai):PC A 205 [.lit 1 (aC b),.I n] J (λr c=>r=.own (X J) 1/\c=J++[.row 5 1 1 1 Z (aC (b++DS n))]):=by refine aT func205 ad5.2 λd e=>an ?_;simp only[ad5,SS,seval];simp only[agX,VV,seval,-Int.reduceLE];refine⟨by decide,?_⟩;refine ak (V4 b (n / 65536) (by omega) J) rfl ?_;simp only[VV,seval];refine ak (E0 (b++sN (n / 65536)) n 0 (by simp[sN];omega) J []) rfl ?_;simp only[VV,seval];refine fp rfl (Wk.refl _ _) rfl ⟨rfl,?_⟩;simp only[DS,aJ]
def pE:ar:=[.s b]
def aeC{J ext:ai}(e:X N<2^63)(n:∀s∈N,X s<2^40):∀(a d:gf) (b:aL) (g:Nat),N=d++a ->X b+X a*2^41<2^45 ->((fh (.own (X J) (g+3*X a)) (fj 20 fo)) λp=>K (.exit 0) ⟨p,J++(.row 5 1 1 (g+3*X a) Z (aC (b++a.flatMap eY))::ext)⟩) ->gF m A LR K (X a+1) ⟨(.own (X J) g::uu 6 (.sl 1 (N.map pE)::.I (X N)::.I (X d)::uu 11 [])),J++(.row 5 1 1 g Z (aC b)::ext)⟩:=by
 intro a;induction a with
 |nil =>intro d b g f j i;have f:=dH f;subst f;refine aD λR k=>?_;simp only[LR,VV,seval];simp only[aj,Nat.mul_zero,cg,lB,bE]at i;exact⟨λh=>by simp at h,λ_=>i ..⟩
 |cons c a ih =>
 intro d b g f j i;subst f;have r:=n c (by simp);simp only[ah]at j i;refine aD λR k=>?_;simp only[LR,pE,VV,seval];refine⟨λ_=>⟨by simp;omega,?_⟩,λh=>by simp at h<;>omega⟩;refine ak (VI b (X c) g (by omega) J ext) rfl ?_;simp only[bC,maxLen,VV,seval];refine⟨by simp[fI];omega,?_⟩;have l:b++DS (X c)++c=b++eY c:=by simp[eY]
 rw[fD,l];refine k _ (bL ?_ (ih (d++[c]) (b++eY c) (g+3) (by simp) (by simp[eY,fI];omega) ?_));.rw[cT (by simp at e;omega)];simp only[ae,ah,aj];repeat' constructor
 have o:g+3+3*X a=g+3*(X a+1):=by omega
 have q:b++eY c++a.flatMap eY=b++(c::a).flatMap eY:=by simp
 rw[o,q];exact i
def WX(h:X N<=3)(e:∀s∈N,X s<2^40)(c:X b<2^44)(J ext:ai):PC A 208 [.own (X J) a,.sl 1 (N.map pE)] (J++(.row 5 1 1 a Z (aC b)::ext)) (λr d=>r=.own (X J) (a+3*X N)/\d=J++(.row 5 1 1 (a+3*X N) Z (aC (b++N.flatMap eY))::ext)):=by
 refine aT func208 amU.2 λf g=>an ?_;simp only[amU,SS,seval];simp only[ab,VV,seval];refine cD.bL ?_ (X N+1) (aeC N (by omega) e N [] b a rfl (by omega) ?_);.repeat' constructor
 simp only[JE];intros;simp only[VV,seval];exact fp rfl (Wk.refl _ _) rfl ⟨rfl,rfl⟩
def Zp:aC b++[[V.i .u8 (jT n).toNat]]=aC (b++[jT n]):=by simp[aC]
def aec{o:bf}(h:eO o=0):X o.ax5<=8:=by
 have a:jf o.ax5=o.ax5:=by
  simp only[eO]at h;split at h;.simp at h
  split at h;.simp at h
  rename_i c;by_cases a:jf o.ax5=o.ax5;.exact a
  exact absurd (.inr a) c
 have b:jf o.ax5=(kT o.ax5 [] 8).take (ig o.ax5 [] 8):=rfl;rw[<- a,b];simp[mO];omega
def xO:(l.map λ_=>2).sum=2*X l:=by induction l with|nil=>rfl|cons x l ih=>simp only[az,List.sum_cons,ih,ah];omega
def iW:X (eY b)=X b+4:=by simp[eY,fI];omega
def aqJ(c:X b<2^46)(J:ai)(o1:Ob)(ext:ai):PC A 206 [.own (X J+1) a,.I n] (J++(o1::.row 5 1 1 a Z (aC b)::ext))
  (λr d=>r=.own (X J+1) (a+1)/\d=J++(o1::.row 5 1 1 (a+1) Z (aC (b++sN n))::ext)):=by have:=E0 b n a c (J++[o1]) ext;simpa only[ae,ah,aj,aP,aJ,aF,aw]using this
def apC(c:X b<2^45)(J:ai)(o1:Ob)(ext:ai):PC A 205 [.own (X J+1) a,.I n] (J++(o1::.row 5 1 1 a Z (aC b)::ext))
  (λr d=>r=.own (X J+1) (a+2)/\d=J++(o1::.row 5 1 1 (a+2) Z (aC (b++DS n))::ext)):=by have:=VI b n a c (J++[o1]) ext;simpa only[ae,ah,aj,aP,aJ,aF,aw]using this
def U6(e:X N<=3)(f:∀s∈N,X s<2^40)(c:X b<2^44)(J:ai)(o1:Ob)(ext:ai):PC A 208 [.own (X J+1) a,.sl 1 (N.map pE)] (J++(o1::.row 5 1 1 a Z (aC b)::ext))
  (λr d=>r=.own (X J+1) (a+3*X N)/\d=J++(o1::.row 5 1 1 (a+3*X N) Z (aC (b++N.flatMap eY))::ext)):=by have:=WX b N a e f c (J++[o1]) ext;simpa only[ae,ah,aj,aP,aJ,aF,aw]using this
def aeS{o1:Ob}(i:X l<2^30):∀(a d:bH) (b:aL) (g:Nat),l=d++a ->X b+2*X a<2^45 ->((fj 1 (fh (q) (fj 1 (fh (.I 0) (fj 1 (fh (.own (X J+1) (g+X a)) (fj 93 fo))))))) λp=>K (.exit 0) ⟨p,J++[o1,.row 5 1 1 (g+X a) Z (aC (b++a.flatMap sN))]⟩) ->gF m A Mc K (X a+1) ⟨(uu 1 (q::uu 1 (.I 0::uu 1 (.own (X J+1) g::uu 40 (.sl 1 (l.map cG)::.I (X l)::.I (X d)::uu 50 []))))),J++[o1,.row 5 1 1 g Z (aC b)]⟩:=by
 intro a;induction a with
 |nil =>intro d b g e k f;have e:=dH e;subst e;refine aD λR n=>?_;simp only[Mc,VV,seval];simp only[aj,Nat.mul_zero,cg,lB,bE]at f;exact⟨λh=>by simp at h,λ_=>f ..⟩
 |cons c a ih =>
 intro d b g e k f;subst e;simp only[ah]at k f;refine aD λR n=>?_;simp only[Mc,cG,VV,seval];refine⟨λ_=>⟨by simp;omega,?_⟩,λh=>by simp at h<;>omega⟩;have j:=E0 b c g (by omega) (J++[o1]) [];simp only[ae,ah,aj,aP,aJ,aF,aw]at j;refine ak j rfl ?_;simp only[VV,seval];refine n _ (bL ?_ (ih (d++[c]) (b++sN c) (g+1) (by simp) (by simp[gU];omega) ?_));.rw[cT (by simp at i;omega)];simp only[ae,ah,aj];repeat' constructor
 have o:g+1+X a=g+(X a+1):=by omega
 have r:b++sN c++a.flatMap sN=b++(c::a).flatMap sN:=by simp
 rw[o,r];exact f
def yx(a:o.axZ)(J:ai):bh A 164 [.agg o.axV] J (.iS [.sl 1 (aC (aya o).1),.I (aya o).2]):=by
 refine aT func164 ant.2 λd j=>an ?_;have q:=a.ax5;simp only[ant,SS,seval];simp only[bf.axV,cz.axV,En.axV,VV,seval];refine ak (qi o a _) rfl ?_;simp only[VV,seval];refine⟨λh=>?_,λh=>?_⟩
 .have h:eO o≠0:=by simpa using h
  have e:aya o=([],eO o):=by simp only[aya,h,aR,gj,eP]
  rw[e];refine lE (ys:=[.sl 1 [],.I (eO o)]) d (.inr rfl) (by simp only[RS,seval];rfl) ?_ (by simp[LW]) ⟨rfl,rfl⟩;exact .cons (.nil _) (.cons (.refl _) .nil)
 have h:eO o=0:=by simpa using h
 have e:aya o=(dx o,0):=by simp only[aya,h,gj,fU,bo]
 rw[e];have m:X o.ax5<=8:=(aec h);have l:=a.axY.cJ;have n:=a.axY.next;have k:=a.dL;have p:=a.dh;have g:=oC o.axY.ax3 a.axY.ax3 a.axY.kz (λx c=>a.axY.ids x (by simp[c]));have i:=oC o.axY.ax4 a.axY.ax4 a.axY.rl (λx c=>a.axY.ids x (by simp[c]));simp only[Jn];have f:=S2 [1,jT o.axW] o.aZ.time (by simp) (J++[Ob.box 57 (bf.axV o)]);simp only[ae,ah,aj,aP,aJ,aF,aw,bf.axV,cz.axV,En.axV]at f;refine ak f rfl ?_;simp only[Jn,bC,Zp,maxLen,VV,seval];refine⟨by simp[fI],?_⟩;refine ak (aqJ _ o.aZ.ax0 2 (by simp[fI]) J _ []) rfl ?_;simp only[Jn,bC,Zp,maxLen,ab,VV,seval];refine⟨by simp[fI,gU],?_⟩;refine cD.bL ?_ (X o.ax5+1) (aeS (.ptr (X J) 0) o.ax5 (by omega) o.ax5 [] _ 4 rfl (by simp[fI,gU];omega) ?_);.repeat' constructor
 simp only[JE];intros;simp only[VV,seval];refine ak (Cr o.axY.ax3 a.axY.ax3 a.axY.kz (λx c=>a.axY.ids x (by simp[c])) _) rfl ?_;simp only[VV,seval];refine kh (zs:=[.own (X J+1) (4+X o.ax5),.sl 1 ([(ayj o.axY.ax3).1,o.axY.cJ,o.axY.next].map pE)]) (.cons (.refl _) (.cons (.lit _ _) .nil)) (U6 _ _ _ (by simp) (by simp;omega) (by simp[fI,gU,xO];omega) J _ _) ?_;simp only[VV,seval];refine⟨λb=>?_,λb=>?_⟩
 .have b:o.axW=1:=by simpa using b
  refine ak (Cr o.axY.ax4 a.axY.ax4 a.axY.rl (λx c=>a.axY.ids x (by simp[c])) _) rfl ?_;simp only[VV,seval];refine kh (zs:=[.own (X J+1) _,.sl 1 ([(ayj o.axY.ax4).1,o.axY.dL,o.axY.dh].map pE)]) (.cons (.refl _) (.cons (.lit _ _) .nil)) (U6 _ _ _ (by simp) (by simp;omega) (by simp[fI,gU,xO,iW];omega) J _ _) ?_;simp only[Jn,VV,seval];refine ak (apC _ o.axY.ayd _ (by simp[fI,gU,xO,iW];omega) J _ _) rfl ?_;simp only[bC,Zp,maxLen,VV,seval];refine⟨by simp[fI,gU,xO,iW];omega,?_⟩;refine fB 1 d (by simp only[RS,seval];rfl) rfl (by simp only[az,aq,fz,jR,cw,aR,LW]) ⟨?_,rfl⟩;simp only[Pm.cM,az,aq,aQ,bj,fz,jR,cw,aR];congr 3;simp[dx,b]
 have b:¬o.axW=1:=by simpa using b
 refine fB 1 d (by simp only[RS,seval];rfl) rfl (by simp only[az,aq,fz,jR,cw,aR,LW]) ⟨?_,rfl⟩;simp only[Pm.cM,az,aq,aQ,bj,fz,jR,cw,aR];congr 3;simp[dx,b]
def acM:(aC (DS n)).isEmpty=Z:=rfl
def akj:(aC (sN n)).isEmpty=Z:=rfl
def qc:(aC (eY b)).isEmpty=Z:=rfl
def aqT(b:aL):[V.i .u8 1]::[V.i .u8 ((jT n).toNat:Int)]::aC b=aC (1::jT n::b):=by simp[aC]
def ahY(b:aL):aC b++[[V.i .u8 ((jT n).toNat:Int)]]=aC (b++[jT n]):=by simp[aC]
def l8:X (aC b)=X b:=by simp[aC]
def ae8{o1:Ob}(f:X l<2^30):∀(a d:bH) (b:aL) (g:Nat),l=d++a ->X b+2*X a<2^45 ->(∀g,((fj 1 (fh (q) (fj 3 (fh (.own (X J+1) g) (fj 94 fo))))) λp=>K (.exit 0) ⟨p,J++[o1,.row 5 1 1 g Z (aC (b++a.flatMap sN))]⟩)) ->gF m A Mr K (X a+1) ⟨(uu 1 (q::uu 3 (.own (X J+1) g::uu 39 (.sl 1 (l.map cG)::.I (X l)::.I (X d)::uu 52 [])))),J++[o1,.row 5 1 1 g Z (aC b)]⟩:=by
 intro a;induction a with
 |nil =>intro d b g e k i;have e:=dH e;subst e;refine aD λR n=>?_;simp only[Mr,VV,seval];simp only[lB,bE]at i;exact⟨λh=>by simp at h,λ_=>i ..⟩
 |cons c a ih =>
 intro d b g e k i;subst e;simp only[ah]at k;have o:gi (List.map cG (d++c::a)) (X d) 0=some (.I c):=oE;have j:=eE d c (by simp at f;omega);refine aD λR n=>?_;simp only[Mr,al,o,j,ab,VV,seval];refine⟨λ_=>⟨by simp;omega,?_⟩,λh=>by simp at h<;>omega⟩;refine ak (nD c 2 (by decide) _) rfl ?_;simp only[aae,fD,l8,gU,maxLen,j,VV,seval];refine⟨⟨by omega,by omega⟩,?_⟩;refine n _ (bL ?_ (ih (d++[c]) (b++sN c) (g+1) (by simp) (by simp[gU];omega) ?_));.repeat' constructor
 have r:b++sN c++a.flatMap sN=b++(c::a).flatMap sN:=by simp
 rw[r];exact i
set_option maxRecDepth 4000 in
def rq(a:o.axZ)(J:ai):bh A 121 [.agg o.axV] J (.iS [.sl 1 (aC (aya o).1),.I (aya o).2]):=by
 refine aT func121 an6.2 λd k=>an ?_;have q:=a.ax5;simp only[an6,SS,seval];simp only[bf.axV,cz.axV,En.axV,VV,seval];refine ak (ml o a _) rfl ?_;simp only[VV,seval];refine⟨λh=>?_,λh=>?_⟩
 .have h:eO o≠0:=by simpa using h
  have e:aya o=([],eO o):=by simp only[aya,h,aR,gj,eP]
  rw[e];refine lE (ys:=[.sl 1 [],.I (eO o)]) d (.inr rfl) (by simp only[RS,seval];rfl) ?_ (by simp[LW]) ⟨rfl,rfl⟩;exact .cons (.nil _) (.cons (.refl _) .nil)
 have h:eO o=0:=by simpa using h
 have e:aya o=(dx o,0):=by simp only[aya,h,gj,fU,bo]
 rw[e];have m:=a.axY.cJ;have n:=a.axY.next;have l:=a.dL;have p:=a.dh;have i:=oC o.axY.ax3 a.axY.ax3 a.axY.kz (λx c=>a.axY.ids x (by simp[c]));have j:=oC o.axY.ax4 a.axY.ax4 a.axY.rl (λx c=>a.axY.ids x (by simp[c]));refine ak (nD o.aZ.time 4 (by decide) _) rfl ?_;simp only[ML,Bd,acM,aqT,ahY,fD,l8,fI,aI,maxLen,VV,Int.reduceBEq,Int.reduceBNe,Nat.reduceAdd,Nat.reduceSub,Nat.reduceLeDiff,Nat.reduceEqDiff,Int.reduceToNat,reduceIte,reduceCtorEq];refine⟨⟨by omega,by omega⟩,⟨by omega,by omega⟩,?_⟩;refine ak (nD o.aZ.ax0 2 (by decide) _) rfl ?_;simp only[aae,Bd,akj,ahY,fD,l8,gU,fI,ae,ah,ab,aI,maxLen,VV,Int.reduceBEq,Int.reduceBNe,Nat.reduceAdd,Nat.reduceSub,Nat.reduceLeDiff,Nat.reduceEqDiff,Int.reduceToNat,reduceIte,reduceCtorEq];refine⟨⟨by omega,by omega⟩,⟨by omega,by omega⟩,?_⟩;refine cD.bL ?_ (X o.ax5+1) (ae8 (.ptr (X J) 0) o.ax5 (by omega) o.ax5 [] _ 3 rfl (by simp[fI,gU];omega) ?_);.repeat' constructor
 simp only[JE];intros;generalize f:(_++o.ax5.flatMap sN:aL)=B;have g:X B<2^40:=by rw[<- f];simp[fI,gU,xO];omega
 simp only[VV,seval];refine ak (wR o.axY.ax3 a.axY.ax3 a.axY.kz (λx c=>a.axY.ids x (by simp[c])) _) rfl ?_;simp only[qc,fD,l8,ae,iW,aI,maxLen,VV,seval];refine⟨⟨by omega,by omega⟩,?_⟩;refine ak (r9 o.axY.cJ (by omega) _) rfl ?_;simp only[qc,fD,l8,ae,iW,aI,maxLen,VV,seval];refine⟨⟨by omega,by omega⟩,?_⟩;refine ak (r9 o.axY.next (by omega) _) rfl ?_;simp only[qc,fD,l8,ae,iW,aI,maxLen,VV,seval];refine⟨⟨by omega,by omega⟩,?_⟩;refine⟨λb=>?_,λb=>?_⟩
 .have b:o.axW=1:=by simpa using b
  refine ak (wR o.axY.ax4 a.axY.ax4 a.axY.rl (λx c=>a.axY.ids x (by simp[c])) _) rfl ?_;simp only[qc,fD,l8,ae,iW,aI,maxLen,VV,seval];refine⟨⟨by omega,by omega⟩,?_⟩;refine ak (r9 o.axY.dL (by omega) _) rfl ?_;simp only[qc,fD,l8,ae,iW,aI,maxLen,VV,seval];refine⟨⟨by omega,by omega⟩,?_⟩;refine ak (r9 o.axY.dh (by omega) _) rfl ?_;simp only[qc,fD,l8,ae,iW,aI,maxLen,VV,seval];refine⟨⟨by omega,by omega⟩,?_⟩;refine ak (nD o.axY.ayd 4 (by decide) _) rfl ?_;simp only[ML,Bd,ahY,acM,fI,fD,l8,ae,iW,aI,maxLen,VV,seval];refine⟨⟨by omega,by omega⟩,⟨by omega,by omega⟩,?_⟩;refine fB 1 d (by simp only[RS,seval];rfl) rfl (by simp only[az,aq,fz,jR,cw,aR,LW]) ⟨?_,rfl⟩;simp only[Pm.cM,az,aq,aQ,bj,fz,jR,cw,aR];congr 3;simp[dx,b,<- f]
 have b:¬o.axW=1:=by simpa using b
 refine fB 1 d (by simp only[RS,seval];rfl) rfl (by simp only[az,aq,fz,jR,cw,aR,LW]) ⟨?_,rfl⟩;simp only[Pm.cM,az,aq,aQ,bj,fz,jR,cw,aR];congr 3;simp[dx,b,<- f]
def BY:ai:=U.set a (.box 191 [.sl 1 (aC r.b),.b r.bad])
def adJ:X (BY U a r)=X U:=by simp[BY]
def Ay(h:m<X J):(BY J m Q)[m]?=some (.box 191 [.sl 1 (aC Q.b),.b Q.bad]):=by simp[BY,h]
def Aw:(BY J m Q).set m (.box 191 [.sl 1 (aC T),.b c])=BY J m ⟨T,c⟩:=by simp[BY]
def xK:(aC b).take a=aC (b.take a):=by simp[aC,fM]
def xL:(aC b).drop a=aC (b.drop a):=by simp[aC,kI]
def RF{T:Nat}{i b:ar}(h:bW (J.set m (.box T i)))(g:∀x∈b,x.Lt (X J)):bW (J.set m (.box T b)):=by
 intro id f c a j x d;rw[fw];by_cases e:m=id
 .subst e;rw[iT]at a;simp only[aR]at a;split at a;.simp only[aa,Ob.box.injEq]at a;obtain⟨_,rfl⟩:=a;exact g x (bn d)
  simp at a
 rw[bD e]at a;have:=h id f c (by rw[bD e];exact a) j x d;rwa [fw]at this
def TO(f:a<X U)(r:Rb)(D:X r.b<2^60)(n:Nat)(E:n<2^62): PC A 204 [.ptr a 0,.I n] (BY U a r) (λv t=>v=.sl 1 (aC (r.take n).1)/\t=BY U a (r.take n).2):=by
 refine aT func204 amW.2 λm C=>an ?_;simp only[amW,SS,seval];by_cases h:X r.b<n
 .have c:decide ((X r.b:Int)<(n:Int))=G:=by simp;omega
  have z:(if(4:Int)<(n:Int)then 4 else(n:Int))=((min n 4:Nat):Int):=by omega
  have e:r.take n=(List.replicate (min n 4) 0,⟨[],G⟩):=by simp only[Rb.take,aO h]
  rw[e];simp only[Ay f,Aw,bC,c,z,al,VV,seval];refine⟨⟨by omega,.inl trivial,by omega,by omega,by simp only[maxLen];omega⟩,?_⟩;have s:bW ((BY U a ⟨r.b,G⟩).set a (.box 191 [.nil,.b G])):=by simp only[BY,lF]at m |-;exact RF m (by simp only[bw,bM,mg,Ew,forall_eq];exact⟨.nil,.b _⟩)
  have o:X ((BY U a ⟨r.b,G⟩).set a (.box 191 [.nil,.b G]))=X U:=by simp[BY]
  have l:((BY U a ⟨r.b,G⟩).set a (.box 191 [.nil,.b G]))[a]?=some (.box 191 [.nil,.b G]):=by simp[BY,f]
  have p:((BY U a ⟨r.b,G⟩).set a (.box 191 [.nil,.b G])).set a (.box 191 ([V.nil,.b G].set 0 (.sl 1 [])))=BY U a ⟨[],G⟩:=by simp[BY,aC]
  have d:List.replicate (min n 4) [V.i .u8 0]=aC (List.replicate (min n 4) 0):=by simp[aC]
  rw[d];generalize (BY U a ⟨r.b,G⟩).set a (.box 191 [.nil,.b G])=σ1 at s o l p;refine gT (xs:=[.own (X σ1) 0]) (xs':=[.sl 1 (aC (List.replicate (min n 4) 0))]) (.inr rfl) (by simp only[lG,vf,VV,seval]) ?_ rfl ⟨rfl,rfl⟩;have g:=Wk.qM (P:=A) (n:=X U) (xs:=[.own (X σ1) 0]) (J:=σ1) (loc:=[Ob.row 5 1 1 0 Z (aC (List.replicate (min n 4) 0))]) 0 rfl;simp only[az,aq,fz,jR,cw,aR,cg]at g;have q:=Wk.yL (P:=A) (xs:=[V.sl 1 (aC (List.replicate (min n 4) 0))]) (loc:=[Ob.row 5 1 1 0 G (aC (List.replicate (min n 4) 0))]) s (by simp[LW]);have k:=Wk.cell (P:=A) (n:=X U) (xs:=[V.sl 1 (aC (List.replicate (min n 4) 0))]) (j:=0) (x:=.nil) (y:=.sl 1 []) l rfl (λw B v _ h=>by rw[h.nF];exact .D1 _);rw[p]at k;rw[o]at q;rw[adJ];exact(g.trans q).trans k
 have c:decide ((X r.b:Int)<(n:Int))=Z:=by simp;omega
 have e:r.take n=(r.b.take n,⟨r.b.drop n,r.bad⟩):=by simp only[Rb.take,ao h]
 have u:List.take (X r.b - n) (List.drop n (aC r.b))=aC (r.b.drop n):=by rw[xL];exact cc (by simp[aC])
 rw[e];simp only[Ay f,bC,xK,u,Aw,c,VV,seval,-Int.reduceLE];exact⟨⟨by omega,by omega,by omega⟩,⟨by omega,by omega,by omega⟩,fp rfl (Wk.refl _ _) rfl ⟨rfl,rfl⟩⟩
def Zf(c:Nat)(g:a<2^40)(d:c<256):IntKind.i64.wrap (((BitVec.ofInt IntKind.i64.bits (IntKind.i64.wrap ((a:Int)*2^min 8 IntKind.i64.bits)) ||| BitVec.ofInt IntKind.i64.bits (IntKind.i64.wrap (c:Int))).toNat:Nat):Int)=((a*256+c:Nat):Int):=by
 have b:(a:Int)*2^min 8 IntKind.i64.bits=((a*256:Nat):Int):=by simp[IntKind.bits]
 have w:∀k:Nat,k<2^62->IntKind.i64.wrap (k:Int)=k:=λk f=>IntWalk.i64_in _ (by omega);have e:(BitVec.ofInt IntKind.i64.bits ((a*256:Nat):Int) ||| BitVec.ofInt IntKind.i64.bits (c:Int)).toNat=a*256+c:=by show(BitVec.ofInt 64 ((a*256:Nat):Int) ||| BitVec.ofInt 64 (c:Int)).toNat=a*256+c;rw[kn,kn,BitVec.toNat_or,lC,lC,iM (by omega),iM (by omega),iB a 256];exact(ahA (i:=8) d a).symm
 rw[b,w (a*256) (by omega),w c (by omega),e,w (a*256+c) (by omega)]
def aeT(g:X b<=4):∀(f d:aL) (n:Nat),b=d++f->n<256^X d ->((fj 5 (fh (.I (f.foldl (λa x=>a*256+x.toNat) (n:Int))) (fj 17 fo))) λq=>K (.exit 0) ⟨q,J⟩) ->gF m A Md K (X f+1) ⟨(uu 5 (.I (n:Int)::uu 4 (.sl 1 (aC b)::.I (X b)::.I (X d)::uu 10 []))),J⟩:=by
 intro f;induction f with
 |nil =>intro d n k t j;have k:=dH k;subst k;refine aD λR l=>?_;simp only[Md,VV,seval];exact⟨λh=>by simp at h,λ_=>j ..⟩
 |cons c f ih =>
 intro d n k t j;subst k;have s:=eE d c (by simp at g;omega);have p:gi (aC (d++c::f)) (X d) 0=some (.i .u8 c.toNat):=by simp[gi,aC]
 refine aD λR l=>?_;have v:n<2^32:=by
  have j:X d<=3:=by simp at g;omega
  have u:256^X d<=256^3:=wc (by decide) j;omega
 have o:c.toNat<256:=c.toNat_lt;have e:=Zf n c.toNat (by omega) o;simp only[Md,al,bC,p,s,e,VV,seval,-Int.reduceLE];refine⟨λ_=>⟨⟨by omega,by simp;omega⟩,by decide,?_⟩,λh=>by simp at h<;>omega⟩;refine l _ (bL (by repeat' constructor) (ih (d++[c]) (n*256+c.toNat) (by simp) (by simp only[ae,ah,aj,Yr];omega) ?_));have r:((n*256+c.toNat:Nat):Int)=(n:Int)*256+(c.toNat:Int):=by omega
 rw[r];exact j
def CY(e:a<X U)(r:Rb)(f:X r.b<2^60)(n:Nat)(i:n<=4): PC A 161 [.ptr a 0,.I n] (BY U a r) (λv c=>v=.I (r.ax0 n).1/\c=BY U a (r.ax0 n).2):=by
 refine aT func161 anw.2 λg h=>an ?_;simp only[anw,SS,seval];simp only[VV,seval];refine ak (TO U a e r f n (by omega)) rfl ?_;have d:X (r.take n).1<=4:=by simp only[Rb.take];split<;>simp<;>omega
 simp only[bC,VV,seval];refine cD.bL (fr':=(uu 5 (.I ((0:Nat):Int)::uu 4 (.sl 1 (aC (r.take n).1)::.I (X (r.take n).1)::.I (X ([]:aL):Nat)::uu 10 [])))) (by repeat' constructor) (X (r.take n).1+1) (aeT (r.take n).1 d (r.take n).1 [] 0 rfl (by decide) ?_);simp only[JE];intros;simp only[VV,seval];exact fp rfl (Wk.refl _ _) rfl ⟨rfl,rfl⟩
def JB(c:a<X U)(r:Rb)(i:X r.b<2^60): PC A 163 [.ptr a 0] (BY U a r) (λv j=>v=.s r.ax1.1/\j=BY U a r.ax1.2):=by
 refine aT func163 anu.2 λk l=>an ?_;simp only[anu,SS,seval];simp only[VV,seval];refine ak (CY U a c r i 4 (by decide)) rfl ?_;have g:=vi r 4 (by decide);have f:=om r 4;have e:r.ax1=if(X (r.ax0 4).2.b:Int)<(r.ax0 4).1 then([],⟨(r.ax0 4).2.b,G⟩)else(r.ax0 4).2.take (r.ax0 4).1.toNat:=rfl;rw[e];generalize r.ax0 4=p at g f;obtain⟨n,q⟩:=p;simp only at g f;obtain⟨m,rfl⟩:∃m:Nat,n=m:=⟨n.toNat,by omega⟩;by_cases h:(X q.b:Int)<(m:Int);.have d:decide ((X q.b:Int)<(m:Int))=G:=Af h;simp only[aO h];simp only[Ay c,Aw,bC,d,VV,seval];exact fp rfl (Wk.refl _ _) rfl ⟨rfl,rfl⟩
 have d:decide ((X q.b:Int)<(m:Int))=Z:=rT h;simp only[ao h,al];simp only[Ay c,Aw,bC,d,VV,seval];refine ak (TO U a c q (by omega) m (by omega)) rfl ?_;simp only[jC,VV,seval];exact fp rfl (Wk.refl _ _) rfl ⟨rfl,rfl⟩
def Iv(c:a<X U)(r:Rb)(h:X r.b<2^38):
  PC A 162 [.ptr a 0] (BY U a r) (λv d=>v=.sl 3 (r.ayn.1.map It.axV)/\d=BY U a r.ayn.2):=by refine aT func162 anv.2 λf g=>an ?_;have e:=oM r;simp only[anv,SS,seval];simp only[VV,seval];refine ak (JB U a c r (by omega)) rfl ?_;simp only[VV,seval];refine ak (qa r.ax1.1 (by omega) _) rfl ?_;simp only[Ay c,Aw,VV,seval];exact fp rfl (Wk.refl _ _) rfl ⟨rfl,rfl⟩
def RI{x y:Ob}{ext:ai}:BY (J++(x::y::ext)) (X J+1) Q=J++(x::.box 191 [.sl 1 (aC Q.b),.b Q.bad]::ext):=by simp[BY]
def lN{ext:ai}(h:(Rb.mk T c).ax0 a=(t,⟨P,R⟩))(f:X T<2^60)(e:a<=4):
  PC A 161 [.ptr (X J+1) 0,.I a] (J++(x::.box 191 [.sl 1 (aC T),.b c]::ext)) (λw d=>w=.I t/\d=J++(x::.box 191 [.sl 1 (aC P),.b R]::ext)):=by have:=CY (J++(x::.dead::ext)) (X J+1) (by simp) ⟨T,c⟩ f a e;rw[h]at this;simpa only[RI]using this
def yd{ext:ai}(h:(Rb.mk T c).ax1=(F,⟨P,R⟩))(d:X T<2^60):
  PC A 163 [.ptr (X J+1) 0] (J++(x::.box 191 [.sl 1 (aC T),.b c]::ext)) (λw a=>w=.s F/\a=J++(x::.box 191 [.sl 1 (aC P),.b R]::ext)):=by have:=JB (J++(x::.dead::ext)) (X J+1) (by simp) ⟨T,c⟩ d;rw[h]at this;simpa only[RI]using this
def yZ{ext:ai}{v:List It}(h:(Rb.mk T c).ayn=(v,⟨P,R⟩))(d:X T<2^38):
  PC A 162 [.ptr (X J+1) 0] (J++(x::.box 191 [.sl 1 (aC T),.b c]::ext)) (λw a=>w=.sl 3 (v.map It.axV)/\a=J++(x::.box 191 [.sl 1 (aC P),.b R]::ext)):=by have:=Iv (J++(x::.dead::ext)) (X J+1) (by simp) ⟨T,c⟩ d;rw[h]at this;simpa only[RI]using this
def Jc(a:aL)(J:ai):bh A 165 [.sl 1 (aC b),.sl 1 (aC a)] J (.b (b==a)):=by refine aT func165 ans.2 λc d=>an ?_;simp only[ans,SS,seval];simp only[jC,VV,seval];exact bt (by simp only[RS,seval];rfl) ⟨rfl,rfl⟩
def Kd(x:Int):l.map cG++[[V.i .i64 x]]=(l++[x]).map cG:=by simp[cG]
def afa(j p o:V)(t f a k:Int)(N:Nat)(D:N<256):∀(n:Nat) (b:aL) (c:Bool) (l:bH) (g:Nat),X l+n=N->X b<2^40 ->(∀g,((fh (j) (fj 1 (fh (.ptr (X J) 0) (fh (p) (fh (.ptr (X J+1) 0) (fh (.ptr (X J+2) 0) (fh (o) (fj 97 fo)))))))) λz=>K (.exit 0) ⟨z,J++[M,.box 191 [.sl 1 (aC (Rb.ax9 n ⟨b,c⟩).2.b),.b (Rb.ax9 n ⟨b,c⟩).2.bad],.box 57 [.I t,.I f,.I a,.I k,.nil,.nil,.s [],.s [],.s [],.s [],.I 0,.I 0,.own (X J+3) g],.row 3 1 8 g Z ((l++(Rb.ax9 n ⟨b,c⟩).1).map cG)]⟩)) ->gF m A Mu K (n+1) ⟨(j::uu 1 (.ptr (X J) 0::p::.ptr (X J+1) 0::.ptr (X J+2) 0::o::uu 19 (.I N::.I (X l)::uu 76 []))),J++[M,.box 191 [.sl 1 (aC b),.b c],.box 57 [.I t,.I f,.I a,.I k,.nil,.nil,.s [],.s [],.s [],.s [],.I 0,.I 0,.own (X J+3) g],.row 3 1 8 g Z (l.map cG)]⟩:=by
 intro n;induction n with
 |zero =>
  intro b c l g C y i;obtain rfl:N=X l:=by omega
  refine aD λR q=>?_;simp only[Mu,VV,seval];simp only[Rb.ax9,bE]at i;exact⟨λh=>by simp at h,λ_=>i ..⟩
 |succ n ih =>
 intro b c l g C y i;obtain⟨v,⟨x,w⟩,e⟩:∃v r,(Rb.mk b c).ax0 2=(v,r):=⟨_,_,rfl⟩;have d:=om ⟨b,c⟩ 2;rw[e]at d;simp only at d;have B:=eE l v (by omega);have u:decide ((X l:Int)<(N:Int))=G:=by simp;omega
 refine aD λR q=>?_;simp only[Mu,u,VV,seval];refine ak (lN 2 e (by omega) (by decide)) rfl ?_;simp only[B,ab,Kd,maxLen,VV,seval];refine⟨⟨by omega,by omega⟩,q _ (bL (by repeat' constructor) (ih x w (l++[v]) (g+1) (by simp;omega) (by omega) ?_))⟩;simp only[Rb.ax9,e]at i;simpa only[aJ,aF,aw]using i
def agw{n:Nat}{xs:ar}{J:ai}{b:aL}{c:Bool}{t f m k:Int}:Wk A n xs (J++[.box 57 [.I 0,.I 0,.I 0,.I 0,.nil,.nil,.s [],.s [],.s [],.s [],.I 0,.I 0,.nil],.box 191 [.sl 1 (aC b),.b c],.box 57 [.I t,.I f,.I m,.I k,.nil,.nil,.s [],.s [],.s [],.s [],.I 0,.I 0,.nil]]) xs (J++[.box 57 [.I 0,.I 0,.I 0,.I 0,.nil,.nil,.s [],.s [],.s [],.s [],.I 0,.I 0,.nil],.box 191 [.sl 1 (aC b),.b c],.box 57 [.I t,.I f,.I m,.I k,.nil,.nil,.s [],.s [],.s [],.s [],.I 0,.I 0,.own (X J+3) 0],.row 3 1 8 0 Z (([]:bH).map cG)]):=by have:=Wk.qN (P:=A) (n:=n) (xs:=xs) (id:=X J+2) (j:=12) (T:=57) (cs:=[.I t,.I f,.I m,.I k,.nil,.nil,.s [],.s [],.s [],.s [],.I 0,.I 0,.nil]) (J:=J++[.box 57 [.I 0,.I 0,.I 0,.I 0,.nil,.nil,.s [],.s [],.s [],.s [],.I 0,.I 0,.nil],.box 191 [.sl 1 (aC b),.b c],.box 57 [.I t,.I f,.I m,.I k,.nil,.nil,.s [],.s [],.s [],.s [],.I 0,.I 0,.nil]]) K5 (by simp) rfl;simpa only[ji,aJ,ae,ah,aj,aF,aw,cu,cH,aP,Nat.reduceAdd,aq]using this
def agv{n g:Nat}{xs:ar}{J:ai}{b:aL}{c:Bool}{t f m k:Int}{l:bH}(h:bW J)(p:n<=X J)(o:iY (X J+3) xs):Wk prog n xs (J++[.box 57 [.I 0,.I 0,.I 0,.I 0,.nil,.nil,.s [],.s [],.s [],.s [],.I 0,.I 0,.nil],.box 191 [.sl 1 (aC b),.b c],.box 57 [.I t,.I f,.I m,.I k,.nil,.nil,.s [],.s [],.s [],.s [],.I 0,.I 0,.own (X J+3) g],.row 3 1 8 g Z (l.map cG)]) xs (J++[.box 57 [.I 0,.I 0,.I 0,.I 0,.nil,.nil,.s [],.s [],.s [],.s [],.I 0,.I 0,.nil],.box 191 [.sl 1 (aC b),.b c],.box 57 [.I t,.I f,.I m,.I k,.nil,.nil,.s [],.s [],.s [],.s [],.I 0,.I 0,.sl 1 (l.map cG)]]):=by
 have a:=Wk.share (P:=prog) (n:=n) (xs:=xs) (J:=J++[.box 57 [.I 0,.I 0,.I 0,.I 0,.nil,.nil,.s [],.s [],.s [],.s [],.I 0,.I 0,.nil],.box 191 [.sl 1 (aC b),.b c],.box 57 [.I t,.I f,.I m,.I k,.nil,.nil,.s [],.s [],.s [],.s [],.I 0,.I 0,.own (X J+3) g],.row 3 1 8 g Z (l.map cG)]) (id:=X J+3) (E:=3) (sz:=1) (by':=8) (g:=g) (sh:=Z) (rows:=l.map cG) (by simp);have e:=Wk.ES (P:=prog) (n:=n) (xs:=xs) (J:=J++[.box 57 [.I 0,.I 0,.I 0,.I 0,.nil,.nil,.s [],.s [],.s [],.s [],.I 0,.I 0,.nil],.box 191 [.sl 1 (aC b),.b c],.box 57 [.I t,.I f,.I m,.I k,.nil,.nil,.s [],.s [],.s [],.s [],.I 0,.I 0,.own (X J+3) g],.row 3 1 8 g G (l.map cG)]) (id:=X J+2) (idr:=X J+3) (T:=57) (j:=12) (g:=g) (E:=3) (sz:=1) (by':=8) (rows:=l.map cG)
  (cs:=[.I t,.I f,.I m,.I k,.nil,.nil,.s [],.s [],.s [],.s [],.I 0,.I 0,.own (X J+3) g]) (by simp) rfl (by simp);simp only[ji,cu,cH]at a e;have i:bW (J++[.box 57 [.I 0,.I 0,.I 0,.I 0,.nil,.nil,.s [],.s [],.s [],.s [],.I 0,.I 0,.nil],.box 191 [.sl 1 (aC b),.b c],.box 57 [.I t,.I f,.I m,.I k,.nil,.nil,.s [],.s [],.s [],.s [],.I 0,.I 0,.sl 1 (l.map cG)]]):=cx h (by simp only[bw,bM,mg,Ew,forall_eq];refine⟨?_,?_,?_⟩<;>simp only[LW]);have d:=Wk.lA (P:=prog) (n:=n) (xs:=xs) (J:=J++[.box 57 [.I 0,.I 0,.I 0,.I 0,.nil,.nil,.s [],.s [],.s [],.s [],.I 0,.I 0,.nil],.box 191 [.sl 1 (aC b),.b c],.box 57 [.I t,.I f,.I m,.I k,.nil,.nil,.s [],.s [],.s [],.s [],.I 0,.I 0,.sl 1 (l.map cG)]]) (loc:=[.row 3 1 8 g G (l.map cG)]) (by simp;omega) i (dO.1 (by simpa using o));simp only[aJ,aF,aw]at d;exact(a.trans e).trans d
set_option maxRecDepth 4000 in
def PD(b:aL)(hb:X b<2^30)(J:ai):bh A 113 [.sl 1 (aC b)] J (.iS [.agg (Bt.decode b).1.axV,.I (Bt.decode b).2]):=by
 refine aT func113 aoc.2 λbd dG=>?_;simp only[aoc,SS,seval];obtain⟨v,⟨b1,c1⟩,e1⟩:∃v r,(Rb.mk b Z).ax0 1=(v,r):=⟨_,_,rfl⟩;obtain⟨k,⟨b2,c2⟩,e2⟩:∃v r,(Rb.mk b1 c1).ax0 1=(v,r):=⟨_,_,rfl⟩;obtain⟨t,⟨b3,c3⟩,e3⟩:∃v r,(Rb.mk b2 c2).ax0 4=(v,r):=⟨_,_,rfl⟩;obtain⟨f,⟨b4,c4⟩,e4⟩:∃v r,(Rb.mk b3 c3).ax0 1=(v,r):=⟨_,_,rfl⟩;obtain⟨m,⟨b5,c5⟩,e5⟩:∃v r,(Rb.mk b4 c4).ax0 2=(v,r):=⟨_,_,rfl⟩;obtain⟨n,⟨b6,c6⟩,e6⟩:∃v r,(Rb.mk b5 c5).ax0 1=(v,r):=⟨_,_,rfl⟩;have d1:=om ⟨b,Z⟩ 1;rw[e1]at d1;have d2:=om ⟨b1,c1⟩ 1;rw[e2]at d2;have d3:=om ⟨b2,c2⟩ 4;rw[e3]at d3;have d4:=om ⟨b3,c3⟩ 1;rw[e4]at d4;have d5:=om ⟨b4,c4⟩ 2;rw[e5]at d5;have d6:=om ⟨b5,c5⟩ 1;rw[e6]at d6;have n6:=vi ⟨b5,c5⟩ 1 (by decide);rw[e6]at n6;simp only at d1 d2 d3 d4 d5 d6 n6;obtain⟨N,rfl⟩:∃N:Nat,n=N:=⟨n.toNat,by omega⟩;refine cD.cut λR a=>?_;simp only[VV,seval];refine a _ (cD.fG (fr':=(.sl 1 (aC b)::uu 1 (.ptr (X J) 0::.I 0::uu 100 []))) ?_ (by repeat' constructor));clear a R;refine cD.cut λR a=>?_;simp only[VV,seval];refine a _ (cD.fG (fr':=(.sl 1 (aC b)::uu 1 (.ptr (X J) 0::.I 0::.ptr (X J+1) 0::uu 99 []))) ?_ (by repeat' constructor));clear a R;refine cD.cut λR a=>?_;simp only[VV,seval];refine a _ (cD.fG (fr':=(.sl 1 (aC b)::uu 1 (.ptr (X J) 0::.I 0::.ptr (X J+1) 0::.ptr (X J+2) 0::uu 98 []))) ?_ (by repeat' constructor));clear a R;refine cD.cut λR a=>?_;simp only[VV,seval];refine ak (lN 1 e1 (by omega) (by decide)) rfl ?_;simp only[VV,seval];refine a _ (cD.fG (fr':=(.sl 1 (aC b)::uu 1 (.ptr (X J) 0::.I 0::.ptr (X J+1) 0::.ptr (X J+2) 0::.I v::uu 97 []))) ?_ (by repeat' constructor));clear a R;refine cD.cut λR a=>?_;simp only[VV,seval];refine ak (lN 1 e2 (by omega) (by decide)) rfl ?_;simp only[VV,seval];refine a _ (cD.fG (fr':=(.sl 1 (aC b)::uu 1 (.ptr (X J) 0::.I 0::.ptr (X J+1) 0::.ptr (X J+2) 0::.I v::uu 97 []))) ?_ (by repeat' constructor));clear a R;refine cD.cut λR a=>?_;simp only[VV,seval];refine ak (lN 4 e3 (by omega) (by decide)) rfl ?_;simp only[VV,seval];refine ak (lN 1 e4 (by omega) (by decide)) rfl ?_;simp only[VV,seval];refine ak (lN 2 e5 (by omega) (by decide)) rfl ?_;simp only[VV,seval];refine a _ (cD.fG (fr':=(.sl 1 (aC b)::uu 1 (.ptr (X J) 0::.I 0::.ptr (X J+1) 0::.ptr (X J+2) 0::.I v::uu 97 []))) ?_ (by repeat' constructor));clear a R;refine cD.cut λR a=>?_;simp only[VV,seval];refine ak (lN 1 e6 (by omega) (by decide)) rfl ?_;simp only[VV,seval];obtain⟨ns,⟨b7,c7⟩,e7⟩:∃v r,Rb.ax9 N ⟨b6,c6⟩=(v,r):=⟨_,_,rfl⟩;have d7:=wK N ⟨b6,c6⟩;rw[e7]at d7;simp only at d7;refine cD.wk ((Wk.fG (ys:=(.sl 1 (aC b)::uu 1 (.ptr (X J) 0::.I 0::.ptr (X J+1) 0::.ptr (X J+2) 0::.I v::uu 19 (.I N::.I (X ([]:bH):Nat)::uu 76 [])))) (by repeat' constructor)).trans agw)
  (cD.mM (N+1) (afa (.box 57 [.I 0,.I 0,.I 0,.I 0,.nil,.nil,.s [],.s [],.s [],.s [],.I 0,.I 0,.nil]) (.sl 1 (aC b)) (.I 0) (.I v) t f m k N (by omega) N b6 c6 [] 0 (by simp) (by omega) ?_));intro g;simp only[JE];intros;rw[e7];simp only[aw,VV,seval];refine a _ (cD.wk ((Wk.fG (ys:=(.sl 1 (aC b)::uu 1 (.ptr (X J) 0::.I 0::.ptr (X J+1) 0::.ptr (X J+2) 0::.I v::uu 97 []))) (by repeat' constructor)).trans (agv bd (aB _) (by simp only[LW];omega))) ?_);clear a R;refine cD.cut λR a=>?_;obtain⟨src,⟨b8,c8⟩,e8⟩:∃v r,(Rb.mk b7 c7).ayn=(v,r):=⟨_,_,rfl⟩;have d8:=vQ ⟨b7,c7⟩;rw[e8]at d8;simp only at d8;simp only[VV,seval];refine ak (yZ e8 (by omega)) rfl ?_;simp only[VV,seval];refine a _ (cD.fG (fr':=(.sl 1 (aC b)::uu 1 (.ptr (X J) 0::.I 0::.ptr (X J+1) 0::.ptr (X J+2) 0::.I v::uu 97 []))) ?_ (by repeat' constructor));clear a R;refine cD.cut λR a=>?_;obtain⟨pv,⟨b9,c9⟩,e9⟩:∃v r,(Rb.mk b8 c8).ax1=(v,r):=⟨_,_,rfl⟩;have d9:=oM ⟨b8,c8⟩;rw[e9]at d9;simp only at d9;simp only[VV,seval];refine ak (yd e9 (by omega)) rfl ?_;simp only[VV,seval];refine a _ (cD.fG (fr':=(.sl 1 (aC b)::uu 1 (.ptr (X J) 0::.I 0::.ptr (X J+1) 0::.ptr (X J+2) 0::.I v::uu 97 []))) ?_ (by repeat' constructor));clear a R;refine cD.cut λR a=>?_;obtain⟨nx,⟨c,E⟩,d⟩:∃v r,(Rb.mk b9 c9).ax1=(v,r):=⟨_,_,rfl⟩;have am:=oM ⟨b9,c9⟩;rw[d]at am;simp only at am;simp only[VV,seval];refine ak (yd d (by omega)) rfl ?_;simp only[VV,seval];refine a _ (cD.fG (fr':=(.sl 1 (aC b)::uu 1 (.ptr (X J) 0::.I 0::.ptr (X J+1) 0::.ptr (X J+2) 0::.I v::uu 97 []))) ?_ (by repeat' constructor));clear a R;refine cD.cut λR a=>?_;have l:∀(x:bf) (C:aL) (o:Bool) {fr:ar} {s0:ai},x.axZ->X C<2^30->jm b=(x,v,⟨C,o⟩)->Wk A (X J) fr s0 ((.sl 1 (aC b)::uu 1 (.ptr (X J) 0::.I 0::.ptr (X J+1) 0::.ptr (X J+2) 0::.I v::uu 97 []))) (J++[.box 57 [.I 0,.I 0,.I 0,.I 0,.nil,.nil,.s [],.s [],.s [],.s [],.I 0,.I 0,.nil],.box 191 [.sl 1 (aC C),.b o],.box 57 x.axV])->R ⟨fr,s0⟩:=by
  intro x C o fr s0 hx a0 av hc;have e:Bt.decode b=if o=true\/0<X C\/v≠1 then(zQ,12)else if(aya x).2≠0\/(aya x).1≠b then(zQ,12)else(x,0):=by simp only[Bt.decode,av]
  refine a _ (cD.wk hc (an ?_));clear a R hc;simp only[bf.axV,cz.axV,En.axV,aF,aw,V.pure,bC,VV,seval];refine⟨λh=>?_,λh=>?_⟩
  .have h1:o=true\/0<X C\/v≠1:=by cases o<;>simp at h |-<;>omega
   rw[aO h1]at e;refine lE (ys:=[.agg zQ.axV,.I 12]) bd (.inr rfl) (by simp only[RS,seval];rfl) ?_ (by simp only[zQ,Sj,bf.axV,cz.axV,En.axV,aq,aF,aw,LW]) ⟨by rw[e];rfl,rfl⟩;refine .cons (Cv.iK ?_) (.cons (.refl _) .nil);simp only[zQ,Sj,bf.axV,cz.axV,En.axV,aq,aF,aw];repeat first|exact .nil|refine .cons (.refl _) ?_|refine .cons (.nil _) ?_
  have h1:¬(o=true\/0<X C\/v≠1):=by cases o<;>simp at h |-<;>omega
  rw[ao h1]at e;refine ak (yx x hx _) rfl ?_;simp only[bf.axV,cz.axV,En.axV,aF,aw,V.pure,VV,seval];refine cm (by simp only[VV,seval]<;>rfl) (λ_=>Jc (aya x).1 b _) rfl ?_;simp only[bf.axV,cz.axV,En.axV,aF,aw,V.pure,VV,seval];refine⟨λh=>?_,λh=>?_⟩
  .have h2:(aya x).2≠0\/(aya x).1≠b:=by simpa using h
   rw[aO h2]at e;refine lE (ys:=[.agg zQ.axV,.I 12]) bd (.inr rfl) (by simp only[RS,seval];rfl) ?_ (by simp only[zQ,Sj,bf.axV,cz.axV,En.axV,aq,aF,aw,LW]) ⟨by rw[e];rfl,rfl⟩;refine .cons (Cv.iK ?_) (.cons (.refl _) .nil);simp only[zQ,Sj,bf.axV,cz.axV,En.axV,aq,aF,aw];repeat first|exact .nil|refine .cons (.refl _) ?_|refine .cons (.nil _) ?_
  have h2:¬((aya x).2≠0\/(aya x).1≠b):=by simpa using h
  rw[ao h2]at e;refine aS bd (by simp only[RS,seval];rfl) (by simp[LW]) ⟨?_,rfl⟩;rw[e];rfl
 have D:=s9 ((Rb.mk b7 c7).ax1.1);rw[show(parse ((Rb.mk b7 c7).ax1.1)).1=src from congrArg Prod.fst e8]at D;simp only[VV,seval];refine⟨λh=>?_,λh=>?_⟩
 .have hk:k=1:=by simpa using h
  obtain⟨tg,⟨U,ac⟩,i⟩:∃v r,(Rb.mk c E).ayn=(v,r):=⟨_,_,rfl⟩;have Q:=vQ ⟨c,E⟩;rw[i]at Q;have Yy:=s9 ((Rb.mk c E).ax1.1);rw[show(parse ((Rb.mk c E).ax1.1)).1=tg from congrArg Prod.fst i]at Yy;obtain⟨au,⟨af,F⟩,B⟩:∃v r,(Rb.mk U ac).ax1=(v,r):=⟨_,_,rfl⟩;have W:=oM ⟨U,ac⟩;rw[B]at W;obtain⟨pr,⟨M,ad⟩,z⟩:∃v r,(Rb.mk af F).ax1=(v,r):=⟨_,_,rfl⟩;have L:=oM ⟨af,F⟩;rw[z]at L;obtain⟨cr,⟨H,O⟩,q⟩:∃v r,(Rb.mk M ad).ax0 4=(v,r):=⟨_,_,rfl⟩;have K:=om ⟨M,ad⟩ 4;rw[q]at K;obtain⟨og,⟨aM,aE⟩,u⟩:∃v r,(Rb.mk H O).ax0 1=(v,r):=⟨_,_,rfl⟩;have ap:=om ⟨H,O⟩ 1;rw[u]at ap;simp only at Q W L K ap;refine ak (yZ i (by omega)) rfl ?_;simp only[VV,seval];refine ak (yd B (by omega)) rfl ?_;simp only[VV,seval];refine ak (yd z (by omega)) rfl ?_;simp only[VV,seval];refine ak (lN 4 q (by omega) (by decide)) rfl ?_;simp only[VV,seval];refine ak (lN 1 u (by omega) (by decide)) rfl ?_;simp only[VV,seval];refine l ⟨⟨t,f,m⟩,k,⟨src,tg,pv,nx,au,pr,cr,og⟩,ns⟩ aM aE ⟨⟨D.1,D.2.1,Yy.1,Yy.2.1,by simp only;omega,by simp only;omega,λy p=>?_⟩,by simp only;omega,by simp only;omega,by simp only;omega⟩ (by omega) ?_ (Wk.fG (by repeat' constructor))
  .rcases bJ.1 p with p|p;.exact D.2.2 y p
   exact Yy.2.2 y p
  simp only[jm,e1,e2,e3,e4,e5,e6,al,e7,e8,e9,d,i,B,z,q,u,hk,aR]
 have hk:¬k=1:=by simpa using h
 have hw:=Wk.cell (P:=A) (n:=X J) (xs:=(.sl 1 (aC b)::uu 1 (.ptr (X J) 0::.I 0::.ptr (X J+1) 0::.ptr (X J+2) 0::.I v::uu 97 []))) (J:=J++[.box 57 [.I 0,.I 0,.I 0,.I 0,.nil,.nil,.s [],.s [],.s [],.s [],.I 0,.I 0,.nil],.box 191 [.sl 1 (aC c),.b E],.box 57 [.I t,.I f,.I m,.I k,.sl 3 (src.map It.axV),.nil,.s pv,.s nx,.s [],.s [],.I 0,.I 0,.sl 1 (ns.map cG)]]) (id:=X J+2) (T:=57) (j:=5) (x:=.nil) (y:=.sl 3 []) (cs:=[.I t,.I f,.I m,.I k,.sl 3 (src.map It.axV),.nil,.s pv,.s nx,.s [],.s [],.I 0,.I 0,.sl 1 (ns.map cG)]) (by simp) rfl (λw μ v _ h=>by rw[h.nF];exact .D1 _);simp only[ji,cu,cH]at hw;refine l ⟨⟨t,f,m⟩,k,⟨src,[],pv,nx,[],[],0,0⟩,ns⟩ c E ⟨⟨D.1,D.2.1,by simp,by simp[bA],by simp only;omega,by simp only;omega,λy p=>?_⟩,by simp,by simp,by simp only;omega⟩ (by omega) ?_ ((Wk.fG (by repeat' constructor)).trans hw);.simp only[bE]at p;exact D.2.2 y p
 simp only[jm,e1,e2,e3,e4,e5,e6,al,e7,e8,e9,d,hk,bo]
def TU:ai:=U.set a (.box 185 [.sl 1 (aC r.b),.b r.bad])
def yb(h:m<X J):(TU J m Q)[m]?=some (.box 185 [.sl 1 (aC Q.b),.b Q.bad]):=by simp[TU,h]
def Az:(TU J m Q).set m (.box 185 [.sl 1 (aC T),.b c])=TU J m ⟨T,c⟩:=by simp[TU]
def aeU(k:V)(l:aL)(f:X l<=4):∀(d b:aL) (n:Nat),l=b++d->n<256^X b ->((fh (q) (fh (k) (fj 3 (fh (.I (d.foldl (λa x=>a*256+x.toNat) (n:Int))) (fj 39 fo))))) λs=>K (.exit 0) ⟨s,J⟩) ->gF m A Me K (X d+1) ⟨(q::k::uu 3 (.I (n:Int)::uu 17 (.sl 1 (aC l)::.I (X l)::.I (X b)::uu 19 []))),J⟩:=by
 intro d;induction d with
 |nil =>intro b n j v g;have j:=dH j;subst j;refine aD λR o=>?_;simp only[Me,VV,seval];exact⟨λh=>by simp at h,λ_=>g ..⟩
 |cons c d ih =>
 intro b n j v g;subst j;have u:=eE b c (by simp at f;omega);have r:gi (aC (b++c::d)) (X b) 0=some (.i .u8 c.toNat):=by simp[gi,aC]
 have y:n<2^32:=by
  have g:X b<=3:=by simp at f;omega
  have w:256^X b<=256^3:=wc (by decide) g;omega
 have p:c.toNat<256:=c.toNat_lt;have e:=Zf n c.toNat (by omega) p;refine aD λR o=>?_;simp only[Me,al,bC,r,u,e,VV,seval,-Int.reduceLE];refine⟨λ_=>⟨⟨by omega,by simp;omega⟩,by decide,?_⟩,λh=>by simp at h<;>omega⟩;refine o _ (bL (by repeat' constructor) (ih (b++[c]) (n*256+c.toNat) (by simp) (by simp only[ae,ah,aj,Yr];omega) ?_));have t:((n*256+c.toNat:Nat):Int)=(n:Int)*256+(c.toNat:Int):=by omega
 rw[t];exact g
def wC(d:a<X U)(r:Rb)(l:X r.b<2^60)(n:Nat)(m:n<=4): PC A 157 [.ptr a 0,.I n] (TU U a r) (λv f=>v=.I (r.cI n).1/\f=TU U a (r.cI n).2):=by
 refine aT func157 anB.2 λj k=>an ?_;simp only[anB,SS,seval];by_cases h:X r.b<n
 .have c:decide ((X r.b:Int)<(n:Int))=G:=by simp;omega
  have e:r.cI n=(0,⟨r.b,G⟩):=by simp only[Rb.cI,aO h]
  rw[e];simp only[yb d,Az,bC,c,VV,seval];exact fp rfl (Wk.refl _ _) rfl ⟨rfl,rfl⟩
 have c:decide ((X r.b:Int)<(n:Int))=Z:=by simp;omega
 have e:r.cI n=(gM (r.b.take n),⟨r.b.drop n,r.bad⟩):=by simp only[Rb.cI,ao h]
 have i:List.take (X r.b - n) (List.drop n (aC r.b))=aC (r.b.drop n):=by rw[xL];exact cc (by simp[aC])
 have g:X (r.b.take n)<=4:=by simp;omega
 rw[e];simp only[yb d,bC,xK,c,VV,seval,-Int.reduceLE];refine⟨⟨by omega,by omega,by omega⟩,?_⟩;refine cD.bL (fr':=(.ptr a 0::.I n::uu 3 (.I ((0:Nat):Int)::uu 17 (.sl 1 (aC (r.b.take n))::.I (X (r.b.take n))::.I (X ([]:aL):Nat)::uu 19 [])))) (by repeat' constructor) (X (r.b.take n)+1) (aeU (.ptr a 0) (.I n) (r.b.take n) g (r.b.take n) [] 0 rfl (by decide) ?_);simp only[JE];intros;simp only[yb d,bC,i,Az,VV,seval];exact⟨⟨by omega,by omega,by omega⟩,fp rfl (Wk.refl _ _) rfl ⟨rfl,rfl⟩⟩
def yY(n:Nat)(a:n<=4):0<=(r.cI n).1/\(r.cI n).1<2^(8*n):=by
 by_cases h:X r.b<n;.simp only[Rb.cI,aO h];exact⟨by decide,by have:=Nat.two_pow_pos (8*n);exact_mod_cast this⟩
 have:=vi r n a;simp only[Rb.ax0,Rb.take,ao h]at this;simpa only[Rb.cI,ao h]using this
def oh(n:Nat):X (r.cI n).2.b<=X r.b:=by simp only[Rb.cI];split<;>simp
def Jw(c:a<X U)(r:Rb)(i:X r.b<2^60): PC A 159 [.ptr a 0] (TU U a r) (λv j=>v=.s r.kR.1/\j=TU U a r.kR.2):=by
 refine aT func159 anz.2 λl o=>an ?_;simp only[anz,SS,seval];simp only[VV,seval];refine ak (wC U a c r i 4 (by decide)) rfl ?_;have g:=yY r 4 (by decide);have f:=oh r 4;have e:r.kR=if(r.cI 4).2.bad=G\/(X (r.cI 4).2.b:Int)<(r.cI 4).1 then([],⟨(r.cI 4).2.b,G⟩)else((r.cI 4).2.b.take (r.cI 4).1.toNat,⟨(r.cI 4).2.b.drop (r.cI 4).1.toNat,(r.cI 4).2.bad⟩):=rfl;rw[e];generalize r.cI 4=p at g f;obtain⟨n,q⟩:=p;simp only at g f;obtain⟨m,rfl⟩:∃m:Nat,n=m:=⟨n.toNat,by omega⟩;simp only[yb c,Az,bC,VV,seval,-Int.reduceLE];refine⟨λh=>?_,λh=>?_⟩
 .have d:q.bad=G\/(X q.b:Int)<(m:Int):=by simpa using h
  simp only[aO d];exact fp rfl (Wk.refl _ _) rfl ⟨rfl,rfl⟩
 have d:¬(q.bad=G\/(X q.b:Int)<(m:Int)):=by simpa using h
 have k:List.take (X q.b - m) (List.drop m (aC q.b))=aC (q.b.drop m):=by rw[xL];exact cc (by simp[aC])
 simp only[ao d,al];simp only[xK,jC,yb c,bC,k,Az,VV,seval,-Int.reduceLE];exact⟨⟨by omega,by omega,by omega⟩,⟨by omega,by omega,by omega⟩,fp rfl (Wk.refl _ _) rfl ⟨rfl,rfl⟩⟩
def oK:X r.kR.2.b<=X r.b/\X r.kR.1<=X r.b:=by
 have a:=oh r 4;have e:r.kR=if(r.cI 4).2.bad=G\/(X (r.cI 4).2.b:Int)<(r.cI 4).1 then([],⟨(r.cI 4).2.b,G⟩)else((r.cI 4).2.b.take (r.cI 4).1.toNat,⟨(r.cI 4).2.b.drop (r.cI 4).1.toNat,(r.cI 4).2.bad⟩):=rfl;rw[e];split;.exact⟨a,by simp⟩
 simp only[aX,bN];omega
def vP:X r.jg.2.b<=X r.b:=(oK r).1
def wB:∀(n:Nat) (r:Rb),X (Rb.iy n r).2.b<=X r.b/\X (Rb.iy n r).1<=n
 |0,r=>⟨aB _,aB _⟩
 |n+1,r=>by
  have a:=oh r 2;have c:=wB n (r.cI 2).2;simp only[Rb.iy];split;.exact⟨aB _,by simp⟩
  simp only[ah];exact⟨by omega,by omega⟩
def Ir(c:a<X U)(r:Rb)(h:X r.b<2^30):
  PC A 158 [.ptr a 0] (TU U a r) (λv d=>v=.sl 3 (r.jg.1.map It.axV)/\d=TU U a r.jg.2):=by refine aT func158 anA.2 λf g=>an ?_;have e:=oK r;simp only[anA,SS,seval];simp only[VV,seval];refine ak (Jw U a c r (by omega)) rfl ?_;simp only[VV,seval];refine ak (zM r.kR.1 (by omega) _) rfl ?_;simp only[yb c,Az,VV,seval];exact fp rfl (Wk.refl _ _) rfl ⟨rfl,rfl⟩
def RJ{x y:Ob}{ext:ai}:TU (J++(x::y::ext)) (X J+1) Q=J++(x::.box 185 [.sl 1 (aC Q.b),.b Q.bad]::ext):=by simp[TU]
def lM{ext:ai}(h:(Rb.mk T c).cI a=(t,⟨P,R⟩))(f:X T<2^60)(e:a<=4):
  PC A 157 [.ptr (X J+1) 0,.I a] (J++(x::.box 185 [.sl 1 (aC T),.b c]::ext)) (λw d=>w=.I t/\d=J++(x::.box 185 [.sl 1 (aC P),.b R]::ext)):=by have:=wC (J++(x::.dead::ext)) (X J+1) (by simp) ⟨T,c⟩ f a e;rw[h]at this;simpa only[RJ]using this
def yc{ext:ai}(h:(Rb.mk T c).kR=(F,⟨P,R⟩))(d:X T<2^60):
  PC A 159 [.ptr (X J+1) 0] (J++(x::.box 185 [.sl 1 (aC T),.b c]::ext)) (λw a=>w=.s F/\a=J++(x::.box 185 [.sl 1 (aC P),.b R]::ext)):=by have:=Jw (J++(x::.dead::ext)) (X J+1) (by simp) ⟨T,c⟩ d;rw[h]at this;simpa only[RJ]using this
def yW{ext:ai}{v:List It}(h:(Rb.mk T c).jg=(v,⟨P,R⟩))(d:X T<2^30):
  PC A 158 [.ptr (X J+1) 0] (J++(x::.box 185 [.sl 1 (aC T),.b c]::ext)) (λw a=>w=.sl 3 (v.map It.axV)/\a=J++(x::.box 185 [.sl 1 (aC P),.b R]::ext)):=by have:=Ir (J++(x::.dead::ext)) (X J+1) (by simp) ⟨T,c⟩ d;rw[h]at this;simpa only[RJ]using this
def afd(f h k:Int):∀(a:Nat) (b:aL) (c:Bool) (l:bH) (g:Nat),X l+a<256->X b<2^40 ->(∀g,((fj 2 (fh (.ptr (X J) 0) (fj 1 (fh (.ptr (X J+1) 0) (fh (.ptr (X J+2) 0) (fj 99 fo)))))) λx=>K (.exit 0) ⟨x,J++[M,.box 185 [.sl 1 (aC (Rb.iy a ⟨b,c⟩).2.b),.b (Rb.iy a ⟨b,c⟩).2.bad],.box 57 [.I n,.I f,.I h,.I k,.nil,.nil,.s [],.s [],.s [],.s [],.I 0,.I 0,.own (X J+3) g],.row 3 1 8 g Z ((l++(Rb.iy a ⟨b,c⟩).1).map cG)]⟩)) ->gF m A My K (a+1) ⟨(uu 2 (.ptr (X J) 0::uu 1 (.ptr (X J+1) 0::.ptr (X J+2) 0::.I a::uu 98 []))),J++[M,.box 185 [.sl 1 (aC b),.b c],.box 57 [.I n,.I f,.I h,.I k,.nil,.nil,.s [],.s [],.s [],.s [],.I 0,.I 0,.own (X J+3) g],.row 3 1 8 g Z (l.map cG)]⟩:=by
 intro a;induction a with
 |zero =>intro b c l g z w j;refine aD λR p=>?_;simp only[My,VV,seval];simp only[Rb.iy,bE]at j;exact⟨nofun,λ_=>j ..⟩
 |succ a ih =>
 intro b c l g z w j;obtain⟨v,⟨u,t⟩,e⟩:∃v r,(Rb.mk b c).cI 2=(v,r):=⟨_,_,rfl⟩;have d:=oh ⟨b,c⟩ 2;rw[e]at d;simp only at d;have q:decide ((0:Int)<((a+1:Nat):Int))=G:=by simp
 have y:IntKind.i64.wrap (((a+1:Nat):Int) - 1)=(a:Int):=by rw[IntWalk.i64_in _ (by omega)];omega
 refine aD λR p=>?_;simp only[My,q,VV,seval];refine⟨λo=>?_,λo=>?_⟩
 .have i:c=Z:=by simpa using o
  subst i;refine ak (lM 2 e (by omega) (by decide)) rfl ?_;simp only[y,ab,Kd,maxLen,VV,seval];have B:X l<256:=by omega
  refine⟨⟨by omega,by omega⟩,p _ (bL (by repeat' constructor) (ih u t (l++[v]) (g+1) (by simp;omega) (by omega) ?_))⟩;simp only[Rb.iy,e,aI,bo]at j;simpa only[aJ,aF,aw]using j
 have i:c=G:=by simpa using o
 subst i;simp only[Rb.iy,aR,bE]at j;exact j ..
def Zw{n:Nat}{xs:ar}{J:ai}{b:aL}{c:Bool}{t f m k:Int}:Wk A n xs (J++[.box 57 [.I 0,.I 0,.I 0,.I 0,.nil,.nil,.s [],.s [],.s [],.s [],.I 0,.I 0,.nil],.box 185 [.sl 1 (aC b),.b c],.box 57 [.I t,.I f,.I m,.I k,.nil,.nil,.s [],.s [],.s [],.s [],.I 0,.I 0,.nil]]) xs (J++[.box 57 [.I 0,.I 0,.I 0,.I 0,.nil,.nil,.s [],.s [],.s [],.s [],.I 0,.I 0,.nil],.box 185 [.sl 1 (aC b),.b c],.box 57 [.I t,.I f,.I m,.I k,.nil,.nil,.s [],.s [],.s [],.s [],.I 0,.I 0,.own (X J+3) 0],.row 3 1 8 0 Z (([]:bH).map cG)]):=by have:=Wk.qN (P:=A) (n:=n) (xs:=xs) (id:=X J+2) (j:=12) (T:=57) (cs:=[.I t,.I f,.I m,.I k,.nil,.nil,.s [],.s [],.s [],.s [],.I 0,.I 0,.nil]) (J:=J++[.box 57 [.I 0,.I 0,.I 0,.I 0,.nil,.nil,.s [],.s [],.s [],.s [],.I 0,.I 0,.nil],.box 185 [.sl 1 (aC b),.b c],.box 57 [.I t,.I f,.I m,.I k,.nil,.nil,.s [],.s [],.s [],.s [],.I 0,.I 0,.nil]]) K5 (by simp) rfl;simpa only[ji,aJ,ae,ah,aj,aF,aw,cu,cH,aP,Nat.reduceAdd,aq]using this
def Zv{n g:Nat}{xs:ar}{J:ai}{b:aL}{c:Bool}{t f m k:Int}{l:bH}(h:bW J)(p:n<=X J)(o:iY (X J+3) xs):Wk prog n xs (J++[.box 57 [.I 0,.I 0,.I 0,.I 0,.nil,.nil,.s [],.s [],.s [],.s [],.I 0,.I 0,.nil],.box 185 [.sl 1 (aC b),.b c],.box 57 [.I t,.I f,.I m,.I k,.nil,.nil,.s [],.s [],.s [],.s [],.I 0,.I 0,.own (X J+3) g],.row 3 1 8 g Z (l.map cG)]) xs (J++[.box 57 [.I 0,.I 0,.I 0,.I 0,.nil,.nil,.s [],.s [],.s [],.s [],.I 0,.I 0,.nil],.box 185 [.sl 1 (aC b),.b c],.box 57 [.I t,.I f,.I m,.I k,.nil,.nil,.s [],.s [],.s [],.s [],.I 0,.I 0,.sl 1 (l.map cG)]]):=by
 have a:=Wk.share (P:=prog) (n:=n) (xs:=xs) (J:=J++[.box 57 [.I 0,.I 0,.I 0,.I 0,.nil,.nil,.s [],.s [],.s [],.s [],.I 0,.I 0,.nil],.box 185 [.sl 1 (aC b),.b c],.box 57 [.I t,.I f,.I m,.I k,.nil,.nil,.s [],.s [],.s [],.s [],.I 0,.I 0,.own (X J+3) g],.row 3 1 8 g Z (l.map cG)]) (id:=X J+3) (E:=3) (sz:=1) (by':=8) (g:=g) (sh:=Z) (rows:=l.map cG) (by simp);have e:=Wk.ES (P:=prog) (n:=n) (xs:=xs) (J:=J++[.box 57 [.I 0,.I 0,.I 0,.I 0,.nil,.nil,.s [],.s [],.s [],.s [],.I 0,.I 0,.nil],.box 185 [.sl 1 (aC b),.b c],.box 57 [.I t,.I f,.I m,.I k,.nil,.nil,.s [],.s [],.s [],.s [],.I 0,.I 0,.own (X J+3) g],.row 3 1 8 g G (l.map cG)]) (id:=X J+2) (idr:=X J+3) (T:=57) (j:=12) (g:=g) (E:=3) (sz:=1) (by':=8) (rows:=l.map cG)
  (cs:=[.I t,.I f,.I m,.I k,.nil,.nil,.s [],.s [],.s [],.s [],.I 0,.I 0,.own (X J+3) g]) (by simp) rfl (by simp);simp only[ji,cu,cH]at a e;have i:bW (J++[.box 57 [.I 0,.I 0,.I 0,.I 0,.nil,.nil,.s [],.s [],.s [],.s [],.I 0,.I 0,.nil],.box 185 [.sl 1 (aC b),.b c],.box 57 [.I t,.I f,.I m,.I k,.nil,.nil,.s [],.s [],.s [],.s [],.I 0,.I 0,.sl 1 (l.map cG)]]):=cx h (by simp only[bw,bM,mg,Ew,forall_eq];refine⟨?_,?_,?_⟩<;>simp only[LW]);have d:=Wk.lA (P:=prog) (n:=n) (xs:=xs) (J:=J++[.box 57 [.I 0,.I 0,.I 0,.I 0,.nil,.nil,.s [],.s [],.s [],.s [],.I 0,.I 0,.nil],.box 185 [.sl 1 (aC b),.b c],.box 57 [.I t,.I f,.I m,.I k,.nil,.nil,.s [],.s [],.s [],.s [],.I 0,.I 0,.sl 1 (l.map cG)]]) (loc:=[.row 3 1 8 g G (l.map cG)]) (by simp;omega) i (dO.1 (by simpa using o));simp only[aJ,aF,aw]at d;exact(a.trans e).trans d
set_option maxRecDepth 4000 in
def Lx(b:aL)(hb:X b<2^30)(J:ai):bh A 109 [.sl 1 (aC b)] J (.iS [.agg (Bt.decode b).1.axV,.I (Bt.decode b).2]):=by
 refine aT func109 aog.2 λbd dG=>?_;simp only[aog,SS,seval];obtain⟨v,⟨b1,c1⟩,e1⟩:∃v r,(Rb.mk b Z).cI 1=(v,r):=⟨_,_,rfl⟩;obtain⟨k,⟨b2,c2⟩,e2⟩:∃w r,(Rb.mk b1 (v != 1)).cI 1=(w,r):=⟨_,_,rfl⟩;obtain⟨t,⟨b3,c3⟩,e3⟩:∃v r,(Rb.mk b2 c2).cI 4=(v,r):=⟨_,_,rfl⟩;obtain⟨f,⟨b4,c4⟩,e4⟩:∃v r,(Rb.mk b3 c3).cI 1=(v,r):=⟨_,_,rfl⟩;obtain⟨m,⟨b5,c5⟩,e5⟩:∃v r,(Rb.mk b4 c4).cI 2=(v,r):=⟨_,_,rfl⟩;obtain⟨n,⟨b6,c6⟩,e6⟩:∃v r,(Rb.mk b5 c5).cI 1=(v,r):=⟨_,_,rfl⟩;have d1:=oh ⟨b,Z⟩ 1;rw[e1]at d1;have d2:=oh ⟨b1,v != 1⟩ 1;rw[e2]at d2;have d3:=oh ⟨b2,c2⟩ 4;rw[e3]at d3;have d4:=oh ⟨b3,c3⟩ 1;rw[e4]at d4;have d5:=oh ⟨b4,c4⟩ 2;rw[e5]at d5;have d6:=oh ⟨b5,c5⟩ 1;rw[e6]at d6;have n6:=yY ⟨b5,c5⟩ 1 (by decide);rw[e6]at n6;simp only at d1 d2 d3 d4 d5 d6 n6;obtain⟨N,rfl⟩:∃N:Nat,n=N:=⟨n.toNat,by omega⟩;refine cD.cut λR a=>?_;simp only[VV,seval];refine a _ (cD.fG (fr':=(.sl 1 (aC b)::uu 1 (.ptr (X J) 0::uu 102 []))) ?_ (by repeat' constructor));clear a R;refine cD.cut λR a=>?_;simp only[VV,seval];refine a _ (cD.fG (fr':=(uu 2 (.ptr (X J) 0::uu 1 (.ptr (X J+1) 0::uu 100 [])))) ?_ (by repeat' constructor));clear a R;refine cD.cut λR a=>?_;simp only[VV,seval];refine ak (lM 1 e1 (by omega) (by decide)) rfl ?_;simp only[VV,seval];refine a _ (cD.fG (fr':=(uu 2 (.ptr (X J) 0::uu 1 (.ptr (X J+1) 0::uu 100 [])))) ?_ (by repeat' constructor));clear a R;refine cD.cut λR a=>?_;simp only[VV,seval];refine ak (lM 1 e2 (by omega) (by decide)) rfl ?_;simp only[VV,seval];refine a _ (cD.fG (fr':=(uu 2 (.ptr (X J) 0::uu 1 (.ptr (X J+1) 0::.ptr (X J+2) 0::uu 99 [])))) ?_ (by repeat' constructor));clear a R;refine cD.cut λR a=>?_;simp only[VV,seval];refine ak (lM 4 e3 (by omega) (by decide)) rfl ?_;simp only[VV,seval];refine a _ (cD.fG (fr':=(uu 2 (.ptr (X J) 0::uu 1 (.ptr (X J+1) 0::.ptr (X J+2) 0::uu 99 [])))) ?_ (by repeat' constructor));clear a R;refine cD.cut λR a=>?_;simp only[VV,seval];refine ak (lM 1 e4 (by omega) (by decide)) rfl ?_;simp only[VV,seval];refine a _ (cD.fG (fr':=(uu 2 (.ptr (X J) 0::uu 1 (.ptr (X J+1) 0::.ptr (X J+2) 0::uu 99 [])))) ?_ (by repeat' constructor));clear a R;refine cD.cut λR a=>?_;simp only[VV,seval];refine ak (lM 2 e5 (by omega) (by decide)) rfl ?_;simp only[VV,seval];refine a _ (cD.fG (fr':=(uu 2 (.ptr (X J) 0::uu 1 (.ptr (X J+1) 0::.ptr (X J+2) 0::uu 99 [])))) ?_ (by repeat' constructor));clear a R;refine cD.cut λR a=>?_;simp only[VV,seval];refine ak (lM 1 e6 (by omega) (by decide)) rfl ?_;simp only[VV,seval];obtain⟨ns,⟨b7,c7⟩,e7⟩:∃v r,Rb.iy N ⟨b6,c6⟩=(v,r):=⟨_,_,rfl⟩;have d7:=wB N ⟨b6,c6⟩;rw[e7]at d7;simp only at d7;refine cD.wk ((Wk.fG (ys:=(uu 2 (.ptr (X J) 0::uu 1 (.ptr (X J+1) 0::.ptr (X J+2) 0::.I N::uu 98 [])))) (by repeat' constructor)).trans Zw)
  (cD.mM (N+1) (afd (.box 57 [.I 0,.I 0,.I 0,.I 0,.nil,.nil,.s [],.s [],.s [],.s [],.I 0,.I 0,.nil]) t f m k N b6 c6 [] 0 (by simp;omega) (by omega) ?_));intro g;simp only[JE];intros;rw[e7];simp only[aw,VV,seval];refine a _ (cD.wk ((Wk.fG (ys:=(uu 2 (.ptr (X J) 0::uu 1 (.ptr (X J+1) 0::.ptr (X J+2) 0::uu 99 [])))) (by repeat' constructor)).trans (Zv bd (aB _) (by simp only[LW];omega))) ?_);clear a R;refine cD.cut λR a=>?_;obtain⟨src,⟨b8,c8⟩,e8⟩:∃v r,(Rb.mk b7 c7).jg=(v,r):=⟨_,_,rfl⟩;have d8:=vP ⟨b7,c7⟩;rw[e8]at d8;simp only at d8;simp only[VV,seval];refine ak (yW e8 (by omega)) rfl ?_;simp only[VV,seval];refine a _ (cD.fG (fr':=(uu 2 (.ptr (X J) 0::uu 1 (.ptr (X J+1) 0::.ptr (X J+2) 0::uu 99 [])))) ?_ (by repeat' constructor));clear a R;refine cD.cut λR a=>?_;obtain⟨pv,⟨b9,c9⟩,e9⟩:∃v r,(Rb.mk b8 c8).kR=(v,r):=⟨_,_,rfl⟩;have d9:=oK ⟨b8,c8⟩;rw[e9]at d9;simp only at d9;simp only[VV,seval];refine ak (yc e9 (by omega)) rfl ?_;simp only[VV,seval];refine a _ (cD.fG (fr':=(uu 2 (.ptr (X J) 0::uu 1 (.ptr (X J+1) 0::.ptr (X J+2) 0::uu 99 [])))) ?_ (by repeat' constructor));clear a R;refine cD.cut λR a=>?_;obtain⟨nx,⟨c,E⟩,d⟩:∃v r,(Rb.mk b9 c9).kR=(v,r):=⟨_,_,rfl⟩;have am:=oK ⟨b9,c9⟩;rw[d]at am;simp only at am;simp only[VV,seval];refine ak (yc d (by omega)) rfl ?_;simp only[VV,seval];refine a _ (cD.fG (fr':=(uu 2 (.ptr (X J) 0::uu 1 (.ptr (X J+1) 0::.ptr (X J+2) 0::uu 99 [])))) ?_ (by repeat' constructor));clear a R;refine cD.cut λR a=>?_;have l:∀(x:bf) (C:aL) (o:Bool) {fr:ar} {s0:ai},x.axZ->X C<2^30->o8 b=(x,⟨C,o⟩)->Wk A (X J) fr s0 ((uu 2 (.ptr (X J) 0::uu 1 (.ptr (X J+1) 0::.ptr (X J+2) 0::uu 99 [])))) (J++[.box 57 [.I 0,.I 0,.I 0,.I 0,.nil,.nil,.s [],.s [],.s [],.s [],.I 0,.I 0,.nil],.box 185 [.sl 1 (aC C),.b o],.box 57 x.axV])->R ⟨fr,s0⟩:=by
  intro x C o fr s0 hx a0 av hc;have e:Bt.decode b=if o=true\/0<X C\/eO x≠0 then(zQ,12)else(x,0):=by rw[<- RX];simp only[Ln,av]
  refine a _ (cD.wk hc (an ?_));clear a R hc;simp only[bf.axV,cz.axV,En.axV,aF,aw,V.pure,bC,VV,seval];refine cm (by simp only[VV,seval]<;>rfl) (λ_=>ml x hx _) rfl ?_;simp only[bf.axV,cz.axV,En.axV,aF,aw,V.pure,VV,seval];refine⟨λh=>?_,λh=>?_⟩
  .have h1:o=true\/0<X C\/eO x≠0:=by cases o<;>simp at h |-<;>omega
   rw[aO h1]at e;refine lE (ys:=[.agg zQ.axV,.I 12]) bd (.inr rfl) (by simp only[RS,seval];rfl) ?_ (by simp only[zQ,Sj,bf.axV,cz.axV,En.axV,aq,aF,aw,LW]) ⟨by rw[e];rfl,rfl⟩;refine .cons (Cv.iK ?_) (.cons (.refl _) .nil);simp only[zQ,Sj,bf.axV,cz.axV,En.axV,aq,aF,aw];repeat first|exact .nil|refine .cons (.refl _) ?_|refine .cons (.nil _) ?_
  have h1:¬(o=true\/0<X C\/eO x≠0):=by cases o<;>simp at h |-<;>omega
  rw[ao h1]at e;refine aS bd (by simp only[RS,seval];rfl) (by simp[LW]) ⟨?_,rfl⟩;rw[e];rfl
 have D:=s9 ((Rb.mk b7 c7).kR.1);rw[show(parse ((Rb.mk b7 c7).kR.1)).1=src from congrArg Prod.fst e8]at D;simp only[VV,seval];refine⟨λh=>?_,λh=>?_⟩
 .have hk:k=1:=by simpa using h
  obtain⟨tg,⟨U,ac⟩,i⟩:∃v r,(Rb.mk c E).jg=(v,r):=⟨_,_,rfl⟩;have Q:=vP ⟨c,E⟩;rw[i]at Q;have Yy:=s9 ((Rb.mk c E).kR.1);rw[show(parse ((Rb.mk c E).kR.1)).1=tg from congrArg Prod.fst i]at Yy;obtain⟨au,⟨af,F⟩,B⟩:∃v r,(Rb.mk U ac).kR=(v,r):=⟨_,_,rfl⟩;have W:=oK ⟨U,ac⟩;rw[B]at W;obtain⟨pr,⟨M,ad⟩,z⟩:∃v r,(Rb.mk af F).kR=(v,r):=⟨_,_,rfl⟩;have L:=oK ⟨af,F⟩;rw[z]at L;obtain⟨cr,⟨H,O⟩,q⟩:∃v r,(Rb.mk M ad).cI 4=(v,r):=⟨_,_,rfl⟩;have K:=oh ⟨M,ad⟩ 4;rw[q]at K;obtain⟨og,⟨aM,aE⟩,u⟩:∃v r,(Rb.mk H O).cI 1=(v,r):=⟨_,_,rfl⟩;have ap:=oh ⟨H,O⟩ 1;rw[u]at ap;simp only at Q W L K ap;refine ak (yW i (by omega)) rfl ?_;simp only[VV,seval];refine ak (yc B (by omega)) rfl ?_;simp only[VV,seval];refine ak (yc z (by omega)) rfl ?_;simp only[VV,seval];refine ak (lM 4 q (by omega) (by decide)) rfl ?_;simp only[VV,seval];refine ak (lM 1 u (by omega) (by decide)) rfl ?_;simp only[VV,seval];refine l ⟨⟨t,f,m⟩,k,⟨src,tg,pv,nx,au,pr,cr,og⟩,ns⟩ aM aE ⟨⟨D.1,D.2.1,Yy.1,Yy.2.1,by simp only;omega,by simp only;omega,λy p=>?_⟩,by simp only;omega,by simp only;omega,by simp only;omega⟩ (by omega) ?_ (Wk.fG (by repeat' constructor))
  .rcases bJ.1 p with p|p;.exact D.2.2 y p
   exact Yy.2.2 y p
  simp only[o8,e1,e2,e3,e4,e5,e6,al,e7,e8,e9,d,i,B,z,q,u,hk,aR]
 have hk:¬k=1:=by simpa using h
 have hw:=Wk.cell (P:=A) (n:=X J) (xs:=(uu 2 (.ptr (X J) 0::uu 1 (.ptr (X J+1) 0::.ptr (X J+2) 0::uu 99 [])))) (J:=J++[.box 57 [.I 0,.I 0,.I 0,.I 0,.nil,.nil,.s [],.s [],.s [],.s [],.I 0,.I 0,.nil],.box 185 [.sl 1 (aC c),.b E],.box 57 [.I t,.I f,.I m,.I k,.sl 3 (src.map It.axV),.nil,.s pv,.s nx,.s [],.s [],.I 0,.I 0,.sl 1 (ns.map cG)]]) (id:=X J+2) (T:=57) (j:=5) (x:=.nil) (y:=.sl 3 []) (cs:=[.I t,.I f,.I m,.I k,.sl 3 (src.map It.axV),.nil,.s pv,.s nx,.s [],.s [],.I 0,.I 0,.sl 1 (ns.map cG)]) (by simp) rfl (λw μ v _ h=>by rw[h.nF];exact .D1 _);simp only[ji,cu,cH]at hw;refine l ⟨⟨t,f,m⟩,k,⟨src,[],pv,nx,[],[],0,0⟩,ns⟩ c E ⟨⟨D.1,D.2.1,by simp,by simp[bA],by simp only;omega,by simp only;omega,λy p=>?_⟩,by simp,by simp,by simp only;omega⟩ (by omega) ?_ ((Wk.fG (by repeat' constructor)).trans hw);.simp only[bE]at p;exact D.2.2 y p
 simp only[o8,e1,e2,e3,e4,e5,e6,al,e7,e8,e9,d,hk,bo]

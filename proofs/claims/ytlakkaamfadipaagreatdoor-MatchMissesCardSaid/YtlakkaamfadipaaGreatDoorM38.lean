/- A part of a proof; the claim's last text says of what. -/
import Derived.Test.YtlakkaamfadipaaGreatDoorM3
import Derived.Test.YtlakkaamfadipaaGreatDoorM30
import Derived.Test.YtlakkaamfadipaaGreatDoorM35
set_option linter.all false
open Option renaming some->N,none->Y
open Bool renaming true->A,false->Z
open Go.Proofs.Tryz renaming prog->θ
open List renaming length->F

namespace Go.Proofs.Tryz
open Go Go.Pm Go.Bt Go.Sort Go.Shelf
variable(x:Nat)(P:Ob)(g:Nat)(l:List It)(b:Nat)(R:ag)(y:Nat)(U:List Gr)(a:Int)(w:df)(E:ei)(C:It)(B:Int){D:List (TK×Int)}{S Q:Nat}{J:ag}{K:bj}
def O2(M:bT J)(g:F E<2^38):∀(a pre:ei) (C:List (GK×Int)) (last:aJ) (n:Nat),E=pre++a->CN n C->n+F a<2^39 ->(∀f c,eX C last a=bump f (c,[]) 1->CN (n+F a) f->((fj 3 (fh (.mp (F J)) (fh (.s c) (fj 48 fo)))) λQ=>K (.exit 0) ⟨Q,J++[.map 246 3 (emap pt eZ f)]⟩)) ->fS (F J) θ FT K (F a+1) ⟨(uu 3 (.mp (F J)::.s last::uu 6 (.sl 1 (E.map Dc)::.I (F E)::.I (F pre)::uu 39 []))),J++[.map 246 3 (emap pt eZ C)]⟩:=by
 intro a;induction a with
 |nil =>intro pre C last n k o G u;have k:=db k;subst k;refine aF λR y=>?_;simp only[FT,VV,seval];exact⟨λh=>by simp at h,λ_=>u C last rfl o ..⟩
 |cons w a ih =>
 intro pre C last n k o G u;subst k;have x:F pre+1+F a<2^38:=by simp at g;omega
 have z:=dY pre w (by omega);simp only[ah]at G;have D:=o.getD (last,w);have B:∀C,bT (J++[.map 246 3 (emap pt eZ C)]):=λC=>cL M (by simp[l9]);have S:=o.bump (last,w);have v:∀{f:List (GK×Int)},CN (n+1+F a) f->CN (n+F (w::a)) f:=λt=>by
  have e:n+F (w::a)=n+1+F a:=by simp;omega
  rw[e];exact t
 have d:=ih (pre++[w]) (bump C (last,w) 1) w (n+1) (by simp) S (by omega) (λf O L t=>u f O L (v t));refine aF λR y=>?_;simp only[FT,Dc,VV,seval];refine⟨λ_=>⟨by simp;omega,?_⟩,λh=>by simp at h;omega⟩;rcases tz yz C (last,w)with⟨p,l,m,j,H⟩|⟨i,b,p,l,m,j⟩
 .have r:IntKind.i64.wrap (0+1)=1:=by decide
  have q:bump C (last,w) 1=fZ C (last,w) 1:=by simp[bump,p]
  rw[q]at d;simp only[pt]at l m j H;simp only[c8,l,m,j,H,r,dB,V.jG,V.cell,VV,seval];have P:IntKind.i64.wrap 1=1:=by decide
  simp only[z,P];refine y _ (cC [_] [_] (B _) (by repeat' constructor) (by simp[LW]) d)
 have r:IntKind.i64.wrap (b+1)=b+1:=IntWalk.i64_in _ (by rw[p]at D;simp at D;omega);have q:bump C (last,w) 1=fZ C (last,w) (b+1):=by simp[bump,p]
 rw[q]at d;simp only[pt]at l m j;simp only[c8,l,m,j,r,dB,V.jG,V.cell,VV,seval];simp only[z];refine y _ (cC [_] [_] (B _) (by repeat' constructor) (by simp[LW]) d)
def O1(C:List (GK×Int))(k r:Nat)(y:bT J)(O:F C<2^39):∀(a:Nat) (c:cy) (d:bP) (b:List Gr) (g:Nat),F c<=a->c.Nodup->(∀p∈c,p<F C)->F b<=F C ->(b++c.map λi=>C.getD i (([],[]),0)).Perm C ->(∀c d g (f:List Gr),f.Perm C->((fj 7 (fh (.own (F J+3) g) (fj 45 fo))) λB=>K (.exit 2) ⟨B,J++[.map 246 3 (emap pt eZ C),.iter A (F J) 3 k [] (N r),.iter Z (F J) 3 (F (emap pt eZ C)) c d,.row 182 3 40 g Z (f.map qM)]⟩)) ->fS (F J) θ Br K (a+1) ⟨(uu 7 (.own (F J+3) g::uu 27 (.it (F J+2)::uu 17 []))),J++[.map 246 3 (emap pt eZ C),.iter A (F J) 3 k [] (N r),.iter Z (F J) 3 (F (emap pt eZ C)) c d,.row 182 3 40 g Z (b.map qM)]⟩:=by
 intro a;induction a with
 |zero =>intro c d b g E u n D j m;have t:c=[]:=aL (by omega);subst t;refine aF λR v=>?_;simp only[Br,VV,seval];exact m _ _ _ _ (by simpa using j) ..
 |succ a ih =>
 intro c d b g E u n D j m;refine aF λR v=>?_;simp only[Br,VV,seval];refine⟨λt=>?_,λq l=>?_⟩;.subst t;exact m _ _ _ _ (by simpa using j) ..
 have z:=n q l;have w:=ug (ke:=pt) (ve:=eZ) C (([],[]),0) z;have G:=j.length_eq;have H:=nL u l;have L:=nh l;have M:0<F c:=List.length_pos_of_mem l;simp only[ai,ae]at G;simp only[w,eZ,pt,VV,seval];have e:b.map qM++[[.s (C.getD q (([],[]),0)).1.1,.s (C.getD q (([],[]),0)).1.2,.I (C.getD q (([],[]),0)).2]]=(b++[C.getD q (([],[]),0)]).map qM:=by simp[qM]
 rw[e];have x:∀C I o,bT (J++[.map 246 3 (emap pt eZ C),.iter A (F J) 3 k [] (N r),.iter Z (F J) 3 (F (emap pt eZ C)) (c.filter λi=>i != q) I,.row 182 3 40 (g+1) Z o]):=λC I o=>cL y (by simp[l9]);refine⟨by simp only[ae,maxLen];omega,v _ (cC [_,_,_,_] [_] (x _ _ _) (by repeat' constructor) (by simp[LW]) (ih (c.filter λi=>i != q) (N q) (b++[C.getD q (([],[]),0)]) (g+1) (by omega) (u.filter _) (λp h=>n p (cV.1 h).1) (by simp;omega) ?_ m))⟩;refine List.Perm.trans ?_ j;rw[aS];refine mC _ ?_;exact((H.map λi=>C.getD i (([],[]),0)).symm)
def Jd(a b:Gr)(J:ag):bO θ 223 [.agg (qM a),.agg (qM b)] J (.I (zt a b)):=by refine a6 func223 aip λc d=>ay ?_;simp only[abW,SS,seval];simp only[qM,VV,seval];refine aA (GX a.1.1 b.1.1 _) rfl ?_;simp only[VV,seval];refine aA (GX a.1.2 b.1.2 _) rfl ?_;simp only[VV,seval];refine mu (zs:=[.sl 1 ([gw a.1.1 b.1.1,gw a.1.2 b.1.2].map cg)]) (.cons (.lit _ _) .nil) (YI _ _) ?_;simp only[VV,seval];exact bl c (.inr rfl) rfl (by simp[LW]) ⟨rfl,rfl⟩
def Q0{e:Type}{c:e->e->Int}(h:kU c)(l:List e):SWO (ltOf λ(i j:Fin (F l))=>c l[i] l[j]):=by
 refine⟨λx=>?_,λx y z g f=>?_,λx y z g f=>?_⟩;.simp only[ltOf,cI,h.self];omega
 .simp only[ltOf,a7]at *;have k:=h.mI l[x] l[y];have m:=h.mI l[y] l[z];have n:=h.mI l[x] l[z];have:=h.gt (a:=l[z]) (b:=l[y]) (d:=l[x]) (by omega) (by omega);omega
 simp only[ltOf,cI]at *;have:=h.trans l[x] l[y] l[z] (by omega) (by omega);omega
def N7(l:List Gr)(b:l.Perm (eX [] [] E))(c:F l<2^30)(id g:Nat)(J:ag)(h1:J[id]?=N (.row 182 3 40 g Z (l.map qM))): PC θ 222 [.own id g,.fn 223 []] J (λr a=>r=.gy []/\a=J.set id (.row 182 3 40 g Z ((cE E).map qM))):=by refine PC.mono (PC.Q7 Tryz.abx (k:=3) Tryz.isAgg182 Tryz.sizeOf182 qM (λx=>by simp[qM]) (by omega) zt (enters_of func223 (by kernel_rfl) rfl) l (λx i y f=>(Jd x y _).mono λr a h=>h.1) (Q0 l4 l) c h1) ?_;rintro r a ⟨j,e,d,rfl,rfl⟩;exact⟨rfl,by rw[DJ (e.trans b) d];rfl⟩
def UH:Ti θ 182 3 40:=nQ (by kernel_rfl)
def S8(G:F E<2^29)(J:ag):bO θ 179 [.sl 1 (E.map Dc)] J (.sl 3 ((cE E).map qM)):=by
 refine a6 func179 aiS λq U=>ay ?_;simp only[acr,SS,seval];simp only[ae,VV,seval];refine cd.aX (fr':=(uu 3 (.mp (F J)::.s []::uu 6 (.sl 1 (E.map Dc)::.I (F E)::.I (F ([]:ei))::uu 39 [])))) (by repeat' constructor) (F E+1) (O2 E q (by omega) E [] [] [] 0 rfl CN.nil (by omega) λj e D u=>?_);simp only[JE];intros;have L:=u.bump (e,[]);have H:=u.getD (e,[]);have W:∀C a b,bT (J++[.map 246 3 (emap pt eZ C),.iter true (F J) 3 a [] (N b)]):=λC a b=>cL q (by simp[l9]);have l:∀(C:List (GK×Int)) (k B:Nat),C=eX [] [] E->CN (0+F E+1) C->cd (F J) θ Br.loop
  (xr 2 (HT (zM (F J) θ ((bH.ar [] [{ d:=N 50,g:=[],i:=I.aV (O.t 7) },{ d:=N 51,g:=[],i:=I.call 222 [O.t 50,O.c (V.fn 223 [])] }]).seq
      ((bH.ar [] [{ d:=N 52,g:=[],i:=I.aV (O.t 7) },{ d:=N 2,g:=[],i:=I.aV (O.t 52) }]).seq bH.ret))
     (rv θ (F J) [Rs.t 2] λr z=>r=V.sl 3 (List.map qM (cE E))/\z=J))
    (rv θ (F J) [Rs.t 2] λr z=>r=V.sl 3 (List.map qM (cE E))/\z=J)))
   ⟨(uu 7 (.nil::uu 27 (.it (F J+2)::uu 17 []))),J++[.map 246 3 (emap pt eZ C),.iter true (F J) 3 k [] (N B),.iter Z (F J) 3 (F (emap pt eZ C)) (List.range (F (emap pt eZ C))) Y]⟩:=by
  intro C k B u S;have y:F (emap pt eZ C)=F C:=oX C;have R:=S.1;refine cd.wk ((Wk.mV (P:=θ) (k:=7) [_,_,_] UH rfl).trans (Wk.gW ?_)) (cd.xA (F C+1) (O1 C k B q (by omega) (F C) (List.range (F (emap pt eZ C))) Y [] 0 (by simp[y]) lx (λp v=>by simpa[y]using v) (by simp) (by rw[y,bg,mU]) ?_));.simp only[VV,seval];repeat' constructor
  intro T M g n v;simp only[JE];intros;simp only[VV,seval];refine aA (N7 E n (by rw[<- u];exact v) (by rw[v.length_eq];omega) _ g _ (by simp only[VV,seval])) rfl ?_;simp only[VV,seval];refine ru 3 q (.inr rfl) (by simp only[RS,seval];rfl) rfl ?_ ?_;.simp only[aC,bI,Pm.fz,sk,lu,aU,LW]
  simp only[aC,bI,Pm.fz,sk,lu,aU];exact⟨rfl,trivial⟩
 rcases tz yz j (e,[])with⟨w,m,o,h,K⟩|⟨i,b,w,m,o,h⟩
 .have x:IntKind.i64.wrap (0+1)=1:=by decide
  have Q:IntKind.i64.wrap 1=1:=by decide
  have f:bump j (e,[]) 1=fZ j (e,[]) 1:=by simp[bump,w]
  simp only[pt]at m o h K;simp only[c8,m,o,h,K,x,Q,dB,V.jG,V.cell,VV,seval];exact cd.wk (Wk.gW (by repeat' constructor)) (l _ _ _ (by rw[D,f]) (f▸L))
 have x:IntKind.i64.wrap (b+1)=b+1:=IntWalk.i64_in _ (by rw[w]at H;simp at H;omega);have f:bump j (e,[]) 1=fZ j (e,[]) (b+1):=by simp[bump,w]
 simp only[pt]at m o h;simp only[c8,m,o,h,x,dB,V.jG,V.cell,VV,seval];exact cd.wk (Wk.gW (by repeat' constructor)) (l _ _ _ (by rw[D,f]) (f▸L))
def Kr(J:ag):bO θ 225 [.agg C.aoZ] J (.b (bW C)):=by refine a6 func225 ain λa c=>ay ?_;simp only[abU,It.aoZ,SS,seval];simp only[VV,seval];exact km a (by simp only[RS,seval];rfl) (by simp only[LW])
def rF(J:ag):bO θ 183 [.agg C.aoZ] J (.b (bW C)):=by refine a6 func183 aiO λa c=>ay ?_;simp only[acn,It.aoZ,SS,seval];simp only[VV,seval];exact km a (by simp only[RS,seval];rfl) (by simp only[LW])
def TI(J:ag):bO θ 182 [.agg C.aoZ] J (.gy [.agg (cG C).1.aoZ,.b (cG C).2]):=by
 refine a6 func182 aiP λi j=>ay ?_;simp only[aco,It.aoZ,SS,seval];rcases qg (C.ao0=6\/C.ao0=7\/C.ao0=8\/C.ao0=9\/C.ao0=5)with g|g
 .have h:cG C=(⟨C.ao0,eQ C,0⟩,A):=by simp only[cG,aK g]
  have f:(C.ao0==6)=Z\/(C.ao0==6)=A:=by cases(C.ao0==6)<;>simp
  have c:(C.ao0==7)=Z\/(C.ao0==7)=A:=by cases(C.ao0==7)<;>simp
  have d:(C.ao0==8)=Z\/(C.ao0==8)=A:=by cases(C.ao0==8)<;>simp
  have e:(C.ao0==9)=Z\/(C.ao0==9)=A:=by cases(C.ao0==9)<;>simp
  have a:(C.ao0==5)=Z\/(C.ao0==5)=A:=by cases(C.ao0==5)<;>simp
  rcases f with f|f<;>rcases c with c|c<;>rcases d with d|d<;>rcases e with e|e<;>rcases a with a|a<;>first|(exfalso;simp at f c d e a;omega)|skip
  all_goals
   simp only[f,c,d,e,a,↓IT,VV,seval];refine aA (tP C _) rfl ?_;simp only[VV,seval];exact bl i (.inr rfl) (by simp only[RS,seval];rfl) (by simp only[LW]) ⟨by rw[h];rfl,rfl⟩
 have h:cG C=(⟨C.ao0,C.ao3,0⟩,bW C):=by simp only[cG,au g]
 have f:(C.ao0==6)=Z:=by simp;omega
 have c:(C.ao0==7)=Z:=by simp;omega
 have d:(C.ao0==8)=Z:=by simp;omega
 have e:(C.ao0==9)=Z:=by simp;omega
 have a:(C.ao0==5)=Z:=by simp;omega
 simp only[f,c,d,e,a,↓IT,VV,seval];refine aA (Kr C _) rfl ?_;simp only[VV,seval];exact bl i (.inr rfl) (by simp only[RS,seval];rfl) (by simp only[LW]) ⟨by rw[h];rfl,rfl⟩
def ye(m:Nat)(p w t apf:Int):ao:=[.sl 3 (U.map qM),.mp m,.I p,.I w,.I t,.I apf]
def nf{a:Ob}(d:bT (J++[a]))(C:List (TK×Int))(c:List Gr)(p w t b:Int):bT (J++[a,.map 150 3 (emap iv eZ C),.box 162 (ye c (F J+1) p w t b)]):=by have:=cL d (l:=[.map 150 3 (emap iv eZ C),.box 162 (ye c (F J+1) p w t b)]) (by simp[l9,ye,LW]);simpa using this
def Pj(r:bT (J++[P]))(c:F U<2^30)(m:∀g∈U,0<=g.2/\g.2<=2^30):∀(b pre:List Gr) (n:Int),U=pre++b->0<=n/\n<=2^30*(F pre:Int) ->((fh (.sl 3 (l.map It.aoZ)) (fj 1 (fh (.ptr (F J) 0) (fh (.ptr (F J+2) 0) (fj 67 fo))))) λq=>K (.exit 0) ⟨q,J++[P,.map 150 3 [],.box 162 (ye U (F J+1) (FC n b) 0 0 a)]⟩) ->fS (F J) θ Gd K (F b+1) ⟨(.sl 3 (l.map It.aoZ)::uu 1 (.ptr (F J) 0::.ptr (F J+2) 0::uu 14 (.sl 3 (U.map qM)::.I (F U)::.I (F pre)::uu 50 []))),J++[P,.map 150 3 [],.box 162 (ye U (F J+1) n 0 0 a)]⟩:=by
 intro b;induction b with
 |nil =>intro pre n d p f;have d:=db d;subst d;refine aF λR i=>?_;simp only[Gd,VV,seval];exact⟨λh=>by simp at h,λ_=>f ..⟩
 |cons g b ih =>
 intro pre n d p f;subst d;have e:F pre+1+F b<2^30:=by simp at c;omega
 have s:=m g (by simp);have j:=dY pre g (by omega);have k:IntKind.i64.wrap (n+g.2)=n+g.2:=IntWalk.i64_in _ (by omega);have o:0<=n+g.2/\n+g.2<=2^30*((F (pre++[g]):Nat):Int):=by simp;omega
 refine aF λR i=>?_;simp only[Gd,ye,qM,VV,seval];refine⟨λ_=>⟨by simp;omega,?_⟩,λh=>by simp at h;omega⟩;simp only[j,k,VV,seval];exact i _ (cC [_,_,_] [_] (nf r [] (pre++g::b) (n+g.2) 0 0 a) (by repeat' constructor) (by simp[LW]) (ih (pre++[g]) (n+g.2) (by simp) o (by simpa[FC]using f)))
def Ph(z:bT (J++[P]))(q:F l<2^30):∀(c pre:List It) (C:List (TK×Int)) (w t:Int),l=pre++c->CN (F pre) C->0<=w/\w<=4*(F pre:Int)->0<=t/\t<=(F pre:Int) ->((fj 2 (fh (.ptr (F J) 0) (fh (.ptr (F J+2) 0) (fj 67 fo)))) λZZ=>K (.exit 2) ⟨ZZ,J++[P,.map 150 3 (emap iv eZ (kh C c)),.box 162 (ye U (F J+1) B (D2 w c) (D6 t c) a)]⟩) ->fS (F J) θ Gc K (F c+1) ⟨(uu 2 (.ptr (F J) 0::.ptr (F J+2) 0::uu 29 (.sl 3 (l.map It.aoZ)::.I (F l)::.I (F pre)::uu 35 []))),J++[P,.map 150 3 (emap iv eZ C),.box 162 (ye U (F J+1) B w t a)]⟩:=by
 intro c;induction c with
 |nil =>intro pre C w t u n hw X j;have u:=db u;subst u;refine aF λR o=>?_;simp only[Gc,VV,seval];exact⟨λh=>by simp at h,λ_=>j ..⟩
 |cons x c ih =>
 intro pre C w t u n hw X j;subst u;have M:F pre+1+F c<2^30:=by simp at q;omega
 have s:=dY pre x (by omega);have CZ:((F (pre++[x]):Nat):Int)=(F pre:Int)+1:=by simp
 have ac:=mP (cG x).1;have Q:IntKind.i64.wrap (w+weight (cG x).1)=w+weight (cG x).1:=IntWalk.i64_in _ (by omega);have O:IntKind.i64.wrap (t+1)=t+1:=IntWalk.i64_in _ (by omega);have S:=n.getD (eI (cG x).1);have W:=n.bump (eI (cG x).1);have f:(cG x).1.id=0:=by unfold cG;split<;>rfl
 have L:F (pre++[x])=F pre+1:=by simp
 refine aF λR o=>?_;simp only[Gc,ye,It.aoZ,VV,seval];refine⟨λ_=>⟨by simp;omega,?_⟩,λh=>by simp at h;omega⟩;refine aA (TI x _) rfl ?_;simp only[s,It.aoZ,f,VV,seval];refine⟨λG=>?_,λG=>?_⟩
 .have m:(cG x).2=Z:=by simpa using G
  have d:=ih (pre++[x]) C w t (by simp) (by rw[L];exact⟨by have:=n.1;omega,n.2.1,λk v hv=>by have:=n.2.2 k v hv;omega⟩) (by omega) (by omega) (by simpa only[kh,D2,D6,m,eA,aI,aQ]using j);exact o _ (cC [_,_,_] [_,_] (nf z _ _ _ _ _ _) (by repeat' constructor) (by simp[LW]) d)
 have m:(cG x).2=A:=by simpa using G
 rcases tz u0 C (eI (cG x).1)with⟨E,y,D,r,T⟩|⟨i,b,E,y,D,r⟩
 .have H:IntKind.i64.wrap (0+1)=1:=by decide
  have Zo:IntKind.i64.wrap 1=1:=by decide
  have p:bump C (eI (cG x).1) 1=fZ C (eI (cG x).1) 1:=by simp[bump,E]
  simp only[iv,eI]at y D r T;simp only[c8,y,D,r,T,H,Zo,dB,V.jG,V.cell,VV,seval];refine aA (rF (cG x).1 _) (by simp only[It.aoZ,f,VV,seval]) ?_;simp only[VV,seval];have e:CN (F (pre++[x])) (bump C (eI (cG x).1) 1):=by rw[L];exact W
  refine⟨λg=>?_,λg=>?_⟩;.simp only[s,O,VV,seval];have d:=ih (pre++[x]) (bump C (eI (cG x).1) 1) w (t+1) (by simp) e (by omega) (by omega) (by simpa only[kh,D2,D6,m,g,cY,yP,fL,aI,aU,aQ]using j);rw[p]at d;exact o _ (cC [_,_,_] [_,_,_] (nf z _ U B w (t+1) a) (by repeat' constructor) (by simp[LW]) d)
  refine aA (lX (cG x).1 _) (by simp only[It.aoZ,f,VV,seval]) ?_;simp only[s,Q,VV,seval];have d:=ih (pre++[x]) (bump C (eI (cG x).1) 1) (w+weight (cG x).1) t (by simp) e (by omega) (by omega) (by simpa only[kh,D2,D6,m,g,cY,dM,ir,iq,aI,aU,aQ]using j);rw[p]at d;exact o _ (cC [_,_,_] [_,_,_] (nf z _ U B (w+weight (cG x).1) t a) (by repeat' constructor) (by simp[LW]) d)
 have H:IntKind.i64.wrap (b+1)=b+1:=IntWalk.i64_in _ (by rw[E]at S;simp at S;omega);have p:bump C (eI (cG x).1) 1=fZ C (eI (cG x).1) (b+1):=by simp[bump,E]
 simp only[iv,eI]at y D r;simp only[c8,y,D,r,H,dB,V.jG,V.cell,VV,seval];refine aA (rF (cG x).1 _) (by simp only[It.aoZ,f,VV,seval]) ?_;simp only[VV,seval];have e:CN (F (pre++[x])) (bump C (eI (cG x).1) 1):=by rw[L];exact W
 refine⟨λg=>?_,λg=>?_⟩;.simp only[s,O,VV,seval];have d:=ih (pre++[x]) (bump C (eI (cG x).1) 1) w (t+1) (by simp) e (by omega) (by omega) (by simpa only[kh,D2,D6,m,g,cY,yP,fL,aI,aU,aQ]using j);rw[p]at d;exact o _ (cC [_,_,_] [_,_,_] (nf z _ U B w (t+1) a) (by repeat' constructor) (by simp[LW]) d)
 refine aA (lX (cG x).1 _) (by simp only[It.aoZ,f,VV,seval]) ?_;simp only[s,Q,VV,seval];have d:=ih (pre++[x]) (bump C (eI (cG x).1) 1) (w+weight (cG x).1) t (by simp) e (by omega) (by omega) (by simpa only[kh,D2,D6,m,g,cY,dM,ir,iq,aI,aU,aQ]using j);rw[p]at d;exact o _ (cC [_,_,_] [_,_,_] (nf z _ U B (w+weight (cG x).1) t a) (by repeat' constructor) (by simp[LW]) d)
def r8(m:Nat):ao:=ye (cE (a8 l)) m (jB l).fD (jB l).weight (jB l).tags (ic l)
def YF(n:Nat):ag:=[.box 162 (r8 l (n+1)),.map 150 3 (emap iv eZ (kh [] l)),.box 162 (r8 l (n+1))]
def D9(b:F l<2^27)(J:ag):PC θ 118 [.sl 3 (l.map It.aoZ)] J (λr d=>r=.agg (r8 l (F J+1))/\d=J++YF l (F J)):=by refine a6 func118 ajz λh i=>ay ?_;simp only[adb,SS,seval];have j:=mN l;have e:=rK (a8 l);have a:=B9 (a8 l);simp only[VV,seval];refine aA (QO l (by omega) _) rfl ?_;simp only[VV,seval];refine aA (S8 (a8 l) (by omega) _) rfl ?_;simp only[VV,seval];refine aA (AQ l (by omega) _) rfl ?_;simp only[ae,VV,seval];have c:bT (J++[.box 162 [.nil,.eE,.I 0,.I 0,.I 0,.I 0]]):=cL h (by simp[LW]);refine cd.aX (fr':=(.sl 3 (l.map It.aoZ)::uu 1 (.ptr (F J) 0::.ptr (F J+2) 0::uu 14 (.sl 3 ((cE (a8 l)).map qM)::.I (F (cE (a8 l)))::.I (F ([]:List Gr))::uu 50 [])))) (by repeat' constructor) (F (cE (a8 l))+1) (Pj _ l (cE (a8 l)) (ic l) c (by omega) (λg f=>by have:=a g f;omega) (cE (a8 l)) [] 0 rfl (by simp) ?_);simp only[JE];intros;simp only[ye,ae,VV,seval];refine cd.aX (fr':=(uu 2 (.ptr (F J) 0::.ptr (F J+2) 0::uu 29 (.sl 3 (l.map It.aoZ)::.I (F l)::.I (F ([]:List It))::uu 35 [])))) (by repeat' constructor) (F l+1) (Ph _ l (cE (a8 l)) (ic l) (FC 0 (cE (a8 l))) c (by omega) l [] [] 0 0 rfl CN.nil (by simp) (by simp) ?_);simp only[JE];intros;simp only[ye,VV,seval];exact fv (.inr rfl) (by simp only[RS,seval];rfl) (Wk.refl _ _) rfl ⟨rfl,rfl⟩

set_option maxRecDepth 4000
set_option maxHeartbeats 1000000
def vI:Ob:=.box 170 [.mp x,.mp (x+1),.mp (x+2)]
def RR(M3 FB:Ob)(H:List (TK×(Nat×Nat)))(f3:TK->df)(id:Int)(y:List Gr)(u:F y<2^30)(j9:Nat):∀(a pre:List Gr) (T:ag) (G:List (GK×(Nat×Nat))) (f:GK->df),y=pre++a->Bt.iI 190 (F J+5) T G f->Bt.iI 190 (F J+5) T H f3->C3 G H->(∀k,F (f k)+F a<2^30) ->(∀c d,Bt.iI 190 (F J+5) c d (kr f id a)->Bt.iI 190 (F J+5) c H f3->C3 d H->mA T c->((fh (.ptr (F J+3) 0) (fh (.I id) (fj 7 (fh (.ptr j9 0) (fj 79 fo))))) λZZ=>K (.exit 0) ⟨ZZ,J++(P::.map 184 S (emap pt mW d)::M3::vI (F J)::FB::c)⟩)) ->fS Q θ MC K (F a+1) ⟨(.ptr (F J+3) 0::.I id::uu 7 (.ptr j9 0::uu 32 (.sl 3 (y.map qM)::.I (F y)::.I (F pre)::uu 44 []))),J++(P::.map 184 S (emap pt mW G)::M3::vI (F J)::FB::T)⟩:=by
 intro a;induction a with
 |nil =>intro pre T G f v w x t C B;have v:=db v;subst v;refine aF λR hR=>?_;simp only[MC,VV,seval];exact⟨λh=>by simp at h,λ_=>B T G w x t (mA.refl T) ..⟩
 |cons g a ih =>
 intro pre T G f v w x t C B;subst v;have X:F pre+1+F a<2^30:=by simp at u;omega
 have hw:=dY pre g (by omega);refine aF λR hR=>?_;simp only[MC,qM,vI,VV,seval];refine⟨λ_=>⟨by simp;omega,?_⟩,λh=>by simp at h;omega⟩;rcases qS (ve:=mW) yz G g.1 with⟨p,n,q,m,g5⟩|⟨i,b,p,n,q,m⟩
 .simp only[pt]at n q m g5;simp only[c8,n,q,m,g5,dB,V.jG,V.cell,VV,seval];have D:F (T++[Ob.box 182 [V.s g.1.1,V.s g.1.2,V.i .i64 g.2],Ob.box 184 [V.s g.1.1,V.s g.1.2],Ob.iter A (F J+1) S (F (emap pt mW G)+1) [] (N (F (emap pt mW G)))])=F T+3:=by simp
  have ku:=(w.app [Ob.box 182 [V.s g.1.1,V.s g.1.2,V.i .i64 g.2],Ob.box 184 [V.s g.1.1,V.s g.1.2],Ob.iter A (F J+1) S (F (emap pt mW G)+1) [] (N (F (emap pt mW G)))]).new p (id,g.2);rw[D]at ku;have L:V.own (F J+(F T+3+1+1+1+1+1)) 0=mW (F J+5+(F T+3),0):=by simp only[mW];congr 1;omega
  simp only[L,g5,hw];have k:=ih (pre++[g]) _ _ _ (by simp) ku ((x.app _).app _) (t.new x _ _ (by omega)) (λk=>by have:=C k;simp only[rR,ah]at *;split<;>simp<;>omega) (λc d U W M O=>B c d U W M ((mA.app _ _).trans ((mA.app _ _).trans O)));simp only[je,sq,aS,bo,bg,aC,bI,vI]at k;exact⟨by decide,hR _ (aX (by repeat' constructor) k)⟩
 simp only[pt]at n q m;obtain⟨r,z⟩:=b;obtain⟨j,rfl,E⟩:=w.row _ _ _ p;have lz:=(ab.1 E).1;have ej:F J+5+j=F J+(j+5):=by omega
 have S4:∀l,(T++l)[j]?=N (.row 190 2 16 z Z ((f g.1).map sq)):=λl=>by rw[aj lz];exact E
 have S0:∀l o,(T++l).set j o=T.set j o++l:=λl o=>eT _ _ lz;have Ur:∀o l k,(T.set j o++l)[F T+k]?=l[k]?:=λo l k=>by rw[aD (by simp)];simp
 have uq:=C g.1;simp only[mW,ej]at n q;simp only[c8,n,q,m,S4,S0,Ur,dB,V.jG,V.cell,VV,seval];have Wv:=(w.add p (id,g.2)).app [Ob.box 182 [V.s g.1.1,V.s g.1.2,V.i .i64 g.2],Ob.box 184 [V.s g.1.1,V.s g.1.2],Ob.iter A (F J+1) S (F (emap pt mW G)) [] (N i)];have Wx:=(x.other (je 190 (z+1) (f g.1++[(id,g.2)])) (λk r g' hk=>λe=>t _ _ _ _ _ _ p hk e.symm)).app [Ob.box 182 [V.s g.1.1,V.s g.1.2,V.i .i64 g.2],Ob.box 184 [V.s g.1.1,V.s g.1.2],Ob.iter A (F J+1) S (F (emap pt mW G)) [] (N i)];have L:V.own (F J+(j+5)) (z+1)=mW (F J+5+j,z+1):=by simp only[mW];congr 1;omega
 have hr:(f g.1).map sq++[[V.i .i64 id,V.i .i64 g.2]]=(f g.1++[(id,g.2)]).map sq:=by simp[sq]
 simp only[L,m,hr,hw];have k:=ih (pre++[g]) _ _ _ (by simp) Wv Wx (t.add p _) (λk=>by have:=C k;simp only[rR,ah]at *;split<;>simp<;>omega) (λc d U W M O=>B c d U W M (((mA.setRow E _).trans (mA.app _ _)).trans O));simp only[je,aS,bo,bg,vI]at k;exact⟨by simp only[ae,maxLen,ah]at *;omega,hR _ (aX (by repeat' constructor) k)⟩

set_option maxRecDepth 4000
set_option maxHeartbeats 1000000
def RQ(M2 FB:Ob)(H:List (GK×(Nat×Nat)))(f3:GK->df)(id:Int)(C:List (TK×Int))(hK:jM C)(hC:F C<2^29)(m v:Nat)(n:TK->df)(Np:∀k,F (n k)<2^29):∀(a:Nat) (d:cy) (z:bP) (D:List (TK×Int)) (T:ag) (G:List (TK×(Nat×Nat))),F d<=a->d.Nodup->(∀p∈d,p<F C)->(D++d.map λi=>C.getD i ((0,[]),0)).Perm C ->Bt.iI 190 (F J+5) T G (kr n id D)->Bt.iI 190 (F J+5) T H f3->C3 G H->T[m]?=N (.map 150 3 (emap iv eZ C))->T[v]?=N (.iter Z (F J+5+m) 3 (F (emap iv eZ C)) d z) ->(∀w y D',D'.Perm C->Bt.iI 190 (F J+5) w y (kr n id D')->Bt.iI 190 (F J+5) w H f3->C3 y H->mA T w->((fh (.ptr (F J+3) 0) (fj 88 fo)) λZZ=>K (.exit 2) ⟨ZZ,J++(P::M2::.map 150 S (emap iv mW y)::vI (F J)::FB::w)⟩)) ->fS Q θ MB K (a+1) ⟨(.ptr (F J+3) 0::.I id::uu 68 (.it (F J+(v+5))::uu 18 [])),J++(P::M2::.map 150 S (emap iv mW G)::vI (F J)::FB::T)⟩:=by
 intro a;induction a with
 |zero =>
  intro d z D T G hl nB x hs W O E L u h1;have mD:d=[]:=aL (by omega);subst mD;have ec:F J+5+m=F J+(m+5):=by omega
  rw[ec]at u;refine aF λR hR=>?_;simp only[MB,vI,L,u,VV,seval];exact h1 _ _ D (by simpa using hs) W O E (mA.refl T) ..
 |succ a ih =>
 intro d z D T G hl nB x hs W O E L u h1;have ec:F J+5+m=F J+(m+5):=by omega
 rw[ec]at u;have qW:=(ab.1 u).1;have gn:v≠m:=λe=>by subst e;rw[L]at u;simp at u
 have DD:∀o,(T.set v o)[v]?=N o:=λo=>aw qW;have Hd:∀o,(T.set v o)[m]?=N (.map 150 3 (emap iv eZ C)):=λo=>by rw[aN gn];exact L
 refine aF λR hR=>?_;simp only[MB,vI,L,u,DD,Hd,VV,seval];refine⟨λmD=>?_,λq B=>?_⟩;.subst mD;exact h1 _ _ D (by simpa using hs) W O E (mA.refl T) ..
 have Ay:=x q B;have fG:=ug (ke:=iv) (ve:=eZ) C ((0,[]),0) Ay;have Wd:=nL nB B;have uq:=nh B;have t:∀{α:Type} [DecidableEq α] {G:List (α×(Nat×Nat))} {f:α->df},Bt.iI 190 (F J+5) T G f->∀k r g,bZ k G=N (r,g)->r≠F J+5+v:=λh k r g hk e=>by
  obtain⟨j,e1,e2⟩:=h.row k r g hk;have:j=v:=by omega
  subst this;rw[u]at e2;simp[je]at e2
 have ac:=λo=>W.other o (t W);have ad:=λo=>O.other o (t O);have C1:=λo=>mA.set u rfl o;have uM:((D++[C.getD q ((0,[]),0)])++(d.filter λi=>i != q).map λi=>C.getD i ((0,[]),0)).Perm C:=by refine List.Perm.trans ?_ hs;rw[aS];refine mC _ ?_;exact((Wd.map λi=>C.getD i ((0,[]),0)).symm)
 have aE:F D<2^29:=by have:=hs.length_eq;simp at this;omega
 generalize av:C.getD q ((0,[]),0)=kc at fG uM;obtain⟨k,c⟩:=kc;have Wv:rR (kr n id D) k (id,c)=kr n id (D++[(k,c)]):=(L4 n id D (k,c)).symm;have am:∀k,F (kr n id D k)+1<2^30:=λk=>by have:=E4 id k D n;have:=Np k;omega
 simp only[fG,eZ,iv,VV,seval];have M:=DD (.iter Z (F J+(m+5)) 3 (F (emap iv eZ C)) (d.filter λi=>i != q) (N q));have XR:=Hd (.iter Z (F J+(m+5)) 3 (F (emap iv eZ C)) (d.filter λi=>i != q) (N q));have Ww:=ac (.iter Z (F J+(m+5)) 3 (F (emap iv eZ C)) (d.filter λi=>i != q) (N q));have ZY:=ad (.iter Z (F J+(m+5)) 3 (F (emap iv eZ C)) (d.filter λi=>i != q) (N q));have ZJ:=C1 (.iter Z (F J+(m+5)) 3 (F (emap iv eZ C)) (d.filter λi=>i != q) (N q));generalize T.set v (.iter Z (F J+(m+5)) 3 (F (emap iv eZ C)) (d.filter λi=>i != q) (N q))=T1 at M XR Ww ZY ZJ |-;clear DD Hd ac ad C1 u L W O t;rcases qS (ve:=mW) u0 G k with⟨X,g2,g3,U,g5⟩|⟨i,b,X,g2,g3,U⟩
 .simp only[iv]at g2 g3 U g5;simp only[c8,g2,g3,U,g5,dB,V.jG,V.cell,VV,seval];have af:F (T1++[Ob.box 150 [V.i .i64 k.1,V.s k.2,V.i .i64 0],Ob.iter A (F J+2) S (F (emap iv mW G)+1) [] (N (F (emap iv mW G)))])=F T1+2:=by simp
  have ku:=(Ww.app [Ob.box 150 [V.i .i64 k.1,V.s k.2,V.i .i64 0],Ob.iter A (F J+2) S (F (emap iv mW G)+1) [] (N (F (emap iv mW G)))]).new X (id,c);rw[af,Wv]at ku;have hv:V.own (F J+(F T1+2+1+1+1+1+1)) 0=mW (F J+5+(F T1+2),0):=by simp only[mW];congr 1;omega
  simp only[hv,g5];have kk:=ih (d.filter λi=>i != q) (N q) (D++[(k,c)]) _ _ (by omega) (nB.filter _) (λp h=>x p (cV.1 h).1) uM ku ((ZY.app _).app _) (E.new ZY _ _ (by omega)) (((mA.app _ _).trans (mA.app _ _)).2 _ _ XR rfl) (by rw[ec,aS,aj (ab.1 M).1];exact M)
   (λw y D' x B hh hd hg=>h1 w y D' x B hh hd (ZJ.trans (((mA.app _ _).trans (mA.app _ _)).trans hg)));simp only[je,sq,aS,bo,bg,aC,bI,vI]at kk;exact⟨by decide,hR _ (aX (by repeat' constructor) kk)⟩
 obtain⟨r,g0⟩:=b;obtain⟨j,rfl,hj⟩:=Ww.row _ _ _ X;have lz:=(ab.1 hj).1;have ej:F J+5+j=F J+(j+5):=by omega
 have S4:∀l,(T1++l)[j]?=N (.row 190 2 16 g0 Z ((kr n id D k).map sq)):=λl=>by rw[aj lz];exact hj
 have S0:∀l o,(T1++l).set j o=T1.set j o++l:=λl o=>eT _ _ lz;have Ur:∀o l k,(T1.set j o++l)[F T1+k]?=l[k]?:=λo l k=>by rw[aD (by simp)];simp
 have uq:=am k;simp only[mW,iv,ej]at g2 g3;simp only[iv]at U;simp only[c8,g2,g3,U,S4,S0,Ur,dB,V.jG,V.cell,VV,seval];have X6:=(Ww.add X (id,c)).app [Ob.box 150 [V.i .i64 k.1,V.s k.2,V.i .i64 0],Ob.iter A (F J+2) S (F (emap iv mW G)) [] (N i)];rw[Wv]at X6;have Wx:=(ZY.other (je 190 (g0+1) (kr n id D k++[(id,c)])) (λk r g' hk=>λe=>E _ _ _ _ _ _ X hk e.symm)).app [Ob.box 150 [V.i .i64 k.1,V.s k.2,V.i .i64 0],Ob.iter A (F J+2) S (F (emap iv mW G)) [] (N i)];have hv:V.own (F J+(j+5)) (g0+1)=mW (F J+5+j,g0+1):=by simp only[mW];congr 1;omega
 have hr:(kr n id D k).map sq++[[V.i .i64 id,V.i .i64 c]]=(kr n id D k++[(id,c)]).map sq:=by simp[sq]
 simp only[hv,U,hr];have I9:mA T1 (T1.set j (je 190 (g0+1) (kr n id D k++[(id,c)]))++[Ob.box 150 [V.i .i64 k.1,V.s k.2,V.i .i64 0],Ob.iter A (F J+2) S (F (emap iv mW G)) [] (N i)]):=(mA.setRow hj _).trans (mA.app _ _);have ap:j≠v:=λe=>by subst e;rw[M]at hj;simp[je]at hj
 have kk:=ih (d.filter λi=>i != q) (N q) (D++[(k,c)]) _ _ (by omega) (nB.filter _) (λp h=>x p (cV.1 h).1) uM X6 Wx (E.add X _) (I9.2 _ _ XR rfl) (by rw[ec,aj (by rw[dI];exact(ab.1 M).1),aN ap];exact M) (λw y D' x B hh hd hg=>h1 w y D' x B hh hd (ZJ.trans (I9.trans hg)));simp only[je,aS,bo,bg,vI]at kk;exact⟨by simp only[ae,maxLen];omega,hR _ (aX (by repeat' constructor) kk)⟩

set_option maxRecDepth 4000
set_option maxHeartbeats 1000000
abbrev LE:=Int×(List It×Nat)
def BL(e:List It×Nat):V:=.agg (r8 e.1 e.2)
def Co(L:List LE)(k:GK):df:=L.filterMap λe=>(bZ k (eX [] [] (a8 e.2.1))).map λc=>(e.1,c)
def Aa(L:List LE)(k:TK):df:=L.filterMap λe=>(bZ k (kh [] e.2.1)).map λc=>(e.1,c)
structure DV (n:Nat) (T:ag) (L:List LE) (G2:List (GK×(Nat×Nat))) (G3:List (TK×(Nat×Nat))):Prop where
 keys:(L.map (·.1)).Nodup
 apa:∀e∈L,e.2.1.length<2^27
 cls:∀e∈L,∃j,e.2.2=n+5+j/\T[j]?=some (.map 150 3 (emap iv eZ (kh [] e.2.1)))
 p2:Bt.iI 190 (n+5) T G2 (Co L)
 p3:Bt.iI 190 (n+5) T G3 (Aa L)
 dis:C3 G2 G3
def pX(E:Nat×Nat×Nat)(J:ag)(L:List LE)(c:List (GK×(Nat×Nat)))(b:List (TK×(Nat×Nat)))(a:Ob)(T:ag):ag :=J++(.map 3 E.1 (emap eZ BL L)::.map 184 E.2.1 (emap pt mW c)::.map 150 E.2.2 (emap iv mW b)::vI (F J)::a::T)
def BQ:cA 0 (eZ a) (eZ B)=N (decide (a=B)):=K9 a B
def Ts(L:List LE)(id:Int)(l:List It)(m:Nat):kr (Co L) id (cE (a8 l))=Co (L++[(id,(l,m))]):=by funext k;have b:=(jh (a8 l) [] [] 0 CN.nil).2.1;have a:=gR (a8 l);have c:jM (cE (a8 l)):=(a.map _).nodup_iff.2 b;rw[CL id k _ _ c,qN b a];simp only[Co,List.filterMap_append,ix,List.filterMap_nil];cases bZ k (eX [] [] (a8 l))<;>simp
def Tq(L:List LE)(id:Int)(l:List It)(m:Nat)(a:D.Perm (kh [] l)):kr (Aa L) id D=Aa (L++[(id,(l,m))]):=by funext k;have b:=(vr l [] 0 CN.nil).2.1;have c:jM D:=(a.map _).nodup_iff.2 b;rw[CL id k _ _ c,qN b a];simp only[Aa,List.filterMap_append,ix,List.filterMap_nil];cases bZ k (kh [] l)<;>simp
def DV.snoc{d:ag}{L:List LE}{o c:List (GK×(Nat×Nat))}{t b:List (TK×(Nat×Nat))}(h:DV S J L o t)(p:mA J d){id:Int}(g:bZ id L=Y){l:List It}(m:F l<2^27) (u:d[Q]?=N (.map 150 3 (emap iv eZ (kh [] l))))  (r:D.Perm (kh [] l)) (n:Bt.iI 190 (S+5) d c (kr (Co L) id (cE (a8 l)))) (p3:Bt.iI 190 (S+5) d b (kr (Aa L) id D)) (k:C3 c b) : DV S d (L++[(id,(l,S+5+Q))]) c b:=by
 refine⟨?_,λe f=>?_,λe f=>?_,?_,?_,k⟩;.rw[cF,fp];refine⟨h.keys,by simp,λx q y j e=>?_⟩;simp only[aC,bI,cj]at j;subst j;subst e;have:=(iK x L).1 q;rw[g]at this;cases this
 .rcases bR.1 f with a|a;.exact h.apa e a
  simp only[cj]at a;subst a;exact m
 .rcases bR.1 f with a|a;.obtain⟨i,s,v⟩:=h.cls e a;exact⟨i,s,p.2 _ _ v rfl⟩
  simp only[cj]at a;subst a;exact⟨Q,rfl,u⟩
 .rw[<- Ts];exact n
 rw[<- Tq L id l _ r];exact p3
def EI{E:Nat×Nat×Nat}(L:List LE)(s:List (GK×(Nat×Nat)))(g:List (TK×(Nat×Nat)))(J:ag)(q:DV (F J) R L s g)(id:Int)(h:bZ id L=Y)(hL:F L<1024)(l:List It)(H:F l<2^27): PC θ 72 [.ptr (F J+3) 0,.I id,.sl 3 (l.map It.aoZ)] (pX E J L s g P R) (λr S'=>r=.b A/\∃w m a c,S'=pX E J (L++[(id,(l,m))]) a c P w/\DV (F J) w (L++[(id,(l,m))]) a c/\mA R w):=by
 refine a6 func72 c72 λbn dN=>ay ?_;simp only[p72,SS,seval];rcases qS (ve:=BL) BQ L id with⟨z,o,O,G,g5⟩|⟨i,b,z,o,O,G⟩
 .simp only[eZ]at o O G g5;have f:F (emap eZ BL L)=F L:=by simp[emap]
  have hd:decide ((1024:Int)<=(F L:Int))=Z:=by simp;omega
  simp only[pX,vI,c8,o,f,hd,VV,seval];refine⟨rfl,?_⟩;refine aA (D9 l H _) rfl ?_;simp only[YF,r8,ye,c8,o,dB,V.jG,V.cell,VV,seval];refine⟨rfl,?_⟩;have e7:F J+(F R+1+1+1+1+1+1)+1=F J+(F R+2+5):=by omega
  have S:F J+(F R+4+1+1+1+1+1)=F J+(F R+4+5):=by omega
  simp only[e7,S,ae];have Uh:=mN l;have ac:=rK (a8 l);have j:=vr l [] 0 CN.nil;generalize e:R++[_,_,_,_,_]=T1;have ZU:F T1=F R+5:=by rw[<- e];simp
  have U:Bt.iI 190 (F J+5) T1 s (Co L):=by rw[<- e];exact q.p2.app _
  have u:Bt.iI 190 (F J+5) T1 g (Aa L):=by rw[<- e];exact q.p3.app _
  have D:mA R T1:=by rw[<- e];exact mA.app _ _
  have Q:T1[F R+2]?=N (.map 150 3 (emap iv eZ (kh [] l))):=by rw[<- e];simp
  have yx:T1[F R+4]?=N (.box 162 (r8 l (F J+(F R+2+5)))):=by rw[<- e];simp[r8,ye]
  have GG:∀k,F (Co L k)+F (cE (a8 l))<2^30:=λk=>by have:F (Co L k)<=F L:=gC _ _;omega
  have Wm:∀k,F (Aa L k)<2^29:=λk=>by have:F (Aa L k)<=F L:=gC _ _;omega
  refine cd.aX (fr':=(.ptr (F J+3) 0::.I id::uu 7 (.ptr (F J+(F R+4+5)) 0::uu 32 (.sl 3 ((cE (a8 l)).map qM)::.I (F (cE (a8 l)))::.I (F ([]:List Gr))::uu 44 [])))) (by repeat' constructor) (F (cE (a8 l))+1) (RR _ _ P g (Aa L) id (cE (a8 l)) (by omega) (F J+(F R+4+5)) (cE (a8 l)) [] T1 s (Co L) rfl U u q.dis GG ?_);intro y a Ll x X0 n;simp only[JE];intros;have B:=n.2 _ _ Q rfl;have K:=n.2 _ _ yx rfl;simp only[r8,ye]at K;simp only[vI,K,B,VV,seval];have M:F J+5+(F R+2)=F J+(F R+2+5):=by omega
  have v:F (emap iv eZ (kh [] l))=F (kh [] l):=oX _;refine cd.aX (fr':=(.ptr (F J+3) 0::.I id::uu 68 (.it (F J+(F y+5))::uu 18 []))) (by repeat' constructor) (F (kh [] l)+1) (RQ _ _ P a _ id (kh [] l) j.2.1 (by have:=j.1;omega) (F R+2) (F y) (Aa L) Wm (F (kh [] l)) (List.range (F (emap iv eZ (kh [] l)))) Y [] (y++[_]) g (by simp[v]) lx (λp hp=>by simpa[v]using hp) (by rw[v,bg,mU]) (x.app _) (Ll.app _) X0.symm ((mA.app _ _).2 _ _ B rfl) (by rw[M];simp) ?_);intro W c D' T C X t d;simp only[JE];intros;simp only[VV,seval];refine fv (.inr rfl) rfl (Wk.refl _ _) rfl ⟨rfl,W,F J+5+(F R+2),a,c,?_,?_,?_⟩
  .have:emap eZ BL (L++[(id,(l,F J+5+(F R+2)))])=emap eZ BL L++[(V.i .i64 id,V.agg (r8 l (F J+(F R+2+5))))]:=by rw[<- M];simp[emap,eZ,BL]
   rw[this];rfl
  .exact q.snoc (D.trans (n.trans ((mA.app _ _).trans d))) h H (d.2 _ _ ((mA.app _ _).2 _ _ B rfl) rfl) T X C t.symm
  exact D.trans (n.trans ((mA.app _ _).trans d))
 rw[h]at z;cases z
def JK(a b c:Sm)(n:a.ok (2^40))(i:b.ok (2^40))(t:c.ok (2^40))(J:ag):bO θ 120 [.agg (Ef a),.agg (Ef b),.agg (Ef c)] J (.I (tF a b c)):=by
 refine a6 func120 LX λj v=>ay ?_;obtain⟨H,K,B⟩:=n;obtain⟨u,G,w⟩:=i;obtain⟨C,D,E⟩:=t;simp only[ac9,Ef,SS,seval];have l:∀x y:Int,(if x<y then y else x)=mx x y:=λ_ _=>rfl;have o:0<=mx a.weight b.weight/\mx a.weight b.weight<=2^40:=by unfold mx;split<;>omega
 have q:0<=mx a.fD b.fD/\mx a.fD b.fD<=2^40:=by unfold mx;split<;>omega
 have f:IntKind.i64.wrap (mx a.weight b.weight - c.weight)=mx a.weight b.weight - c.weight:=IntWalk.i64_in _ (by omega);have r:IntKind.i64.wrap (a.tags+b.tags)=a.tags+b.tags:=IntWalk.i64_in _ (by omega);have g:IntKind.i64.wrap (2*c.tags)=2*c.tags:=IntWalk.i64_in _ (by omega);have e:IntKind.i64.wrap (a.tags+b.tags - 2*c.tags)=a.tags+b.tags - 2*c.tags:=IntWalk.i64_in _ (by omega);have s:IntKind.i64.wrap (3*(a.tags+b.tags - 2*c.tags))=3*(a.tags+b.tags - 2*c.tags):=IntWalk.i64_in _ (by omega);have h:IntKind.i64.wrap (mx a.weight b.weight - c.weight+3*(a.tags+b.tags - 2*c.tags))=mx a.weight b.weight - c.weight+3*(a.tags+b.tags - 2*c.tags):=IntWalk.i64_in _ (by omega);have k:IntKind.i64.wrap (mx a.fD b.fD - c.fD)=mx a.fD b.fD - c.fD:=IntWalk.i64_in _ (by omega);have m:IntKind.i64.wrap (mx a.fD b.fD - c.fD+1)=mx a.fD b.fD - c.fD+1:=IntWalk.i64_in _ (by omega);have z:=Mj (mx a.fD b.fD - c.fD+1) (2^41) 2 (by omega) (by omega);have p:IntKind.i64.wrap ((mx a.fD b.fD - c.fD+1).tdiv 2)=(mx a.fD b.fD - c.fD+1).tdiv 2:=IntWalk.i64_in _ (by omega);have d:IntKind.i64.wrap (4*(mx a.fD b.fD - c.fD+1).tdiv 2)=4*(mx a.fD b.fD - c.fD+1).tdiv 2:=IntWalk.i64_in _ (by omega);simp only[l,f,r,g,e,s,h,k,m,p,d,VV,seval];exact km j (by simp only[RS,seval];rfl) (by simp only[LW])
def CJ(l:0<=a/\a<=2^40)(j : -(2^40)<=B/\B<=2^40)(J:ag):bO θ 121 [.I a,.I B] J (.I (my a B)):=by
 refine a6 func121 ajx λm k=>ay ?_;simp only[ac8,SS,seval];simp only[VV,seval];refine⟨λh=>?_,λh=>⟨λc=>?_,λc=>?_⟩⟩
 .have b:100<B:=by simpa using h
  exact aY (.inr rfl) rfl ⟨by simp only[my,aK b,one];rfl,rfl⟩
 .have b:¬100<B:=by simpa using h
  have d:B<1\/a<1:=by simpa using c
  exact aY (.inr rfl) rfl ⟨by simp only[my,au b,aK d,one];rfl,rfl⟩
 have b:¬100<B:=by simpa using h
 have d:¬(B<1\/a<1):=by simp only[kJ,cI]at c;omega
 have e:0<=(if 1073741824<a then 1073741824 else a)/\(if 1073741824<a then 1073741824 else a)<=1073741824:=by split<;>omega
 have f:IntKind.i64.wrap (100 - B)=100 - B:=IntWalk.i64_in _ (by omega);have n:(if 1073741824<a then 1073741824 else a)*(100 - B)<=1073741824*100:=vG e.2 (by omega) (by omega) (by omega);have p:0<=(if 1073741824<a then 1073741824 else a)*(100 - B):=vF e.1 (by omega);have i:IntKind.i64.wrap ((if 1073741824<a then 1073741824 else a)*(100 - B))=(if 1073741824<a then 1073741824 else a)*(100 - B):=IntWalk.i64_in _ (by omega);have o:=Mj ((if 1073741824<a then 1073741824 else a)*(100 - B)) (1073741824*100) 100 (by omega) (by omega);have g:IntKind.i64.wrap (((if 1073741824<a then 1073741824 else a)*(100 - B)).tdiv 100)=((if 1073741824<a then 1073741824 else a)*(100 - B)).tdiv 100:=IntWalk.i64_in _ (by omega);simp only[f,i,g];exact aY (.inr rfl) rfl ⟨by simp only[my,au b,au d,one];rfl,rfl⟩

set_option maxRecDepth 4000
set_option maxHeartbeats 1000000
def Pg(hx:x<F J)(M B:Ob)(g:Gr)(hg:0<=g.2)(r Q:Nat)(w:List Gr)(s:Nat)(f:df)(mD:∀p∈f,0<=p.2)(X:F f<2^30)(hr:J[r]?=N (je 190 Q f))(S:B=.box 182 (qM g))(bn:∀O:List pk,bT (J++[M,.map 3 160 (emap eZ oz O),B])):∀(c pre:df) (O:List pk) (m:Int),f=pre++c->OB m O->m+jL (kG g.2 c)<=2^40 ->((fh (.ptr x 0) (fj 2 (fh (.ptr (F J) 0) (fj 1 (fh (.mp (F J+1)) (fj 1 (fh (.ptr (F J+2) 0) (fj 10 (fh (.sl 3 (w.map qM)) (fh (.I (F w)) (fh (.I s) (fj 87 fo)))))))))))) λZZ=>K (.exit 2) ⟨ZZ,J++[M,.map 3 160 (emap eZ oz (dU O (kG g.2 c))),B]⟩) ->fS (F J) θ x6 K (F c+1) ⟨(.ptr x 0::uu 2 (.ptr (F J) 0::uu 1 (.mp (F J+1)::uu 1 (.ptr (F J+2) 0::uu 10 (.sl 3 (w.map qM)::.I (F w)::.I s::uu 12 (.own r Q::.I (F f)::.I (F pre)::uu 72 [])))))),J++[M,.map 3 160 (emap eZ oz O),B]⟩:=by
 have nS:=(ab.1 hr).1;have W:∀l,(J++l)[r]?=N (.row 190 2 16 Q Z (f.map sq)):=λl=>by rw[aj nS];exact hr
 intro c;induction c with
 |nil =>intro pre O m j y T C;have j:=db j;subst j;refine aF λR U=>?_;simp only[x6,VV,seval];exact⟨λh=>by simp at h,λ_=>C ..⟩
 |cons p c ih =>
 intro pre O m j y T C;have CZ:F f=F pre+1+F c:=by rw[j];simp;omega
 have hw:=dY pre p (by omega);have G:(f.map sq).getD (F pre) []=sq p:=by rw[j];simp[aq]
 have hd:decide ((F pre:Int)<(F f:Int))=A:=by simp;omega
 have Wg:∀a b:Int,(if b<a then b else a)=mn a b:=λ_ _=>rfl;subst S;refine aF λR U=>?_;simp only[sq]at G;have Hf:=mD p (by rw[j];simp);have ZD:0<=mn p.2 g.2:=by unfold mn;split<;>omega
 have SO:kG g.2 (p::c)=(p.1,(⟨mn p.2 g.2,0,0⟩:Sm))::kG g.2 c:=rfl;have Un:Qu (kG g.2 c):=λi hi=>by simp only[kG,br]at hi;obtain⟨q,hq,rfl⟩:=hi;have:=mD q (by rw[j];simp[hq]);exact⟨by simp only[mn];split<;>omega,cP _,cP _⟩
 have ac:=tS Un;rw[SO,xO]at T;have gv:(⟨mn p.2 g.2,0,0⟩:Sm).size=mn p.2 g.2:=by simp[Sm.size]
 have o:=y.add (i:=(p.1,(⟨mn p.2 g.2,0,0⟩:Sm))) ⟨ZD,cP _,cP _⟩;have P:=y.getD p.1;have ad:=y.1;simp only[gv]at T o;have d:=ih (pre++[p]) (ux O (p.1,⟨mn p.2 g.2,0,0⟩)) (m+mn p.2 g.2) (by rw[j];simp) o (by omega) (by rw[SO]at C;exact C);have u:=bn (ux O (p.1,⟨mn p.2 g.2,0,0⟩));simp only[qM]at d u;rcases ka (ve:=oz) BQ O p.1 with⟨D,t,v⟩|⟨i,b,D,t,v⟩
 .simp only[eZ]at t v;have L:IntKind.i64.wrap (0+mn p.2 g.2)=0+mn p.2 g.2:=IntWalk.i64_in _ (by omega);have e:oz ((uB).add ⟨mn p.2 g.2,0,0⟩)=.agg [.I (0+mn p.2 g.2),.I 0,.I 0]:=by simp[oz,Ef,uB,Sm.add]
  have H:ux O (p.1,⟨mn p.2 g.2,0,0⟩)=fZ O p.1 ((uB).add ⟨mn p.2 g.2,0,0⟩):=by simp[ux,D]
  have n:=v ((uB).add ⟨mn p.2 g.2,0,0⟩);rw[e]at n;rw[H]at d u;simp only[x6,qM,W,G,hd,Wg,c8,t,L,aG,ae,dB,V.jG,V.cell,VV,seval];simp only[hw,n];exact⟨⟨by omega,by omega⟩,rfl,rfl,U _ (cC [_,_,_] [_,_] u (by repeat' constructor) (by simp[LW];omega) d)⟩
 simp only[eZ]at t v;obtain⟨k,z,E⟩:=b;rw[D]at P;simp only[gM]at P;obtain⟨⟨o1,o2⟩,⟨o3,o4⟩,o5,o6⟩:=P;simp only at o1 o2 o3 o4 o5 o6;have L:IntKind.i64.wrap (k+mn p.2 g.2)=k+mn p.2 g.2:=IntWalk.i64_in _ (by omega);have e:oz ((⟨k,z,E⟩:Sm).add ⟨mn p.2 g.2,0,0⟩)=.agg [.I (k+mn p.2 g.2),.I z,.I E]:=by simp[oz,Ef,Sm.add]
 have H:ux O (p.1,⟨mn p.2 g.2,0,0⟩)=fZ O p.1 ((⟨k,z,E⟩:Sm).add ⟨mn p.2 g.2,0,0⟩):=by simp[ux,D]
 have n:=v ((⟨k,z,E⟩:Sm).add ⟨mn p.2 g.2,0,0⟩);rw[e]at n;rw[H]at d u;simp only[x6,qM,W,G,hd,Wg,c8,t,L,oz,Ef,aG,ae,dB,V.jG,V.cell,VV,seval];simp only[hw,n];exact⟨⟨by omega,by omega⟩,rfl,rfl,U _ (cC [_,_,_] [_,_] u (by repeat' constructor) (by simp[LW];omega) d)⟩
def Pf(hx:J[x]?=N (.box 170 [.mp g,.mp b,.mp y]))(w:Ob)(v:List (GK×(Nat×Nat)))(e:GK->df)(X:J[b]?=N (.map 184 S (emap pt mW v))) (cH:∀k r a,bZ k v=N (r,a)->J[r]?=N (je 190 a (e k))) (SI:∀k,bZ k v=Y->e k=[]) (Q:∀k,∀p∈e k,0<=p.2) (uq:∀k,F (e k)<2^30) (f:List Gr) (U:∀a∈f,0<=a.2) (ac:F f<2^30) (bn:∀O:List pk,bT (J++[w,.map 3 160 (emap eZ oz O)])):∀(d pre:List Gr) (O:List pk) (m:Int),f=pre++d->OB m O->m+jL (d.flatMap λa=>kG a.2 (e a.1))<=2^40 ->((fh (.ptr x 0) (fj 2 (fh (.ptr (F J) 0) (fj 1 (fh (.mp (F J+1)) (fj 102 fo)))))) λZZ=>K (.exit 0) ⟨ZZ,J++[w,.map 3 160 (emap eZ oz (dU O (d.flatMap λa=>kG a.2 (e a.1))))]⟩) ->fS (F J) θ BA K (F d+1) ⟨(.ptr x 0::uu 2 (.ptr (F J) 0::uu 1 (.mp (F J+1)::uu 12 (.sl 3 (f.map qM)::.I (F f)::.I (F pre)::uu 87 [])))),J++[w,.map 3 160 (emap eZ oz O)]⟩:=by
 have ub:=(ab.1 hx).1;have Ax:∀l,(J++l)[x]?=N (.box 170 [.mp g,.mp b,.mp y]):=λl=>by rw[aj ub];exact hx
 have G:=(ab.1 X).1;have t:∀l,(J++l)[b]?=N (.map 184 S (emap pt mW v)):=λl=>by rw[aj G];exact X
 intro d;induction d with
 |nil =>intro pre O m j E hm u;have j:=db j;subst j;refine aF λR W=>?_;simp only[BA,VV,seval];exact⟨λh=>by simp at h,λ_=>u ..⟩
 |cons a d ih =>
 intro pre O m j E hm u;have CZ:F f=F pre+1+F d:=by rw[j];simp;omega
 have hw:=dY pre a (by omega);have C:(f.map qM).getD (F pre) []=qM a:=by rw[j];simp[aq]
 have hd:decide ((F pre:Int)<(F f:Int))=true:=by simp;omega
 have hI:(a::d).flatMap (λa=>kG a.2 (e a.1))=kG a.2 (e a.1)++d.flatMap λa=>kG a.2 (e a.1):=by simp
 rw[hI,qq]at hm;rw[hI]at u;have hA:dU O (kG a.2 (e a.1)++d.flatMap λa=>kG a.2 (e a.1))=dU (dU O (kG a.2 (e a.1))) (d.flatMap λa=>kG a.2 (e a.1)):=by simp[dU]
 rw[hA]at u;have Un:Qu (kG a.2 (e a.1)):=λi s=>by simp only[kG,br]at s;obtain⟨q,L,rfl⟩:=s;have:=Q _ q L;have:=U a (by rw[j];simp);exact⟨by simp only[mn];split<;>omega,cP _,cP _⟩
 have D:Qu (d.flatMap λa=>kG a.2 (e a.1)):=λi s=>by simp only[kG,jN,br]at s;obtain⟨g',H,q,L,rfl⟩:=s;have:=Q _ q L;have:=U g' (by rw[j];simp[H]);exact⟨by simp only[mn];split<;>omega,cP _,cP _⟩
 have n:=ih (pre++[a]) (dU O (kG a.2 (e a.1))) (m+jL (kG a.2 (e a.1))) (by rw[j];simp) (E.apply _ Un) (by omega) u;have af:=tS D;have z:=bn (dU O (kG a.2 (e a.1)));refine aF λR W=>?_;simp only[qM]at C;rcases ka (ve:=mW) yz v a.1 with⟨P,o,B⟩|⟨i,c,P,o,B⟩;.simp only[pt]at o B;simp only[BA,qM,Ax,t,C,hd,c8,o,aG,ae,dB,V.jG,V.cell,VV,seval];have hf:=SI _ P;rw[hf]at n z;simp only[kG,bI,dU,vE]at n z;refine⟨⟨by omega,by omega⟩,cd.xA 1 (aF λR' ad=>?_)⟩;simp only[x6,hw,uy,aI,false_implies,gL,VV,seval];exact W _ (cC [_,_] [_] z (by repeat' constructor) (by simp[LW];omega) n)
 simp only[pt]at o B;obtain⟨r,M⟩:=c;have T:=cH _ _ _ P;have th:∀l,(J++l)[r]?=N (je 190 M (e a.1)):=λl=>by rw[aj (ab.1 T).1];exact T
 simp only[je]at th;simp only[mW]at o B;simp only[BA,qM,Ax,t,C,hd,c8,o,th,aG,ae,dB,V.jG,V.cell,VV,seval];refine⟨⟨by omega,by omega⟩,cd.aX (fr':=(.ptr x 0::uu 2 (.ptr (F J) 0::uu 1 (.mp (F J+1)::uu 1 (.ptr (F J+2) 0::uu 10 (.sl 3 (f.map qM)::.I (F f)::.I (F pre)::uu 12 (.own r M::.I (F (e a.1))::.I (F ([]:df))::uu 72 []))))))) (by repeat' constructor) (F (e a.1)+1) (Pg x ub w _ a (U a (by rw[j];simp)) r M f (F pre) (e a.1) (Q _) (uq _) T rfl ?_ (e a.1) [] O m rfl E (by omega) ?_)⟩;.intro O';have h:=cL (bn O') (l:=[.box 182 (qM a)]) (by simp[qM,LW]);simpa using h
 simp only[JE];intros;simp only[VV,seval];simp only[hw];refine W _ (cC [_,_] [_] z (by repeat' constructor) (by simp[LW];omega) n)

set_option maxRecDepth 4000
set_option maxHeartbeats 1000000
def Pe(hx:x<F J)(B3 IT:Ob)(k:TK)(c:Int)(hc:0<=c)(r g0:Nat)(j:df)(mD:∀p∈j,0<=p.2)(ad:F j<2^30)(hr:J[r]?=N (je 190 g0 j))(bn:∀O:List pk,bT (J++[B3,.map 3 160 (emap eZ oz O),IT,.box 150 [.I k.1,.s k.2,.I 0]])):∀(d pre:df) (O:List pk) (m:Int),j=pre++d->OB m O->m+jL (oh k c d)<=2^40 ->((fh (.ptr x 0) (fj 2 (fh (.ptr (F J) 0) (fj 1 (fh (.mp (F J+1)) (fj 54 (fh (.it (F J+2)) (fj 47 fo)))))))) λZZ=>K (.exit 6) ⟨ZZ,J++[B3,.map 3 160 (emap eZ oz (dU O (oh k c d))),IT,.box 150 [.I k.1,.s k.2,.I 0]]⟩) ->fS (F J) θ xZ K (F d+1) ⟨(.ptr x 0::uu 2 (.ptr (F J) 0::uu 1 (.mp (F J+1)::uu 5 (.ptr (F J+3) 0::.I c::uu 47 (.it (F J+2)::uu 10 (.own r g0::.I (F j)::.I (F pre)::uu 34 [])))))),J++[B3,.map 3 160 (emap eZ oz O),IT,.box 150 [.I k.1,.s k.2,.I 0]]⟩:=by
 have nS:=(ab.1 hr).1;have th:∀l,(J++l)[r]?=N (.row 190 2 16 g0 Z (j.map sq)):=λl=>by rw[aj nS];exact hr
 intro d;induction d with
 |nil =>intro pre O m o S v W;have o:=db o;subst o;refine aF λR P=>?_;simp only[xZ,VV,seval];exact⟨λh=>by simp at h,λ_=>W ..⟩
 |cons p d ih =>
 intro pre O m o S v W;have CZ:F j=F pre+1+F d:=by rw[o];simp;omega
 have U:=dY pre p (by omega);have X:(j.map sq).getD (F pre) []=sq p:=by rw[o];simp[aq]
 have hd:decide ((F pre:Int)<(F j:Int))=A:=by simp;omega
 have G:∀a b:Int,(if b<a then b else a)=mn a b:=λ_ _=>rfl;refine aF λR P=>?_;simp only[sq]at X;have Hf:=mD p (by rw[o];simp);have ZD:0<=mn p.2 c:=by unfold mn;split<;>omega
 have L:0<=weight ⟨k.1,k.2,0⟩/\weight ⟨k.1,k.2,0⟩<=4:=by unfold weight;(repeat' split)<;>omega
 have af:0<=mn p.2 c*weight ⟨k.1,k.2,0⟩:=vF ZD L.1;let z:Sm:=if lQ k then⟨0,0,mn p.2 c⟩else⟨0,mn p.2 c*weight ⟨k.1,k.2,0⟩,0⟩;have T:z=if lQ k then⟨0,0,mn p.2 c⟩else⟨0,mn p.2 c*weight ⟨k.1,k.2,0⟩,0⟩:=rfl;have SO:oh k c (p::d)=(p.1,z)::oh k c d:=rfl;have H:∀q:Int×Int,0<=q.2->(if lQ k then(⟨0,0,mn q.2 c⟩:Sm)else⟨0,mn q.2 c*weight ⟨k.1,k.2,0⟩,0⟩).nn:=λq hq=>by
  have h0:0<=mn q.2 c:=by unfold mn;split<;>omega
  split;.exact⟨cP _,cP _,h0⟩
  exact⟨cP _,vF h0 L.1,cP _⟩
 have Un:Qu (oh k c d):=λi hi=>by simp only[oh,br]at hi;obtain⟨q,hq,rfl⟩:=hi;exact H q (mD q (by rw[o];simp[hq]))
 have am:=tS Un;rw[SO,xO]at v;have ac:=S.add (i:=(p.1,z)) (H p Hf);have jf:=S.getD p.1;have ap:=S.1;have f:=ih (pre++[p]) (ux O (p.1,z)) (m+z.size) (by rw[o];simp) ac (by simp only at v;omega) (by rw[SO]at W;exact W);have M:=bn (ux O (p.1,z));have Uo:∃b:Sm,(bZ p.1 O).getD uB=b:=⟨_,rfl⟩;obtain⟨⟨E,w,y⟩,D⟩:=Uo;rw[D]at jf;obtain⟨⟨o1,o2⟩,⟨o3,o4⟩,o5,o6⟩:=jf;simp only at o1 o2 o3 o4 o5 o6;have e2:ux O (p.1,z)=fZ O p.1 ((⟨E,w,y⟩:Sm).add z):=by simp only[ux,D]
 rw[e2]at f M;rcases ka (ve:=oz) BQ O p.1 with⟨g1,t,Q⟩|⟨i,b,g1,t,Q⟩
 .simp only[eZ]at t Q;rw[g1]at D;cases D;have n:=Q ((⟨0,0,0⟩:Sm).add z);simp only[xZ,th,X,hd,G,c8,t,aG,ae,dB,V.jG,V.cell,VV,seval];have ht:bW ⟨k.1,k.2,0⟩=lQ k:=rfl;refine⟨⟨by omega,by omega⟩,rfl,?_⟩;refine aA (rF ⟨k.1,k.2,0⟩ _) rfl ?_;simp only[ht,VV,seval];refine⟨λhT=>?_,λhT=>?_⟩
  .have g:z=⟨0,0,mn p.2 c⟩:=by rw[T,aK hT]
   have u:z.size=mn p.2 c:=by rw[g];simp[Sm.size]
   have B:IntKind.i64.wrap (0+mn p.2 c)=0+mn p.2 c:=IntWalk.i64_in _ (by simp only[u]at v;omega);have e:oz ((⟨0,0,0⟩:Sm).add z)=.agg [.I 0,.I 0,.I (0+mn p.2 c)]:=by simp[oz,Ef,uB,Sm.add,g]
   rw[e]at n;simp only[G,B,c8,t,dB,V.jG,V.cell,oz,Ef,VV,seval];simp only[U,n];exact⟨rfl,P _ (cC [_,_,_,_] [_,_] M (by repeat' constructor) (by simp[LW];omega) f)⟩
  have g:z=⟨0,mn p.2 c*weight ⟨k.1,k.2,0⟩,0⟩:=by rw[T,au (by simp[hT])]
  have u:z.size=mn p.2 c*weight ⟨k.1,k.2,0⟩:=by rw[g];simp[Sm.size]
  have C:IntKind.i64.wrap (mn p.2 c*weight ⟨k.1,k.2,0⟩)=mn p.2 c*weight ⟨k.1,k.2,0⟩:=IntWalk.i64_in _ (by simp only[u]at v;omega);have B:IntKind.i64.wrap (0+mn p.2 c*weight ⟨k.1,k.2,0⟩)=0+mn p.2 c*weight ⟨k.1,k.2,0⟩:=IntWalk.i64_in _ (by simp only[u]at v;omega);have e:oz ((⟨0,0,0⟩:Sm).add z)=.agg [.I 0,.I (0+mn p.2 c*weight ⟨k.1,k.2,0⟩),.I 0]:=by simp[oz,Ef,uB,Sm.add,g]
  rw[e]at n;refine aA (lX ⟨k.1,k.2,0⟩ _) rfl ?_;simp only[G,C,B,c8,t,dB,V.jG,V.cell,oz,Ef,VV,seval];simp only[U,n];exact⟨rfl,P _ (cC [_,_,_,_] [_,_] M (by repeat' constructor) (by simp[LW];omega) f)⟩
 simp only[eZ]at t Q;rw[g1]at D;cases D;have n:=Q ((⟨E,w,y⟩:Sm).add z);simp only[xZ,th,X,hd,G,c8,t,oz,Ef,aG,ae,dB,V.jG,V.cell,VV,seval];have ht:bW ⟨k.1,k.2,0⟩=lQ k:=rfl;refine⟨⟨by omega,by omega⟩,rfl,?_⟩;refine aA (rF ⟨k.1,k.2,0⟩ _) rfl ?_;simp only[ht,VV,seval];refine⟨λhT=>?_,λhT=>?_⟩
 .have g:z=⟨0,0,mn p.2 c⟩:=by rw[T,aK hT]
  have u:z.size=mn p.2 c:=by rw[g];simp[Sm.size]
  have B:IntKind.i64.wrap (y+mn p.2 c)=y+mn p.2 c:=IntWalk.i64_in _ (by simp only[u]at v;omega);have e:oz ((⟨E,w,y⟩:Sm).add z)=.agg [.I E,.I w,.I (y+mn p.2 c)]:=by simp[oz,Ef,uB,Sm.add,g]
  rw[e]at n;simp only[G,B,c8,t,dB,V.jG,V.cell,oz,Ef,VV,seval];simp only[U,n];exact⟨rfl,P _ (cC [_,_,_,_] [_,_] M (by repeat' constructor) (by simp[LW];omega) f)⟩
 have g:z=⟨0,mn p.2 c*weight ⟨k.1,k.2,0⟩,0⟩:=by rw[T,au (by simp[hT])]
 have u:z.size=mn p.2 c*weight ⟨k.1,k.2,0⟩:=by rw[g];simp[Sm.size]
 have C:IntKind.i64.wrap (mn p.2 c*weight ⟨k.1,k.2,0⟩)=mn p.2 c*weight ⟨k.1,k.2,0⟩:=IntWalk.i64_in _ (by simp only[u]at v;omega);have B:IntKind.i64.wrap (w+mn p.2 c*weight ⟨k.1,k.2,0⟩)=w+mn p.2 c*weight ⟨k.1,k.2,0⟩:=IntWalk.i64_in _ (by simp only[u]at v;omega);have e:oz ((⟨E,w,y⟩:Sm).add z)=.agg [.I E,.I (w+mn p.2 c*weight ⟨k.1,k.2,0⟩),.I y]:=by simp[oz,Ef,uB,Sm.add,g]
 rw[e]at n;refine aA (lX ⟨k.1,k.2,0⟩ _) rfl ?_;simp only[G,C,B,c8,t,dB,V.jG,V.cell,oz,Ef,VV,seval];simp only[U,n];exact⟨rfl,P _ (cC [_,_,_,_] [_,_] M (by repeat' constructor) (by simp[LW];omega) f)⟩
def Pd(G:Nat)(hx:J[x]?=N (.box 170 [.mp g,.mp b,.mp y]))(M:Ob)(L:List (TK×(Nat×Nat)))(t:TK->df)(h3:J[y]?=N (.map 150 S (emap iv mW L))) (cH:∀k r f,bZ k L=N (r,f)->J[r]?=N (je 190 f (t k))) (SI:∀k,bZ k L=Y->t k=[]) (Np:∀k,∀p∈t k,0<=p.2) (uq:∀k,F (t k)<2^30) (C:List (TK×Int)) (E:J[G]?=N (.map 150 3 (emap iv eZ C))) (Nu:∀p∈C,0<=p.2) (bn:∀(O:List pk) o u,bT (J++[M,.map 3 160 (emap eZ oz O),.iter Z G 3 (F (emap iv eZ C)) o u])):∀(a:Nat) (o:cy) (u:bP) (O:List pk) (m:Int),F o<=a->o.Nodup->(∀p∈o,p<F C)->OB m O->m+jL ((o.map λi=>C.getD i ((0,[]),0)).flatMap λk=>oh k.1 k.2 (t k.1))<=2^40 ->(∀(D:List (TK×Int)) (z:cy) (v:bP),D.Perm (o.map λi=>C.getD i ((0,[]),0))->((fj 5 (fh (.mp (F J+1)) (fj 102 fo))) λZZ=>K (.exit 4) ⟨ZZ,J++[M,.map 3 160 (emap eZ oz (dU O (D.flatMap λk=>oh k.1 k.2 (t k.1)))),.iter Z G 3 (F (emap iv eZ C)) z v]⟩)) ->fS (F J) θ Gb K (a+1) ⟨(.ptr x 0::uu 2 (.ptr (F J) 0::uu 1 (.mp (F J+1)::uu 54 (.it (F J+2)::uu 47 [])))),J++[M,.map 3 160 (emap eZ oz O),.iter Z G 3 (F (emap iv eZ C)) o u]⟩:=by
 have ub:=(ab.1 hx).1;have Ax:∀l,(J++l)[x]?=N (.box 170 [.mp g,.mp b,.mp y]):=λl=>by rw[aj ub];exact hx
 have am:=(ab.1 h3).1;have H:∀l,(J++l)[y]?=N (.map 150 S (emap iv mW L)):=λl=>by rw[aj am];exact h3
 have ad:=(ab.1 E).1;have Ll:∀l,(J++l)[G]?=N (.map 150 3 (emap iv eZ C)):=λl=>by rw[aj ad];exact E
 intro a;induction a with
 |zero =>intro o u O m hl nB Q W hm P;have mD:o=[]:=aL (by omega);subst mD;refine aF λR hR=>?_;simp only[Gb,Ll,VV,seval];exact P [] _ _ (.refl _) ..
 |succ a ih =>
 intro o u O m hl nB Q W hm P;refine aF λR hR=>?_;simp only[Gb,Ll,VV,seval];refine⟨λmD=>?_,λq E=>?_⟩;.subst mD;exact P [] _ _ (.refl _) ..
 have Ay:=Q q E;have fG:=ug (ke:=iv) (ve:=eZ) C ((0,[]),0) Ay;have Wd:=nL nB E;have ap:=nh E;have pr:=wU (d:=(((0,[]),0):TK×Int)) Ay;generalize af:C.getD q ((0,[]),0)=kc at fG pr;have Um:=Wd.map λi=>C.getD i ((0,[]),0);simp only[aC,af]at Um;rw[sL _ Um,dR,qq]at hm;obtain⟨k,c⟩:=kc;have B2:=Nu _ pr;simp only at hm B2;have Un:=Au (k:=k) B2 (Np k);have ac:=W.apply _ Un;have w:=ih (o.filter λi=>i != q) (N q) _ _ (by omega) (nB.filter _) (λp h=>Q p (cV.1 h).1) ac (by omega) (λD z v hD=>by have h:=P ((k,c)::D) z v ((hD.cons _).trans Um.symm);rw[dR,LY]at h;exact h);have XS:0<=jL (((o.filter λi=>i != q).map λi=>C.getD i ((0,[]),0)).flatMap λk=>oh k.1 k.2 (t k.1)):=tS λi X=>by obtain⟨e,hy,X⟩:=jN.1 X;obtain⟨j,hj,rfl⟩:=br.1 hy;exact Au (Nu _ (wU (Q j (cV.1 hj).1))) (Np _) i X
 have T:=bn (dU O (oh k c (t k))) (o.filter λi=>i != q) (N q);simp only[fG,eZ,iv,VV,seval];rcases ka (ve:=mW) u0 L k with⟨g1,B,U⟩|⟨i,n,g1,B,U⟩;.simp only[iv]at B U;simp only[Ax,H,c8,B,aG,dB,V.jG,V.cell,VV,seval];have hf:=SI _ g1;rw[hf]at w T;simp only[oh,bI,dU,vE]at w T;refine cd.xA 1 (aF λR' av=>?_);simp only[xZ,uy,aI,false_implies,gL,VV,seval];exact hR _ (cC [_,_,_] [_] T (by repeat' constructor) (by simp[LW];omega) w)
 simp only[iv]at B U;obtain⟨r,g0⟩:=n;have hr:=cH _ _ _ g1;have th:∀l,(J++l)[r]?=N (je 190 g0 (t k)):=λl=>by rw[aj (ab.1 hr).1];exact hr
 simp only[je]at th;simp only[mW]at B U;simp only[Ax,H,c8,B,th,aG,ae,dB,V.jG,V.cell,VV,seval];refine cd.aX (fr':=(.ptr x 0::uu 2 (.ptr (F J) 0::uu 1 (.mp (F J+1)::uu 5 (.ptr (F J+3) 0::.I c::uu 47 (.it (F J+2)::uu 10 (.own r g0::.I (F (t k))::.I (F ([]:df))::uu 34 []))))))) (by repeat' constructor) (F (t k)+1) (Pe x ub M _ k c B2 r g0 (t k) (Np _) (uq _) hr ?_ (t k) [] O m rfl W (by omega) ?_);.intro O';have h:=cL (bn O' (o.filter λi=>i != q) (N q)) (l:=[.box 150 [.I k.1,.s k.2,.I 0]]) (by simp[LW]);simpa using h
 simp only[JE];intros;simp only[VV,seval];refine hR _ (cC [_,_,_] [_] T (by repeat' constructor) (by simp[LW];omega) w)

set_option maxRecDepth 4000
set_option maxHeartbeats 1000000
def qJ(b:GK->df)(a:List Gr):List pk:=a.flatMap λg=>kG g.2 (b g.1)
def qK(a:TK->df)(D:List (TK×Int)):List pk:=D.flatMap λk=>oh k.1 k.2 (a k.1)
def AZ(O:List pk):fY x ((emap eZ oz O).map (·.2)):=o8 λy a=>by obtain⟨e,b,rfl⟩:=br.1 a;simp[oz,Ef,LW]
def N9{eb ec:Nat}{S:ag}(x v s j a:Nat)(H:S[x]?=N (.box 170 [.mp v,.mp s,.mp j]))(t:List (GK×(Nat×Nat)))(b:GK->df)(R:S[s]?=N (.map 184 eb (emap pt mW t))) (EJ:∀k r g,bZ k t=N (r,g)->S[r]?=N (je 190 g (b k))) (X:∀k,bZ k t=Y->b k=[]) (J:∀k,∀p∈b k,0<=p.2) (ZL:∀k,F (b k)<2^30) (q:List (TK×(Nat×Nat))) (d:TK->df) (h3:S[j]?=N (.map 150 ec (emap iv mW q))) (Sw:∀k r g,bZ k q=N (r,g)->S[r]?=N (je 190 g (d k))) (T:∀k,bZ k q=Y->d k=[]) (L:∀k,∀p∈d k,0<=p.2) (V:∀k,F (d k)<2^30) (l:List It) (hl:F l<2^27) (y:S[a]?=N (.map 150 3 (emap iv eZ (kh [] l)))) (K:∀g∈cE (a8 l),0<=g.2) (P:∀p∈kh [] l,0<=p.2) (hm:jL (qJ b (cE (a8 l)))+jL (qK d (kh [] l))<=2^40) : PC θ 119 [.ptr x 0,.agg (r8 l a)] S (λr S'=>∃D m c,D.Perm (kh [] l)/\r=.mp (F S+1)/\S'=S++[.box 162 (r8 l a),.map 3 160 (emap eZ oz (dU (dU [] (qJ b (cE (a8 l)))) (qK d D))),.iter Z a 3 (F (emap iv eZ (kh [] l))) m c]):=by
 refine a6 func119 ajy λE dN=>ay ?_;have B:=(ab.1 y).1;have Uh:=mN l;have ac:=rK (a8 l);have C:∀n,F S<n->fY n (r8 l a):=λn hn=>by simp[r8,ye,LW];omega
 have U:∀O:List pk,bT (S++[.box 162 (r8 l a),.map 3 160 (emap eZ oz O)]):=λO=>cL E (by
  intro o f;simp only[bE,fK,vA]at f;rcases f with rfl|rfl;.exact C _ (by simp)
  exact AZ _ O);have z6:∀(O:List pk) m c,bT (S++[.box 162 (r8 l a),.map 3 160 (emap eZ oz O),.iter Z a 3 (F (emap iv eZ (kh [] l))) m c]):=λO m c=>cL E (by
  intro o f;simp only[bE,fK,vA]at f;rcases f with rfl|rfl|rfl;.exact C _ (by simp)
  .exact AZ _ O
  simp only[ah,az];omega);have Ll:∀l',(S++l')[a]?=N (.map 150 3 (emap iv eZ (kh [] l))):=λl=>by rw[aj B];exact y
 simp only[ada,r8,ye,SS,seval];simp only[ae,VV,seval];have M:Qu (qJ b (cE (a8 l))):=λi e=>by obtain⟨g,w,e⟩:=jN.1 e;exact Nd (K g w) (J _) i e
 have z:Qu (qK d (kh [] l)):=λi e=>by obtain⟨g,w,e⟩:=jN.1 e;exact Au (P g w) (L _) i e
 have Hd:=tS M;have Q:=tS z;have W:=OB.nil.apply _ M;refine cd.aX (fr':=(.ptr x 0::uu 2 (.ptr (F S) 0::uu 1 (.mp (F S+1)::uu 12 (.sl 3 ((cE (a8 l)).map qM)::.I (F (cE (a8 l)))::.I (F ([]:List Gr))::uu 87 []))))) (by repeat' constructor) (F (cE (a8 l))+1) (Pf x v s j H (.box 162 (r8 l a)) t b R EJ X J ZL (cE (a8 l)) K (by omega) U (cE (a8 l)) [] [] 0 rfl OB.nil (by show 0+jL (qJ b (cE (a8 l)))<=2^40;omega) ?_);simp only[JE];intros;simp only[ae,r8,ye,Ll,VV,seval];refine cd.aX (fr':=(.ptr x 0::uu 2 (.ptr (F S) 0::uu 1 (.mp (F S+1)::uu 54 (.it (F S+2)::uu 47 []))))) (by repeat' constructor) (F (emap iv eZ (kh [] l))+1) (Pd x v s j a H (.box 162 (r8 l a)) q d h3 Sw T L V (kh [] l) y P z6 _ (List.range (F (emap iv eZ (kh [] l)))) Y (dU [] (qJ b (cE (a8 l)))) _ (by simp) lx (by simp[emap]) W (by rw[oX,mU];show 0+jL (qJ b (cE (a8 l)))+jL (qK d (kh [] l))<=2^40;omega) ?_);intro D u h G;rw[oX,mU]at G;simp only[JE];intros;simp only[VV,seval];exact fv (.inr rfl) (by simp only[RS,seval];rfl) (Wk.refl _ _) rfl ⟨D,u,h,G,rfl,rfl⟩

set_option maxRecDepth 4000
set_option maxHeartbeats 1000000
def uI(O:List pk)(p:Int)(e:LE):Bool:=decide (tF (jB l) (jB e.2.1) ((bZ e.1 O).getD uB)<=my (mx (ic l) (ic e.2.1)) p)
def NO(a:Nat)(D:bG)(v:V):Prop:=(D=[]/\v=.nil)\/∃j g,v=.own (x+j) g/\j≠a/\R[j]?=N (.row 3 1 8 g Z (D.map cg))
def Y6(C y z mq:Nat)(L:List LE)(a0:F L<2^20)(h1:J[C]?=N (.map 3 S (emap eZ BL L)))(q:List It)(h7:J[y]?=N (.box 162 (r8 q mq)))(O:List pk)(hO:OB (2^40) O)(h8:J[z]?=N (.map 3 160 (emap eZ oz O)))(p:Int)(hp : -(2^40)<=p/\p<=2^40) (hq:(jB q).ok (2^40)/\0<=ic q/\ic q<=2^40) (hL:∀e∈L,(jB e.2.1).ok (2^40)/\0<=ic e.2.1/\ic e.2.1<=2^40) (k:Nat):∀(c:Nat) (f:cy) (M:bP) (D:bG) (v:V) (T:ag),F f<=c->f.Nodup->(∀p∈f,p<F L)->F D+F f<=F L ->T[k]?=N (.iter Z C S (F (emap eZ BL L)) f M)->NO (F J) T k D v ->(∀(E:List LE) U G,E.Perm (f.map λi=>L.getD i (0,([],0)))->NO (F J) G k (D++(E.filter (uI q O p)).map (·.1)) U->((fj 9 (fh (U) (fj 40 fo))) λZZ=>K (.exit 0) ⟨ZZ,J++G⟩)) ->fS Q θ Iu K (c+1) ⟨(uu 2 (.I p::uu 4 (.ptr y 0::.mp z::v::uu 11 (.it (F J+k)::uu 28 [])))),J++T⟩:=by
 have Uu:∀l,(J++l)[C]?=N (.map 3 S (emap eZ BL L)):=λl=>by rw[aj (ab.1 h1).1];exact h1
 have B:∀l,(J++l)[y]?=N (.box 162 (r8 q mq)):=λl=>by rw[aj (ab.1 h7).1];exact h7
 have ad:∀l,(J++l)[z]?=N (.map 3 160 (emap eZ oz O)):=λl=>by rw[aj (ab.1 h8).1];exact h8
 intro c;induction c with
 |zero =>intro f M D v T hl nB hb hn hi w hk;have mD:f=[]:=aL (by omega);subst mD;refine aF λR W=>?_;simp only[Iu,Uu,hi,VV,seval];exact hk [] v T (.refl _) (by simpa using w) ..
 |succ c ih =>
 intro f M D v T hl nB hb hn hi w hk;have qW:=(ab.1 hi).1;have DD:∀o,(T.set k o)[k]?=N o:=λo=>aw qW;refine aF λR W=>?_;simp only[Iu,Uu,hi,DD,VV,seval];refine⟨λmD=>?_,λi H=>?_⟩;.subst mD;exact hk [] v T (.refl _) (by simpa using w) ..
 have Ay:=hb i H;have fG:=ug (ke:=eZ) (ve:=BL) L (0,([],0)) Ay;have Wd:=nL nB H;have uq:=nh H;have pr:=wU (d:=((0,([],0)):LE)) Ay;generalize ap:L.getD i (0,([],0))=e at fG pr;have Um:=Wd.map λi=>L.getD i (0,([],0));simp only[aC,ap]at Um;obtain⟨id,l,m⟩:=e;obtain⟨hs,ht⟩:=hL _ pr;have P:=DD (.iter Z C S (F (emap eZ BL L)) (f.filter λj=>j != i) (N i));have ZU:F (T.set k (.iter Z C S (F (emap eZ BL L)) (f.filter λj=>j != i) (N i)))=F T:=dI;have Ns:NO (F J) (T.set k (.iter Z C S (F (emap eZ BL L)) (f.filter λj=>j != i) (N i))) k D v:=by
  rcases w with h|⟨j,g,e1,r,n⟩;.exact .inl h
  exact .inr ⟨j,g,e1,r,by rw[aN (Qm r)];exact n⟩
 simp only[fG,eZ,BL,VV,seval];generalize T.set k (.iter Z C S (F (emap eZ BL L)) (f.filter λj=>j != i) (N i))=T1 at P Ns ZU |-;have t:=hO.getD id;have zZ:∀(D':bG) (U:V) (G:ag),D'=D++(if uI q O p (id,(l,m))then[id]else[])->G[k]?=N (.iter Z C S (F (emap eZ BL L)) (f.filter λj=>j != i) (N i))->NO (F J) G k D' U->fS Q θ Iu K (c+1) ⟨(uu 2 (.I p::uu 4 (.ptr y 0::.mp z::U::uu 11 (.it (F J+k)::uu 28 [])))),J++G⟩:=λD' U G ac af am =>
  ih (f.filter λj=>j != i) (N i) D' U G (by omega) (nB.filter _) (λp h=>hb p (cV.1 h).1) (by subst ac;split<;>simp<;>omega) af am (λE aE av hE GL=>hk ((id,(l,m))::E) aE av ((hE.cons _).trans Um.symm) (by
   subst ac;rw[dS];split at GL;.rename_i hx;rw[aK hx];simpa using GL
   rename_i hx;rw[au hx];simpa using GL));have aV:F D<2^21:=by omega
 have X:k<F T1:=by omega
 have hm:∀a b:Int,(if a<b then b else a)=mx a b:=λ_ _=>rfl;have PE:0<=mx (ic q) (ic l)/\mx (ic q) (ic l)<=2^40:=by simp only at ht;unfold mx;split<;>omega
 simp only at hs ht;rcases ka (ve:=oz) BQ O id with⟨g1,g2,g3⟩|⟨i',b,g1,g2,g3⟩
 .simp only[eZ]at g2;have s:(bZ id O).getD uB=uB:=by rw[g1];rfl
  rw[s]at t;simp only[r8,ye,oz,Ef,B,ad,c8,g2,VV,seval];refine⟨rfl,?_⟩;refine aA (JK (jB q) (jB l) uB hq.1 hs t _) rfl ?_;simp only[r8,ye,B,hm,VV,seval];refine aA (CJ (mx (ic q) (ic l)) p PE hp _) rfl ?_;simp only[VV,seval];have gn:uI q O p (id,(l,m))=decide (tF (jB q) (jB l) uB<=my (mx (ic q) (ic l)) p):=by simp only[uI,s]
  rw[<- gn];refine⟨λu=>?_,λu=>?_⟩
  .rcases Ns with⟨rfl,rfl⟩|⟨j,g,rfl,r,n⟩;.simp only[VV,seval];refine⟨by decide,W _ (aX (by repeat' constructor) (zZ [id] (.own (F J+(F T1+1)) 0) _ (by rw[u];rfl) (by rw[aj X];exact P) (.inr ⟨F T1+1,0,rfl,by omega,by simp[cg]⟩)))⟩
   have x:=(ab.1 n).1;have S4:∀l,(T1++l)[j]?=N (.row 3 1 8 g Z (D.map cg)):=λl=>by rw[aj x];exact n
   have S0:∀l o,(T1++l).set j o=T1.set j o++l:=λl o=>eT _ _ x;simp only[S4,S0,VV,seval];refine⟨⟨by simp only[ae];omega,by simp only[ae,maxLen];omega⟩,W _ (aX (by repeat' constructor) (zZ (D++[id]) (.own (F J+j) (g+1)) _ (by rw[u];rfl) (by rw[aj (by simpa using X),aN r];exact P) (.inr ⟨j,g+1,rfl,r,by rw[aj (by simpa using x),aw x];simp[cg]⟩)))⟩
  exact W _ (aX (by repeat' constructor) (zZ D v _ (by rw[u];simp) (by rw[aj X];exact P) (by
   rcases Ns with h|⟨j,g,e1,r,n⟩;.exact .inl h
   exact .inr ⟨j,g,e1,r,by rw[aj (ab.1 n).1];exact n⟩)))
 simp only[eZ]at g2;have s:(bZ id O).getD uB=b:=by rw[g1];rfl
 rw[s]at t;simp only[r8,ye,oz,Ef,B,ad,c8,g2,VV,seval];refine⟨rfl,?_⟩;refine aA (JK (jB q) (jB l) b hq.1 hs t _) rfl ?_;simp only[r8,ye,B,hm,VV,seval];refine aA (CJ (mx (ic q) (ic l)) p PE hp _) rfl ?_;simp only[VV,seval];have gn:uI q O p (id,(l,m))=decide (tF (jB q) (jB l) b<=my (mx (ic q) (ic l)) p):=by simp only[uI,s]
 rw[<- gn];refine⟨λu=>?_,λu=>?_⟩
 .rcases Ns with⟨rfl,rfl⟩|⟨j,g,rfl,r,n⟩;.simp only[VV,seval];refine⟨by decide,W _ (aX (by repeat' constructor) (zZ [id] (.own (F J+(F T1+1)) 0) _ (by rw[u];rfl) (by rw[aj X];exact P) (.inr ⟨F T1+1,0,rfl,by omega,by simp[cg]⟩)))⟩
  have x:=(ab.1 n).1;have S4:∀l,(T1++l)[j]?=N (.row 3 1 8 g Z (D.map cg)):=λl=>by rw[aj x];exact n
  have S0:∀l o,(T1++l).set j o=T1.set j o++l:=λl o=>eT _ _ x;simp only[S4,S0,VV,seval];refine⟨⟨by simp only[ae];omega,by simp only[ae,maxLen];omega⟩,W _ (aX (by repeat' constructor) (zZ (D++[id]) (.own (F J+j) (g+1)) _ (by rw[u];rfl) (by rw[aj (by simpa using X),aN r];exact P) (.inr ⟨j,g+1,rfl,r,by rw[aj (by simpa using x),aw x];simp[cg]⟩)))⟩
 exact W _ (aX (by repeat' constructor) (zZ D v _ (by rw[u];simp) (by rw[aj X];exact P) (by
  rcases Ns with h|⟨j,g,e1,r,n⟩;.exact .inl h
  exact .inr ⟨j,g,e1,r,by rw[aj (ab.1 n).1];exact n⟩)))

set_option maxRecDepth 4000
set_option maxHeartbeats 1000000
def Pw:PC θ 65 [] R (λr a=>r=.ptr (F R+3) 0/\a=R++[.map 3 162 [],.map 184 185 [],.map 150 185 [],vI (F R)]):=by refine a6 func65 c65 λc b=>ay ?_;simp only[p65,SS,seval];simp only[VV,seval];exact fv (.inr rfl) (by simp only[RS,seval];rfl) (Wk.refl _ _) rfl ⟨rfl,rfl⟩
abbrev ix0:Nat×Nat×Nat:=(162,185,185)
def J4(v:V)(next:Int):Ob:=.box 105 [.ptr (x+3) 0,v,.I next]
def DV.nil:DV x [] [] [] [] :=⟨kg,λe a=>by simp at a,λe a=>by simp at a,⟨kg,λk r g h=>by simp[bZ,eO]at h,λk h=>rfl,λk b r g c h=>by simp[bZ,eO]at h⟩,
  ⟨kg,λk r g h=>by simp[bZ,eO]at h,λk h=>rfl,λk b r g c h=>by simp[bZ,eO]at h⟩,λk r g b d c h=>by simp[bZ,eO]at h⟩

set_option maxRecDepth 4000
set_option maxHeartbeats 1000000
def Xz(p:Int×Int)(id:Int)(b:Nat)(J:ag)(c:J[b]?=N (.box 3 [.I id])):bO θ 202 [.agg (sq p),.ptr b 0] J (.b (p.1==id)):=by
 refine a6 func202 aiG λd e=>ay ?_;have a:∀l,(J++l)[b]?=N (.box 3 [.I id]):=λl=>by rw[aj (ab.1 c).1];exact c
 simp only[ace,SS,seval];simp only[sq,a,VV,seval];exact bl d (.inr rfl) rfl (by simp[LW]) ⟨rfl,rfl⟩
def abH{l:df}{i:Nat}{x:Int×Int}(h:l[i]?=N x):(l.map sq).getD i []=sq x:=by simp[aq,h]
def YH(i:Nat)(x:Int×Int):(w.map sq).set i (sq x)=(w.set i x).map sq:=by rw[List.map_set]
def zQ:Ob:=.row 190 2 16 x Z (w.map sq)
def Vj{J:ag}{K:bj}(r g b:Nat)(id:Int)(u:J[b]?=N (.box 3 [.I id]))(l:df)(B:F l<2^30)(q:J[r]?=N (zQ g l)):∀(a pre:df),l=pre++a ->(jg id a=a->((fh (.own r g) (fj 18 fo)) λf=>K (.exit 0) ⟨f,J⟩)) ->(∀(c:df) (x:Int×Int) (k:df),a=c++x::k->jg id c=c->(x.1==id)=A->((fj 4 (fh (.I (F (pre++c))) (fj 14 fo))) λf=>K .ret ⟨f,J⟩)) ->fS (F J) θ FF K (F a+1) ⟨(.own r g::.fn 202 [.ptr b 0]::uu 5 (.I (F l)::.I (F pre)::uu 10 [])),J⟩:=by
 intro a;induction a with
 |nil =>intro pre d j e;have d:=db d;subst d;refine aF λR s=>?_;simp only[FF,VV,seval];exact⟨λh=>by simp at h,λ_=>j rfl ..⟩
 |cons x a ih =>
 intro pre d j e;have n:=uY d;have v:=dY pre x (by omega);have m:=abH (l:=l) (i:=F pre) (x:=x) (by rw[d];simp);have t:decide ((F pre:Int)<(F l:Int))=A:=by simp;omega
 simp only[sq]at m;simp only[zQ]at q;refine aF λR s=>?_;simp only[FF,q,m,t,ae,aG,VV,seval];refine⟨⟨by omega,by omega⟩,?_⟩;refine xn rfl (by kernel_rfl) (Xz x id b _ u) (by simp only[sq,VV,seval]) ?_;simp only[v,VV,seval];refine⟨λh=>?_,λh=>?_⟩;.have:=e [] x a rfl rfl h;simp only[bM]at this;exact this ..
 refine s _ (aX ?_ (ih (pre++[x]) (by simp[d]) (λp=>j (by simp only[jg]at p |-;rw[jv (by simp[h]),p])) (λc y k w o z=>?_)));.repeat' constructor
 have:=e (x::c) y k (by simp[w]) (by simp only[jg]at o |-;rw[jv (by simp[h]),o]) z;rw[show pre++[x]++c=pre++x::c by simp];exact this
def Sn(id:Int)(l:df)(e:F l<2^30)(J:ag)(i:J[b]?=N (.box 3 [.I id]))(c:J[x]?=N (zQ g l)): PC θ 242 [.own x g,.fn 202 [.ptr b 0]] J (λv k=>k=J/\((jg id l=l/\v=.I (-1))\/∃p a q,l=p++a::q/\jg id p=p/\(a.1==id)=A/\v=.I (F p))):=by
 refine a6 func242 aik λs r=>ay ?_;simp only[abR,SS,seval];have d:=c;simp only[zQ]at d;simp only[d,ae,VV,seval];refine cd.aX (fr':=(.own x g::.fn 202 [.ptr b 0]::uu 5 (.I (F l)::.I (F ([]:df):Nat)::uu 10 []))) (by repeat' constructor) (F l+1) (Vj x g b id i l e c l [] rfl ?_ ?_);.intro h;simp only[JE];intros;simp only[VV,seval];exact aY (.inr rfl) rfl ⟨rfl,.inl ⟨h,rfl⟩⟩
 intro f a j m o n;simp only[JE];intros;simp only[bg,VV,seval];exact aY (.inr rfl) rfl ⟨rfl,.inr ⟨f,a,j,m,o,n,rfl⟩⟩
def uU(h:bT J)(r E f b g:Nat)(m:Bool)(os:cD):bT (J.set r (.row E f b g m os)):=by
 intro id o a j x d;rw[dI];by_cases e:r=id;.subst e;rw[Ah]at a;cases c:J[r]? with|none=>rw[c]at a;cases a|some y=>rw[c]at a;cases a;simp[Ob.refs]at d
 rw[aN e]at a;exact h id o a j x d
def Vo{J:ag}{K:bj}(r g b:Nat)(id:Int)(s:r<F J)(bn:bT J)(D:J[b]?=N (.box 3 [.I id]))(Lk:r≠b)(n:Nat)(hn:n<2^30):∀(d f c:df) (z:Int×Int),F f+(F c+1)+F d=n ->(∀m:df,F (f++jg id d)+F m=n->((fh (.own r g) (fj 4 (fh (.I (F (f++jg id d))) (fj 36 fo)))) λZZ=>K (.exit 0) ⟨ZZ,J.set r (zQ g ((f++jg id d)++m))⟩)) ->fS (F J) θ xY K (F d+1) ⟨(.own r g::.fn 202 [.ptr b 0]::uu 3 (.I (F f)::.I (F f+(F c+1):Nat)::uu 35 [])),J.set r (zQ g (f++z::(c++d)))⟩:=by
 have g1:∀K X,(J.set r K++X)[r]?=N K:=λK X=>by rw[aj (by rw[dI];exact s)];exact aw s
 have g0:∀K:Ob,(J.set r K)[r]?=N K:=λK=>aw s;have gb:∀K X,(J.set r K++X)[b]?=N (.box 3 [.I id]):=λK X=>by rw[aj (by rw[dI];exact(ab.1 D).1),aN Lk];exact D
 have gs:∀K Q X,(J.set r K++X).set r Q=J.set r Q++X:=λK Q X=>by rw[eT _ _ (by rw[dI];exact s),Qo]
 have v:∀K:Ob,F (J.set r K)=F J:=λK=>dI;have t:V.Lt (F J) (V.fn 202 [V.ptr b 0]):=by
  refine .fn _ _ λi x U=>?_;rcases i with _|i;.cases U;exact .ptr _ _ (ab.1 D).1
  cases U
 have gk:∀K X,(J.set r K++X)[F J]?=X[0]?:=λK X=>by rw[aD (by rw[dI];exact ax _),dI,fA]
 have gu:∀K X o,(J.set r K++X).set (F J) o=J.set r K++X.set 0 o:=λK X o=>by rw[b8 _ _ (by rw[dI];exact ax _),dI,fA]
 have p:∀{a:Nat} {fr q:ao} (os:cD) {o:Ob},pe fr q->fY (F J) q->fS (F J) θ xY K a ⟨q,J.set r (.row 190 2 16 g Z os)⟩->fS (F J) θ xY K a ⟨fr,J.set r (.row 190 2 16 g Z os)++[o]⟩:=λos o hc hl k=>by have e:=cC (P:=θ) (K:=K) (J:=J.set r (.row 190 2 16 g Z os)) [] [o] (by rw[bM];exact uU bn _ _ _ _ _ _ _) hc (by rw[v];exact hl) (by rw[v,bM];exact k);rw[v]at e;exact e
 intro d;induction d with
 |nil =>
  intro f c z G B;have e0:jg id []=[]:=rfl;rw[e0,bM]at B;rw[bM];have W:decide (((F f+(F c+1):Nat):Int)<(F (f++z::c):Int))=Z:=by simp
  refine aF λR O=>?_;simp only[xY,zQ,g0,W,ae,VV,seval];exact B (z::c) (by simpa using G) ..
 |cons y d ih =>
 intro f c z G B;simp only[ah]at G;have E:F (f++z::(c++y::d))=n:=by simp;omega
 have T:((F f+(F c+1):Nat):Int)<(F (f++z::(c++y::d)):Int):=by rw[E];omega
 have f2:((F f:Nat):Int)<(F (f++z::(c++y::d)):Int):=by rw[E];omega
 have W:decide (((F f+(F c+1):Nat):Int)<(F (f++z::(c++y::d)):Int))=A:=G7 T;have f0:(0:Int)<=((F f+(F c+1):Nat):Int):=by omega
 have S:=abH (l:=f++z::(c++y::d)) (i:=F f+(F c+1)) (x:=y) (by rw[aD (by omega)];simp);have C:=YH (f++z::(c++y::d)) (F f) y;have L:(f++z::(c++y::d)).set (F f) y=(f++[y])++(c++y::d):=by rw[b8 _ _ (ax _)];simp
 rw[L]at C;have hw:=dY f y (by omega);have sB:IntKind.i64.wrap (((F f+(F c+1):Nat):Int)+1)=((F f+(F c+1)+1:Nat):Int):=by rw[cq (by omega)]
 simp only[sq]at S C;refine aF λR O=>?_;simp only[xY,zQ,g0,g1,v,gk,gu,f0,T,S,kH,ae,aG,VV,seval];refine xn rfl (by kernel_rfl) (Xz y id b _ (gb _ _)) (by simp only[sq,VV,seval]) ?_;simp only[g1,gs,v,gk,gu,hw,sB,f2,C,ae,aG,V.pure,VV,seval];refine⟨λh=>⟨by omega,by rw[E];omega,?_⟩,λh=>?_⟩
 .have M:jg id (y::d)=y::jg id d:=by simp only[jg];rw[jv (by simpa using h)]
  obtain⟨w,m,ez⟩:∃w m,c++[y]=w::m:=by cases c<;>exact⟨_,_,rfl⟩
  have ej:F m=F c:=by have:=congrArg List.length ez;simpa using this.symm
  have e2:c++y::d=w::(m++d):=by rw[show c++y::d=(c++[y])++d by simp,ez];rfl
  have e3:((List.map sq (f++z::(c++y::d))).set (F f) (V.i IntKind.i64 y.fst::V.i IntKind.i64 y.snd::List.drop 2 (sq z)))=(f++[y]++w::(m++d)).map sq:=by rw[<- e2];exact C
  have H:F f+(F c+1)+1=F (f++[y])+(F m+1):=by simp;omega
  rw[e3,H];have k:=ih (f++[y]) m w (by simp;omega) (λj u=>by
   have e5:f++[y]++jg id d=f++jg id (y::d):=by rw[M];simp
   rw[e5]at u |-;exact B j u);exact O _ (p _ (by repeat' constructor) (by simp only[LW];exact⟨s,t⟩) k)
 have M:jg id (y::d)=jg id d:=by simp only[jg];rw[ly (by simpa using h)]
 have H:F f+(F c+1)+1=F f+(F (c++[y])+1):=by simp;omega
 rw[H];have k:=ih f (c++[y]) z (by simp;omega) (λj u=>by rw[<- M]at u |-;exact B j u);rw[show c++[y]++d=c++y::d by simp]at k;exact O _ (p _ (by repeat' constructor) (by simp only[LW];exact⟨s,t⟩) k)
def aaB(id:Int)(E:x≠b)(l:df)(d:F l<2^30)(J:ag)(i:J[b]?=N (.box 3 [.I id]))(e:J[x]?=N (zQ g l)): PC θ 201 [.own x g,.fn 202 [.ptr b 0]] J (λv j=>∃m,v=.own x m/\j=J.set x (zQ m (jg id l))):=by
 have r:x<F J:=(ab.1 e).1;have o:∀K:Ob,(J.set x K)[x]?=N K:=λK=>aw r;have G:∀K:Ob,F (J.set x K)=F J:=λK=>dI;have s:J.set x (zQ g l)=J:=sN e;refine a6 func201 aiH λy H=>ay ?_;simp only[acf,SS,seval];simp only[VV,seval];refine cB (Sn x g b id l d J i e) rfl λv j h=>?_;obtain⟨t,h⟩:=h;rw[t];rcases h with⟨f,rfl⟩|⟨p,a,q,f,n,D,rfl⟩;.simp only[VV,seval];exact fv (.inr rfl) rfl (Wk.refl _ _) rfl ⟨g,rfl,by rw[f,s]⟩
 subst f;have B:IntKind.i64.wrap (((F p:Nat):Int)+1)=((F p+(F ([]:df)+1):Nat):Int):=by rw[cq (by simp at d;omega)];rfl
 have C:((F p:Int) == -1)=Z:=by simp
 simp only[B,C,VV,seval];have k:=λw z=>Vo (K:=w) x g b id r y i E (F (p++a::q)) d q p [] a (by simp;omega) z;rw[bg,s]at k;refine cd.aX (by repeat' constructor) (F q+1) (k _ λc M=>?_);simp only[JE];intros;have L:J.set x (.row 190 2 16 g Z (List.map sq (p++jg id q++c)))=J.set x (zQ g (p++jg id q++c)):=rfl;simp only[zQ,o,ae,aG,Qo,VV,seval];refine⟨⟨by omega,by simp;omega,by omega⟩,⟨by omega,by simp;omega⟩,?_⟩;refine fv (.inr rfl) rfl (Wk.abq (o _) 0 rfl) rfl ⟨g+1,rfl,?_⟩;have u:jg id (p++a::q)=p++jg id q:=by simp only[jg]at n |-;rw[iW,n,ly (by simp[D])]
 rw[Qo,u];congr 2;rw[dO (by simp),vC,Nat.min_self,<- List.append_assoc,cF,dO (by simp),cn (by simp)]
def AM(id:Int)(l:df)(f:F l<2^30)(J:ag)(d:J[x]?=N (zQ g l)):
  PC θ 135 [.own x g,.I id] J (λv c=>∃a,v=.own x a/\c=J.set x (zQ a (jg id l))):=by have b:x<F J:=(ab.1 d).1;refine a6 func135 ajo λh i=>ay ?_;simp only[acY,SS,seval];simp only[VV,seval];refine cB (aaB x g (F J) id (by omega) l f (J++[.box 3 [.I id]]) (by simp) (by rw[aj b];exact d)) rfl λv c e=>?_;obtain⟨a,rfl,rfl⟩:=e;rw[eT _ _ b];simp only[VV,seval];exact fv (.inr rfl) rfl (Wk.xe (by simp) (uU h _ _ _ _ _ _ _) (fi.1 (by simp only[LW];simpa using b))) rfl ⟨a,rfl,rfl⟩
end Go.Proofs.Tryz

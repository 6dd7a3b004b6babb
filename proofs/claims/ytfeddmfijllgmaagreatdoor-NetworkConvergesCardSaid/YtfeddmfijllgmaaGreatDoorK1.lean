/- A part of a proof; the claim's last text says of what. -/
import Derived.Test.YtfeddmfijllgmaaGreatDoorB38
set_option linter.all false
set_option maxHeartbeats 4000000
open Option renaming some->S,none->Z
open Bool renaming true->θ,false->G
open Go.Proofs.Tryz renaming prog->κ
open List renaming length->Y

namespace Go.Proofs.Tryz
open Go Go.Pm
set_option maxRecDepth 100000
def lM:aJ:=(⟨_,by cbv⟩:Nf (sc κ f22 [1,1,1,0,1,0,0])).1
def kG:aJ:=(⟨_,by cbv⟩:Nf (sc κ f22 [1,1,1,1,0,1,0,0])).1
def fA:aJ:=(⟨_,by cbv⟩:Nf (sc κ f22 [1,1,1,1,1,1,1,0,1,0,0,1,1,0,0,1,1,0,0])).1
def gi:aJ:=(⟨_,by cbv⟩:Nf (sc κ f22 [1,1,1,1,1,1,1,0,1,0,0,1,1,0,0,0])).1
def fW:aJ:=(⟨_,by cbv⟩:Nf (sc κ f22 [1,1,1,1,1,1,1,0,1,0,0,1,1,0,0,1,0])).1
def fa:aJ:=(⟨_,by cbv⟩:Nf (sc κ f22 [1,1,1,1,1,1,1,1,0,1,0,0,1,1,0,0,1,0,1,0,0])).1
def fy:aJ:=(⟨_,by cbv⟩:Nf (sc κ f22 [1,1,1,1,1,1,1,1,0,1,0,0,1,1,0,0,1,0,0])).1
def fG:aJ:=(⟨_,by cbv⟩:Nf (sc κ f22 [1,1,1,1,1,1,1,1,0,1,0,0,1,1,0,0,1,1])).1
def vt:aJ:=(⟨_,by cbv⟩:Nf (sc κ f22 [1,0])).1
def oe:aJ:=(⟨_,by cbv⟩:Nf (sc κ f22 [1,1,1,0,0])).1
def mI:aJ:=(⟨_,by cbv⟩:Nf (sc κ f22 [1,1,1,1,0,0])).1
def jX:aJ:=(⟨_,by cbv⟩:Nf (sc κ f22 [1,1,1,1,1,1,1,0,0])).1
def jq:aJ:=(⟨_,by cbv⟩:Nf (sc κ f22 [1,1,1,1,1,1,1,1,0,0])).1
def jW:aJ:=(⟨_,by cbv⟩:Nf (sc κ f22 [1,1,1,1,1,1,1,1,1])).1
def rO:aJ:=(⟨_,by conv=>lhs;simp only[lM]⟩:Nf (lM:aJ)).1
def rN:aJ:=(⟨_,by conv=>lhs;simp only[kG]⟩:Nf (kG:aJ)).1
def rM:aJ:=(⟨_,by conv=>lhs;simp only[fA]⟩:Nf (fA:aJ)).1
def rL:aJ:=(⟨_,by conv=>lhs;simp only[gi,fW]⟩:Nf (.seq (.ij [] [z 94 (.bin .lss (.t 93) (.t 92))]) (.seq (.ite (.t 94) (.skip) (.exit 4)) (.seq (.block 5 (.seq (gi) (.seq (fW) (.block 6 (.loop rM))))) (.ij [] [z 121 (.bin .add (.t 93) (.c (.I 1))),zm 93 121]))):aJ)).1
def rK:aJ:=(⟨_,by conv=>lhs;simp only[fa]⟩:Nf (fa:aJ)).1
def rJ:aJ:=(⟨_,by conv=>lhs;simp only[fy,fG]⟩:Nf (.seq (.ij [] [z 126 (.bin .lss (.t 125) (.t 124))]) (.seq (.ite (.t 126) (.skip) (.exit 8)) (.seq (.block 9 (.seq (.ij [] [zm 127 125,zm 19 127]) (.seq (.seq (fy) (.block 10 (.loop rK))) (fG)))) (.ij [] [z 168 (.bin .add (.t 125) (.c (.I 1))),zm 125 168]))):aJ)).1
def p22:bl κ f22:=⟨(⟨_,by conv=>lhs;simp only[vt,oe,mI,jX,jq,jW]⟩:Nf (⟨170,[.c 2 (S 3)],.seq (.ij [] [z 1 (.box 29 (.t 0)),z 2 (.alloc 29 [.nil,.nil,.nil])]) (.seq (vt) (.seq (.ij [] [zf 28 2 3,zs (.store 1 [S 2] (.t 28) (.c .nil))]) (.seq (.seq (oe) (.block 0 (.loop rO))) (.seq (.seq (mI) (.block 2 (.loop rN))) (.seq (.ij [] [zf 89 1 3,zs (.store 1 [S 15] (.t 89) (.c .nil))]) (.seq (.ij [] [z 12 (.nL (.c .nil))]) (.seq (.seq (jX) (.block 4 (.loop rL))) (.seq (.seq (jq) (.block 8 (.loop rJ))) (jW)))))))))⟩:nR)).1,by kernel_rfl⟩
def q25:=(⟨_,by cbv⟩:Nf (gK κ f25))
def Xq:aJ:=(⟨_,by cbv⟩:Nf (gg q25.1 0 [])).1
def p25:bl κ f25:=⟨(λb0=>(⟨_,by cbv⟩:Nf (gU q25.1 [b0])).1) Xq,by kernel_rfl⟩
def zo:aJ:=(⟨_,by cbv⟩:Nf (sc κ f6 [1,1,1,1,1,1,1,1,0,1,0,0])).1
def qW:aJ:=(⟨_,by cbv⟩:Nf (sc κ f6 [1,1,1,1,1,1,1,1,1,1,1,0,1,0,0,1,1,0,0,0])).1
def qg:aJ:=(⟨_,by cbv⟩:Nf (sc κ f6 [1,1,1,1,1,1,1,1,1,1,1,0,1,0,0,1,1,0,0,1,1])).1
def aiY:aJ:=(⟨_,by cbv⟩:Nf (sc κ f6 [1,0])).1
def abQ:aJ:=(⟨_,by cbv⟩:Nf (sc κ f6 [1,1,0])).1
def RI:aJ:=(⟨_,by cbv⟩:Nf (sc κ f6 [1,1,1,1,0])).1
def MC:aJ:=(⟨_,by cbv⟩:Nf (sc κ f6 [1,1,1,1,1,0])).1
def IQ:aJ:=(⟨_,by cbv⟩:Nf (sc κ f6 [1,1,1,1,1,1,0])).1
def Cf:aJ:=(⟨_,by cbv⟩:Nf (sc κ f6 [1,1,1,1,1,1,1,1,0,0])).1
def Ce:aJ:=(⟨_,by cbv⟩:Nf (sc κ f6 [1,1,1,1,1,1,1,1,1,0])).1
def Ah:aJ:=(⟨_,by cbv⟩:Nf (sc κ f6 [1,1,1,1,1,1,1,1,1,1,0])).1
def xE:aJ:=(⟨_,by cbv⟩:Nf (sc κ f6 [1,1,1,1,1,1,1,1,1,1,1,0,0])).1
def afU:aJ:=(⟨_,by conv=>lhs;simp only[zo]⟩:Nf (zo:aJ)).1
def afT:aJ:=(⟨_,by conv=>lhs;simp only[qW,qg]⟩:Nf (.seq (.ij [] [z 103 (.bin .lss (.t 102) (.t 101))]) (.seq (.ite (.t 103) (.skip) (.exit 2)) (.seq (.block 3 (.seq (qW) (.seq (.pO [([zf 106 5 17,zl 107 106,zm 108 107,⟨S 109,[(108,G)],.tU 2 (.t 17)⟩,⟨S 110,[(108,G)],.load Z (.t 109)⟩,⟨S 111,[(108,G)],.tU 0 (.t 15)⟩,⟨S 112,[(108,G)],.load Z (.t 111)⟩,⟨S 113,[(108,G)],.idx 6 (.t 112) (.c (.I 0))⟩,⟨S 114,[(108,G)],.tU 2 (.t 113)⟩,⟨S 115,[(108,G)],.load Z (.t 114)⟩],⟨S 116,[(108,G)],.call 26 [.t 110,.t 115]⟩,[])] [⟨S 117,[(108,G)],.un .not (.t 116)⟩,z 118 (.pick (.t 108) (.c (.b θ)) (.t 117)),zm 119 118,⟨S 120,[(119,G)],.tU 2 (.t 17)⟩,⟨S 121,[(119,G)],.load Z (.t 120)⟩,⟨S 122,[(119,G)],.len G (.t 121)⟩,⟨S 123,[(119,G)],.nL (.t 10)⟩,⟨S 124,[(119,G)],.len G (.t 123)⟩] [109,110,111,112,113,114,115,116,117,120,121,122,123,124,125] [⟨S 125,[(119,G)],.bin .neq (.t 122) (.t 124)⟩,z 126 (.pick (.t 119) (.c (.b θ)) (.t 125))]) (qg)))) (.ij [] [z 127 (.bin .add (.t 102) (.c (.I 1))),zm 102 127]))):aJ)).1
def p6:bl κ f6:=⟨(⟨_,by conv=>lhs;simp only[aiY,abQ,RI,MC,IQ,Cf,Ce,Ah,xE]⟩:Nf (⟨150,[.t 2],.seq (.ij [] [z 2 (.nL (.c (.b G)))]) (.seq (aiY) (.seq (abQ) (.seq (.ij [] [z 5 (.nL (.c (.I 0)))]) (.seq (RI) (.seq (MC) (.seq (IQ) (.seq (.ij [] [z 10 (.nL (.c .nil))]) (.seq (.seq (Cf) (.block 0 (.loop afU))) (.seq (Ce) (.seq (Ah) (.seq (.seq (xE) (.block 2 (.loop afT))) (.seq (.pO [([zm 128 10,zf 130 0 15,zl 131 130,z 132 (.idx 6 (.t 131) (.c (.I 0))),zf 133 2 132,zl 134 133],z 129 (.call 27 [.t 128]),[zf 130 0 15,zl 131 130,z 132 (.idx 6 (.t 131) (.c (.I 0))),zf 133 2 132,zl 134 133]),([],z 135 (.call 27 [.t 134]),[]),([],z 136 (.call 26 [.t 129,.t 135]),[]),([zm 137 136,⟨S 138,[(137,θ)],.nL (.t 10)⟩,⟨S 140,[(137,θ)],.tU 0 (.t 15)⟩,⟨S 141,[(137,θ)],.load Z (.t 140)⟩,⟨S 142,[(137,θ)],.idx 6 (.t 141) (.c (.I 0))⟩,⟨S 143,[(137,θ)],.load (S 6) (.t 142)⟩],⟨S 139,[(137,θ)],.call 29 [.t 138]⟩,[⟨S 140,[(137,θ)],.tU 0 (.t 15)⟩,⟨S 141,[(137,θ)],.load Z (.t 140)⟩,⟨S 142,[(137,θ)],.idx 6 (.t 141) (.c (.I 0))⟩,⟨S 143,[(137,θ)],.load (S 6) (.t 142)⟩])] [] [138,139,140,141,142,143,144,145,148] [⟨S 144,[(137,θ)],.call 30 [.t 143]⟩,⟨S 145,[(137,θ)],.call 28 [.t 139,.t 144]⟩,z 146 (.pick (.t 137) (.t 145) (.c (.b G))),zm 147 146,⟨S 148,[(147,θ)],.call 10 []⟩,z 149 (.pick (.t 147) (.t 148) (.c (.b G))),zm 2 149]) (.ret)))))))))))))⟩:nR)).1,by kernel_rfl⟩
end Go.Proofs.Tryz
namespace Go.Bt
open Go Go.Pm
variable(T:aR)(X:List aV){n:Int}{l:List aV}{k:aR}{a b:aV}
theorem encode_inj(f:a.azU)(d:b.azU)(h1:fc a=0)(c:fc b=0)(h:(az6 a).1=(az6 b).1):a=b:=by
 have g:(az6 a).1=dJ a:=by simp[az6,h1]
 have e:(az6 b).1=dJ b:=by simp[az6,c]
 rw[g,e]at h;have:=z8 f h1;rw[h,z8 d c]at this;simpa using this.symm
theorem ou{b:Int}:gJ n b=0<->n=b:=by simp only[gJ];(repeat' split)<;>omega
theorem r9:jH=vL (λa b=>gJ a.time b.time) (vL (λa b=>gJ a.bS b.bS) (λa b=>gJ a.azW b.azW)):=by funext a b;simp only[jH,wj,vL];(repeat' split)<;>omega
theorem yW:sI jH:=by rw[r9];exact(qo.on (λs:cL=>s.time)).lex ((qo.on (λs:cL=>s.bS)).lex (qo.on (λs:cL=>s.azW)))
def mG:aV->aV->Int:=vL (λa b=>jH a.aY b.aY) iq
theorem iI:sI mG:=(yW.on (λo:aV=>o.aY)).lex lu
theorem mF:lp a b=θ<->0<mG a b:=by simp only[lp,mG,vL,iR,aZ,bE];split<;>omega
theorem ER(a:aV):lp a a=G:=by
 have h:¬lp a a=θ:=by rw[mF,iI.self];omega
 simpa using h
theorem CF(h:lp a b=θ):lp b a=G:=by
 have c:¬lp b a=θ:=by rw[mF]at *;have:=iI.mY a b;omega
 simpa using c
theorem zI{a b:aV}(h:mG a b=0):a.aY=b.aY/\a.azT=b.azT/\(az6 a).1=(az6 b).1:=by
 simp only[mG,vL]at h;split at h;.rename_i c;exact absurd h c
 rename_i c;rw[r9]at c;rw[Bp]at h;simp only[vL]at h c;obtain⟨⟨t,f,n⟩,k,e,s⟩:=a;obtain⟨⟨g,j,o⟩,p,q,r⟩:=b;simp only at h c;have l:t=g:=ou.1 (by split at c<;>omega);subst l;have z:∀x,gJ x x=0:=λx=>ou.2 rfl;simp only[z,gA,gu,bw]at h c;have i:f=j:=ou.1 (by split at c<;>omega);subst i;simp only[z,gA,gu,bw]at h c;have m:n=o:=ou.1 (by omega);subst m;simp only[z,gA,gu,bw]at h;split at h;.rename_i d;exact absurd h d
 rename_i d;exact⟨rfl,ou.1 (by simpa using d),oS.1 h⟩
def ED:Option aV:=X.foldl better Z
def pQ:List aV:=X.filter λo=>decide (cX o=T)
theorem uy(b:T≠[])(l:List aV)(c:Y l<=1024):jM T (iE l)=ED (pQ T l):=by
 have a:∀(l:List aV) (m:List (aR×aV)),jM T (l.foldl jO m)=(pQ T l).foldl better (jM T m):=by
  intro l;induction l with
  |nil=>intro m;rfl
  |cons o l ih =>
  intro m;simp only[bH,ih,tz,pQ,jc];by_cases h:cX o=T;.rw[aw (by rw[h];exact b),aQ h];simp[h]
  rw[aw h];simp[h]
 simp only[iE];rw[aw (by omega),a];rfl
theorem zG:jM [] (iE X)=Z:=by
 have a:∀(X:List aV) (m:List (aR×aV)),jM [] m=Z->jM [] (X.foldl jO m)=Z:=by
  intro X;induction X with
  |nil=>intro m h;exact h
  |cons o X ih =>
  intro m h;simp only[bH];refine ih _ ?_;rw[tz];split;.exact h
  exact h
 simp only[iE];split;.rfl
 exact a X [] rfl
theorem po{d:aV}(h1:lp a b=G)(c:lp b d=G):lp a d=G:=by
 cases h:lp a d with
 |false=>rfl
 |true =>
 have n1:¬0<mG a b:=λe=>by rw[mF.2 e]at h1;simp at h1
 have n2:¬0<mG b d:=λe=>by rw[mF.2 e]at c;simp at c
 have f:=mF.1 h;have j:=iI.mY a b;have i:=iI.mY b d;have g:=iI.mY a d;exfalso;by_cases l:mG b a=0;.
  by_cases k:mG d b=0;.have:=iI.trans d b a (by omega) (by omega);omega
  have:=iI.trans d b a (by omega) (by omega);omega
 have:=iI.trans d b a (by omega) (by omega);omega
theorem yg:∀(l:List aV) (w:aV),ED l=S w->w∈l/\∀x∈l,lp x w=G:=by
 have j:∀(l:List aV) (b:Option aV) (w:aV),l.foldl better b=S w->(w∈l\/b=S w)/\(∀x∈l,lp x w=G)/\∀a,b=S a->lp a w=G:=by
  intro l;induction l with
  |nil =>intro b w h;refine⟨.inr h,by simp,λa f=>?_⟩;have h:b=S w:=h;rw[h]at f;simp only[ab]at f;subst f;exact ER _
  |cons o l ih =>
  intro b w h;simp only[bH]at h;obtain⟨c,g,d⟩:=ih _ _ h;have k:lp o w=G:=by
   cases b with
   |none=>exact d o rfl
   |some a =>
   simp only[better]at d;by_cases e:lp o a=θ;.exact d o (by rw[aQ e])
   exact po (by simpa using e) (d a (by rw[aw e]))
  refine⟨?_,λx i=>?_,λa f=>?_⟩
  .rcases c with c|c;.exact .inl (by simp[c])
   cases b with
   |none=>simp only[better,ab]at c;exact .inl (by simp[c])
   |some a =>
   simp only[better]at c;split at c;.simp only[ab]at c;exact .inl (by simp[c])
   exact .inr c
  .rcases bd.1 i with rfl|i;.exact k
   exact g x i
  subst f;simp only[better]at d;by_cases e:lp o a=θ;.exact po (CF e) k
  exact d a (by rw[aw e])
 intro l w h;obtain⟨c,g,_⟩:=j l Z w h;exact⟨by simpa using c,g⟩
theorem BN(h:ED l=Z):l=[]:=by
 cases l with
 |nil=>rfl
 |cons o l =>
 have b:∀(l:List aV) (a:aV),∃w,l.foldl better (S a)=S w:=by
  intro l;induction l with
  |nil=>intro a;exact⟨a,rfl⟩
  |cons o l ih =>
  intro a;simp only[bH,better];split;.exact ih o
  exact ih a
 obtain⟨w,c⟩:=b l o;simp only[ED,bH,better]at h;rw[c]at h;simp at h
theorem JM{a b:aV}(g:a.azU)(f:b.azU)(h1:fc a=0)(h:fc b=0)(c:lp a b=G)(d:lp b a=G):a=b:=by
 have n1:¬0<mG a b:=λe=>by rw[mF.2 e]at c;simp at c
 have n2:¬0<mG b a:=λe=>by rw[mF.2 e]at d;simp at d
 have:=iI.mY a b;exact encode_inj g f h1 h (zI (a:=a) (b:=b) (by omega)).2.2
theorem JR(h:cX a≠[]):fc a=0:=by
 by_cases b:fc a=0;.exact b
 exact absurd (by simp only[cX,gA,b,fi,aU]) h
theorem KS(m:k≠[])(g:∀o∈l,o.azU):ED (pQ k l)=S a<->(a∈l/\cX a=k/\∀x∈l,cX x=k->lp x a=G):=by
 constructor;.intro h;obtain⟨b,c⟩:=yg _ _ h;simp only[pQ,eB,bE]at b c;exact⟨b.1,b.2,λx q p=>c x ⟨q,p⟩⟩
 rintro⟨b,c,n⟩;have j:a∈pQ k l:=by simp[pQ,b,c]
 cases f:ED (pQ k l)with|none=>rw[BN f]at j;simp at j|some v =>obtain⟨d,i⟩:=yg _ _ f;simp only[pQ,eB,bE]at d i;have e:=JM (g v d.1) (g a b) (JR (by rw[d.2];exact m)) (JR (by rw[c];exact m)) (n v d.1 d.2) (i a ⟨b,c⟩);rw[e]
theorem wU(d:Y l<=1024)(c:∀o∈l,o.azU):nz k (current l)=S a<->(k≠[]/\a∈l/\cX a=k/\∀x∈l,cX x=k->lp x a=G):=by
 rw[uO];by_cases b:k=[];.subst b;rw[zG];simp
 rw[uy k b l d,KS b c];simp[b]
theorem af3{c:Type}{a b:Option c}(h:∀w,a=S w<->b=S w):a=b:=by
 cases a with
 |none=>cases b with
  |none=>rfl
  |some w=>exact absurd ((h w).2 rfl) (by simp)
 |some w=>exact((h w).1 rfl).symm
theorem Tu{b:List aV}(j:Y l<=1024)(i:Y b<=1024)(g:∀o∈l,o.azU)(h:∀o,o∈l<->o∈b):current l=current b:=by
 refine FM (vU l) (vU b) λk=>af3 λw=>?_;rw[wU j g,wU i λo m=>g o ((h o).2 m),h w];constructor;.rintro⟨a,c,e,f⟩;exact⟨a,c,e,λx d=>f x ((h x).2 d)⟩
 rintro⟨a,c,e,f⟩;exact⟨a,c,e,λx d=>f x ((h x).1 d)⟩
theorem aeO:∀(F:List aV) (a:Int),F.Pairwise (λx y=>x.aY.azW<y.aY.azW)->(∀x∈F,a<x.aY.azW/\x.aY.azW<=a+F.length)->∀(j:Nat) (y:aV),F[j]?=S y->y.aY.azW=a+j+1
 |[],_,_,_,j,y,h=>by simp at h
 |x::r,a,hp,hb,j,y,h=>by
  have e:=hb x (by simp);rw[cy]at hp;have f:∀z∈r,a+1<z.aY.azW/\z.aY.azW<=a+1+r.length:=λz b=>by have d:=hp.1 z b;have c:=(hb z (by simp[b])).2;simp only[ae]at c;omega
  have ih:=aeO r (a+1) hp.2 f;cases j with
  |zero =>
   simp only[aC,ab]at h;subst h;cases r with
   |nil=>simp only[ae,ai]at e;omega
   |cons z r =>have d:=ih 0 z rfl;have c:=hp.1 z (by simp);omega
  |succ j =>simp only[bY]at h;have:=ih j y h;omega
theorem UO(h:HD n l)(j:Nat)(y:aV)(o:((ej l).filter λx=>x.aY.bS==n)[j]?=some y):y.aY.azW=j+1:=by have hp:((ej l).filter λx=>x.aY.bS==n).Pairwise λa b=>dH a b<0:=zD _ (lr h.one);have:=aeO ((ej l).filter λx=>x.aY.bS==n) 0 (hp.imp_of_mem λ{a b} d c sY=>by have d:=(eB.1 d).2;have c:=(eB.1 c).2;rw[jz]at sY;simp only[ez]at d c;omega) (λx k=>by obtain⟨f,m⟩:=eB.1 k;obtain⟨i,e⟩:=cm.1 (eB.2 ⟨dU.1 f,m⟩:x∈l.filter λx=>x.aY.bS==n);have p:=h.own i x e;have g:=(ag.1 e).1;rw[tf l n]at g;omega) j y o;omega
theorem vT{W:List aV}(hp:Pl n W):∀(l:List aV) (p:aV),(∀z∈p::l,z∈W)->(p::l).Pairwise (λx y=>¬iq y x<0) ->nW (p::jB (λa b=>iq a b==0) p l)/\∀z,z∈p::jB (λa b=>iq a b==0) p l<->z∈p::l:=by
 intro l;induction l with
 |nil=>intro p _ _;simp[jB]
 |cons y r ih =>
 intro p g d;have h:=g p (by simp);have j:=g y (by simp);replace d:=cy.1 d;obtain⟨f,k⟩:=ih y (λz c=>g z (bJ _ c)) d.2;have q:=d.1 y (by simp);by_cases i:y=p
 .subst i;have e:jB (λa b=>iq a b==0) y (y::r)=jB (λa b=>iq a b==0) y r:=by rw[jB,aQ (by simp[vw])]
  rw[e];exact⟨f,λz=>by rw[k];simp⟩
 have m:dH y p≠0:=λe=>i (hp.uniq j h e);have e:jB (λa b=>iq a b==0) p (y::r)=y::jB (λa b=>iq a b==0) y r:=by rw[jB,aw λe=>i (Au (hp.op y j).ok (hp.op p h).ok (hp.op y j).azU (hp.op p h).azU (by simpa using e))]
 rw[e];have o:dH p y<0:=by rw[As m]at q;rw[jz]at q |-;rw[gA,jr]at m;omega
 refine⟨cy.2 ⟨λz c=>?_,f⟩,λz=>by rw[bd,k,<- List.mem_cons]⟩;rcases bd.1 c with rfl|c;.exact o
 have:=(cy.1 f).1 z c;rw[jz]at this o |-;omega
theorem fq{W:List aV}(hp:Pl n W){aK:List bO}(h:∀o∈aK,∀x∈o.azS,x∈W):nW (ff aK)/\∀x,x∈ff aK<->∃o∈aK,x∈o.azS:=by
 have a:∀x,x∈qf (cI aK)<->∃o∈aK,x∈o.azS:=λx=>by rw[u0];simp[cI]
 have b:=zT (cI aK);unfold ff;cases c:qf (cI aK)with|nil=>rw[c]at a;exact⟨List.Pairwise.nil,a⟩|cons p r =>rw[c]at b a;obtain⟨f,g⟩:=vT hp r p (λz d=>by obtain⟨o,e,i⟩:=(a z).1 d;exact h o e z i) b;exact⟨f,λx=>(g x).trans (a x)⟩
open Classical in
noncomputable def eE  {W:List aV} (hp:Pl n W):eK where
 o6 o:=∃c:Int,GO W c o
 ok x:=x∈W
 fR:=QF W
 fV:=sP
 fS:=yq
 azS:=λo ⟨_,h⟩=>h.azS.1
 val:=λx i=>⟨(hp.op x i).ok,(hp.op x i).azU⟩
 sml:=λo ⟨_,h⟩=>h.azU hp
 len:=λo ⟨_,h⟩=>by
  have:=q8 (xL (h.azS.2.imp λ{a b} sY e=>by omega)) h.azS.1;have:=hp.len;omega
 gR:=λo ⟨c,h⟩ d=>by
  rcases vi h with⟨_,e⟩|⟨_,g,j,_,e⟩
  .rw[e]at d;cases d
  .rw[e];exact⟨c,g,j,.inl (H7 c g)⟩
 gV:=λo x ⟨c,h⟩ i d=>by
  cases f:o.down with
  |true=>rw[sP,f]at d;cases d
  |false=>rw[sP,f];exact⟨c,(h.recv hp f i).1⟩
 gS:=λo ⟨c,h⟩ d=>by
  cases f:o.down with
  |true=>rw[yq,f]at d;cases d
  |false=>rw[yq,f];exact⟨c,h.sync f⟩
section
variable {m:Int} {W:List aV} (hp:Pl m W)
theorem H6{aK:List bO}(h:Gs W aK):Gs W ((eE hp).up aK)/\xk ((eE hp).up aK):=by
 refine⟨λi o a=>?_,λo a=>?_⟩;.obtain⟨c,b,rfl⟩:=bR ..▸a |> aL.1;exact(uI (h i c b)).1
 obtain⟨c,b,rfl⟩:=cv.1 a;obtain⟨n,d⟩:=h.mem b;exact(uI d).2
theorem r5{aK:List bO}(c:xk aK)(i:Nat)(x:aV):(eE hp).nN aK i x=match aK[i]? with|some o=>aK.set i (cQ o x)|none=>aK:=by
 unfold eK.nN;split
 .rename_i o a;have b:=c o (aS a);have e:(eE hp).fV o x=(cQ o x,0):=by show sP o x=_;rw[sP,b];rfl
  simp only[a,e,aU]
 rename_i a;simp only[a]
theorem r4{aK:List bO}(b:Gs W aK)(a:xk aK){i:Nat}{x:aV}(e:x∈W):Gs W ((eE hp).nN aK i x)/\xk ((eE hp).nN aK i x):=by
 rw[r5 hp a];split;.rename_i o c;obtain⟨d,f,_⟩:=(b i o c).recv hp (a o (aS c)) e;exact⟨b.set d,a.set f⟩
 exact⟨b,a⟩
theorem qC(c:List Let):∀{aK:List bO},Gs W aK->xk aK->(∀x∈c,x.op∈W)->Gs W ((eE hp).ax c aK)/\xk ((eE hp).ax c aK):=by induction c with|nil=>intro aK d e _;exact⟨d,e⟩|cons x r ih =>intro aK d e f;obtain⟨a,b⟩:=r4 hp d e (i:=x.dst.toNat) (f x (by simp));exact ih a b λy g=>f y (by simp[g])
include hp in
theorem kF{n:Int}(g:List aV):∀{o:bO},GO W n o->o.down=G->(∀x∈g,x∈W)->GO W n (g.foldl cQ o)/\(g.foldl cQ o).down=G/\∀y,y∈(g.foldl cQ o).azS<->y∈g\/y∈o.azS:=by
 induction g with
 |nil=>intro o i j _;exact⟨i,j,by simp⟩
 |cons x r ih =>
 intro o i j k;obtain⟨a,b,c⟩:=i.recv hp j (k x (by simp));obtain⟨d,e,f⟩:=ih a b λy l=>k y (by simp[l]);refine⟨d,e,λy=>?_⟩;rw[bH,f,c,bd];constructor
 .rintro(h|h|h);.exact .inl (.inr h)
  .exact .inl (.inl h)
  exact .inr h
 rintro((h|h)|h);.exact .inr (.inl h)
 .exact .inl h
 exact .inr (.inr h)
theorem vQ(i:Nat)(d:List aV):∀{aK:List bO},Gs W aK->xk aK->(∀x∈d,x∈W)->∀{o:bO},aK[i]?=S o->(eE hp).mT i d aK=aK.set i (d.foldl cQ o):=by
 induction d with
 |nil =>intro aK _ _ _ o c;obtain⟨f,rfl⟩:=ag.1 c;simp[eK.mT]
 |cons x r ih =>intro aK j g h o c;obtain⟨a,b⟩:=r4 hp j g (i:=i) (h x (by simp));have e:=r5 hp g i x;rw[c]at e;have f:=(ag.1 c).1;have k:(eE hp).mT i (x::r) aK=(eE hp).mT i r ((eE hp).nN aK i x):=rfl;rw[k,ih a b (λy l=>h y (by simp[l])) (o:=cQ o x) (by rw[e];simp[f]),e];simp
theorem all_eq{U:List aV}:∀(a b:List bO),Gs W (b.map (λo=>U.foldl cQ o)++a)->xk (b.map (λo=>U.foldl cQ o)++a)->ff (b.map (λo=>U.foldl cQ o)++a)=U ->(eE hp).all (List.range' b.length (Y a)) (b.map (λo=>U.foldl cQ o)++a)=(b++a).map λo=>U.foldl cQ o:=by
 intro a;induction a with
 |nil=>intro b _ _ _;simp[eK.all]
 |cons o a ih =>
 intro b e k m;have hU:=(fq hp e.sub).2;rw[m]at hU;have h:∀x∈U,x∈W:=λx c=>by obtain⟨o,g,c⟩:=(hU x).1 c;exact e.sub o g x c
 have g:(b.map (λo=>U.foldl cQ o)++o::a)[Y b]?=S o:=by rw[bn (by simp)];simp
 have f:o∈b.map (λo=>U.foldl cQ o)++o::a:=aS g;obtain⟨u,v,q⟩:=kF hp U (e _ _ g) (k o f) h;have j:(b.map (λo=>U.foldl cQ o)++o::a).set b.length (U.foldl cQ o)=(b++[o]).map (λo=>U.foldl cQ o)++a:=by rw[dX _ _ (by simp)];simp
 have l:=e.set u;have t:=k.set v (i:=Y b);have s:ff ((b++[o]).map (λo=>U.foldl cQ o)++a)=U:=by
  rw[j]at l;have n:=fq hp l.sub;refine jT n.1 (m▸(fq hp e.sub).1) λx=>?_;rw[n.2];constructor
  .rintro⟨p,d,c⟩;rw[fQ,aO]at d;rcases bW.1 d with d|d;.exact(hU x).2 ⟨p,fv _ d,c⟩
   rcases bd.1 d with rfl|d;.exact((q x).1 c).elim id λc=>(hU x).2 ⟨o,f,c⟩
   exact(hU x).2 ⟨p,mE _ (bJ _ d),c⟩
  exact λc=>⟨_,fv _ (cv.2 ⟨o,by simp,rfl⟩),(q x).2 (.inl c)⟩
 have r:(eE hp).all (List.range' b.length (Y (o::a))) (b.map (λo=>U.foldl cQ o)++o::a)=(eE hp).all (List.range' (b++[o]).length (Y a)) ((b++[o]).map (λo=>U.foldl cQ o)++a):=by rw[ae,HG];show(eE hp).all _ ((eE hp).mT b.length (ff _) _)=_;rw[m,vQ hp b.length U e k h g,j];simp
 rw[r,ih (b++[o]) (j▸l) (j▸t) s];simp
theorem yp{aK:List bO}(h:xk aK):(eE hp).sync aK=aK.map tD:=by refine dA λo a=>?_;show dv (yq o) o=tD o;rw[yq,h o a];rfl
noncomputable def iH (n:Net):List bO:=(eE hp).ax n.ax ((eE hp).up n.an)
theorem oF{n:Net}(h:Gs W n.an)(c:∀x∈n.ax,x.op∈W):Gs W (iH hp n)/\xk (iH hp n):=by obtain⟨a,b⟩:=H6 hp h;exact qC hp n.ax a b c
theorem oG(n:Net):Y (iH hp n)=Y n.an:=by rw[iH,eK.nq];simp[eK.up]
theorem nf{n:Net}(h:Gs W n.an)(m:∀x∈n.ax,x.op∈W):(eE hp).settle n=(iH hp n).map λo=>tD ((ff (iH hp n)).foldl cQ o):=by
 obtain⟨a,b⟩:=oF hp h m;have e:=all_eq hp (U:=ff (iH hp n)) (iH hp n) [] a b rfl;simp only[ar,ay,ai,oG]at e;have l:(eE hp).settle n=(eE hp).sync ((eE hp).all (List.range (Y n.an)) (iH hp n)):=rfl;rw[l,ta,e,yp hp,jQ];.rfl
 intro o g;obtain⟨f,d,rfl⟩:=cv.1 g;obtain⟨i,j⟩:=cm.1 d;exact(kF hp _ (a i f j) (b f d) λx c=>by obtain⟨p,k,c⟩:=((fq hp a.sub).2 x).1 c;exact a.sub p k x c).2.1
theorem wH{n:Net}(h:Gs W n.an)(l:∀x∈n.ax,x.op∈W)(s:m=n.an.length):ff (iH hp n)=ej W:=by
 obtain⟨a,b⟩:=oF hp h l;have f:=fq hp a.sub;refine jT f.1 (lr hp.one) λx=>?_;rw[f.2,dU];constructor;.rintro⟨o,d,c⟩;exact a.sub o d x c
 intro c;have r:=(D2 (hp.op x c).ok).2.1;have q:=hp.off x c;have g:x.aY.bS.toNat<(iH hp n).length:=by rw[oG];omega
 have d:(iH hp n)[x.aY.bS.toNat]?=some (iH hp n)[x.aY.bS.toNat]:=aD g;obtain⟨j,i,⟨k,_,_,e⟩|⟨p,_,_,e⟩⟩:=a _ _ d;.refine⟨_,aS d,?_⟩;rw[e];exact dU.2 (i.own x c (by omega))
 have:=b _ (aS d);rw[e]at this;cases this
theorem sO{n:Net}(h:Gs W n.an)(k:∀x∈n.ax,x.op∈W)(s:m=Y n.an): Gs W ((eE hp).settle n)/\Y ((eE hp).settle n)=Y n.an/\∀o∈(eE hp).settle n,o.down=G/\o.azS=ej W/\o.aAe=Y o.log:=by
 obtain⟨a,b⟩:=oF hp h k;have e:=nf hp h k;rw[wH hp h k s]at e;have c:∀(i:Nat) o,(iH hp n)[i]?=S o->GO W i (tD ((ej W).foldl cQ o))/\(tD ((ej W).foldl cQ o)).down=G/\(tD ((ej W).foldl cQ o)).azS=ej W:=λi o d=>by obtain⟨p,q,r⟩:=kF hp (ej W) (a i o d) (b o (aS d)) λx j=>dU.1 j;refine⟨p.sync q,q,jT p.azS.2 (lr hp.one) λx=>(r x).trans ?_⟩;exact⟨λh=>h.elim id λj=>dU.2 (a.sub o (aS d) x j),.inl⟩
 rw[e];refine⟨λi o d=>?_,by rw[aa,oG],λo d=>?_⟩;.obtain⟨f,g,rfl⟩:=bR ..▸d |> aL.1;exact(c i f g).1
 obtain⟨f,g,rfl⟩:=cv.1 d;obtain⟨i,l⟩:=cm.1 g;exact⟨(c i f l).2.1,(c i f l).2.2,rfl⟩
def mH(l:List aV):List aV:=l.foldl (λa x=>if a.any (λy=>dH y x==0)then a else ud a x) []
include hp in
theorem sS(l:List aV):∀a:List aV,(∀x∈l,x∈W)->(∀x∈a,x∈W)->nW a ->nW (l.foldl (λa x=>if a.any (λy=>dH y x==0)then a else ud a x) a)/\∀x,x∈l.foldl (λa x=>if a.any (λy=>dH y x==0)then a else ud a x) a<->x∈l\/x∈a:=by
 induction l with
 |nil=>intro a _ _ h;exact⟨h,by simp⟩
 |cons x r ih =>
 intro a o g m;have k:=o x (by simp);have p:=λy b=>o y (bJ _ b);simp only[bH];by_cases c:a.any (λy=>dH y x==0)=θ;.rw[aQ c];obtain⟨y,b,i⟩:=dF.1 c;have j:x∈a:=hp.uniq (g y b) k (by simpa using i)▸b;obtain⟨f,d⟩:=ih a p g m;refine⟨f,λz=>?_⟩;rw[d,bd];exact⟨λh=>h.elim (λh=>.inl (.inr h)) .inr,λh=>h.elim (λh=>h.elim (λe=>.inr (e▸j)) .inl) .inr⟩
 rw[aw c];have n:∀y∈a,dH y x≠0:=λy b i=>c (dF.2 ⟨y,b,by simpa using i⟩);rw[mJ n];obtain⟨f,d⟩:=ih (qn a x) p (λz q=>(lj.1 q).elim (λe=>e▸k) (g z)) (u1 m n);refine⟨f,λz=>?_⟩;rw[d,lj,bd];constructor
 .rintro(h|h|h);.exact .inl (.inr h)
  .exact .inl (.inl h)
  exact .inr h
 rintro((h|h)|h);.exact .inr (.inl h)
 .exact .inl h
 exact .inr (.inr h)
include hp in
theorem yA{aK:List bO}(h:Gs W aK):mH (cI aK)=ff aK:=by
 have d:=fq hp h.sub;have e:∀x,x∈cI aK<->∃o∈aK,x∈o.azS:=λx=>by simp[cI]
 obtain⟨a,b⟩:=sS hp (cI aK) [] (λx c=>by obtain⟨o,f,c⟩:=(e x).1 c;exact h.sub o f x c) (by simp) List.Pairwise.nil;refine jT a d.1 λx=>?_;rw[d.2,<- e,mH,b];simp
end
def AA(n:Int)(l:List aV)(a:Option aV):Option aV:=l.foldl (λa x=>if x.aY.bS=n then some x else a) a
theorem SG(n:Int):∀(l:List aV) (a:Option aV),AA n l a=(l.filter λx=>x.aY.bS==n).getLast?.or a
 |[],a=>rfl
 |x::l,a=>by
  rw[AA,bH,<- AA,SG n l];by_cases h:x.aY.bS=n;.rw[aQ h,qb (by simpa using h)];cases(l.filter λx=>x.aY.bS==n)with|nil=>rfl|cons y r=>rw[List.getLast?_cons_cons,List.getLast?_cons];rfl
  rw[aw h,qc (by simpa using h)]
theorem U7{n:Int}{a:List aV}{x:aV}(h:HD n (a++[x]))(b:x.aY.bS=n)(f:x.aY.azW=su n a+1):AA n (ej (a++[x])) Z=some x:=by
 rw[SG,Option.or_none];have e:((ej (a++[x])).filter λx=>x.aY.bS==n).length=su n a+1:=by rw[<- tf,jv,ah,qb (by simpa using b)];rfl
 have d:x∈(ej (a++[x])).filter λx=>x.aY.bS==n:=eB.2 ⟨dU.2 (by simp),by simpa using b⟩;obtain⟨j,c⟩:=cm.1 d;have:=UO h j x c;rw[List.getLast?_eq_getElem?,e,show su n a+1 - 1=j by omega];exact c
end Go.Bt
namespace Go.Proofs.Tryz
open Go Go.Pm Go.Bt Go.RowKit
section
variable {E:eK} (hE:A9 E) {J:aj} {K:bL} (b0 b1:Ob) (vb vc:V) (bc:∀aK,bT (S4 J b0 b1 vb vc aK))
include hE bc
set_option maxRecDepth 4000 in
theorem vK(n:Nat)(w:n<2^30):∀(a b:List bO),n=Y b+Y a->E.jj a ->(((fj 2 (fh (.ptr (Y J+1) 0) (fh (.ptr (Y J+3) 0) (fj 166 fo)))) λm=>K (.exit 0) ⟨m,S4 J b0 b1 vb vc (b++E.up a)⟩)) ->gw (Y J) κ rO K (Y a+1) ⟨(uu 2 (.ptr (Y J+1) 0::.ptr (Y J+3) 0::uu 26 (.own (Y J+2) 0::.I n::.I (Y b)::uu 137 []))),S4 J b0 b1 vb vc (b++a)⟩:=by
 intro a;induction a with
 |nil =>
  intro b d g f;have r:decide ((Y b:Int)<(n:Int))=G:=by simp at d;simp;omega
  refine az λR i=>?_;simp only[rO,r,↓IT,VV,seval];simp only[eK.up,ar,bI]at f;exact f ..
 |cons o a ih =>
 intro b d g f;have s:=g o (cU ..);have x:n=Y b+(Y a+1):=by rw[d];simp
 have k:IntKind.i64.wrap ((Y b:Int)+1)=((Y (b++[dv (E.fR o) o]):Nat):Int):=by rw[da (by omega)];simp
 have h:((b++o::a).map bO.azR).getD b.length []=o.azR:=dR;have l:(0:Int)<=(Y b:Int):=by omega
 have q:(Y b:Int)<(n:Int):=by omega
 have j:(Y b:Int)<(Y (b++o::a):Int):=by simp<;>omega
 have v:Y b<Y (b++o::a):=by simp
 simp only[bO.azR]at h;refine az λR i=>?_;simp only[rO,S4,bC,h,l,q,j,k,bt,ao,aa,ak,↓IT,VV,seval];refine al (hE.cR o s _) (by simp only[bO.azR,VV,seval]) ?_;simp only[fm,bO.azR,h,l,j,k,ao,bP,Nat.reduceAdd,aa,ak,↓IT,VV,seval];have t:b++E.up (o::a)=(b++[dv (E.fR o) o])++E.up a:=by simp[eK.up]
 rw[t]at f;have e:=ih (b++[dv (E.fR o) o]) (by simp;omega) (λo u=>g o (bJ _ u)) f;have c:=bc (b++dv (E.fR o) o::a);simp only[aO,aF,ay,S4,bC]at e c;refine⟨λd=>⟨v,?_⟩,λd=>?_⟩
 .have d:(E.fR o).2=0:=by simpa using d
  rw[nr (E.fR o) d];refine i _ (cn [b0,b1,bC 0 (b++dv (E.fR o) o::a),.box 29 [.own (Y J+2) 0,vb,vc]] [_,_] c (by repeat' constructor) ?_ e);simp only[LW,ae,ai,aG];omega
 have d:¬(E.fR o).2=0:=by simpa using d
 have p:dv (E.fR o) o=o:=by rw[dv,aw d]
 rw[p]at e c |-;refine i _ (cn [b0,b1,bC 0 (b++o::a),.box 29 [.own (Y J+2) 0,vb,vc]] [_,_] c (by repeat' constructor) ?_ e);simp only[LW,ae,ai,aG];omega
set_option maxRecDepth 4000 in
theorem vJ(azY:List Let)(m:Nat)(O:Y azY<2^30)(N:m<2^30)(L:∀x∈azY,0<=x.dst/\x.dst<m/\E.ok x.op):∀(a b:List Let) (aK:List bO),azY=b++a->E.jj aK->Y aK=m ->(((fj 2 (fh (.ptr (Y J+1) 0) (fh (.ptr (Y J+3) 0) (fj 166 fo)))) λz=>K (.exit 2) ⟨z,S4 J b0 b1 vb vc (E.ax a aK)⟩)) ->gw (Y J) κ rN K (Y a+1) ⟨(uu 2 (.ptr (Y J+1) 0::.ptr (Y J+3) 0::uu 47 (.sl 15 (azY.map Let.azR)::.I (Y azY)::.I (Y b)::uu 116 []))),S4 J b0 b1 vb vc aK⟩:=by
 intro a;induction a with
 |nil =>
  intro b aK d k v h;have d:azY=b:=by simpa using d
  refine az λR n=>?_;simp only[rN,d,dt,bZ,↓IT,VV,seval];exact h ..
 |cons x a ih =>
 intro b aK d k v h;have q:=L x (by rw[d];simp);have P:=gY d;have u:=dD b x (by omega);have r:(azY.map Let.azR).getD b.length []=mC x:=by rw[d,dR,lh]
 have M:(0:Int)<=(Y b:Int):=by omega
 have C:(Y b:Int)<(Y azY:Int):=by omega
 obtain⟨j,y⟩:∃j:Nat,x.dst=j:=⟨x.dst.toNat,by omega⟩;have p:j<Y aK:=by omega
 obtain⟨o,f⟩:∃o,aK[j]?=S o:=⟨_,aD p⟩;have l:(aK.map bO.azR).getD j []=o.azR:=by simp[aA,f]
 have H:=k o (aS f);have s:E.nN aK x.dst.toNat x.op=aK.set j (dv (E.fV o x.op) o):=by
  rw[y,ak,eK.nN,f];simp only[dv];split;.rfl
  obtain⟨_,rfl⟩:=ag.1 f;simp
 have t:(0:Int)<=(j:Int):=by omega
 have w:(j:Int)<(Y aK:Int):=by omega
 have D:¬(j:Int)<0:=by omega
 have A:¬(Y aK:Int)<=(j:Int):=by omega
 simp only[mC,y]at r;simp only[bO.azR]at l;refine az λR n=>?_;simp only[rN,S4,bC,r,l,M,C,t,w,D,A,u,bt,bZ,ao,aa,ak,bb,↓IT,VV,seval];intro X;refine al (hE.cV o x.op H q.2.2 _) (by simp only[gy,qA,bO.azR,VV,seval]) ?_;simp only[fm,bO.azR,l,t,w,u,ao,bP,Nat.reduceAdd,aa,ak,↓IT,VV,seval];have F:E.ax (x::a) aK=E.ax a (aK.set j (dv (E.fV o x.op) o)):=by rw[<- s];rfl
 rw[F]at h;have g:=eK.re (i:=x.dst.toNat) k q.2.2;rw[s]at g;have e:=ih (b++[x]) (aK.set j (dv (E.fV o x.op) o)) (by rw[d];simp) g (by simpa using v) h;have c:=bc (aK.set j (dv (E.fV o x.op) o));simp only[S4]at e c;refine⟨λd=>⟨p,?_⟩,λd=>?_⟩
 .have d:(E.fV o x.op).2=0:=by simpa using d
  rw[dv,aQ d]at e c;rw[uF];refine n _ (cn [b0,b1,bC 0 (aK.set j (E.fV o x.op).1),.box 29 [.own (Y J+2) 0,vb,vc]] [_,_] c (by repeat' constructor) ?_ e);simp only[LW,ae,ai,aG];omega
 have d:¬(E.fV o x.op).2=0:=by simpa using d
 have B:aK.set j (dv (E.fV o x.op) o)=aK:=by rw[dv,aw d];obtain⟨_,rfl⟩:=ag.1 f;simp
 rw[B]at e c;refine n _ (cn [b0,b1,bC 0 aK,.box 29 [.own (Y J+2) 0,vb,vc]] [_,_] c (by repeat' constructor) ?_ e);simp only[LW,ae,ai,aG];omega
end
variable(T:eK)(a:List aV)(X:aV)(o:bO){l:List aV}{R:aj}
def iW:List aV:=if a.any (λy=>dH y X==0)then a else ud a X
theorem vS:(a.any λy=>dH y X==0)=(ka a X.aY.bS X.aY.azW).isSome:=by rw[ka,eD,EP,dF];simp[jr]
theorem pA{x z:aV}(h:z∈iW l x):z=x\/z∈l:=by
 unfold iW at h;split at h;.exact .inr h
 rename_i a;rw[mJ λy c b=>a (dF.2 ⟨y,c,by simpa using b⟩)]at h;exact lj.1 h
theorem pB:Y (iW a X)<=Y a+1:=by
 unfold iW;split;.omega
 rename_i b;rw[mJ λy d c=>b (dF.2 ⟨y,d,by simpa using c⟩)];simp[qn];omega
set_option maxRecDepth 4000 in
theorem vI{n:Nat}{K:bL}(P:n<=R.length)(bc:bT R)(k o g f h:V)(J:k.Lt R.length)(M:o.Lt R.length)(t:g.Lt R.length)(s:f.Lt R.length)(v:h.Lt R.length)(l:List aV)(L:∀x∈l,x.azU)(W:l.length<2^29): ∀(d c a:List aV),l=c++d->(∀x∈a,x.azU)->a.length+d.length<2^30 ->(((fj 2 (fh (k) (fh (o) (fj 8 (fh (.sl 13 ((d.foldl iW a).map aV.azR)) (fj 78 (fh (g) (fh (f) (fh (h) (fj 76 fo)))))))))) λH=>K (.exit 6) ⟨H,R⟩)) ->gw n κ rM K (d.length+1) ⟨(uu 2 (k::o::uu 8 (.sl 13 (a.map aV.azR)::uu 78 (g::f::h::uu 4 (.sl 13 (l.map aV.azR)::.I l.length::.I c.length::uu 69 []))))),R⟩:=by
 intro d;induction d with
 |nil =>
  intro c a j _ _ u;have j:l=c:=by simpa using j
  refine az λb D=>?_;simp only[rM,j,dt,bZ,↓IT,VV,seval];exact u ..
 |cons x d ih =>
 intro c a j E U u;simp only[ae]at U;have X:=gY j;have q:=dD c x (by omega);have B:(l.map aV.azR).getD c.length []=qA x:=by rw[j,dR,gy]
 have T:(0:Int)<=(c.length:Int):=by omega
 have Q:(c.length:Int)<(l.length:Int):=by omega
 have C:=L x (by rw[j];simp);simp only[qA]at B;refine az λb D=>?_;simp only[rM,B,T,Q,q,bt,ao,aa,ak,bb,↓IT,VV,seval];refine al (qU a (by omega) x.aY.bS x.aY.azW _) rfl ?_;have O:∀A,jt R.length (uu 2 (k::o::uu 8 (.sl 13 (List.map aV.azR A)::uu 78 (g::f::h::uu 4 (.sl 13 (l.map aV.azR)::.I l.length::.I (c++[x]).length::uu 69 []))))):=λA=>by simp only[LW];exact⟨J,M,t,s,v⟩
 have i:∀r m,rk r (uu 2 (k::o::uu 8 (.sl 13 ((iW a x).map aV.azR)::uu 78 (g::f::h::uu 4 (.sl 13 (l.map aV.azR)::.I l.length::.I (c++[x]).length::uu 69 [])))))->b ⟨r,R++m⟩:=λr m N =>
  D _ (ub ((Wk.fw N).trans (Wk.lS P bc (ed.1 (O _)))) (ih (c++[x]) (iW a x) (by rw[j];simp) (λz F=>(pA F).elim (λe=>e▸C) (E z)) (by have:=pB a x;omega) u));have p:=vS a x;cases w:ka a x.aY.bS x.aY.azW with
 |some y =>
  rw[w]at p;have e:iW a x=a:=by rw[iW,p];rfl
  rw[e]at i;simp only[qD,gy,qA,q,bP,Nat.reduceAdd,bb,↓IT,VV,seval];exact i _ _ (by repeat' constructor)
 |none =>
 rw[w]at p;have e:iW a x=ud a x:=by rw[iW,p];rfl
 rw[e]at i;simp only[qD,gy,qA,nG,q,bP,Nat.reduceAdd,bb,↓IT,VV,seval];refine al (yz a x (by omega) E C _) (by simp only[gy,qA,VV,seval]) ?_;simp only[q,↓IT,VV,seval];exact i _ _ (by repeat' constructor)
theorem jY:∀{a:List aV} {z:aV},z∈l.foldl iW a->z∈l\/z∈a:=by
 induction l with
 |nil=>intro a z h;exact .inr h
 |cons x r ih =>
 intro a z h;rcases ih h with h|h;.exact .inl (bJ _ h)
 exact(pA h).elim (λe=>.inl (e▸cU ..)) .inr
theorem jZ:∀b:List aV,Y (a.foldl iW b)<=Y b+Y a:=by induction a with|nil=>intro b;simp|cons x r ih=>intro b;have:=ih (iW b x);have:=pB b x;simp only[bH,ae];omega
set_option maxRecDepth 4000 in
theorem vH{K:bL}(b0 b1:Ob)(aK:List bO)(C:Y aK<2^30)(t:∀o∈aK,o.azU/\Y o.azS<2^20/\∀x∈o.azS,x.azU)(A:Y (cI aK)<2^29)(bc:bT (S4 R b0 b1 .nil .nil aK)):∀(c d:List bO) (a:List aV),aK=d++c->(∀x∈a,x.azU)->Y a+Y (cI c)<2^29 ->(((fj 2 (fh (.ptr (Y R+1) 0) (fh (.ptr (Y R+3) 0) (fj 8 (fh (.sl 13 (((cI c).foldl iW a).map aV.azR)) (fj 157 fo)))))) λs=>K (.exit 4) ⟨s,S4 R b0 b1 .nil .nil aK⟩)) ->gw (Y R) κ rL K (Y c+1) ⟨(uu 2 (.ptr (Y R+1) 0::.ptr (Y R+3) 0::uu 8 (.sl 13 (a.map aV.azR)::uu 78 (.own (Y R+2) 0::.I (Y aK)::.I (Y d)::uu 76 [])))),S4 R b0 b1 .nil .nil aK⟩:=by
 intro c;induction c with
 |nil =>
  intro d a e _ _ i;have e:aK=d:=by simpa using e
  refine az λb p=>?_;simp only[rL,e,dt,bZ,↓IT,VV,seval];rw[e]at i;exact i ..
 |cons o c ih =>
 intro d a e q w i;have g:cI (o::c)=o.azS++cI c:=by simp[cI]
 rw[g,ah]at w;rw[g,nF]at i;have D:=gY e;have m:=dD d o (by omega);have j:(aK.map bO.azR).getD d.length []=o.azR:=by rw[e,dR]
 have v:(0:Int)<=(Y d:Int):=by omega
 have u:(Y d:Int)<(Y aK:Int):=by omega
 obtain⟨y,B,f⟩:=t o (by rw[e];simp);simp only[bO.azR]at j;have h:=ih (d++[o]) (o.azS.foldl iW a) (by rw[e];simp) (λz r=>(jY r).elim (f z) (q z)) (by have:=jZ o.azS a;omega) i;simp only[S4,bC]at h bc;have k:bT (R++[b0,b1,.row 61 6 80 0 G (aK.map bO.azR),.box 29 [.own (Y R+2) 0,.nil,.nil],.box 61 o.azR]):=by have:=cj bc (l:=[.box 61 o.azR]) (by simp only[bO.azR,bF,bD,cA,cW,cK,LW]);simpa using this
 simp only[bO.azR]at k;refine az λb p=>?_;simp only[rL,S4,bC,j,v,u,m,bt,ao,aa,ak,bb,↓IT,VV,seval];refine cB.wk (Wk.fw (by repeat' constructor)) (cB.kT (Y o.azS+1) (vI (n:=Y R) (by simp) k (.ptr (Y R+1) 0) (.ptr (Y R+3) 0) (.own (Y R+2) 0) (.I (Y aK)) (.I (Y d)) ?_ ?_ ?_ ?_ ?_ o.azS f (by omega) o.azS [] a rfl q (by omega) ?_));.simp only[LW,ah,ae,ai];omega
 .simp only[LW,ah,ae,ai];omega
 .simp only[LW,ah,ae,ai];omega
 .simp only[LW]
 .simp only[LW]
 simp only[JE];intros;simp only[m,↓IT,VV,seval];refine p _ (cn [b0,b1,.row 61 6 80 0 G (aK.map bO.azR),.box 29 [.own (Y R+2) 0,.nil,.nil]] [_] bc (by repeat' constructor) ?_ h);simp only[LW,ae,ai,aG];omega
def pV:bO:=a.foldl (λo x=>dv (T.fV o x) o) o
def l7:bO:=dv (T.fS (pV T a o)) (pV T a o)
theorem rZ{E:eK}:∀(U:List aV) {o:bO},E.o6 o->(∀x∈U,E.ok x)->E.o6 (pV E U o)|[],_,h,_=>h|x::U,o,h,hx=>rZ U (o:=dv (E.fV o x) o) (eK.pH h (E.gV o x h (hx x (by simp)))) λy a=>hx y (by simp[a])
section
variable {E:eK} (hE:A9 E) {J:aj} {K:bL} (b0 b1:Ob) (bc:∀aK,bT (S4 J b0 b1 .nil .nil aK)) (U:List aV) (hU:∀x∈U,E.ok x) (J0:U.length<2^30)
include hE bc hU J0
set_option maxRecDepth 4000 in
theorem vG(A B:List bO)(n:Nat)(y:n<2^30)(p:Y A+(Y B+1)=n):∀(b a:List aV) (o:bO),U=a++b->E.o6 o ->(((fj 2 (fh (.ptr (Y J+1) 0) (fh (.ptr (Y J+3) 0) (fj 8 (fh (.sl 13 (U.map aV.azR)) (fj 6 (fh (.I (Y A)) (fj 104 (fh (.I n) (fh (.I (Y A)) (fj 44 fo))))))))))) λr=>K (.exit 10) ⟨r,S4 J b0 b1 .nil .nil (A++pV E b o::B)⟩)) ->gw (Y J) κ rK K (Y b+1) ⟨(uu 2 (.ptr (Y J+1) 0::.ptr (Y J+3) 0::uu 8 (.sl 13 (U.map aV.azR)::uu 6 (.I (Y A)::uu 104 (.I n::.I (Y A)::uu 2 (.sl 13 (U.map aV.azR)::.I (Y U)::.I (Y a)::uu 39 [])))))),S4 J b0 b1 .nil .nil (A++o::B)⟩:=by
 intro b;induction b with
 |nil =>
  intro a o c f h;have c:U=a:=by simpa using c
  have v:decide ((Y a:Int)<(Y U:Int))=G:=by rw[c];simp
  refine az λR i=>?_;simp only[rK,v,↓IT,VV,seval];exact h ..
 |cons x b ih =>
 intro a o c f h;have j:=hU x (by rw[c];simp);have z:=gY c;have m:=dD a x (by omega);have k:(U.map aV.azR).getD a.length []=qA x:=by rw[c,dR,gy]
 have g:((A++o::B).map bO.azR).getD A.length []=o.azR:=dR;have w:(0:Int)<=(Y a:Int):=by omega
 have t:(Y a:Int)<(Y U:Int):=by omega
 have l:(0:Int)<=(Y A:Int):=by omega
 have q:(Y A:Int)<(Y (A++o::B):Int):=by simp;omega
 have u:Y A<Y (A++o::B):=by simp
 simp only[qA]at k;simp only[bO.azR]at g;refine az λR i=>?_;simp only[rK,S4,bC,k,g,w,t,l,q,m,bt,ao,aa,ak,bb,↓IT,VV,seval];intro X;refine al (hE.cV o x f j _) (by simp only[gy,qA,bO.azR,VV,seval]) ?_;simp only[fm,bO.azR,g,l,q,m,ao,bP,Nat.reduceAdd,aa,ak,↓IT,VV,seval];have e:=ih (a++[x]) (dv (E.fV o x) o) (by rw[c];simp) (eK.pH f (E.gV o x f j)) h;have d:=bc (A++dv (E.fV o x) o::B);simp only[S4,bC]at e d;refine⟨λc=>⟨u,?_⟩,λc=>?_⟩
 .have c:(E.fV o x).2=0:=by simpa using c
  rw[nr (E.fV o x) c];refine i _ (cn [b0,b1,bC 0 (A++dv (E.fV o x) o::B),.box 29 [.own (Y J+2) 0,.nil,.nil]] [_,_] d (by repeat' constructor) ?_ e);simp only[LW,ae,ai,aG];omega
 have c:¬(E.fV o x).2=0:=by simpa using c
 have s:dv (E.fV o x) o=o:=by rw[dv,aw c]
 rw[s]at e d;refine i _ (cn [b0,b1,bC 0 (A++o::B),.box 29 [.own (Y J+2) 0,.nil,.nil]] [_,_] d (by repeat' constructor) ?_ e);simp only[LW,ae,ai,aG];omega
set_option maxRecDepth 4000 in
theorem vF(n:Nat)(r:n<2^30):∀(a b:List bO),Y b+Y a=n->E.jj a ->(((fj 2 (fh (.ptr (Y J+1) 0) (fh (.ptr (Y J+3) 0) (fj 166 fo)))) λm=>K (.exit 8) ⟨m,S4 J b0 b1 .nil .nil (b++a.map (l7 E U))⟩)) ->gw (Y J) κ rJ K (Y a+1) ⟨(uu 2 (.ptr (Y J+1) 0::.ptr (Y J+3) 0::uu 8 (.sl 13 (U.map aV.azR)::uu 111 (.I n::.I (Y b)::uu 44 [])))),S4 J b0 b1 .nil .nil (b++a)⟩:=by
 intro a;induction a with
 |nil =>
  intro b d f g;have s:decide ((Y b:Int)<(n:Int))=G:=by simp at d;simp;omega
  simp only[ar,bI]at g;refine az λR i=>?_;simp only[rJ,s,↓IT,VV,seval];exact g ..
 |cons o a ih =>
 intro b d f g;have u:=rZ U (f o (cU ..)) hU;simp only[ae]at d;have j:IntKind.i64.wrap ((Y b:Int)+1)=((Y (b++[l7 E U o]):Nat):Int):=by rw[da (by omega)];simp
 have k:(0:Int)<=(Y b:Int):=by omega
 have t:(Y b:Int)<(n:Int):=by omega
 refine az λR i=>?_;simp only[rJ,t,bt,aa,↓IT,VV,seval];refine cB.wk (Wk.fw (by repeat' constructor)) (cB.kT (Y U+1) (vG hE b0 b1 bc U hU J0 b a n r (by omega) U [] o rfl (f o (cU ..)) ?_));simp only[JE];intros;have h:((b++pV E U o::a).map bO.azR).getD b.length []=(pV E U o).azR:=dR;have l:(Y b:Int)<(Y (b++pV E U o::a):Int):=by simp;omega
 have q:Y b<Y (b++pV E U o::a):=by simp
 simp only[bO.azR]at h;simp only[S4,bC,h,k,l,j,ao,aa,ak,↓IT,VV,seval];refine al (hE.cS (pV E U o) u _) (by simp only[bO.azR,VV,seval]) ?_;simp only[fm,bO.azR,h,k,l,j,ao,bP,Nat.reduceAdd,aa,ak,↓IT,VV,seval];have e:=ih (b++[l7 E U o]) (by simp;omega) (λo v=>f o (bJ _ v)) (by simpa using g);have c:=bc (b++l7 E U o::a);simp only[aO,aF,ay,S4,bC]at e c;refine⟨λd=>⟨q,?_⟩,λd=>?_⟩
 .have d:(E.fS (pV E U o)).2=0:=by simpa using d
  rw[nr (E.fS (pV E U o)) d];refine i _ (cn [b0,b1,bC 0 (b++l7 E U o::a),.box 29 [.own (Y J+2) 0,.nil,.nil]] [_] c (by repeat' constructor) ?_ e);simp only[LW,ae,ai,aG];omega
 have d:¬(E.fS (pV E U o)).2=0:=by simpa using d
 have p:l7 E U o=pV E U o:=by rw[l7,dv,aw d]
 rw[p]at e c |-;refine i _ (cn [b0,b1,bC 0 (b++pV E U o::a),.box 29 [.own (Y J+2) 0,.nil,.nil]] [_] c (by repeat' constructor) ?_ e);simp only[LW,ae,ai,aG];omega
end
theorem jy{J:aj}(bc:bT J)(n:Net)(vb vc:V)(a:vb=.nil\/vb=.sl 15 (n.ax.map Let.azR))(b:vc=.nil)(aK:List bO):bT (S4 J (.box 29 n.azR) (.box 29 [.nil,.nil,.nil]) vb vc aK):=by
 subst b;rcases a with rfl|rfl <;>
 .refine cj bc ?_;simp only[bC,Net.azR,bF,bD,cA,cW,cK,ae,ai,LW];omega
def rA(E:eK)(n:Net):List bO:=(E.ax n.ax (E.up n.an)).map (l7 E (mH (cI (E.ax n.ax (E.up n.an)))))
set_option maxRecDepth 4000 in
theorem qz{E:eK}(hE:A9 E)(n:Net)(l:n.azU)(y:n.an≠[])(v:Y n.an<=8)(r:E.jj n.an)(u:∀x∈n.ax,0<=x.dst/\x.dst<Y n.an/\E.ok x.op)(J:aj): bh κ 22 [.agg n.azR] J (.agg (Net.azR ⟨rA E n,[],[]⟩)):=by
 have p:=l.uE;refine aW func22 p22.2 λbc z=>aq ?_;have s:E.jj (E.up n.an):=eK.Dm r;have J0:Y (E.up n.an)=Y n.an:=by simp[eK.up]
 have c:E.jj (E.ax n.ax (E.up n.an)):=eK.rW n.ax s λx b=>(u x b).2.2;have f:Y (E.ax n.ax (E.up n.an))=Y n.an:=(eK.nq n.ax).trans J0;have q:=λK=>vK (K:=K) hE (.box 29 n.azR) (.box 29 [.nil,.nil,.nil]) (.sl 15 (n.ax.map Let.azR)) .nil (jy bc n _ _ (.inr rfl) rfl) n.an.length p n.an [] (by simp) r;have i:=λK=>vJ (K:=K) hE (.box 29 n.azR) (.box 29 [.nil,.nil,.nil]) (.sl 15 (n.ax.map Let.azR)) .nil (jy bc n _ _ (.inr rfl) rfl) n.ax n.an.length l.pT p u n.ax [] (E.up n.an) rfl s J0;rw[rA];generalize E.ax n.ax (E.up n.an)=aK at i c f |-;have t:Y (cI aK)<2^29:=by have:=wa (m:=2^16) λo d=>E.len o (c o d);omega
 have w:∀o∈aK,o.azU/\Y o.azS<2^20/\∀x∈o.azS,x.azU:=λo d=>⟨E.sml o (c o d),by have:=E.len o (c o d);omega,λx b=>(E.val x (E.azS o (c o d) x b)).2⟩;have hU:∀x∈mH (cI aK),E.ok x:=λx b=>by
  rcases jY (a:=[]) b with h|h;.obtain⟨o,d,b⟩:=qa.1 h;exact E.azS o (c o d) x b
  simp at h
 have k:Y (mH (cI aK))<2^30:=by have:=jZ (cI aK) [];have e:(mH (cI aK))=(cI aK).foldl iW []:=rfl;rw[e];simp at this;omega
 have g:=λK=>vH (K:=K) (.box 29 n.azR) (.box 29 [.nil,.nil,.nil]) aK (by omega) w t (jy bc n _ _ (.inl rfl) rfl aK) aK [] [] rfl (by simp) (by simpa using t);have j:=λK=>vF (K:=K) hE (.box 29 n.azR) (.box 29 [.nil,.nil,.nil]) (jy bc n _ _ (.inl rfl) rfl) (mH (cI aK)) hU k n.an.length p aK [] (by simpa using f) c;have e:(cI aK).foldl iW []=mH (cI aK):=rfl;rw[e]at g;simp only[S4,bC,Net.azR,ay,ai]at q i g j;rw[f]at g j;simp only[p22,SS,seval];simp only[Net.azR,aa,↓IT,VV,seval];refine al (qV n l y _) rfl ?_;simp only[bC,ao,bP,Nat.reduceAdd,aa,↓IT,VV,seval];refine cB.wk (Wk.fw (by repeat' constructor)) (cB.kT (Y n.an+1) (q _ ?_));simp only[JE];intros;simp only[ao,aa,↓IT,VV,seval];refine cB.wk (Wk.fw (by repeat' constructor)) (cB.kT (Y n.ax+1) (i _ ?_));simp only[JE];intros;simp only[ao,aa,f,↓IT,VV,seval];refine cB.wk (Wk.fw (by repeat' constructor)) (cB.kT (Y n.an+1) (g _ ?_));simp only[JE];intros;simp only[ao,aa,f,↓IT,VV,seval];refine cB.wk (Wk.fw (by repeat' constructor)) (cB.kT (Y n.an+1) (j _ ?_));simp only[JE];intros;simp only[ao,aa,↓IT,VV,seval];refine dS (xs:=[.agg [.own (Y J+2) 0,.nil,.nil]]) (xs':=[.agg (Net.azR ⟨aK.map (l7 E (mH (cI aK))),[],[]⟩)]) (.inr rfl) (by simp only[RS,seval]) ?_ rfl ⟨rfl,rfl⟩;refine(Wk.px 2 rfl).trans ((Wk.fw (ys:=[.agg (Net.azR ⟨aK.map (l7 E (mH (cI aK))),[],[]⟩)]) ?_).trans (Wk.yQ bc (by simp only[Net.azR,LW])));simp only[aI,ar,Pm.fz,kE,cG,aU];exact .cons (.iV (.cons (.refl _) (.cons (.nil 15) (.cons (.nil 2) .nil)))) .nil
section
variable {m:Int} {W:List aV} (hp:Pl m W)
theorem Is:HC (eE hp) where
 cR:=λo ⟨n,h⟩=>(nA hp h).1
 cV:=λo x ⟨n,h⟩ a=>(lR hp h a).1
 cS:=λo ⟨n,h⟩=>(r7 hp h).1
theorem Ir:A9 (eE hp) where
 cR:=λo ⟨n,h⟩=>(nA hp h).2
 cV:=λo x ⟨n,h⟩ a=>(lR hp h a).2
 cS:=λo ⟨n,h⟩=>(r7 hp h).2
theorem AO{n:Int}:∀(U:List aV) {o:bO},GO W n o->o.down=G->(∀x∈U,x∈W)->pV (eE hp) U o=U.foldl cQ o
 |[],_,_,_,_=>rfl
 |x::U,o,h,hd,hx=>by
  have e:dv ((eE hp).fV o x) o=cQ o x:=by show dv (sP o x) o=_;rw[sP,hd];rfl
  obtain⟨a,b,_⟩:=h.recv hp hd (hx x (by simp));have:=AO U a b λy c=>hx y (by simp[c]);rw[pV,bH,e,bH];exact this
theorem yw{n:Net}(h:Gs W n.an)(j:∀x∈n.ax,x.op∈W):rA (eE hp) n=(eE hp).settle n:=by
 obtain⟨a,b⟩:=oF hp h j;rw[nf hp h j,rA];show(iH hp n).map (l7 (eE hp) (mH (cI (iH hp n))))=_;rw[yA hp a];refine dA λo c=>?_;obtain⟨i,f⟩:=cm.1 c;have g:∀x∈ff (iH hp n),x∈W:=λx d=>by obtain⟨p,l,d⟩:=((fq hp a.sub).2 x).1 d;exact a.sub p l x d
 have e:=AO hp (ff (iH hp n)) (a i o f) (b o c) g;have k:=(kF hp (ff (iH hp n)) (a i o f) (b o c) g).2.1;rw[l7,e];show dv (yq _) _=_;rw[yq,k];rfl
end
variable{X:Int}
noncomputable def gr  {W:List aV} (hp:Pl X W) (n:Net):Net:=⟨(eE hp).settle n,[],[]⟩
theorem mr{W:List aV}{N:Nat}{n:Net}(h:GN X W N n)(m:N<=100): (∀J,bh κ 21 [.agg n.azR] J (.agg (gr h.pl n).azR))/\(∀J,bh κ 22 [.agg n.azR] J (.agg (gr h.pl n).azR)) /\GN X W N (gr h.pl n)/\∀o∈(gr h.pl n).an,o.down=G/\o.azS=ej W/\o.aAe=Y o.log:=by
 have f:=h.azU m;have c:=h.len;have l:=h.m8;have r:=h.pT;have i:∀x∈n.ax,x.op∈W:=λx d=>(h.SA x d).2;have g:(eE h.pl).jj n.an:=λo p=>h.gs.mem p;have e:∀x∈n.ax,0<=x.dst/\x.dst<Y n.an/\(eE h.pl).ok x.op:=λx d=>by obtain⟨a,b⟩:=h.SA x d;exact⟨a.1,by omega,b⟩
 obtain⟨j,q,k⟩:=sO h.pl h.gs i c.symm;refine⟨?_,?_,⟨h.pl,h.wl,j,by rw[gr,q];exact c,h.m8,by simp[gr],by simp[gr],List.Pairwise.nil,by simp[gr]⟩,k⟩;.exact xy (Is h.pl) n f g (by omega) e
 have:=qz (Ir h.pl) n f h.ne (by omega) g e;rw[yw h.pl h.gs i]at this;exact this
end Go.Proofs.Tryz
namespace Go.Proofs.Tryz
open Go Go.Pm Go.Bt
variable(X:Ob)(R:Ob)(Q:Ob)(T:Ob)
def CS:Option aV->aB|none=>[.I 0,.I 0,.I 0,.I 0,.nil,.nil,.s [],.s [],.s [],.s [],.I 0,.I 0,.nil]|some x=>x.azR
theorem aca:∀a,Y (CS a)=13|none=>rfl|some _=>rfl
theorem XA{m:Nat}:∀a,jt m (CS a)|none=>by simp only[CS,LW]|some x=>by simp only[CS,aV.azR,cL.azR,En.azR,aF,ay,LW]
theorem akD{J:aj}{K:bL}(bc:bT J)(o:bO)(n:Y o.azS<2^30):∀(b c:List aV) (a:Option aV),o.azS=c++b ->(((fj 2 (fh (.ptr (Y J+1) 0) (fh (.ptr (Y J+2) 0) (fj 18 fo)))) λq=>K (.exit 0) ⟨q,J++[.box 61 o.azR,.box 57 (CS Z),.box 57 (CS (AA o.azW b a))]⟩)) ->gw (Y J) κ Xq K (Y b+1) ⟨(uu 1 (.ptr J.length 0::.ptr (Y J+1) 0::.ptr (Y J+2) 0::uu 3 (.sl 13 (o.azS.map aV.azR)::.I (Y o.azS)::.I (Y c)::uu 12 []))),J++[.box 61 o.azR,.box 57 (CS Z),.box 57 (CS a)]⟩:=by
 intro b;induction b with
 |nil =>
  intro c a e j;have e:o.azS=c:=by simpa using e
  refine az λR p=>?_;simp only[Xq,e,dt,bZ,↓IT,VV,seval];exact j ..
 |cons x b ih =>
 intro c a e j;have z:Y o.azS=Y c+(Y b+1):=by rw[e];simp
 have m:=dD c x (by omega);have l:(o.azS.map aV.azR).getD c.length []=x.azR:=by rw[e,dR]
 have y:(0:Int)<=(Y c:Int):=by omega
 have s:(Y c:Int)<(Y o.azS:Int):=by omega
 have r:=aca a;have w:(CS a).drop 13=[]:=KZ (by omega);have v:∀a,bT (J++[.box 61 o.azR,.box 57 (CS Z),.box 57 (CS a)]):=λa=>cj bc (by simp only[bF,bD,cA,cW,cK];exact⟨by simp only[bO.azR,LW],XA _,XA _⟩);simp only[aV.azR,cL.azR,En.azR]at l;refine az λR p=>?_;have g:∀(h:Option aV) (f:aj) (i:aB),AA o.azW b h=AA o.azW (x::b) a->rk i (uu 1 (.ptr J.length 0::.ptr (Y J+1) 0::.ptr (Y J+2) 0::uu 3 (.sl 13 (o.azS.map aV.azR)::.I (Y o.azS)::.I (Y (c++[x]))::uu 12 [])))->R ⟨i,J++([.box 61 o.azR,.box 57 (CS Z),.box 57 (CS h)]++f)⟩:=by intro h f i t u;refine p _ (cn _ f (v h) u ?_ (ih (c++[x]) h (by rw[e];simp) (by rw[t];exact j)));simp only[LW,ae,ai,aG];omega
 simp only[bO.azR,aF,ay]at g;simp only[Xq,bO.azR,l,y,s,bt,aa,ak,bb,↓IT,VV,seval];refine⟨λk=>?_,λk=>?_⟩;.simp only[r,w,m,bb,↓IT,VV,seval];have d:=g (S x);simp only[CS,aV.azR,cL.azR,En.azR,aF,ay]at d |-;exact d [_] _ (by simp only[AA];rw[bH,aQ (by simpa using k)]) (by repeat' constructor)
 simp only[m,bb,↓IT,VV,seval];refine g a [_] _ (by simp only[AA];rw[bH,aw (by simpa using k)]) (by repeat' constructor)
theorem aj2(o:bO)(a:Y o.azS<2^30)(x:aV)(c:AA o.azW o.azS Z=S x)(J:aj):bh κ 25 [.agg o.azR] J (.agg x.azR):=by refine aW func25 p25.2 λbc d=>aq ?_;have b:=λK=>akD (K:=K) bc o a o.azS [] Z rfl;rw[c]at b;simp only[CS,bO.azR,aV.azR,cL.azR,En.azR,aF,ay,ai]at b;simp only[p25,SS,seval];simp only[bO.azR,aa,bb,↓IT,VV,seval];refine cB.wk (Wk.fw (by repeat' constructor)) (cB.kT (Y o.azS+1) (b _ ?_));simp only[JE];intros;simp only[bb,↓IT,VV,seval];exact bA bc (.inr rfl) (by simp only[RS,seval];rfl) (by simp[LW]) ⟨rfl,rfl⟩
def cvN(n:Net)(W:List aV):aj:=[X,R,Q,T,eI n,uf W.length W]
theorem Made.last{W:List aV}{n:Int}{o a:bO}{g:Int}{e:En}{x:aV}(h:Made W n o g e a x):a.azW=n/\AA a.azW a.azS Z=S x:=by obtain⟨d,k,c,b,rfl,rfl,rfl,f⟩:=h;exact⟨rfl,U7 (b.make f rfl rfl).base rfl rfl⟩
set_option maxRecDepth 4000 in
theorem aqB{J:aj}{K:bL}(bc:∀n W,bT (J++cvN X R Q T n W))(m:Nat)(f:List Ev)(ac:f.length<=30)(BV:Evs m f):∀(d c:List Ev) (W:List aV) (n:Net),f=c++d->GN m W c.length n ->(∀(W:List aV) (n:Net),GN m W f.length n->((fj 8 (fh (.ptr (J.length+4) 0) (fj 1 (fh (.own (J.length+5) W.length) (fj 139 fo))))) λZZ=>K (.exit 0) ⟨ZZ,J++cvN X R Q T n W⟩)) ->gw J.length κ afU K (d.length+1) ⟨(uu 5 (.I m::uu 2 (.ptr (J.length+4) 0::uu 1 (.own (J.length+5) W.length::uu 33 (.sl 12 (f.map Ev.azR)::.I f.length::.I c.length::uu 103 []))))),J++cvN X R Q T n W⟩:=by
 intro d;induction d with
 |nil =>
  intro c W n j w y;have j:f=c:=by simpa using j
  refine az λb hR=>?_;simp only[afU,j,dt,bZ,↓IT,VV,seval];rw[j]at y;exact y W n w ..
 |cons e d ih =>
 intro c W n j w y;have hl:=gY j;have L:=dD c e (by omega);have U:(f.map Ev.azR).getD c.length []=e.azR:=by rw[j,dR]
 have h0:(0:Int)<=(c.length:Int):=by omega
 have h2:(c.length:Int)<(f.length:Int):=by omega
 obtain⟨O,ad,M,E⟩:=BV e (by rw[j];simp);obtain⟨z,er,v,⟨ha,_⟩,ZQ⟩:=yS w (by omega) e O;have J4:(c++[e]).length=c.length+1:=by simp
 simp only[Ev.azR,En.azR]at U;refine az λb hR=>?_;have k:∀(p:List aV) (n2:Net) (q:aj) (A:aB),GN m p (c.length+1) n2->rk A (uu 5 (.I m::uu 2 (.ptr (J.length+4) 0::uu 1 (.own (J.length+5) p.length::uu 33 (.sl 12 (f.map Ev.azR)::.I f.length::.I (c++[e]).length::uu 103 [])))))->b ⟨A,J++(cvN X R Q T n2 p++q)⟩:=by intro p n2 q A h3 yJ;refine hR _ (cn (cvN X R Q T n2 p) q (bc n2 p) yJ ?_ (ih (c++[e]) p n2 (by rw[j];simp) (by rw[J4];exact h3) y));simp only[LW,cvN,ae,ai,aG];omega
 simp only[cvN,eI,uf,Net.azR,aF,ay]at k;simp only[afU,cvN,eI,uf,Net.azR,U,h0,h2,bt,aa,ak,bb,↓IT,VV,seval];refine al (ha _) (by simp only[Net.azR,Ev.azR,En.azR,VV,seval]) ?_;by_cases N:er=0
 .subst N;obtain⟨g,mq⟩:=ZQ rfl;have F:=g.azU (by omega);have EI:=g.len;have C:z.an.length=m:=by omega
  have d1:¬(e.a<0):=by omega
  have d2:¬((m:Int)<=e.a):=by omega
  simp only[gf,aU,Net.azR,aa,C,db,d1,d2,bZ,bb,↓IT,VV,seval];have dd:0<=e.a/\e.a<(m:Int):=⟨M,E⟩;refine⟨λD=>?_,λD=>?_⟩
  .have r:e.azT=1\/e.azT=2:=by simpa using D
   rcases mq with⟨h,_⟩|⟨_,i,o,H,x,en,hi,ho,t,u,hM⟩;.exact absurd r h
   have pR:=(ag.1 ho).1;have vP:(z.an.map bO.azR).getD e.a.toNat []=H.azR:=by rw[hi,t,ak,aA,bR];simp[pR]
   obtain⟨_,B⟩:=hM.last;have Fp:=F.aK H (by rw[t];exact cm.2 ⟨i,by simp[pR]⟩);have iS:=aj2 H Fp.len x B;simp only[bO.azR]at vP iS;simp only[vP,dd,ae,ai,bb,↓IT,VV,seval];have P5:=g.wl;rw[u]at P5;simp only[ah,ae,ai]at P5;have P:v.length=W.length+1:=by rw[u];simp
   have l:=k v z;simp only[P]at l;have e0:W.map aV.azR++[[.I x.aY.time,.I x.aY.bS,.I x.aY.azW,.I x.azT,.sl 3 (x.azV.azZ.map It.azR),.sl 3 (x.azV.az0.map It.azR),.s x.azV.cM,.s x.azV.next,.s x.azV.eu,.s x.azV.dC,.I x.azV.aAb,.I x.azV.aAc,.sl 1 (x.az1.map cN)]]=v.map aV.azR:=by simp[u,aV.azR,cL.azR,En.azR]
   refine al (iS _) rfl ?_;simp only[aV.azR,cL.azR,En.azR,aF,ay,aa,maxLen,V.pure,bb,↓IT,VV,seval];refine⟨⟨by omega,by omega⟩,?_⟩;simp only[e0,L,bb,↓IT,VV,seval];exact l [_,_] _ g (by repeat' constructor)
  have r:¬(e.azT=1\/e.azT=2):=by simpa using D
  have u:v=W:=by
   rcases mq with⟨_,h⟩|⟨h,_⟩;.exact h
   exact absurd h r
  simp only[L,bb,↓IT,VV,seval];exact k W z [_,_] _ (u▸g) (by repeat' constructor)
 have ZT:(er != 0)=θ:=by simpa using N
 simp only[gf,aw N,Net.zero,Net.azR,ar,ZT,L,bb,↓IT,VV,seval];exact k W n [_,_] _ (w.mono (mh _)) (by repeat' constructor)
set_option maxRecDepth 4000 in
theorem agn{J:aj}{K:bL}(g f:Ob)(n:Net)(W:List aV)(bc:bT (J++[X,R,Q,T,g,f,eI n]))(r:Y n.an<2^30)(D:Y W<=100)(m:∀o∈n.an,o.down=G/\o.azS=ej W):∀(d b:List bO),n.an=b++d ->(((fj 10 (fh (.sl 13 (W.map aV.azR)) (fj 4 (fh (.ptr (Y J+6) 0) (fj 134 fo))))) λv=>K (.exit 2) ⟨v,J++[X,R,Q,T,g,f,eI n]⟩)) ->gw (Y J) κ afT K (Y d+1) ⟨(uu 10 (.sl 13 (W.map aV.azR)::uu 4 (.ptr (Y J+6) 0::uu 84 (.sl 6 (n.an.map bO.azR)::.I (Y n.an)::.I (Y b)::uu 47 [])))),J++[X,R,Q,T,g,f,eI n]⟩:=by
 intro d;induction d with
 |nil =>
  intro b e i;have e:n.an=b:=by simpa using e
  refine az λa t=>?_;simp only[afT,e,dt,bZ,↓IT,VV,seval];exact i ..
 |cons o d ih =>
 intro b e i;have u:Y n.an=Y b+(Y d+1):=by rw[e];simp
 have z:=dD b o (by omega);have q:(n.an.map bO.azR).getD b.length []=o.azR:=by rw[e,dR]
 obtain⟨A,j⟩:=m o (by rw[e];simp);obtain⟨p,l,hp⟩:∃p l,n.an=p::l:=by cases h:n.an with|nil=>rw[h]at u;simp at u|cons p l=>exact⟨p,l,rfl⟩
 have w:=(m p (by rw[hp];simp)).2;have C:gv (n.an.map bO.azR) 0 2=S (.sl 13 ((ej W).map aV.azR)):=by rw[hp,gv,aI,aC];simp[bO.azR,w]
 have B:(0:Int)<=(Y b:Int):=by omega
 have x:(Y b:Int)<(Y n.an:Int):=by omega
 have y:(0:Int)<(Y n.an:Int):=by omega
 have s:=nI (ej W) (ej W);rw[pG.2 rfl]at s;simp only[bO.azR,A,j]at q;refine az λa t=>?_;simp only[afT,eI,Net.azR,q,C,B,x,y,gO,bt,aa,ak,bb,↓IT,VV,seval];refine⟨_,rfl,?_⟩;refine bV (c:=θ) (by simp only[bb,VV,seval]<;>rfl) (λ_=>s _) rfl ?_;simp only[aa,uU,db,z,bb,↓IT,VV,seval];have k:=ih (b++[o]) (by rw[e];simp) i;simp only[eI,Net.azR]at k bc;refine t _ (cn [X,R,Q,T,g,f,_] [_] bc (by repeat' constructor) ?_ k);simp only[LW,ae,ai,aG];omega
set_option maxRecDepth 4000 in
theorem BT(l:bU)(J:aj):bh κ 6 [.sl 1 (l.map cN)] J (.b θ):=by
 refine aW func6 p6.2 λbc dQ=>aq ?_;simp only[p6,SS,seval];simp only[V.pure,↓IT,VV,seval];refine iN (zs:=[.sl 1 ([l].map Cp)]) (.cons (.lit _ _) .nil) (yE [l] _) ?_;simp only[↓IT,VV,seval];refine⟨λ_=>?_,λ_=>?_⟩;.refine al (ki _) rfl ?_;simp only[↓IT,VV,seval];exact bK (.inr rfl) (by simp only[RS,seval];rfl) ⟨rfl,rfl⟩
 refine al (yN l _) rfl ?_;simp only[↓IT,VV,seval];have L:=sJ (J++[.dead]) J.length (by simp) l 0 (by decide) 24 (by decide);simp only[mb,s8,cC]at L;refine dZ L rfl ?_;rintro _ _ ⟨n1,s,O,rfl,⟨⟨m,W1,u,hm,BV⟩,ac⟩,tX,rfl,aE⟩;have EI:=u.len;have av:=u.m8;simp only[Net.azR,↓IT,VV,seval];refine al (yN l _) rfl ?_;simp only[ah,ae,ai,bP,Nat.reduceAdd,↓IT,VV,seval];have T:=λb0 b1=>sJ (J++[b0,b1,.dead]) (Y J+2) (by simp) l 0 (by decide) 0 (by decide);simp only[mb,kf,cT,cC]at T;refine dZ (T _ _) rfl ?_;rintro _ _ ⟨n2,ap,k2,rfl,⟨⟨m2,W2,K8,au,af⟩,ad⟩,xf,rfl,a0⟩;have U:Y n2.an=m:=by omega
 have hE:∀x y:aB,gv [x,y] 0 0=x[0]?:=λ_ _=>rfl;simp only[Net.azR,aa,U,ah,ae,ai,bP,Nat.reduceAdd,↓IT,VV,seval];refine al (sW m (by omega) (by omega) _) rfl ?_;simp only[Net.azR,ar,aa,U,db,ah,ae,ai,bP,Nat.reduceAdd,bb,↓IT,VV,seval];have X:=λK=>aqB (J:=J) (K:=K) (.box 84 [.sl 1 (l.map cN),.I O]) (eI n1) (.box 84 [.sl 1 (l.map cN),.I k2]) (eI n2) (λn W=>cj bc (by simp only[cvN,eI,uf,Net.azR,bF,bD,cA,cW,cK,LW])) m s (by omega) BV s [] [] ⟨mw m,[],[]⟩ rfl (Fw (by omega));simp only[cvN,eI,uf,Net.azR,ar,ai]at X;refine cB.wk (((Wk.fw (ys:=(uu 5 (.I m::uu 2 (.ptr (Y J+4) 0::uu 1 (.nil::uu 33 (.sl 12 (s.map Ev.azR)::.I (Y s)::.I (0:Nat)::uu 103 [])))))) (by repeat' constructor)).trans (Wk.ph (P:=κ) (k:=10) _ Wm rfl)).trans (Wk.fw (ys:=(uu 5 (.I m::uu 2 (.ptr (Y J+4) 0::uu 1 (.own (Y J+5) 0::uu 33 (.sl 12 (s.map Ev.azR)::.I (Y s)::.I (0:Nat)::uu 103 [])))))) ?_)) (cB.kT (Y s+1) (X _ ?_));.simp only[ae,ai,cT,cC,aG];repeat' constructor
 intro W n v;simp only[JE];intros;obtain⟨M,_,d,t⟩:=mr v (by omega);have A:=d.azU (by omega);have H:=EF _ A.uE A.aK d.ne;rw[Dt (m:=m) (W:=W) (n:=gr v.pl n) λo f=>⟨(t o f).1,(t o f).2.1⟩]at H;have jw:=d.ne;have am:=v.wl;have e:∀o∈W,o.azU:=λo f=>(v.pl.op o f).azU;generalize gr v.pl n=a at *;simp only[Net.azR]at M H;simp only[↓IT,VV,seval];refine al (M _) rfl ?_;simp only[bb,↓IT,VV,seval];refine al (H _) rfl ?_;simp only[aa,bb,↓IT,VV,seval];obtain⟨p,D,hp⟩:∃p l,a.an=p::l:=by cases h:a.an with|nil=>exact absurd h jw|cons p l=>exact⟨p,l,rfl⟩
 obtain⟨B,r,_⟩:=t p (by rw[hp];simp);have Cu:=A.aK p (by rw[hp];simp);have F:∀o∈ej W,o.azU:=λo f=>e o (dU.1 f);have z:current (ej W)=current W:=(Tu (by omega) (by rw[uU];omega) e λo=>dU.symm).symm;have LN:dw (ej W)=dw W:=by simp only[dw,z]
 have q1:=w9 W e;have R:=w9 (ej W) F;have Q:=nI (current W) (current W);have q4:=vo W e;have C:=vl p Cu;have N:=rH (dw W) (dw W);rw[z]at R;rw[pG.2 rfl]at Q;rw[r,LN]at C;rw[yP]at N;have i:(a.an.map bO.azR).getD 0 []=p.azR:=by rw[hp];rfl
 have j:gv (a.an.map bO.azR) 0 2=S (.sl 13 ((ej W).map aV.azR)):=by rw[hp,gv,aI,aC];simp[bO.azR,r]
 have q:(0:Int)<(Y a.an:Int):=by rw[hp];simp
 have w:=λK=>agn (J:=J) (K:=K) (.box 84 [.sl 1 (l.map cN),.I O]) (eI n1) (.box 84 [.sl 1 (l.map cN),.I k2]) (eI n2) (eI n) (.row 57 13 184 (Y W) θ (W.map aV.azR)) a W (cj bc (by simp only[eI,Net.azR,bF,bD,cA,cW,cK,LW])) A.uE (by omega) (λo f=>⟨(t o f).1,(t o f).2.1⟩) a.an [] rfl;simp only[eI,Net.azR,ai]at w;simp only[bO.azR,B,r]at i C;refine cB.wk ((Wk.fw (ys:=(uu 10 (.own (Y J+5) (Y W)::uu 4 (.ptr (Y J+6) 0::uu 84 (.sl 6 (a.an.map bO.azR)::.I (Y a.an)::.I (0:Nat)::uu 47 []))))) (by repeat' constructor)).trans ((Wk.px 5 (E:=57) (sz:=13) (by':=184) (g:=Y W) (sh:=G) (rows:=W.map aV.azR) rfl).trans (Wk.fw (ys:=(uu 10 (.sl 13 (W.map aV.azR)::uu 4 (.ptr (Y J+6) 0::uu 84 (.sl 6 (a.an.map bO.azR)::.I (Y a.an)::.I (0:Nat)::uu 47 []))))) ?_))) (cB.kT (Y a.an+1) (w _ ?_));.simp only[UE,aI,ar,Pm.fz,kE,cG,aU];repeat' constructor
 simp only[JE];intros;simp only[j,i,q,gO,aa,bt,bb,↓IT,VV,seval];refine al (q1 _) rfl ?_;simp only[j,i,q,gO,aa,bt,bb,↓IT,VV,seval];refine al (R _) rfl ?_;simp only[j,i,q,gO,aa,bt,bb,↓IT,VV,seval];refine al (Q _) rfl ?_;simp only[j,i,q,gO,aa,bt,bb,↓IT,VV,seval];refine⟨_,rfl,?_⟩;refine bV (c:=θ) (by simp only[bb,VV,seval]<;>rfl) (λ_=>q4 _) rfl ?_;simp only[j,i,q,gO,aa,bt,bb,↓IT,VV,seval];refine bV (c:=θ) (by simp only[bb,VV,seval]<;>rfl) (λ_=>C _) rfl ?_;simp only[j,i,q,gO,aa,bt,bb,↓IT,VV,seval];refine bV (c:=θ) (by simp only[bb,VV,seval]<;>rfl) (λ_=>N _) rfl ?_;simp only[j,i,q,gO,aa,bt,bb,↓IT,VV,seval];refine bV (c:=θ) (by simp only[bb,VV,seval]<;>rfl) (λ_=>ki _) rfl ?_;simp only[j,i,q,gO,aa,bt,bb,↓IT,VV,seval];exact gm bc (by rfl) (by simp[LW])
end Go.Proofs.Tryz

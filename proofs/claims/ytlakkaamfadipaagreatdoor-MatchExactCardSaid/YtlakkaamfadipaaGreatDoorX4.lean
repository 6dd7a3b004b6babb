/- A part of a proof; the claim's last text says of what. -/
import Derived.Test.YtlakkaamfadipaaGreatDoorX3
set_option linter.all false

set_option maxRecDepth 8000
set_option maxHeartbeats 4000000
namespace Go.Proofs.Tryz
open Go Go.Pm Go.Bt
def xz(e:En):En:=⟨e.awc,e.awf,[97],[98],e.c8,e.cA,e.awh,e.awq⟩
def Cu(f:List It):Qr:=⟨f,[97],[98],0,102,10⟩
def tt(e:En):List It:=e.awc.map (sn (xy e.awc))
def afo{e:En}(h:xo e):xo (xz e):=by
 obtain⟨a,b,p3,_,_,p6,c⟩:=tX.1 h.ok;exact⟨h.sh,h.nts,h.num,tX.2 ⟨a,b,p3,(by decide +kernel:(parse [97]).2.2=0),(by decide +kernel:(parse [98]).2.2=0),p6,c⟩,h.jr,h.ie,h.uk,h.rv,by simp[xz],by simp[xz],h.c8,h.cA⟩
def abT{e:En}(h:xo e):bQ [] (tt e)=0/\(tt e).length=e.awc.length/\bd (tt e)=bd e.awc:=by
 have b:(awm e.awc).length<=7:=by have:=h.num;omega
 refine⟨(Ga b (λx a=>nS.2 ⟨x,a,rfl⟩) (wB (og h.ok).1)).2,by simp[tt],?_⟩;simp only[tt];generalize xy e.awc=g
 induction e.awc with
 |nil=>rfl
 |cons x f ih=>simp only[aH,bd,D9]at ih |-;rw[ih]
def aiZ{e:En}(h:xo e):fi (Cu (tt e))=0:=by
 obtain⟨d,c,j⟩:=abT h;have i:=h.jr;have k:=h.ie;have b:cd (tt e)=0:=s4 d (by omega) (by omega)
 have g:(tt e).length≠0:=by
  rw[c];exact λf=>(ou h.ok).nonempty (aW f)
 have a:(Cu (tt e)).awc=tt e:=rfl;unfold fi;rw[a,b,an (by decide),an g,an (by rw[show(Cu (tt e)).bU=[97]from rfl];decide +kernel),an (by rw[show(Cu (tt e)).next=[98]from rfl];decide +kernel)];rw[an];simp[Cu]
def Zz(e:En)(a b:List It)(q:Qr):(jB e a b [] q).score<=102:=by
 have c:=(wL a b (Km a b).1).2;have f:=(xi e q).2;have d:(kf e q)>=0:=(xi e q).1;simp only[jB,lL,pF,mx];split<;>split<;>omega
def abO(e:En):(jB (xz e) (dz e.awc) (dz (tt e)) [] (Cu (tt e))).score=102:=by
 have a:eX (dz e.awc) (dz (tt e))=100:=NC (Zg _ e.awc).symm;have b:kf (xz e) (Cu (tt e))=2:=by simp[kf,xz,Cu,Kj]
 simp only[jB,a,b,aT,lL,pF];rfl
def JN{q:Qr}{tq:List It}{m:Mt}:∀{M:List dM} {i:Nat},m∈nG [] q tq i M<->∃(k:Nat) (s:dM),M[k]?=some s/\q.threshold<=(jB s.en s.dz tq [] q).score/\m={ jB s.en s.dz tq [] q with awg:=((i+k:Nat):Int) }
 |[],i=>by simp[nG]
 |s::r,i=>by
  rw[nG,bP,JN (M:=r) (i:=i+1)];constructor
  .rintro(h|⟨k,d,a,b,c⟩)
   .split at h
    .rename_i e;rw[cv]at h;exact⟨0,s,rfl,e,h⟩
    .cases h
   .exact⟨k+1,d,a,b,by rw[c,show i+1+k=i+(k+1)by omega]⟩
  .rintro⟨k,d,a,b,c⟩;cases k with
   |zero =>
    simp only[aM,ae]at a;subst a;left;rw[az b,cv];exact c
   |succ k=>exact .inr ⟨k,d,a,b,by rw[c,show i+1+k=i+(k+1)by omega]⟩
def isE(m:List En)(e:En)(z:Mt):Bool:=B4 (m.getD z.awg.toNat Lw) e
def ahL{S:ak}{n0:Nat}{K:bl}(y z:Nat)(e:En)(F:∀X:ak,(S++X)[y]?=some (.box 37 e.awa))(m:List En)(P:m.length<2^30)(xs:List Mt)(M:xs.length<2^30)(L:∀a∈xs,0<=a.awg/\a.awg<m.length/\a.score=102):∀(rest pre:List Mt) (d:Bool) (X:ak),xs=pre++rest ->
  (∀X,((fj 6 (fh (.ptr y 0) (fj 4 (fh (.ptr z 0) (fj 2 (fh (.b (Bool.or d (rest.any (isE m e)))) (fj 103 fo))))))) λC=>K (.exit 0) ⟨C,S++X⟩)) ->
  fm n0 prog Vq K (rest.length+1) ⟨(uu 6 (.ptr y 0::uu 2 (.sl 8 (m.map En.awa)::uu 1 (.ptr z 0::uu 2 (.b d::uu 51 (.sl 5 (xs.map Mt.awa)::.I xs.length::.I pre.length::uu 49 [])))))),S++X⟩:=by
 intro rest
 induction rest with
 |nil =>
  intro pre d X g h;have p:decide ((pre.length:Int)<(xs.length:Int))=false:=by rw[g];simp
  rw[List.any_nil,Bool.or_false]at h;refine ar λR w=>?_;simp only[Vq,p,V.pure,↓IT,VV,seval];exact h X ..
 |cons a rest ih =>
  intro pre d X g h;have O:pre.length<xs.length:=by rw[g];simp
  have p:decide ((pre.length:Int)<(xs.length:Int))=true:=by simp;omega
  have k:=dh pre a (by omega)
  have H:(0:Int)<=(pre.length:Int)/\(pre.length:Int)<(xs.length:Int):=by omega
  have G:(List.map Mt.awa xs).getD pre.length []=a.awa:=by rw[g];exact um
  obtain⟨Q,N,E⟩:=L a (by rw[g];simp);obtain⟨i,u⟩:∃i:Nat,a.awg=i:=⟨a.awg.toNat,by omega⟩;have x:i<m.length:=by omega
  have l:decide ((i:Int)<0)=false:=by simp
  have J:decide ((m.length:Int)<=(i:Int))=false:=by simp;omega
  have o:(List.map En.awa m).getD i []=(m.getD i Lw).awa:=by simp[aq,x]
  have D:(0:Int)<=(i:Int)/\(i:Int)<(m.length:Int):=by omega
  have q:isE m e a=B4 (m.getD i Lw) e:=by rw[isE,u];rfl
  rw[List.any_cons,q]at h;have n:List.take 8 (m.getD i Lw).awa=(m.getD i Lw).awa:=by simp[En.awa]
  have j:(8:Nat)<=(m.getD i Lw).awa.length:=by simp[En.awa]
  have t:List.take 8 e.awa=e.awa:=by simp[En.awa]
  have r:(8:Nat)<=e.awa.length:=by simp[En.awa]
  refine ar λR w=>?_
  have f:∀{b:Ob} {s:aB} {v:Bool},v=(d||B4 (m.getD i Lw) e)->oJ s (uu 6 (.ptr y 0::uu 2 (.sl 8 (m.map En.awa)::uu 1 (.ptr z 0::uu 2 (.b v::uu 51 (.sl 5 (xs.map Mt.awa)::.I xs.length::.I (pre++[a]).length::uu 49 []))))))->R ⟨s,S++(X++[b])⟩:=by
   intro b s v A B;refine w _ (aK B (ih (pre++[a]) v (X++[b]) (by rw[g];simp) ?_));rw[A,Bool.or_assoc];exact h
  simp only[Vq,p,G,u,E,l,J,o,n,j,F,bk,t,r,k,Mt.awa,ag,ao,lA,V.pure,↓IT,VV,seval];refine⟨H,λ_=>D,_,λ_=>rfl,?_⟩;cases d with
  |true =>
   refine bB (c:=false) (v:=.b false) (by simp only[VV,seval]<;>rfl) (nofun) rfl ?_;simp only[k,↓IT,VV,seval];exact f (v:=true) rfl (by repeat' constructor)
  |false =>
   refine bB (c:=true) (by simp only[VV,seval]<;>rfl) (λ_=>uo (m.getD i Lw) e _) rfl ?_;simp only[k,↓IT,VV,seval];exact f rfl (by repeat' constructor)

set_option maxRecDepth 20000
set_option maxHeartbeats 4000000
def Z8{J:ak}{b:Ob}{l:bH}{k:Nat}:J++[.box 31 [.sl 1 (l.map bV),.I k],b]=gT (J++[.dead,b]) J.length l k:=by
 simp[gT]
def LB(l:bH)(o:Int)(J:ak):bM prog 10 [.sl 1 (l.map bV),.I o] J (.b true):=by
 refine aZ func10 c10 λbn dN=>?_;simp only[p10,SS,seval];refine bZ.cut λR d=>?_;simp only[VV,seval];refine d _ (bZ.fg (fr':=(.sl 1 (l.map bV)::uu 117 [])) ?_ (by repeat' constructor));clear d R;refine bZ.cut λR d=>?_;simp only[ag,V.pure,VV,seval];refine⟨λ_=>?_,λ_=>?_⟩
 .refine aw (qO _) rfl ?_;simp only[VV,seval];exact aO (.inr rfl) rfl ⟨rfl,rfl⟩
 refine d _ (bZ.fg (fr':=(.sl 1 (l.map bV)::uu 117 [])) ?_ (by repeat' constructor));clear d R;refine bZ.cut λR d=>?_;simp only[V.pure,VV,seval];refine d _ (bZ.fg (fr':=(uu 5 (.ptr J.length 0::uu 112 []))) ?_ (by repeat' constructor));clear d R;rw[BA];refine bZ.cut λR d=>?_;simp only[V.pure,VV,seval];refine cD (RT _ J.length (by simp) l 0 (by decide)) rfl ?_;rintro _ _ ⟨e,U,rfl,t,tn,rfl⟩;have ac:gT (J++[.dead]) J.length l U=J++[.box 31 [.sl 1 (l.map bV),.I U]]:=by simp[gT]
 rw[ac];simp only[En.awa,V.pure,VV,seval];refine d _ (bZ.fg (fr':=(uu 5 (.ptr J.length 0::.ptr (J.length+1) 0::uu 111 []))) ?_ (by repeat' constructor));clear d R;refine bZ.cut λR d=>?_;simp only[V.pure,VV,seval];refine d _ (bZ.fg (fr':=(uu 5 (.ptr J.length 0::.ptr (J.length+1) 0::uu 111 []))) ?_ (by repeat' constructor));clear d R;have pN:[V.sl 3 (e.awc.map It.awa),.sl 3 (e.awf.map It.awa),.s [97],.s [98],.s e.c8,.s e.cA,.I e.awh,.I e.awq]=(xz e).awa:=rfl;refine bZ.cut λR d=>?_;simp only[V.pure,VV,seval];rw[pN];rw[Z8];refine cD (RU (J++[.dead,.box 37 (xz e).awa]) J.length (by simp) l U (by omega) 4 (by decide)) rfl ?_;rintro _ _ ⟨m,H,g,rfl,g1,g2,g3,rfl⟩;have Rr:gT (J++[.dead,.box 37 (xz e).awa]) J.length l H++[qq g false m]=J++[.box 31 [.sl 1 (l.map bV),.I H],.box 37 (xz e).awa,qq g false m]:=by simp[gT]
 rw[Rr];simp only[xz,qq,En.awa,ag,V.pure,VV,seval];refine⟨⟨by omega,by unfold maxLen;omega⟩,?_⟩;rw[pN];have dd:m.map En.awa++[(xz e).awa]=(m++[xz e]).map En.awa:=by simp
 rw[dd];refine d _ (bZ.wk ((Wk.rZ 2 (E:=37) (sz:=8) (by':=128) (g:=g+1) (sh:=false) (rows:=(m++[xz e]).map En.awa) rfl).trans (Wk.fg (ys:=(uu 6 (.ptr (J.length+1) 0::.sl 8 ((m++[xz e]).map En.awa)::uu 110 []))) ?_)) ?_)
 .simp only[aH,bR,fz,oa,jx,aT,VV,seval]
  repeat' constructor
 clear d R;have f:=afo t
 have C:∀x∈m++[xz e],x.awk/\(dz x.awc).length<=2^20:=λx r=>by
  rcases bP.1 r with r|r
  .exact po (by omega) (g1 x r)
  .rw[cv.1 r];exact po (k:=0) (by decide) (f.toB 0)
 obtain⟨u,W⟩:∃u,u=J++[.box 31 [.sl 1 (l.map bV),.I H],.box 37 (xz e).awa,.row 37 8 128 (g+1) true ((m++[xz e]).map En.awa)]:=⟨_,rfl⟩;have T:∀rows:Ob,J++List.set [.box 31 [.sl 1 (l.map bV),.I H],.box 37 (xz e).awa,rows] 2 (.row 37 8 128 (g+1) true ((m++[xz e]).map En.awa))=u:=λ_=>by rw[W];rfl
 rw[T];refine bZ.cut λR d=>?_;simp only[V.pure,VV,seval];refine cD (vL (m++[xz e]) (by simp;omega) C _) rfl ?_;rintro _ i ⟨M,next,rfl,hF,L,oo,ap,uC⟩;simp only[V.pure,VV,seval];refine d _ (bZ.fg (fr':=(uu 6 (.ptr (J.length+1) 0::uu 1 (.ptr (u.length+4) 0::.sl 8 ((M.map dM.en).map En.awa)::.b true::uu 107 [])))) ?_ (by repeat' constructor));clear d R;obtain⟨a1,e2⟩:=hF.pre;have w:∀Y:ak,(i++Y)[J.length+1]?=some (.box 37 (xz e).awa):=λY=>by rw[e2,W];simp
 have B:i[J.length+1]?=some (.box 37 (xz e).awa):=by have:=w [];rwa [bL]at this
 rw[<- pN]at w B;refine bZ.cut λR d=>?_;simp only[w,B,V.pure,VV,seval];have av:(awm e.awc).length<=7:=by have:=t.num;omega
 have aa:rename e.awc (awm e.awc) V1=tt e:=(Ga av (λx r=>nS.2 ⟨x,r,rfl⟩) (wB (og t.ok).1)).1;have b1:=t.jr;have b2:=t.ie;have Ac:=jE e.awc;intro X;refine aw (rJ e.awc (by omega) _) rfl ?_;simp only[w,V.pure,VV,seval];intro X2;refine ml (zs:=[.sl 3 (e.awc.map It.awa),.sl 1 ((awm e.awc).map bV),.sl 1 (V1.map bV)]) (.cons (.refl _) (.cons (.refl _) (.cons (.lit _ _) .nil))) (tF e.awc (awm e.awc) V1 (by omega) (by omega) (by omega) _) ?_;rw[aa];simp only[w,V.pure,VV,seval];have af:[V.sl 3 ((tt e).map It.awa),.s [97],.s [98],.I 0,.I 102,.I 10]=(Cu (tt e)).awa:=rfl;refine d _ (bZ.fg (fr':=(uu 6 (.ptr (J.length+1) 0::uu 1 (.ptr (u.length+4) 0::.sl 8 ((M.map dM.en).map En.awa)::.b true::.ptr i.length 0::uu 106 [])))) ?_ (by repeat' constructor));clear d R;rw[af];obtain⟨f1,f2,f3⟩:=abT t;have Pr:=aiZ t;have a2:M.length<=5:=by rw[aj,eI]at ap;omega
 have JI:=tx (tt e)
 have HF:=EK (hF.app [.box 24 (Cu (tt e)).awa]) (by omega) [] (by decide) (Cu (tt e)) (by simp[Cu]) (by simp[Cu]) (by show(tt e).length<2^38;omega) (by show bd (tt e)<2^38;omega) (by show(dz (tt e)).length<=2^20;omega)
  (λs y=>⟨by rw[(L.ok s y).2.1];exact(C _ (oo s y)).2,⟨(by decide : -9223372036854775808<=(0:Int)/\(0:Int)<=9223372036854775807),by have:=(ou (L.ok s y).2.2.1).awh;omega,by decide,λp D=>by cases D⟩⟩)
 refine bZ.cut λR d=>?_;simp only[Qr.awa,V.pure,VV,seval];refine cD (PC.wk (args':=[.ptr (u.length+4) 0,.sl 5 (([]:List Pn).map Pn.awa),.agg (Cu (tt e)).awa]) (Wk.fg (.cons (.refl _) (.cons (.nil _) (.cons (.refl _) .nil)))) HF) rfl ?_;rintro _ S3 ⟨hr,e3⟩;rw[e3];clear e3 S3;rcases hr with⟨h,_⟩|⟨_,h,_⟩|⟨_,_,j,D,a3,rfl⟩
 .exact absurd Pr h
 .exact absurd rfl h
 have LJ:j.length<=5:=by rw[D.length_eq];have:=yr [] (Cu (tt e)) (dz (Cu (tt e)).awc) M 0;omega
 rw[show(Cu (tt e)).gJ.toNat=10 from rfl,bW (by omega)]
 have Hy:∀a∈j,0<=a.awg/\a.awg<(M.map dM.en).length/\a.score=102:=λa ha=>by
  obtain⟨k,s,q1,q2,N⟩:=JN.1 (D.mem_iff.1 ha);have hk:=(ah.1 q1).1;have z:=Zz s.en s.dz (dz (Cu (tt e)).awc) (Cu (tt e));have P:(Cu (tt e)).threshold=102:=rfl;rw[P]at q2;rw[ag];refine⟨by rw[N];exact Int.natCast_nonneg _,by rw[N];show((0+k:Nat):Int)<_;omega,?_⟩;rw[N];show(jB s.en s.dz (dz (Cu (tt e)).awc) [] (Cu (tt e))).score=102;omega
 obtain⟨a,H0,am⟩:∃a∈j,isE (M.map dM.en) (xz e) a=true:=by
  have ku:=uC (xz e) Ag f.ok (by simp;omega);obtain⟨s,y,A⟩:=bF.1 ku;obtain⟨k,hk,ab⟩:=BW y;have sD:M[k]?=some s:=by rw[ax hk,ab]
  have ui:=(L.ok s y).2.1;have z:(jB s.en s.dz (dz (Cu (tt e)).awc) [] (Cu (tt e))).score=102:=by rw[ui,A];exact abO e
  refine⟨_,D.mem_iff.2 (JN.2 ⟨k,s,sD,by rw[z];exact dJ _,rfl⟩),?_⟩;have:(M.map dM.en).getD k Lw=xz e:=by simp[aq,sD,A]
  show B4 ((M.map dM.en).getD (((0+k:Nat):Int)).toNat Lw) (xz e)=true;rw[aY,ao,this];exact Kl.2 rfl
 have wy:0<j.length:=arG H0;have aE:j.any (isE (M.map dM.en) (xz e))=true:=acy.2 ⟨a,H0,am⟩;simp only[V.pure,VV,seval];refine d _ (bZ.fg (fr':=(uu 6 (.ptr (J.length+1) 0::uu 2 (.sl 8 ((M.map dM.en).map En.awa)::.b true::.ptr i.length 0::.sl 5 (j.map Mt.awa)::.I 0::uu 104 [])))) ?_ (by repeat' constructor));clear d R;have O:decide ((j.length:Int)<1)=false:=by simp;omega
 refine bZ.cut λR d=>?_;simp only[ag,O,V.pure,↓IT,VV,seval];refine d _ (bZ.fg (fr':=(uu 6 (.ptr (J.length+1) 0::uu 2 (.sl 8 ((M.map dM.en).map En.awa)::uu 1 (.ptr i.length 0::.sl 5 (j.map Mt.awa)::uu 105 []))))) ?_ (by repeat' constructor));clear d R;refine bZ.cut λR d=>?_;simp only[V.pure,VV,seval];refine d _ (bZ.fg (fr':=(uu 6 (.ptr (J.length+1) 0::uu 2 (.sl 8 ((M.map dM.en).map En.awa)::uu 1 (.ptr i.length 0::.sl 5 (j.map Mt.awa)::uu 1 (.b false::uu 103 [])))))) ?_ (by repeat' constructor));clear d R;have F:∀X:ak,((i++[.box 24 (Cu (tt e)).awa])++X)[J.length+1]?=some (.box 37 (xz e).awa):=λX=>by rw[bk,w];rfl
 have K:∀X:ak,((i++[.box 24 (Cu (tt e)).awa])++X)[i.length]?=some (.box 24 (Cu (tt e)).awa):=λX=>by simp
 obtain⟨Q,ad⟩:∃Q,u=J++Q:=⟨_,W⟩;have G:∀X:ak,∃n,(i++[.box 24 (Cu (tt e)).awa])++X=J++n:=λX=>⟨Q++(a1++([.box 24 (Cu (tt e)).awa]++X)),by rw[e2,ad];simp only[bk]⟩;refine bZ.cut λR d=>?_;simp only[ag,V.pure,VV,seval];rw[<- List.append_nil (i++[Ob.box 24 (Cu (tt e)).awa])];generalize a4:i++[Ob.box 24 (Cu (tt e)).awa]=S4 at F K G |-;refine bZ.aK (fr':=(uu 6 (.ptr (J.length+1) 0::uu 2 (.sl 8 ((M.map dM.en).map En.awa)::uu 1 (.ptr i.length 0::uu 2 (.b false::uu 51 (.sl 5 (j.map Mt.awa)::.I j.length::.I (([]:List Mt).length:Nat)::uu 49 []))))))) (by repeat' constructor) (j.length+1) (ahL (S:=S4) (J.length+1) i.length (xz e) F (M.map dM.en) (by rw[ag];omega) j (by omega) Hy j [] false [] rfl ?_);intro X;rw[aE];simp only[JE];intros;simp only[Bool.or_true,V.pure,VV,seval];refine d _ (bZ.fg (fr':=(uu 6 (.ptr (J.length+1) 0::uu 4 (.ptr i.length 0::uu 2 (.b true::uu 103 []))))) (au ?_) (by repeat' constructor));clear d R;have v:jY (xz e) (tt e)=((xz e).awf.map (sn (xy (xz e).awc)),true):=abQ f;have ll:=Gs (e:=xz e) (h:=tt e) (by rw[v]);have BF:(jY (xz e) (tt e)).1.length<2^29:=by rw[v,ag];have:=f.uk;omega
 have Z:Wd (xz e) (tt e)=.iQ [.sl 3 ((jY (xz e) (tt e)).1.map It.awa),.b true]:=by rw[Wd,show(jY (xz e) (tt e)).2=true by rw[v]]
 have c1:=f.jr;have c2:=f.uk;have c3:=f.rv;have a0:(xz e).awa.take 8=(xz e).awa:=rfl;have TY:(8:Nat)<=(xz e).awa.length:=by simp[En.awa]
 have q:(Cu (tt e)).awa[0]?=some (.sl 3 ((tt e).map It.awa)):=rfl;simp only[F,K,a0,TY,q,V.pure,↓IT,VV,seval];refine aw (KP (xz e) (tt e) (by omega) (by omega) (by omega) (by omega) _) rfl ?_;rw[Z];simp only[F,K,q,V.pure,↓IT,VV,seval];refine bB (c:=true) (by simp only[VV,seval]<;>rfl) (λ_=>qA (tt e) (jY (xz e) (tt e)).1 (by omega) BF _) rfl ?_;rw[ll];simp only[F,K,q,V.pure,↓IT,VV,seval];refine bB (c:=true) (by simp only[VV,seval]<;>rfl) (λ_=>qO _) rfl ?_;obtain⟨n,e4⟩:=G X;rw[e4];simp only[↓IT,VV,seval];exact gq bn (by rfl) (by simp[LW])
end Go.Proofs.Tryz

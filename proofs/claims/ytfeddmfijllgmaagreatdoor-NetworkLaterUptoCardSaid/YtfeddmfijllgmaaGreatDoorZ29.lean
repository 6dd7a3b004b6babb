/- Part of a proof. -/
import Derived.Test.YtfeddmfijllgmaaGreatDoorZ28
set_option linter.all false
set_option maxHeartbeats 4000000
open Option renaming some->S
open Bool renaming true->G,false->Z
open Go.Proofs.Tryz renaming prog->A
open List renaming length->X
namespace Go.Proofs.Tryz
open Go Go.Pm Go.Bt
def aiM{J:ai}{K:bG}(bd:bW J)(n:Nat)(j:n<=8):∀(k i:Nat),n=i+k ->(((fj 2 (fh (.ptr (X J) 0) (fj 1 (fh (.ptr (X J+1) 0) (fj 27 fo))))) λh=>K (.exit 0) ⟨h,J++[.box 29 [.nil,.nil,.nil],eW (.own (X J+2) n) .nil .nil,bI n (mc n)]⟩)) ->gF (X J) A U1 K (k+1) ⟨(.I n::uu 1 (.ptr (X J) 0::uu 1 (.ptr (X J+1) 0::.I i::uu 26 []))),J++[.box 29 [.nil,.nil,.nil],eW (.own (X J+2) i) .nil .nil,bI i (mc i)]⟩:=by
 intro k;induction k with
 |zero =>
  intro i b c;have b:n=i:=by omega
  subst b;refine aD λR f=>?_;simp only[U1,kJ,dZ,↓IT,VV,seval];exact c ..
 |succ k ih =>
 intro i b c;have e:IntKind.i64.wrap ((i:Int)+1)=((i+1:Nat):Int):=by rw[cT (by omega)]
 have g:(i:Int)<(n:Int):=by omega
 refine aD λR f=>?_;simp only[U1,eW,bI,g,e,cZ,↓IT,VV,seval];refine ak (adS i (by omega) (by omega) _) rfl ?_;simp only[bX.axV,aC,aq,e,V.pure,ab,maxLen,aK,↓IT,VV,seval];have a:X (mc i)=i:=by simp[mc]
 rw[Gx,a];have d:=cx bd (l:=[.box 29 [.nil,.nil,.nil],eW (.own (X J+2) (i+1)) .nil .nil,bI (i+1) (mc (i+1))]) (by simp only[bI,eW,bV,bM,dp,dF,dm,ae,ah,aj,LW];omega);refine⟨⟨by omega,by omega⟩,f _ (dn [.box 29 [.nil,.nil,.nil],eW (.own (X J+2) (i+1)) .nil .nil,bI (i+1) (mc (i+1))] [_] d ?_ ?_ (ih (i+1) (by omega) c))⟩;.repeat' constructor
 simp only[LW,ah,aj,aP];omega
def FB(n:Nat)(h1:1<=n)(c:n<=8)(J:ai):bh A 16 [.I n] J (.iS [.agg (Net.axV ⟨mc n,[],[]⟩),.I 0]):=by
 refine aT func16 p16.2 λbd e=>an ?_;have b:decide ((n:Int)<1)=Z:=by simp;omega
 have d:decide (8<(n:Int))=Z:=by simp;omega
 simp only[p16,SS,seval];simp only[b,d,bb,↓IT,VV,seval];have a:=λK=>aiM bd (K:=K) n c n 0 (by omega);simp only[eW,bI,mc,List.range_zero,aq]at a;refine cD.wk ((Wk.fG (ys:=(.I n::uu 1 (.ptr (X J) 0::uu 1 (.ptr (X J+1) 0::.I ((0:Nat):Int)::uu 26 [])))) ?_).trans Vb) (cD.mM (n+1) (a _ ?_));.repeat' constructor
 simp only[JE];intros;simp only[aK,↓IT,VV,seval];refine gT (xs:=[.agg [.own (X J+2) n,.nil,.nil],.I 0]) (xs':=[.agg (Net.axV ⟨mc n,[],[]⟩),.I 0]) (.inr rfl) (by simp only[RS,seval]) ?_ rfl ⟨rfl,rfl⟩;refine(Wk.qM 2 rfl).trans ((Wk.fG (ys:=[.agg (Net.axV ⟨mc n,[],[]⟩),.I 0]) ?_).trans (Wk.yL bd (by simp only[Net.axV,LW])));simp only[az,aq,Pm.fz,jR,cw,aR];exact .cons (.iK (.cons (.refl _) (.cons (.nil 15) (.cons (.nil 2) .nil)))) (.cons (.refl _) .nil)
open Go.RowKit
structure agP (E:il):Prop where
 cR:∀o,E.rF o->∀J,bh prog 56 [.agg o.axV] J (fA (E.fR o).1 (E.fR o).2)
 cV:∀o x,E.rF o->E.ok x->∀J,bh prog 63 [.agg o.axV,.agg x.axV] J (fA (E.fV o x).1 (E.fV o x).2)
 cS:∀o,E.rF o->∀J,bh prog 54 [.agg o.axV] J (fA (E.fS o).1 (E.fS o).2)
def S4(J:ai)(b0 b1:Ob)(vb vc:V)(bg:List bX):ai:=J++[b0,b1,bI 0 bg,.box 29 [.own (X J+2) 0,vb,vc]]
section
variable {E:il} (hE:agP E) {J:ai} {K:bG} (b0 b1:Ob) (vb vc:V) (bd:∀bg,bW (S4 J b0 b1 vb vc bg))
include hE bd
set_option maxRecDepth 4000 in
theorem aaI(n:Nat)(x:n<2^30):∀(a b:List bX),n=X b+X a->E.my a ->(((fj 2 (fh (.ptr (X J+1) 0) (fh (.ptr (X J+3) 0) (fj 166 fo)))) λt=>K (.exit 0) ⟨t,S4 J b0 b1 vb vc (b++E.up a)⟩)) ->gF (X J) A US K (X a+1) ⟨(uu 2 (.ptr (X J+1) 0::.ptr (X J+3) 0::uu 26 (.own (X J+2) 0::.I n::.I (X b)::uu 137 []))),S4 J b0 b1 vb vc (b++a)⟩:=by
 intro a;induction a with
 |nil =>
  intro b d g f;have p:decide ((X b:Int)<(n:Int))=Z:=by simp at d;simp;omega
  refine aD λR j=>?_;simp only[US,p,↓IT,VV,seval];simp only[il.up,aq,bE]at f;exact f ..
 |cons o a ih =>
 intro b d g f;have i:=g o (dN ..);have w:n=X b+(X a+1):=by rw[d];simp
 have l:IntKind.i64.wrap ((X b:Int)+1)=((X (b++[gH (E.fR o) o]):Nat):Int):=by rw[cT (by omega)];simp
 have h:((b++o::a).map bX.axV).getD (X b) []=o.axV:=gA;have k:(0:Int)<=(X b:Int):=by omega
 have q:(X b:Int)<(n:Int):=by omega
 have m:(X b:Int)<(X (b++o::a):Int):=by simp<;>omega
 have s:X b<X (b++o::a):=by simp
 simp only[bX.axV]at h;refine aD λR j=>?_;simp only[US,S4,bI,h,k,q,m,l,cZ,aK,ab,al,↓IT,VV,seval];refine ak (hE.cR o i _) (by simp only[bX.axV,VV,seval]) ?_;simp only[fA,bX.axV,h,k,m,l,aK,da,Nat.reduceAdd,ab,al,↓IT,VV,seval];have v:b++E.up (o::a)=(b++[gH (E.fR o) o])++E.up a:=by simp[il.up]
 rw[v]at f;have e:=ih (b++[gH (E.fR o) o]) (by simp;omega) (λo u=>g o (cd _ u)) f;have c:=bd (b++gH (E.fR o) o::a);simp only[aJ,aF,aw,S4,bI]at e c;refine⟨λd=>⟨s,?_⟩,λd=>?_⟩
 .have d:(E.fR o).2=0:=by simpa using d
  rw[xe (E.fR o) d];refine j _ (dn [b0,b1,bI 0 (b++gH (E.fR o) o::a),.box 29 [.own (X J+2) 0,vb,vc]] [_,_] c (by repeat' constructor) ?_ e);simp only[LW,ah,aj,aP];omega
 have d:¬(E.fR o).2=0:=by simpa using d
 have r:gH (E.fR o) o=o:=by rw[gH,ao d]
 rw[r]at e c |-;refine j _ (dn [b0,b1,bI 0 (b++o::a),.box 29 [.own (X J+2) 0,vb,vc]] [_,_] c (by repeat' constructor) ?_ e);simp only[LW,ah,aj,aP];omega
set_option maxRecDepth 4000 in
theorem aaH(ax2:List Let)(m:Nat)(Q:X ax2<2^30)(T:m<2^30)(M:∀x∈ax2,0<=x.dst/\x.dst<m/\E.ok x.op):∀(b c:List Let) (bg:List bX),ax2=c++b->E.my bg->X bg=m ->(((fj 2 (fh (.ptr (X J+1) 0) (fh (.ptr (X J+3) 0) (fj 166 fo)))) λH=>K (.exit 2) ⟨H,S4 J b0 b1 vb vc (E.aW b bg)⟩)) ->gF (X J) A UR K (X b+1) ⟨(uu 2 (.ptr (X J+1) 0::.ptr (X J+3) 0::uu 47 (.sl 15 (ax2.map Let.axV)::.I (X ax2)::.I (X c)::uu 116 []))),S4 J b0 b1 vb vc bg⟩:=by
 intro b;induction b with
 |nil =>
  intro c bg e n B l;have e:ax2=c:=by simpa using e
  refine aD λR q=>?_;simp only[UR,e,kJ,dZ,↓IT,VV,seval];exact l ..
 |cons x b ih =>
 intro c bg e n B l;have w:=M x (by rw[e];simp);have P:=ko e;have u:=eE c x (by omega);have s:(ax2.map Let.axV).getD (X c) []=nE x:=by rw[e,gA,mI]
 have D:(0:Int)<=(X c:Int):=by omega
 have C:(X c:Int)<(X ax2:Int):=by omega
 obtain⟨j,z⟩:∃j:Nat,x.dst=j:=⟨x.dst.toNat,by omega⟩;have v:j<X bg:=by omega
 obtain⟨o,h⟩:∃o,bg[j]?=S o:=⟨_,aA v⟩;have r:(bg.map bX.axV).getD j []=o.axV:=by simp[ax,h]
 have p:=n o (bn h);have g:E.sR bg x.dst.toNat x.op=bg.set j (gH (E.fV o x.op) o):=by
  rw[z,al,il.sR,h];simp only[gH];split;.rfl
  obtain⟨_,rfl⟩:=ag.1 h;simp
 have t:(0:Int)<=(j:Int):=by omega
 have y:(j:Int)<(X bg:Int):=by omega
 have L:¬(j:Int)<0:=by omega
 have N:¬(X bg:Int)<=(j:Int):=by omega
 simp only[nE,z]at s;simp only[bX.axV]at r;refine aD λR q=>?_;simp only[UR,S4,bI,s,r,D,C,t,y,L,N,u,cZ,dZ,aK,ab,al,bb,↓IT,VV,seval];intro a;refine ak (hE.cV o x.op p w.2.2 _) (by simp only[k6,zk,bX.axV,VV,seval]) ?_;simp only[fA,bX.axV,r,t,y,u,aK,da,Nat.reduceAdd,ab,al,↓IT,VV,seval];have O:E.aW (x::b) bg=E.aW b (bg.set j (gH (E.fV o x.op) o)):=by rw[<- g];rfl
 rw[O]at l;have k:=il.uM (i:=x.dst.toNat) n w.2.2;rw[g]at k;have f:=ih (c++[x]) (bg.set j (gH (E.fV o x.op) o)) (by rw[e];simp) k (by simpa using B) l;have d:=bd (bg.set j (gH (E.fV o x.op) o));simp only[S4]at f d;refine⟨λe=>⟨v,?_⟩,λe=>?_⟩
 .have e:(E.fV o x.op).2=0:=by simpa using e
  rw[gH,aO e]at f d;rw[yg];refine q _ (dn [b0,b1,bI 0 (bg.set j (E.fV o x.op).1),.box 29 [.own (X J+2) 0,vb,vc]] [_,_] d (by repeat' constructor) ?_ f);simp only[LW,ah,aj,aP];omega
 have e:¬(E.fV o x.op).2=0:=by simpa using e
 have F:bg.set j (gH (E.fV o x.op) o)=bg:=by rw[gH,ao e];obtain⟨_,rfl⟩:=ag.1 h;simp
 rw[F]at f d;refine q _ (dn [b0,b1,bI 0 bg,.box 29 [.own (X J+2) 0,vb,vc]] [_,_] d (by repeat' constructor) ?_ f);simp only[LW,ah,aj,aP];omega
end
variable(P:il)(l:List bf)(R:bf)(M:bX){T:List bf}{Q:ai}
def v8:List bf:=if l.any (λy=>dS y R==0)then l else ID l R
def ab4:(l.any λy=>dS y R==0)=(lz l R.aZ.bR R.aZ.ax0).isSome:=by rw[lz,ei,List.find?_isSome,hZ];simp[lq]
def QX{x z:bf}(h:z∈v8 T x):z=x\/z∈T:=by
 unfold v8 at h;split at h;.exact .inr h
 rename_i c;rw[uz λy b a=>c (hZ.2 ⟨y,b,by simpa using a⟩)]at h;exact pn.1 h
def QY:X (v8 l R)<=X l+1:=by
 unfold v8;split;.omega
 rename_i c;rw[uz λy a b=>c (hZ.2 ⟨y,a,by simpa using b⟩)];simp[qJ];omega
set_option maxRecDepth 4000 in
def aaG{n:Nat}{K:bG}(T:n<=X Q)(bd:bW Q)(k m d f g:V)(F:k.Lt (X Q))(O:m.Lt (X Q))(r:d.Lt (X Q))(s:f.Lt (X Q))(t:g.Lt (X Q))(l:List bf)(P:∀x∈l,x.axZ)(vW:X l<2^29): ∀(c b a:List bf),l=b++c->(∀x∈a,x.axZ)->X a+X c<2^30 ->(((fj 2 (fh (k) (fh (m) (fj 8 (fh (.sl 13 ((c.foldl v8 a).map bf.axV)) (fj 78 (fh (d) (fh (f) (fh (g) (fj 76 fo)))))))))) λJ=>K (.exit 6) ⟨J,Q⟩)) ->gF n prog UQ K (X c+1) ⟨(uu 2 (k::m::uu 8 (.sl 13 (a.map bf.axV)::uu 78 (d::f::g::uu 4 (.sl 13 (l.map bf.axV)::.I (X l)::.I (X b)::uu 69 []))))),Q⟩:=by
 intro c;induction c with
 |nil =>
  intro b a i _ _ u;have i:l=b:=by simpa using i
  refine aD λR E=>?_;simp only[UQ,i,kJ,dZ,↓IT,VV,seval];exact u ..
 |cons x c ih =>
 intro b a i j W u;simp only[ah]at W;have hl:=ko i;have p:=eE b x (by omega);have w:(l.map bf.axV).getD (X b) []=zk x:=by rw[i,gA,k6]
 have H:(0:Int)<=(X b:Int):=by omega
 have U:(X b:Int)<(X l:Int):=by omega
 have D:=P x (by rw[i];simp);simp only[zk]at w;refine aD λR E=>?_;simp only[UQ,w,H,U,p,cZ,aK,ab,al,bb,↓IT,VV,seval];refine ak (um a (by omega) x.aZ.bR x.aZ.ax0 _) rfl ?_;have M:∀B,iY (X Q) (uu 2 (k::m::uu 8 (.sl 13 (List.map bf.axV B)::uu 78 (d::f::g::uu 4 (.sl 13 (l.map bf.axV)::.I (X l)::.I (X (b++[x]))::uu 69 []))))):=λB=>by simp only[LW];exact⟨F,O,r,s,t⟩
 have h:∀v o,qP v (uu 2 (k::m::uu 8 (.sl 13 ((v8 a x).map bf.axV)::uu 78 (d::f::g::uu 4 (.sl 13 (l.map bf.axV)::.I (X l)::.I (X (b++[x]))::uu 69 [])))))->R ⟨v,Q++o⟩:=λv o L =>
  E _ (vd ((Wk.fG L).trans (Wk.lA T bd (dO.1 (M _)))) (ih (b++[x]) (v8 a x) (by rw[i];simp) (λz N=>(QX N).elim (λe=>e▸D) (j z)) (by have:=QY a x;omega) u));have q:=ab4 a x;cases C:lz a x.aZ.bR x.aZ.ax0 with
 |some y =>
  rw[C]at q;have e:v8 a x=a:=by rw[v8,q];rfl
  rw[e]at h;simp only[vl,k6,zk,p,da,Nat.reduceAdd,bb,↓IT,VV,seval];exact h _ _ (by repeat' constructor)
 |none =>
 rw[C]at q;have e:v8 a x=ID a x:=by rw[v8,q];rfl
 rw[e]at h;simp only[vl,k6,zk,nf,p,da,Nat.reduceAdd,bb,↓IT,VV,seval];refine ak (EE a x (by omega) j D _) (by simp only[k6,zk,VV,seval]) ?_;simp only[p,↓IT,VV,seval];exact h _ _ (by repeat' constructor)
def zw:∀{a:List bf} {z:bf},z∈T.foldl v8 a->z∈T\/z∈a:=by
 induction T with
 |nil=>intro a z h;exact .inr h
 |cons x r ih =>
 intro a z h;rcases ih h with h|h;.exact .inl (cd _ h)
 exact(QX h).elim (λe=>.inl (e▸dN ..)) .inr
def zx:∀a:List bf,X (l.foldl v8 a)<=X a+X l:=by induction l with|nil=>intro a;simp|cons x r ih=>intro a;have:=ih (v8 a x);have:=QY a x;simp only[bT,ah];omega
set_option maxRecDepth 4000 in
def aaF{K:bG}(b0 b1:Ob)(bg:List bX)(C:X bg<2^30)(t:∀o∈bg,o.axZ/\X o.axX<2^20/\∀x∈o.axX,x.axZ)(y:X (fE bg)<2^29)(bd:bW (S4 Q b0 b1 .nil .nil bg)):∀(b c:List bX) (a:List bf),bg=c++b->(∀x∈a,x.axZ)->X a+X (fE b)<2^29 ->(((fj 2 (fh (.ptr (X Q+1) 0) (fh (.ptr (X Q+3) 0) (fj 8 (fh (.sl 13 (((fE b).foldl v8 a).map bf.axV)) (fj 157 fo)))))) λr=>K (.exit 4) ⟨r,S4 Q b0 b1 .nil .nil bg⟩)) ->gF (X Q) A UP K (X b+1) ⟨(uu 2 (.ptr (X Q+1) 0::.ptr (X Q+3) 0::uu 8 (.sl 13 (a.map bf.axV)::uu 78 (.own (X Q+2) 0::.I (X bg)::.I (X c)::uu 76 [])))),S4 Q b0 b1 .nil .nil bg⟩:=by
 intro b;induction b with
 |nil =>
  intro c a d _ _ g;have d:bg=c:=by simpa using d
  refine aD λR m=>?_;simp only[UP,d,kJ,dZ,↓IT,VV,seval];rw[d]at g;exact g ..
 |cons o b ih =>
 intro c a d f v g;have h:fE (o::b)=o.axX++fE b:=by simp[fE]
 rw[h,ae]at v;rw[h,tX]at g;have B:=ko d;have k:=eE c o (by omega);have j:(bg.map bX.axV).getD (X c) []=o.axV:=by rw[d,gA]
 have q:(0:Int)<=(X c:Int):=by omega
 have u:(X c:Int)<(X bg:Int):=by omega
 obtain⟨D,w,e⟩:=t o (by rw[d];simp);simp only[bX.axV]at j;have i:=ih (c++[o]) (o.axX.foldl v8 a) (by rw[d];simp) (λz s=>(zw s).elim (e z) (f z)) (by have:=zx o.axX a;omega) g;simp only[S4,bI]at i bd;have p:bW (Q++[b0,b1,.row 61 6 80 0 Z (bg.map bX.axV),.box 29 [.own (X Q+2) 0,.nil,.nil],.box 61 o.axV]):=by have:=cx bd (l:=[.box 61 o.axV]) (by simp only[bX.axV,bV,bM,dp,dF,dm,LW]);simpa using this
 simp only[bX.axV]at p;refine aD λR m=>?_;simp only[UP,S4,bI,j,q,u,k,cZ,aK,ab,al,bb,↓IT,VV,seval];refine cD.wk (Wk.fG (by repeat' constructor)) (cD.mM (X o.axX+1) (aaG (n:=X Q) (by simp) p (.ptr (X Q+1) 0) (.ptr (X Q+3) 0) (.own (X Q+2) 0) (.I (X bg)) (.I (X c)) ?_ ?_ ?_ ?_ ?_ o.axX e (by omega) o.axX [] a rfl f (by omega) ?_));.simp only[LW,ae,ah,aj];omega
 .simp only[LW,ae,ah,aj];omega
 .simp only[LW,ae,ah,aj];omega
 .simp only[LW]
 .simp only[LW]
 simp only[JE];intros;simp only[k,↓IT,VV,seval];refine m _ (dn [b0,b1,.row 61 6 80 0 Z (bg.map bX.axV),.box 29 [.own (X Q+2) 0,.nil,.nil]] [_] bd (by repeat' constructor) ?_ i);simp only[LW,ah,aj,aP];omega
def Re:bX:=l.foldl (λM x=>gH (P.fV M x) M) M
def Em:bX:=gH (P.fS (Re P l M)) (Re P l M)
def VF{E:il}:∀(U:List bf) {o:bX},E.rF o->(∀x∈U,E.ok x)->E.rF (Re E U o)|[],_,h,_=>h|x::U,o,h,hx=>VF U (o:=gH (E.fV o x) o) (il.Ch h (E.gV o x h (hx x (by simp)))) λy a=>hx y (by simp[a])
section
variable {E:il} (hE:agP E) {J:ai} {K:bG} (b0 b1:Ob) (bd:∀bg,bW (S4 J b0 b1 .nil .nil bg)) (U:List bf) (hU:∀x∈U,E.ok x) (hul:U.length<2^30)
include hE bd hU hul
set_option maxRecDepth 4000 in
theorem aaE(a B:List bX)(n:Nat)(D:n<2^30)(p:X a+(X B+1)=n):∀(d c:List bf) (o:bX),U=c++d->E.rF o ->(((fj 2 (fh (.ptr (X J+1) 0) (fh (.ptr (X J+3) 0) (fj 8 (fh (.sl 13 (U.map bf.axV)) (fj 6 (fh (.I (X a)) (fj 104 (fh (.I n) (fh (.I (X a)) (fj 44 fo))))))))))) λy=>K (.exit 10) ⟨y,S4 J b0 b1 .nil .nil (a++Re E d o::B)⟩)) ->gF (X J) A UO K (X d+1) ⟨(uu 2 (.ptr (X J+1) 0::.ptr (X J+3) 0::uu 8 (.sl 13 (U.map bf.axV)::uu 6 (.I (X a)::uu 104 (.I n::.I (X a)::uu 2 (.sl 13 (U.map bf.axV)::.I (X U)::.I (X c)::uu 39 [])))))),S4 J b0 b1 .nil .nil (a++o::B)⟩:=by
 intro d;induction d with
 |nil =>
  intro c o e h i;have e:U=c:=by simpa using e
  have t:decide ((X c:Int)<(X U:Int))=Z:=by rw[e];simp
  refine aD λR j=>?_;simp only[UO,t,↓IT,VV,seval];exact i ..
 |cons x d ih =>
 intro c o e h i;have r:=hU x (by rw[e];simp);have C:=ko e;have q:=eE c x (by omega);have l:(U.map bf.axV).getD (X c) []=zk x:=by rw[e,gA,k6]
 have k:((a++o::B).map bX.axV).getD (X a) []=o.axV:=gA;have v:(0:Int)<=(X c:Int):=by omega
 have u:(X c:Int)<(X U:Int):=by omega
 have m:(0:Int)<=(X a:Int):=by omega
 have s:(X a:Int)<(X (a++o::B):Int):=by simp;omega
 have z:X a<X (a++o::B):=by simp
 simp only[zk]at l;simp only[bX.axV]at k;refine aD λR j=>?_;simp only[UO,S4,bI,l,k,v,u,m,s,q,cZ,aK,ab,al,bb,↓IT,VV,seval];intro b;refine ak (hE.cV o x h r _) (by simp only[k6,zk,bX.axV,VV,seval]) ?_;simp only[fA,bX.axV,k,m,s,q,aK,da,Nat.reduceAdd,ab,al,↓IT,VV,seval];have g:=ih (c++[x]) (gH (E.fV o x) o) (by rw[e];simp) (il.Ch h (E.gV o x h r)) i;have f:=bd (a++gH (E.fV o x) o::B);simp only[S4,bI]at g f;refine⟨λe=>⟨z,?_⟩,λe=>?_⟩
 .have e:(E.fV o x).2=0:=by simpa using e
  rw[xe (E.fV o x) e];refine j _ (dn [b0,b1,bI 0 (a++gH (E.fV o x) o::B),.box 29 [.own (X J+2) 0,.nil,.nil]] [_,_] f (by repeat' constructor) ?_ g);simp only[LW,ah,aj,aP];omega
 have e:¬(E.fV o x).2=0:=by simpa using e
 have w:gH (E.fV o x) o=o:=by rw[gH,ao e]
 rw[w]at g f;refine j _ (dn [b0,b1,bI 0 (a++o::B),.box 29 [.own (X J+2) 0,.nil,.nil]] [_,_] f (by repeat' constructor) ?_ g);simp only[LW,ah,aj,aP];omega
set_option maxRecDepth 4000 in
theorem aaD(n:Nat)(u:n<2^30):∀(a b:List bX),X b+X a=n->E.my a ->(((fj 2 (fh (.ptr (X J+1) 0) (fh (.ptr (X J+3) 0) (fj 166 fo)))) λr=>K (.exit 8) ⟨r,S4 J b0 b1 .nil .nil (b++a.map (Em E U))⟩)) ->gF (X J) A UN K (X a+1) ⟨(uu 2 (.ptr (X J+1) 0::.ptr (X J+3) 0::uu 8 (.sl 13 (U.map bf.axV)::uu 111 (.I n::.I (X b)::uu 44 [])))),S4 J b0 b1 .nil .nil (b++a)⟩:=by
 intro a;induction a with
 |nil =>
  intro b d f g;have p:decide ((X b:Int)<(n:Int))=Z:=by simp at d;simp;omega
  simp only[aq,bE]at g;refine aD λR i=>?_;simp only[UN,p,↓IT,VV,seval];exact g ..
 |cons o a ih =>
 intro b d f g;have h:=VF U (f o (dN ..)) hU;simp only[ah]at d;have l:IntKind.i64.wrap ((X b:Int)+1)=((X (b++[Em E U o]):Nat):Int):=by rw[cT (by omega)];simp
 have k:(0:Int)<=(X b:Int):=by omega
 have v:(X b:Int)<(n:Int):=by omega
 refine aD λR i=>?_;simp only[UN,v,cZ,ab,↓IT,VV,seval];refine cD.wk (Wk.fG (by repeat' constructor)) (cD.mM (X U+1) (aaE hE b0 b1 bd U hU hul b a n u (by omega) U [] o rfl (f o (dN ..)) ?_));simp only[JE];intros;have j:((b++Re E U o::a).map bX.axV).getD (X b) []=(Re E U o).axV:=gA;have m:(X b:Int)<(X (b++Re E U o::a):Int):=by simp;omega
 have s:X b<X (b++Re E U o::a):=by simp
 simp only[bX.axV]at j;simp only[S4,bI,j,k,m,l,aK,ab,al,↓IT,VV,seval];refine ak (hE.cS (Re E U o) h _) (by simp only[bX.axV,VV,seval]) ?_;simp only[fA,bX.axV,j,k,m,l,aK,da,Nat.reduceAdd,ab,al,↓IT,VV,seval];have e:=ih (b++[Em E U o]) (by simp;omega) (λo t=>f o (cd _ t)) (by simpa using g);have c:=bd (b++Em E U o::a);simp only[aJ,aF,aw,S4,bI]at e c;refine⟨λd=>⟨s,?_⟩,λd=>?_⟩
 .have d:(E.fS (Re E U o)).2=0:=by simpa using d
  rw[xe (E.fS (Re E U o)) d];refine i _ (dn [b0,b1,bI 0 (b++Em E U o::a),.box 29 [.own (X J+2) 0,.nil,.nil]] [_] c (by repeat' constructor) ?_ e);simp only[LW,ah,aj,aP];omega
 have d:¬(E.fS (Re E U o)).2=0:=by simpa using d
 have q:Em E U o=Re E U o:=by rw[Em,gH,ao d]
 rw[q]at e c |-;refine i _ (dn [b0,b1,bI 0 (b++Re E U o::a),.box 29 [.own (X J+2) 0,.nil,.nil]] [_] c (by repeat' constructor) ?_ e);simp only[LW,ah,aj,aP];omega
end
variable(T:Net){R b:Int}{Q:Net}{P:bX}
def ya{J:ai}(bd:bW J)(n:Net)(vb vc:V)(a:vb=.nil\/vb=.sl 15 (n.aW.map Let.axV))(b:vc=.nil)(bg:List bX):bW (S4 J (.box 29 n.axV) (.box 29 [.nil,.nil,.nil]) vb vc bg):=by
 subst b;rcases a with rfl|rfl <;>
 .refine cx bd ?_;simp only[bI,Net.axV,bV,bM,dp,dF,dm,ah,aj,LW];omega
def TV(E:il)(n:Net):List bX:=(E.aW n.aW (E.up n.aM)).map (Em E (FF (fE (E.aW n.aW (E.up n.aM)))))
set_option maxRecDepth 4000 in
def R6{E:il}(hE:agP E)(n:Net)(l:n.axZ)(y:n.aM≠[])(w:X n.aM<=8)(r:E.my n.aM)(u:∀x∈n.aW,0<=x.dst/\x.dst<X n.aM/\E.ok x.op)(J:ai): bh A 22 [.agg n.axV] J (.agg (Net.axV ⟨TV E n,[],[]⟩)):=by
 have k:=l.D5;refine aT func22 p22.2 λbd z=>an ?_;have v:E.my (E.up n.aM):=il.TK r;have hul:X (E.up n.aM)=X n.aM:=by simp[il.up]
 have b:E.my (E.aW n.aW (E.up n.aM)):=il.Be n.aW v λx d=>(u x d).2.2;have f:X (E.aW n.aW (E.up n.aM))=X n.aM:=(il.xb n.aW).trans hul;have s:=λK=>aaI (K:=K) hE (.box 29 n.axV) (.box 29 [.nil,.nil,.nil]) (.sl 15 (n.aW.map Let.axV)) .nil (ya bd n _ _ (.inr rfl) rfl) (X n.aM) k n.aM [] (by simp) r;have j:=λK=>aaH (K:=K) hE (.box 29 n.axV) (.box 29 [.nil,.nil,.nil]) (.sl 15 (n.aW.map Let.axV)) .nil (ya bd n _ _ (.inr rfl) rfl) n.aW (X n.aM) l.vZ k u n.aW [] (E.up n.aM) rfl v hul;rw[TV];generalize E.aW n.aW (E.up n.aM)=bg at j b f |-;have t:X (fE bg)<2^29:=by have:=HZ (m:=2^16) λo c=>E.len o (b o c);omega
 have p:∀o∈bg,o.axZ/\X o.axX<2^20/\∀x∈o.axX,x.axZ:=λo c=>⟨E.sml o (b o c),by have:=E.len o (b o c);omega,λx d=>(E.val x (E.axX o (b o c) x d)).2⟩;have hU:∀x∈FF (fE bg),E.ok x:=λx d=>by
  rcases zw (a:=[]) d with h|h;.obtain⟨o,c,d⟩:=Ex.1 h;exact E.axX o (b o c) x d
  simp at h
 have i:X (FF (fE bg))<2^30:=by have:=zx (fE bg) [];have e:(FF (fE bg))=(fE bg).foldl v8 []:=rfl;rw[e];simp at this;omega
 have g:=λK=>aaF (K:=K) (.box 29 n.axV) (.box 29 [.nil,.nil,.nil]) bg (by omega) p t (ya bd n _ _ (.inl rfl) rfl bg) bg [] [] rfl (by simp) (by simpa using t);have q:=λK=>aaD (K:=K) hE (.box 29 n.axV) (.box 29 [.nil,.nil,.nil]) (ya bd n _ _ (.inl rfl) rfl) (FF (fE bg)) hU i (X n.aM) k bg [] (by simpa using f) b;have e:(fE bg).foldl v8 []=FF (fE bg):=rfl;rw[e]at g;simp only[S4,bI,Net.axV,aw,aj]at s j g q;rw[f]at g q;simp only[p22,SS,seval];simp only[Net.axV,ab,↓IT,VV,seval];refine ak (wM n l y _) rfl ?_;simp only[bI,aK,da,Nat.reduceAdd,ab,↓IT,VV,seval];refine cD.wk (Wk.fG (by repeat' constructor)) (cD.mM (X n.aM+1) (s _ ?_));simp only[JE];intros;simp only[aK,ab,↓IT,VV,seval];refine cD.wk (Wk.fG (by repeat' constructor)) (cD.mM (X n.aW+1) (j _ ?_));simp only[JE];intros;simp only[aK,ab,f,↓IT,VV,seval];refine cD.wk (Wk.fG (by repeat' constructor)) (cD.mM (X n.aM+1) (g _ ?_));simp only[JE];intros;simp only[aK,ab,f,↓IT,VV,seval];refine cD.wk (Wk.fG (by repeat' constructor)) (cD.mM (X n.aM+1) (q _ ?_));simp only[JE];intros;simp only[aK,ab,↓IT,VV,seval];refine gT (xs:=[.agg [.own (X J+2) 0,.nil,.nil]]) (xs':=[.agg (Net.axV ⟨bg.map (Em E (FF (fE bg))),[],[]⟩)]) (.inr rfl) (by simp only[RS,seval]) ?_ rfl ⟨rfl,rfl⟩;refine(Wk.qM 2 rfl).trans ((Wk.fG (ys:=[.agg (Net.axV ⟨bg.map (Em E (FF (fE bg))),[],[]⟩)]) ?_).trans (Wk.yL bd (by simp only[Net.axV,LW])));simp only[az,aq,Pm.fz,jR,cw,aR];exact .cons (.iK (.cons (.refl _) (.cons (.nil 15) (.cons (.nil 2) .nil)))) .nil
def afY{W:List bf}(hp:Pl R W)(h:GO W b P)(q:0<=b/\b<8): ∃f:bH,(P.down=Z->∀J,bh A 87 [.agg P.axV] J (.sl 1 (f.map cG))) /\(∀J,bh A 104 [.agg P.axV] J (.sl 1 (f.map cG))):=by
 have d:=h.axZ hp;obtain⟨e,n,⟨k,l,o,rfl⟩|⟨i,l,o,rfl⟩⟩:=h;.obtain⟨c,a,r,m⟩:=KD n.base q;exact⟨qx c,λ_=>Lc _ d rfl c a,Fy _ d c a r⟩
 have a:qe (pR b e i).axX λ_=>0:=⟨λ_ _=>by decide,λ_ _ j s=>by omega,λ_ _ x p=>by simp[pR]at p⟩;exact⟨qx (λ_=>0),λg=>(by cases g),Fy _ d (λ_=>0) a (λ_ _=>by decide)⟩
def abL{W:List bf}(hp:Pl R W)(h:GO W b P)(v:bH): (P.down=Z->∀J,bh A 86 [.agg P.axV,.sl 1 (v.map cG)] J (.sl 13 ((kF P.axX v).map bf.axV))) /\(∀J,bh A 103 [.agg P.axV,.sl 1 (v.map cG)] J (.sl 13 ((kF P.axX v).map bf.axV))) :=⟨λa=>aaX P (h.axZ hp) a v,Wy P (h.axZ hp) v⟩
def Yp(e:Ev)(a:Net)(b:Int):Prop :=(∀J,bh A 18 [.agg T.axV,.agg e.axV] J (ij a b))/\(∀J,bh A 19 [.agg T.axV,.agg e.axV] J (ij a b))
def agI(e:Ev)(a:jz T e=Z):Yp T e Net.zero 1:=⟨aah T e a,ah0 T e a⟩
def QR(p:T.axZ)(e:Ev)(j:e.axW=1\/e.axW=2\/e.axW=9\/e.axW=10\/e.axW=11)(l:jz T e=G)(i:Nat)(n:e.a=i)(o:bX)(m:T.aM[i]?=S o)(g:bX)(f:Int) (q:OfX 96 97 62 98 59 o e g f) (v:OfX 49 51 54 55 56 o e g f) : Yp T e ⟨T.aM.set i g,T.aW,T.cy⟩ f:=by
 refine⟨λJ=>yi T p e l _ f (λJ k a b c h=>?_) J,adT T p e j l i n o m g f v⟩;have s:XZ e.axW=46:=by rcases j with h|h|h|h|h<;>rw[h]<;>rfl
 have u:tR e k=[.ptr k 0,.agg e.axV]:=by rw[tR,ao (by omega)]
 rw[s,u];refine(W3 h T.aM (cL 0 T.aW) (fm 0 T.cy) trivial trivial e j i n o m g f q).mono ?_;rintro r w ⟨rfl,d,rfl,t⟩;exact⟨rfl,_,_,_,_,rfl,λh=>⟨_,_,_,rfl,t h,rfl,rfl⟩⟩
def adR(g:sI Q.cy)(e:Ev)(f:e.axW=7\/e.axW=8):(sS Q e).2=(oL Q.cy e.a e.b (e.axW==8)).2/\((sS Q e).2=0->(sS Q e).1=⟨Q.aM,Q.aW,(oL Q.cy e.a e.b (e.axW==8)).1⟩):=by
 rcases f with h|h
 .have d:¬e.axW=8:=by omega
  have c:(e.axW==8)=Z:=by simpa using d
  simp only[sS,oL,ao d,c,aI,bo];split;.simp
  split;.simp
  simp
 have c:(e.axW==8)=G:=by simpa using h
 simp only[sS,oL,aO h,c,aR];split;.rename_i hp;rw[agD g hp];simp
 simp
def acb{a:Net}(h:R=b)(c:R=0->Q=a):ij Q R=ij a b:=by
 subst h;simp only[ij];by_cases h:R=0;.rw[c h]
 simp only[ao h]
def acF(f:T.axZ)(o:T.aM≠[])(i:sI T.cy)(e:Ev)(d:e.axW=7\/e.axW=8)(g:jz T e=G):Yp T e (sS T e).1 (sS T e).2:=by
 obtain⟨m,j⟩:=adR i e d;refine⟨λJ=>yi T f e g _ _ (λJ k a b c h=>?_) J,λJ=>?_⟩
 .have l:XZ e.axW=44:=by rcases d with h|h<;>rw[h]<;>rfl
  have n:tR e k=[.ptr k 0,.agg e.axV]:=by rw[tR,ao (by omega)]
  rw[l,n];exact aii h T i f.tT e d
 rw[acb m j];exact adU T f o e d g J
def Yi(y:T.axZ)(P:T.aW.length<=256)(e:Ev)(C:e.axW=3)(Q:jz T e=G)(i j:Nat)(U:e.a=i)(hj:e.b=j)(f g:bX)(z:T.aM[i]?=S f)(v:T.aM[j]?=S g){W:List bf}{L:Int}(hp:Pl R W)(p:GO W b f)(K:GO W L g)(M:0<=L/\L<8): ∃l,(∀x∈l,x∈f.axX)/\Yp T e (ka T i j f.down g.down l).1 (ka T i j f.down g.down l).2:=by
 obtain⟨q,hS,F⟩:=afY hp K M;obtain⟨O,D⟩:=abL hp p q;have N:∀x∈kF f.axX q,x∈f.axX:=λx hx=>(fv.1 hx).1;have V:X (kF f.axX q)<2^28:=by have h1:X (kF f.axX q)<=X f.axX:=jH _ _;have h2:=uC (F0 (p.axX.2.imp λ{a d} rf e=>by omega)) p.axX.1;have h3:=hp.len;omega
 refine⟨_,N,λJ=>yi T y e Q _ _ (λJ k a d c h=>?_) J,ZE T y (by omega) e C Q i j U hj f g z v q _ V F D⟩;have e1:XZ e.axW=43:=by rw[C];rfl
 have e2:tR e k=[.ptr k 0,.I i,.I j]:=by rw[tR,aO C,U,hj]
 rw[e1,e2];generalize kF f.axX q=l at O V |-;by_cases t:(i:Int)=j
 .have n:ka T i j f.down g.down l=(Net.zero,1):=by simp only[ka,aO t]
  rw[n,<- t];refine(MN h _ _ _ i).mono ?_;rintro r B ⟨rfl,rfl⟩;exact⟨rfl,_,_,_,_,rfl,nofun⟩
 have m:i≠j:=by omega
 by_cases s:(f.down||g.down)=G
 .have n:ka T i j f.down g.down l=(Net.zero,15):=by simp only[ka,ao t,aO s]
  rw[n];refine(MO h T.aM _ _ i j m f g z v s).mono ?_;rintro r B ⟨rfl,rfl⟩;exact⟨rfl,_,_,_,_,rfl,nofun⟩
 obtain⟨E,H⟩:=km.1 (Bool.eq_false_iff.2 s);cases u:mT T i j with
 |true =>
  have n:ka T i j f.down g.down l=(Net.zero,8):=by simp only[ka,ao t,ao s,u,aR]
  rw[n];refine(zp h T.aM T.aW T.cy y.tT i j m f g z v E H u).mono ?_;rintro r B ⟨rfl,rfl⟩;exact⟨rfl,_,_,_,_,rfl,nofun⟩
 |false =>
 refine(Sk h T.aM T.aW T.cy y.tT i j m f g z v E H u q (hS H) l (O E) (by omega) (by omega)).mono λr B w=>?_;by_cases o:T.aW.length+X l<=256
 .rw[aO o]at w;obtain⟨rfl,rfl⟩:=w;have n:ka T i j f.down g.down l=(⟨T.aM,T.aW++l.map (me i j),T.cy⟩,0):=by simp only[ka,ao t,ao s,u,aO o,aI,bo];rfl
  rw[n];exact⟨rfl,_,_,_,_,rfl,λ_=>⟨_,_,_,rfl,rfl,rfl,rfl⟩⟩
 rw[ao o]at w;obtain⟨rfl,rfl⟩:=w;have n:ka T i j f.down g.down l=(Net.zero,3):=by simp only[ka,ao t,ao s,u,ao o,aI,bo]
 rw[n];exact⟨rfl,_,_,_,_,rfl,nofun⟩
def Yj(s:T.axZ)(f:T.aW.length<=256)(e:Ev)(d:e.axW=4\/e.axW=5\/e.axW=6)(u:jz T e=G)(i:Nat)(q:e.n=i)(x:Let)(p:T.aW[i]?=S x)(j:Nat)(y:x.dst=j)(o:bX)(t:T.aM[j]?=S o)(l:bX)(g:Int) (C:∀J,bh A 116 [.agg o.axV,.agg x.op.axV] J (fA l g)) (B:∀J,bh A 63 [.agg o.axV,.agg x.op.axV] J (fA l g)) : Yp T e (jS T e.axW i x l g).1 (jS T e.axW i x l g).2:=by
 have H:T.aM≠[]:=λh=>by rw[h]at t;simp at t
 have z:=s.axX x (bn p);refine⟨λJ=>yi T s e u _ _ (λJ k a b c h=>?_) J,λJ=>?_⟩
 .have F:XZ e.axW=45:=by rcases d with h|h|h<;>rw[h]<;>rfl
  have E:tR e k=[.ptr k 0,.agg e.axV]:=by rw[tR,ao (by omega)]
  rw[F,E];rcases d with d|d|d<;>rw[d];.exact D9 h T s e d i q x p z (by omega) j y o t l g C
  .refine(MP h (bI 0 T.aM) (fm 0 T.cy) trivial trivial T.aW e d i q x p (by omega)).mono ?_;rintro r D ⟨rfl,rfl⟩;exact⟨rfl,_,_,_,_,rfl,λ_=>⟨_,_,_,rfl,rfl,rfl,rfl⟩⟩
  refine(GF h (bI 0 T.aM) (fm 0 T.cy) trivial trivial T.aW e d i q x p z (by omega)).mono λr D v=>?_;by_cases m:T.aW.length=256
  .rw[aO m]at v;obtain⟨rfl,rfl⟩:=v;have w:jS T 6 i x l g=(Net.zero,3):=by simp only[jS,aR,aO m]
   rw[w];exact⟨rfl,_,_,_,_,rfl,nofun⟩
  rw[ao m]at v;obtain⟨rfl,rfl⟩:=v;have w:jS T 6 i x l g=(⟨T.aM,T.aW++[x],T.cy⟩,0):=by simp only[jS,aR,ao m]
  rw[w];exact⟨rfl,_,_,_,_,rfl,λ_=>⟨_,_,_,rfl,rfl,rfl,rfl⟩⟩
 rcases d with d|d|d;.exact OU T s f e (.inl d) u i q x p j y o t l g B J
 .exact OU T s f e (.inr d) u i q x p j y o t l g B J
 rw[d];exact Sb T s H f e d u i q x p l g J
def ac0(e:Ev):Prop:=e.axY.axZ/\pO e.axY<300
def Step(W:List bf)(n:Net)(e:Ev)(d:Net)(b:List bf):Prop :=(¬(e.axW=1\/e.axW=2)/\b=W)\/((e.axW=1\/e.axW=2)/\∃(i:Nat) (o c:bX) (x:bf) (f:En),e.a=i/\n.aM[i]?=S o/\d=⟨n.aM.set i c,n.aW,n.cy⟩/\b=W++[x]/\Made W i o e.axW f c x)
def Nb{a:Type}{l:List a}(h:Nc R (X l)=G):∃(i:Nat) (o:a),R=i/\l[i]?=S o:=by simp only[Nc,aV,bz]at h;exact⟨R.toNat,l[R.toNat]'(by omega),by omega,aA _⟩
def VN{W:List bf}{N:Nat}(h:GN R W N Q)(hN:N<100)(e:Ev)(M:ac0 e): ∃D q W',Yp Q e D q/\(q=0->GN R W' (N+1) D/\Step W Q e D W'):=by
 have J:=h.axZ (by omega);have hp:=h.pl;have ac:=h.len;have ad:=h.m8;have U:∀{i:Nat} {o:bX},Q.aM[i]?=S o->0<=(i:Int)/\(i:Int)<R/\R<=8:=λu=>by have:=(ag.1 u).1;omega
 cases s:jz Q e with
 |false=>exact⟨_,_,W,agI Q e s,nofun⟩
 |true =>
 have C:∀D,¬(e.axW=1\/e.axW=2)->Step W Q e D W:=λ_ h=>.inl ⟨h,rfl⟩;rcases kinds e.axW with d|d|d|d
 .have f:=s;simp only[jz,aO d]at f;obtain⟨i,o,u,v⟩:=Nb f;have r:=h.gs i o v;have B:=U v;have m:=λz q=>QR Q J e d s i u o v z q;rcases d with d|d|d|d|d;.obtain⟨z,x,q,k,p,V⟩:=Qu hp r B e.axY M.1 M.2;refine⟨_,q,W++[x],m z q ⟨λ_=>⟨x,k⟩,λh=>by omega,λh=>by omega,λh=>by omega,λh=>by omega⟩ ⟨λ_=>⟨x,p⟩,λh=>by omega,λh=>by omega,λh=>by omega,λh=>by omega⟩,λg=>?_⟩;have E:=V g;obtain⟨a,b,c⟩:=E.ok hp B.2.1 (by have:=h.wl;omega);exact⟨h.made a b c,.inr ⟨.inl d,i,o,z,x,_,u,v,rfl,rfl,by rw[d];exact E⟩⟩
  .obtain⟨z,x,q,k,p,V⟩:=Qt hp r B e.axY M.1 M.2;refine⟨_,q,W++[x],m z q ⟨λh=>by omega,λ_=>⟨x,k⟩,λh=>by omega,λh=>by omega,λh=>by omega⟩ ⟨λh=>by omega,λ_=>⟨x,p⟩,λh=>by omega,λh=>by omega,λh=>by omega⟩,λg=>?_⟩;have E:=V g;obtain⟨a,b,c⟩:=E.ok hp B.2.1 (by have:=h.wl;omega);exact⟨h.made a b c,.inr ⟨.inr d,i,o,z,x,_,u,v,rfl,rfl,by rw[d];exact E⟩⟩
  .obtain⟨k,p⟩:=HA hp r;refine⟨_,(NV o).2,W,m (NV o).1 (NV o).2 ⟨λh=>by omega,λh=>by omega,λ_=>k,λh=>by omega,λh=>by omega⟩ ⟨λh=>by omega,λh=>by omega,λ_=>p,λh=>by omega,λh=>by omega⟩,λg=>⟨?_,C _ (by omega)⟩⟩;refine(h.mono (oq N)).set ?_;cases t:o.down with|true=>rw[NV,t]at g;cases g|false=>rw[NV,t];exact r.sync t
  .obtain⟨k,p,c3⟩:=XW hp r e.n;have hX:∀O T f9 y,OfX O T f9 98 y o e (px o e.n) (if o.down then 15 else 0)/\OfX O T f9 55 y o e (px o e.n) (if o.down then 15 else 0):=by
    intro O T f9 y;cases t:o.down with
    |true=>exact⟨⟨λh=>by omega,λh=>by omega,λh=>by omega,λ_=>.inl ⟨t,rfl⟩,λh=>by omega⟩,⟨λh=>by omega,λh=>by omega,λh=>by omega,λ_=>.inl ⟨t,rfl⟩,λh=>by omega⟩⟩
    |false=>exact⟨⟨λh=>by omega,λh=>by omega,λh=>by omega,λ_=>.inr ⟨t,rfl,k⟩,λh=>by omega⟩,⟨λh=>by omega,λh=>by omega,λh=>by omega,λ_=>.inr ⟨t,rfl,p⟩,λh=>by omega⟩⟩
   exact⟨_,_,W,m _ _ (hX ..).1 (hX ..).2,λ_=>⟨(h.mono (oq N)).set c3,C _ (by omega)⟩⟩
  obtain⟨k,p⟩:=xz hp r;refine⟨_,(TW W o).2,W,m (TW W o).1 (TW W o).2 ⟨λh=>by omega,λh=>by omega,λh=>by omega,λh=>by omega,λ_=>k⟩ ⟨λh=>by omega,λh=>by omega,λh=>by omega,λh=>by omega,λ_=>p⟩,λg=>⟨?_,C _ (by omega)⟩⟩;refine(h.mono (oq N)).set ?_;have:=(M1 r).1;rwa [gH,aO g]at this
 .have f:=s;simp only[jz,ao (show ¬(e.axW=1\/e.axW=2\/e.axW=9\/e.axW=10\/e.axW=11)by omega),aO d,aV]at f;obtain⟨i,P,u,YE⟩:=Nb f.1;obtain⟨j,oj,L,I⟩:=Nb f.2;rcases d with d|d;.obtain⟨l,B,hb⟩:=Yi Q J h.vZ e d s i j u L P oj YE I hp (h.gs i P YE) (h.gs j oj I) (by have:=U I;omega);refine⟨_,_,W,hb,λg=>⟨?_,C _ (by omega)⟩⟩;exact(h.mono (oq N)).send (by have:=U I;omega) (λx K=>(h.gs i P YE).axX.1 x (B x K)) g
  exact⟨_,_,W,acF Q J h.ne h.srt e d s,λg=>⟨h.cut e g,C _ (by omega)⟩⟩
 .have f:=s;simp only[jz,ao (show ¬(e.axW=1\/e.axW=2\/e.axW=9\/e.axW=10\/e.axW=11)by omega),ao (show ¬(e.axW=3\/e.axW=7\/e.axW=8)by omega),aO d]at f;obtain⟨i,x,u,K⟩:=Nb f;have H:=bn K;obtain⟨t,F⟩:=h.lts x H;obtain⟨j,o,L,v⟩:∃(j:Nat) (o:bX),x.dst=j/\Q.aM[j]?=S o:=⟨x.dst.toNat,Q.aM[x.dst.toNat]'(by omega),by omega,aA _⟩;have r:=h.gs j o v;obtain⟨k,p⟩:=xA hp r F;refine⟨_,_,W,Yj Q J h.vZ e d s i u x K j L o v (Q6 o x.op).1 (Q6 o x.op).2 k p,λg=>⟨?_,C _ (by omega)⟩⟩;refine(h.mono (oq N)).post H L (λh1=>?_) g;cases w:o.down with|true=>rw[Q6,w]at h1;cases h1|false=>rw[Q6,w];exact(r.recv hp w F).1
 rw[EO d]at s;cases s
end Go.Proofs.Tryz
namespace Go.Proofs.Tryz
open Go Go.Pm Go.Bt
def kM(n:Net):Ob:=.box 29 n.axV
structure acZ (n:Net) (e:Ev):Prop where
 axW:1<=e.axW/\e.axW<=11
 a:0<=e.a/\e.a<max 1 (n.aM.length:Int)
 ok:ac0 e
def Br:bH:=[1,1,1,2,3,3,3,4,4,4,5,6,7,8,9,10,11,11]
def VL{w a b N:Int}(e:En)(h1:X e.ax3<=1/\X e.ax4<=1/\X e.cJ<=1/\X e.next<=1)(f:bA e.ax3<=90)(g:bA e.ax4<=90)(c:∀x∈e.ax3++e.ax4,x.id=0):ac0 ⟨w,a,b,N,e⟩:=by show e.axZ/\pO e<300;exact⟨⟨by omega,by omega,by omega,by omega,by omega,by omega,λx d=>by rw[c x d];decide⟩,by rw[pO];omega⟩
def Nr:gf:=[[83,97,118,101],[120]]
def XN:∀s∈Nr,X s<=4:=by decide
def aoG:∀d:Nat,d<9->X (Lib.itoa (d:Int))<=2:=by decide +kernel
def Ql:∀k∈Br,1<=k/\k<=11:=by decide
def aek{ws:bH}{n:Nat}(h:n<X ws):∃w∈ws,gi (ws.map λs=>[V.i .i64 s]) n 0=S (V.i .i64 w):=by refine⟨ws[n],dQ h,?_⟩;simp[gi,h]
def yu{b:ai}{a:Nat}{l:bH}{k e:Nat}{c d B:List Ob}{K:ai->ai->Prop}:grown (lV b a l k++c) d (lV b a l e++B) K=nw (lV b a l e) c d B K:=grown_of (by rw[cq,cq])
set_option maxRecDepth 20000 in
def ab5(n:Net)(Q:n.axZ)(b:ai)(a:Nat)(h:a<X b)(l:bH)(k:Nat)(hk:k<2^47): PC prog 38 [.ptr a 0,.agg n.axV] (lV b a l k) (λr F=>∃(e:Ev) (i:Nat),r=.agg e.axV/\acZ n e/\(k<i/\i<=k+300)/\F=lV b a l i):=by
 have EL:=Q.D5;have vW:=Q.vZ;refine aT func38 p38.2 λbd dG=>?_;have J:∀x:Nat,x<2^30->∃K:Nat,(if(1:Int)<(x:Int)then(x:Int)else 1)=K/\0<K/\K<2^31/\(K:Int)=max 1 (x:Int):=λx hx=>by
  split;.exact⟨x,rfl,by omega,by omega,by omega⟩
  exact⟨1,rfl,by omega,by omega,by omega⟩
 obtain⟨K,v,am⟩:=J (X n.aM) EL;obtain⟨M,q,W⟩:=J (X n.aW) vW;simp only[p38,SS,seval];refine cD.cutAt (.more (.more (.cM _ _))) λR y=>?_;simp only[Net.axV,cq,mZ,nb,iI,oZ,ab,v,q,↓IT,VV,seval];intro f;refine dV (jx b a h l k (by omega) 18 (by decide) (by decide) _) rfl ?_;rintro _ _ ⟨v0,rfl,Ec,rfl⟩;obtain⟨w,hw,t⟩:=aek (ws:=Br) (n:=v0.toNat) (by simp[Br];omega);have Nd:1<=w/\w<=11:=Ql w hw;simp only[Br,az,aq]at t;simp only[t,v,q,yu,cq,mZ,nb,iI,oZ,ab,↓IT,VV,seval];refine⟨by omega,?_⟩;intro f;refine dV (jx b a h l (k+1) (by omega) K (by omega) (by omega) _) rfl ?_;rintro _ _ ⟨o,rfl,ap,rfl⟩;simp only[t,v,q,yu,cq,mZ,nb,iI,oZ,ab,↓IT,VV,seval];refine⟨by omega,?_⟩;intro f;refine dV (jx b a h l (k+1+1) (by omega) K (by omega) (by omega) _) rfl ?_;rintro _ _ ⟨z,rfl,U,rfl⟩;simp only[t,v,q,yu,cq,mZ,nb,iI,oZ,ab,↓IT,VV,seval];refine⟨by omega,?_⟩;intro f;refine dV (jx b a h l (k+1+1+1) (by omega) M (by omega) (by omega) _) rfl ?_;rintro _ _ ⟨v3,rfl,ac,rfl⟩;simp only[t,v,q,yu,cq,mZ,nb,iI,oZ,ab,↓IT,VV,seval];refine⟨by omega,y _ (cD.fG (fr':=(.ptr a 0::uu 3 (.ptr (X b+1) 0::uu 1 (.ptr (X b+2) 0::uu 54 [])))) ?_ (by repeat' constructor))⟩;clear y R;refine cD.cut λR y=>?_;have C:0<=o/\o<max 1 (X n.aM:Int):=by omega
 have D:∀(N:Int) (p:Nat),k<p->p<=k+10->∀j,qP j (.ptr a 0::uu 3 (.ptr (X b+1) 0::uu 1 (.ptr (X b+2) 0::uu 54 [])))->R ⟨j,lV b a l p++[kM n,.box 38 [.I 0,.I 0,.I 0,.I 0,.nil,.nil,.s [],.s [],.s [],.s [],.I 0,.I 0],.box 38 [.I w,.I o,.I z,.I N,.nil,.nil,.s [],.s [],.s [],.s [],.I 0,.I 0]]⟩:=by
  intro N p rE ub j Hd;refine y _ (cD.fG (an ?_) Hd);clear y R;have u:∀(B:En) (c:ar) (g:Nat) (m:ai) (j:ar),ac0 ⟨w,o,z,N,B⟩->k<g->g<=k+300->qP c B.axV->lG ⟨j,lV b a l g++m⟩ [.c 4 (S 12)]=S [.agg (.I w::.I o::.I z::.I N::c)]->wF prog (X b) [.c 4 (S 12)] (λr F=>∃(e:Ev) (i:Nat),r=.agg e.axV/\acZ n e/\(k<i/\i<=k+300)/\F=lV b a l i) .ret ⟨j,lV b a l g++m⟩:=by intro B c g m j h1 T h3 V h5;refine gT (xs':=[.agg (Ev.axV ⟨w,o,z,N,B⟩)]) (.inr rfl) h5 ((Wk.fG (.cons (.iK (.cons (.refl _) (.cons (.refl _) (.cons (.refl _) (.cons (.refl _) V))))) .nil)).trans (Wk.lA (by rw[cq];exact aB _) (nq bd) (dO.1 (by simp only[Ev.axV,En.axV,LW])))) rfl ⟨_,_,rfl,⟨Nd,C,h1⟩,⟨T,h3⟩,rfl⟩
  simp only[kM,Net.axV,cq,mZ,nb,iI,oZ,↓IT,VV,seval];refine⟨λH=>?_,λH=>?_⟩;.refine dV (ab8 b a h l p (by omega) _) rfl ?_;rintro _ _ ⟨e,g,rfl,hE,af,rfl⟩;simp only[En.axV,cq,mZ,nb,iI,oZ,↓IT,VV,seval];refine dV (jx b a h l g (by omega) 2 (by decide) (by decide) _) rfl ?_;rintro _ _ ⟨x1,rfl,yt,rfl⟩;obtain⟨O,E,L⟩:=nB (ws:=Nr) (n:=x1.toNat) (by simp[Nr];omega);have ad:=XN O E;simp only[Nr,az,aq]at L;simp only[L,cq,mZ,nb,iI,oZ,↓IT,VV,seval];refine⟨by omega,?_⟩;refine dV (jx b a h l (g+1) (by omega) 9 (by decide) (by decide) _) rfl ?_;rintro _ _ ⟨P,rfl,Ds,rfl⟩;obtain⟨d,rfl⟩:∃d:Nat,P=d:=⟨P.toNat,by omega⟩;have hd:=aoG d (by omega);simp only[cq,mZ,nb,iI,oZ,↓IT,VV,seval];refine ak (AU d (by omega) _) rfl ?_;simp only[cq,mZ,nb,iI,oZ,↓IT,VV,seval];refine⟨by simp only[maxLen];omega,?_⟩;refine u ⟨[⟨1,O,0⟩],[⟨1,116::Lib.itoa (d:Int),0⟩],[],[],e.dL,e.dh,e.ayd,e.ayf⟩ _ (g+1+1) _ _ (VL _ (by simp) (by simp only[bA];omega) (by simp only[bA,ah];omega) (by simp)) (by omega) (by omega) ?_ (by simp only[lG,vf,mZ,nb,VV,seval];rfl);simp only[En.axV,It.axV,az,aq];repeat first|exact .nil|refine .cons (.refl _) ?_|refine .cons (.lit _ _) ?_
  refine u ⟨[],[],[],[],[],[],0,0⟩ _ p _ _ (VL _ (by simp) (by simp[bA]) (by simp[bA]) (by simp)) (by omega) (by omega) ?_ (by simp only[lG,vf,mZ,nb,VV,seval];rfl);simp only[En.axV,aq];repeat first|exact .nil|refine .cons (.refl _) ?_|refine .cons (.nil _) ?_
 simp only[kM,Net.axV]at D;simp only[cq,mZ,nb,iI,oZ,↓IT,VV,seval];refine⟨λNX=>?_,λNX=>?_⟩;.refine dV (jx b a h l (k+1+1+1+1) (by omega) 200 (by decide) (by decide) _) rfl ?_;rintro _ _ ⟨v4,rfl,au,rfl⟩;simp only[cq,mZ,nb,iI,oZ,↓IT,VV,seval];exact D v4 _ (by omega) (by omega) _ (by repeat' constructor)
 exact D v3 _ (by omega) (by omega) _ (by repeat' constructor)
open Go.RowKit
section
variable {m:Int} {W:List bf} (hp:Pl m W)
def ala:NS (mS hp) where
 cR:=λo ⟨n,h⟩=>(xz hp h).1
 cV:=λo x ⟨n,h⟩ a=>(xA hp h a).1
 cS:=λo ⟨n,h⟩=>(HA hp h).1
def ak9:agP (mS hp) where
 cR:=λo ⟨n,h⟩=>(xz hp h).2
 cV:=λo x ⟨n,h⟩ a=>(xA hp h a).2
 cS:=λo ⟨n,h⟩=>(HA hp h).2
def ahu{n:Int}:∀(U:List bf) {o:bX},GO W n o->o.down=Z->(∀x∈U,x∈W)->Re (mS hp) U o=U.foldl fH o
 |[],_,_,_,_=>rfl
 |x::U,o,h,hd,hx=>by
  have e:gH ((mS hp).fV o x) o=fH o x:=by show gH (Q6 o x) o=_;rw[Q6,hd];rfl
  obtain⟨a,b,_⟩:=h.recv hp hd (hx x (by simp));have:=ahu U a b λy c=>hx y (by simp[c]);rw[Re,bT,e,bT];exact this
def adK{n:Net}(h:Gs W n.aM)(g:∀x∈n.aW,x.op∈W):TV (mS hp) n=(mS hp).settle n:=by
 obtain⟨a,b⟩:=MS hp h g;rw[Js hp h g,TV];show(vj hp n).map (Em (mS hp) (FF (fE (vj hp n))))=_;rw[adW hp a];refine eH λo c=>?_;obtain⟨i,j⟩:=df.1 c;have f:∀x∈jJ (vj hp n),x∈W:=λx d=>by obtain⟨p,l,d⟩:=((oy hp a.sub).2 x).1 d;exact a.sub p l x d
 have e:=ahu hp (jJ (vj hp n)) (a i o j) (b o c) f;have k:=(AF hp (jJ (vj hp n)) (a i o j) (b o c) f).2.1;rw[Em,e];show gH (NV _) _=_;rw[NV,k];rfl
end
variable{T:Int}{R:Net}
noncomputable def tG  {W:List bf} (hp:Pl T W) (n:Net):Net:=⟨(mS hp).settle n,[],[]⟩
def CP{W:List bf}{N:Nat}(h:GN T W N R)(p:N<=100): (∀J,bh A 21 [.agg R.axV] J (.agg (tG h.pl R).axV))/\(∀J,bh A 22 [.agg R.axV] J (.agg (tG h.pl R).axV)) /\GN T W N (tG h.pl R)/\∀o∈(tG h.pl R).aM,o.down=false/\o.axX=fJ W/\o.ayi=X o.log:=by
 have f:=h.axZ p;have c:=h.len;have n:=h.m8;have q:=h.vZ;have e:∀x∈R.aW,x.op∈W:=λx d=>(h.lts x d).2;have g:(mS h.pl).my R.aM:=λo j=>h.gs.mem j;have i:∀x∈R.aW,0<=x.dst/\x.dst<R.aM.length/\(mS h.pl).ok x.op:=λx d=>by obtain⟨a,b⟩:=h.lts x d;exact⟨a.1,by omega,b⟩
 obtain⟨k,m,l⟩:=Wd h.pl h.gs e c.symm;refine⟨?_,?_,⟨h.pl,h.wl,k,by rw[tG,m];exact c,h.m8,by simp[tG],by simp[tG],List.Pairwise.nil,by simp[tG]⟩,l⟩;.exact Jr (ala h.pl) R f g (by omega) i
 have:=R6 (ak9 h.pl) R f h.ne (by omega) g i;rw[adK h.pl h.gs e]at this;exact this
def OF{W:List bf}(h:∀o∈R.aM,o.down=Z/\o.axX=fJ W):Ju R.aM=G:=by cases b:R.aM with|nil=>rfl|cons p r =>rw[b]at h;refine dd.2 λo a=>?_;rw[(h o a).1,(h o a).2,(h p (dN ..)).2];simp[zY]
end Go.Proofs.Tryz
namespace Go.Proofs.Tryz
open Go Go.Pm Go.Bt
variable(T:ai)(Q:Ob)(L:Ob)(g:Nat)(H:Ob)(P:Net){M:Nat}
def abM(h:1<=M/\M<=8):GN M [] 0 ⟨mc M,[],[]⟩ where
 pl:=⟨by simp,by simp,List.Pairwise.nil,by simp,by simp⟩
 wl:=by simp
 gs:=by
  intro i o a;simp only[mc,bP,aH,List.getElem?_range']at a;obtain⟨j,b,rfl⟩:=a;obtain⟨c,rfl⟩:=ag.1 b;simp only[TD];exact⟨[],⟨agL _,by simp,by simp⟩,.inl ⟨0,by simp,by simp,rfl⟩⟩
 len:=by simp[mc]
 m8:=by omega
 lts:=by simp
 vZ:=by simp
 srt:=List.Pairwise.nil
 tT:=by simp
def ab6(o:P.axZ)(b:ai)(a:Nat)(g:a<X b)(l:bH)(k:Nat)(h:k<2^47)(c:ai): PC A 38 [.ptr a 0,.agg P.axV] (lV b a l k++c) (λr f=>∃(e:Ev) (d:Nat),r=.agg e.axV/\acZ P e/\(k<d/\d<=k+300)/\f=lV b a l d++c):=by rw[mW g];refine(ab5 P o (b++c) a (by rw[ae];omega) l k h).mono ?_;rintro r f ⟨e,d,m,i,n,j⟩;exact⟨e,d,m,i,n,by rw[j,mW g]⟩
def Evs(m:Int)(b:List Ev):Prop:=∀e∈b,ac0 e/\(1<=e.axW/\e.axW<=11)/\0<=e.a/\e.a<m
def DJ(a:List Ev):Ob:=.row 38 12 160 g Z (a.map Ev.axV)
def ak2:Ti A 38 12 160:=ng (by kernel_rfl)
def aiO(Q:g<X T)(l:bH)(k0:Nat)(bd:bW (lV T g l k0)){K:bG}(m B:Nat)(hB:B<=30):∀(c k:Nat) (W:List bf) (n:Net) (d:List Ev),k+c*300<2^46->GN m W (X d) n->X d+c<=B->Evs m d ->(∀(p:Nat) (W:List bf) (n:Net) (d:List Ev),k<=p/\p<=k+c*300->GN m W (X d) n->X d<=B->Evs m d->((fj 4 (fh (.ptr (X T) 0) (fj 1 (fh (.ptr (X T+1) 0) (fj 1 (fh (.own (X T+2) (X d)) (fj 37 fo))))))) λZZ=>K (.exit 0) ⟨ZZ,lV T g l p++[.box 29 [.nil,.nil,.nil],kM n,DJ (X d) d]⟩)) ->gF (X T) prog U3 K (c+1) ⟨(.ptr g 0::uu 3 (.ptr (X T) 0::uu 1 (.ptr (X T+1) 0::uu 1 (.own (X T+2) (X d)::.I c::uu 36 [])))),lV T g l k++[.box 29 [.nil,.nil,.nil],kM n,DJ (X d) d]⟩:=by
 intro c;induction c with
 |zero =>intro k W n d hk h o i z;refine aD λR L=>?_;simp only[U3,kJ,dZ,Int.ofNat_zero,jv,↓IT,VV,seval];exact z k W n d (by omega) h (by omega) i ..
 |succ c ih =>
 intro k W n d hk h o i z;have hs:=h.axZ (by omega);have H:IntKind.i64.wrap (((c+1:Nat):Int) - 1)=(c:Int):=by rw[IntWalk.i64_in _ (by omega)];omega
 have hd:decide ((0:Int)<((c+1:Nat):Int))=true:=by simp
 refine aD λR L=>?_;simp only[U3,kM,Net.axV,hd,cq,mZ,nb,iI,oZ,↓IT,VV,seval];refine dV (ab6 n hs T g Q l k (by omega) _) rfl ?_;rintro _ _ ⟨e,J,rfl,hE,ub,rfl⟩;have IV:=h.len;have ac:=h.m8;have v:0<=e.a/\e.a<(m:Int):=by have:=hE.a;omega
 have r:Evs m (d++[e]):=λx q=>by
  rcases bJ.1 q with q|q;.exact i x q
  rw[cQ.1 q];exact⟨hE.ok,hE.axW,v⟩
 obtain⟨n',F,U,⟨_,O⟩,w⟩:=VN h (by omega) e hE.ok;simp only[Ev.axV,En.axV,DJ,aK,cq,mZ,nb,iI,oZ,V.pure,maxLen,ab,↓IT,VV,seval];refine⟨⟨by omega,by omega⟩,?_⟩;have C:X (d++[e])=X d+1:=by simp
 have M:d.map Ev.axV++[[.I e.axW,.I e.a,.I e.b,.I e.n,.sl 3 (e.axY.ax3.map It.axV),.sl 3 (e.axY.ax4.map It.axV),.s e.axY.cJ,.s e.axY.next,.s e.axY.dL,.s e.axY.dh,.I e.axY.ayd,.I e.axY.ayf]]=(d++[e]).map Ev.axV:=by simp[Ev.axV,En.axV]
 have f:∀(y:List bf) (n2:Net) (t:ai) (D:ar),GN m y (X d+1) n2->qP D (.ptr g 0::uu 3 (.ptr (X T) 0::uu 1 (.ptr (X T+1) 0::uu 1 (.own (X T+2) (X d+1)::.I c::uu 36 []))))->R ⟨D,lV T g l J++([.box 29 [.nil,.nil,.nil],kM n2,DJ (X d+1) (d++[e])]++t)⟩:=by
  intro y n2 t D N P;have j:=ih J y n2 (d++[e]) (by omega) (by rw[C];exact N) (by rw[C];omega) r (λp W n d h3=>z p W n d (by omega));rw[C]at j;refine L _ (vd ((Wk.fG P).trans ?_) j);rw[<- List.append_assoc];refine Wk.lA (by simp[cq]) (cx (nq bd) ?_) (dO.1 ?_);.simp only[kM,Net.axV,DJ,bV,bM,dp,dF,dm,LW]
  simp only[LW,ae,cq,ah,aj];omega
 simp only[kM,Net.axV,DJ,aF,aw]at f;rw[M];refine ak (O _) (by simp only[Net.axV,Ev.axV,En.axV,VV,seval]) ?_;by_cases u:F=0;.subst u;simp only[ij,aR,Net.axV,aK,H,cq,mZ,nb,iI,oZ,↓IT,VV,seval];exact f U n' [_,_] _ (w rfl).1 (by repeat' constructor)
 have E:(F==0)=Z:=by simpa using u
 simp only[ij,ao u,Net.zero,Net.axV,aq,E,H,cq,mZ,nb,iI,oZ,↓IT,VV,seval];exact f W n [_,_] _ (h.mono (oq _)) (by repeat' constructor)
def aaf(d:g<X T)(l:bH)(k:Nat)(e:k<2^60)(n:Int)(i:0<n)(b:n<2^62)(a:ai): PC A 37 [.ptr g 0,.I n] (lV T g l k++a) (λr c=>r=.I (place (l.getD k 0) n)/\c=lV T g l (k+1)++a):=by rw[mW d];refine(PH (T++a) g (by rw[ae];omega) l k e n i b).mono ?_;rintro r c ⟨h,f⟩;exact⟨h,by rw[f,mW d]⟩
structure NR (N:Nat) (n:Net) (es:List Ev):Prop where
 net:∃(m:Nat) (W:List bf),GN m W es.length n/\m<=4/\Evs m es
 len:es.length<=N
set_option maxRecDepth 4000 in
def VU(f:g<X T)(l:bH)(k:Nat)(y:k<2^40)(N:Nat)(C:N<=24): PC prog 13 [.ptr g 0,.I N] (lV T g l k) (λr p=>∃(n:Net) (a:List Ev) (b:Nat),r=.iS [.agg n.axV,.sl 12 (a.map Ev.axV)]/\NR N n a/\b<=k+8000/\p=lV T g l b/\(X n.aM:Int)=1+place (l.getD k 0) 4):=by
 refine aT func13 p13.2 λbd B=>an ?_;simp only[p13,SS,seval];simp only[cq,mZ,nb,iI,oZ,↓IT,VV,seval];have D:=s8 (x:=l.getD k 0) (n:=4) (by decide);refine ak (aaf T g f l k (by omega) 4 (by decide) (by decide) _) rfl ?_;generalize place (l.getD k 0) 4=v at *;obtain⟨m,u⟩:∃m:Nat,1+v=m:=⟨(1+v).toNat,by omega⟩;have s:IntKind.i64.wrap (1+v)=(m:Int):=by rw[IntWalk.i64_in _ (by omega),u]
 have d:IntKind.i64.wrap ((N:Int)+1)=((N+1:Nat):Int):=by rw[IntWalk.i64_in _ (by omega)];omega
 simp only[s,cq,mZ,nb,iI,oZ,↓IT,VV,seval];refine ak (FB m (by omega) (by omega) _) rfl ?_;simp only[Net.axV,aq,d,cq,mZ,nb,iI,oZ,↓IT,VV,seval];refine dV (jx T g f l (k+1) (by omega) (N+1:Nat) (by omega) (by omega) _) rfl ?_;rintro _ _ ⟨j,rfl,o,rfl⟩;obtain⟨c,rfl⟩:∃c:Nat,j=c:=⟨j.toNat,by omega⟩;simp only[cq,mZ,nb,iI,oZ,↓IT,VV,seval];have i:=λK=>aiO T g f l k bd (K:=K) m N (by omega) c (k+1+1) [] ⟨mc m,[],[]⟩ [] (by omega) (abM (by omega)) (by simp;omega) (by intro e w;simp at w);simp only[kM,Net.axV,DJ,aq,aj]at i;refine cD.wk (((Wk.fG (ys:=(.ptr g 0::uu 3 (.ptr (X T) 0::uu 1 (.ptr (X T+1) 0::uu 1 (.nil::.I c::uu 36 []))))) (by repeat' constructor)).trans (Wk.ov (P:=prog) (k:=8) _ ak2 rfl)).trans (Wk.fG (ys:=(.ptr g 0::uu 3 (.ptr (X T) 0::uu 1 (.ptr (X T+1) 0::uu 1 (.own (X T+2) 0::.I c::uu 36 []))))) ?_)) (cD.mM (c+1) (i _ ?_));.simp only[cq,ah,aj,cH,cu,aP];repeat' constructor
 intro b W n a z h t q;simp only[JE];intros;simp only[kM,Net.axV,DJ,aK,cq,mZ,nb,iI,oZ,↓IT,VV,seval];refine gT (xs:=[.agg n.axV,.own (X T+2) (X a)]) (xs':=[.agg n.axV,.sl 12 (a.map Ev.axV)]) (.inr rfl) (by simp only[lG,vf,mZ,nb,VV,seval];rfl) ?_ rfl ⟨n,a,b,rfl,⟨⟨m,W,h,by omega,q⟩,t⟩,by omega,rfl,by rw[h.len];omega⟩;refine(Wk.fz (X T+2) (by rw[nb];rfl)).trans ?_;simp only[az,aq,Pm.fz,jR,Net.axV,cw,aR,oZ];exact Wk.lA (by rw[cq];exact aB _) (nq bd) (dO.1 (by simp[LW]))
def YR(e:g<X T)(l:bH)(k:Nat)(d:k<2^40)(N:Nat)(m:N<=24): PC A 13 [.ptr g 0,.I N] (lV T g l k) (λr c=>∃(n:Net) (a:List Ev) (b:Nat),r=.iS [.agg n.axV,.sl 12 (a.map Ev.axV)]/\NR N n a/\b<=k+8000/\c=lV T g l b) :=(VU T g e l k d N m).mono λ_ _ ⟨n,a,b,i,f,j,h,_⟩=>⟨n,a,b,i,f,j,h⟩
def adu(a:ai)(l:bH)(k:Nat)(e:k<2^40)(N:Nat)(f:N<=24):
  PC A 13 [.ptr (X T+1) 0,.I N] (T++(Q::.box 84 [.sl 1 (l.map cG),.I k]::a)) (λr d=>∃(n:Net) (b:List Ev) (c:Nat),r=.iS [.agg n.axV,.sl 12 (b.map Ev.axV)]/\NR N n b/\c<=k+8000/\d=T++(Q::.box 84 [.sl 1 (l.map cG),.I c]::a)):=by have:=YR (T++(Q::.dead::a)) (X T+1) (by simp) l k e N f;simpa[lV]using this
def plN:ai:=[Q,L,H,kM P,kM P]
set_option maxRecDepth 4000 in
def aiQ{J:ai}{K:bG}(bd:∀n,bW (J++plN Q L H n))(m:Nat)(c:List Ev)(O:X c<=30)(p:Evs m c):∀(b a:List Ev) (W:List bf) (n:Net),c=a++b->GN m W (X a) n ->(∀(W:List bf) (n:Net),GN m W (X c) n->((fj 2 (fh (.ptr (X J) 0) (fj 3 (fh (.sl 12 (c.map Ev.axV)) (fh (.ptr (X J+3) 0) (fj 69 fo)))))) λE=>K (.exit 0) ⟨E,J++plN Q L H n⟩)) ->gF (X J) A U4 K (X b+1) ⟨(uu 2 (.ptr (X J) 0::uu 3 (.sl 12 (c.map Ev.axV)::.ptr (X J+3) 0::uu 1 (.ptr (X J+4) 0::uu 31 (.sl 12 (c.map Ev.axV)::.I (X c)::.I (X a)::uu 33 []))))),J++plN Q L H n⟩:=by
 intro b;induction b with
 |nil =>
  intro a W n d h l;have d:c=a:=by simpa using d
  refine aD λR z=>?_;simp only[U4,d,kJ,dZ,↓IT,VV,seval];rw[d]at l;exact l W n h ..
 |cons e b ih =>
 intro a W n d h l;have U:=ko d;have y:=eE a e (by omega);have x:(c.map Ev.axV).getD (X a) []=e.axV:=by rw[d,gA]
 have D:(0:Int)<=(X a:Int):=by omega
 have B:(X a:Int)<(X c:Int):=by omega
 have N:=h.axZ (by omega);obtain⟨u,v,T,⟨P,w⟩,r⟩:=VN h (by omega) e (p e (by rw[d];simp)).1;have C:X (a++[e])=X a+1:=by simp
 simp only[Ev.axV,En.axV]at x;refine aD λR z=>?_;have f:∀(s:List bf) (n2:Net) (g:ai) (q:ar),GN m s (X a+1) n2->qP q (uu 2 (.ptr (X J) 0::uu 3 (.sl 12 (c.map Ev.axV)::.ptr (X J+3) 0::uu 1 (.ptr (X J+4) 0::uu 31 (.sl 12 (c.map Ev.axV)::.I (X c)::.I (X (a++[e]))::uu 33 [])))))->R ⟨q,J++(plN Q L H n2++g)⟩:=by intro s n2 g q M F;refine z _ (dn (plN Q L H n2) g (bd n2) F ?_ (ih (a++[e]) s n2 (by rw[d];simp) (by rw[C];exact M) l));simp only[LW,plN,ah,aj,aP];omega
 simp only[plN,kM,Net.axV,aF,aw]at f;simp only[U4,plN,kM,Net.axV,x,D,B,cZ,ab,al,bb,↓IT,VV,seval];refine ak (P _) (by simp only[Net.axV,Ev.axV,En.axV,VV,seval]) ?_;by_cases k:v=0;.subst k;obtain⟨i,_⟩:=r rfl;have o:=i.axZ (by omega);have j:=CZ u o;simp only[Net.axV]at j;simp only[ij,aR,Net.axV,↓IT,VV,seval];refine ak (w _) (by simp only[Net.axV,Ev.axV,En.axV,VV,seval]) ?_;simp only[ij,aR,Net.axV,aK,na,da,Nat.reduceAdd,bb,↓IT,VV,seval];refine ak (j _) rfl ?_;simp only[y,bb,↓IT,VV,seval];exact f T u [_,_,_] _ i (by repeat' constructor)
 have t:(v==0)=Z:=by simpa using k
 have j:=CZ n N;simp only[Net.axV]at j;simp only[ij,ao k,Net.zero,Net.axV,aq,↓IT,VV,seval];refine ak (w _) (by simp only[Net.axV,Ev.axV,En.axV,VV,seval]) ?_;simp only[ij,ao k,Net.zero,Net.axV,aq,t,na,da,Nat.reduceAdd,bb,↓IT,VV,seval];refine ak (j _) rfl ?_;simp only[y,bb,↓IT,VV,seval];exact f W n [_,_,_] _ (h.mono (oq _)) (by repeat' constructor)
set_option maxRecDepth 4000 in
def WJ(l:bH)(J:ai):PC A 11 [.sl 1 (l.map cG)] J (λr j=>∃(n:Net) (a:List Ev),r=.iS [.agg n.axV,.sl 12 (a.map Ev.axV),.b true]/\NR 24 n a/\j=J):=by
 refine aT func11 Yy.2 λbd u=>an ?_;simp only[Yy,SS,seval];simp only[↓IT,VV,seval];refine ak (agk l _) rfl ?_;simp only[ae,ah,aj,↓IT,VV,seval];refine dV (adu J _ [] l 0 (by decide) 24 (by decide)) rfl ?_;rintro _ _ ⟨g,a,o,rfl,⟨⟨m,s,f,p,c⟩,d⟩,k,rfl⟩;have t:=f.len;have q:=f.m8;have e:X g.aM=m:=by omega
 simp only[Net.axV,ab,e,↓IT,VV,seval];refine ak (J0 m (by omega) (by omega) _) rfl ?_;simp only[Net.axV,aq,ab,e,↓IT,VV,seval];refine ak (FB m (by omega) (by omega) _) rfl ?_;simp only[Net.axV,aq,ab,na,bb,↓IT,VV,seval];have h:=λK=>aiQ (J:=J) (K:=K) (.box 29 [.nil,.nil,.nil]) (.box 84 [.sl 1 (l.map cG),.I o]) (kM g) (λn=>cx bd (by simp only[plN,kM,Net.axV,bV,bM,dp,dF,dm,LW])) m a (by omega) c a [] [] ⟨mc m,[],[]⟩ rfl (abM (by omega));simp only[plN,kM,Net.axV,aq,aj]at h;refine cD.wk (Wk.fG (by repeat' constructor)) (cD.mM (X a+1) (h _ ?_));intro W n i;simp only[JE];intros;simp only[↓IT,VV,seval];exact aS bd (by simp only[RS,seval];rfl) (by simp[LW]) ⟨n,a,rfl,⟨⟨m,W,i,p,c⟩,d⟩,rfl⟩
def aaV{m:Int}{W:List bf}{n:Net}(h:GN m W M n)(V:M<100)(u:∀o∈n.aM,o.down=Z/\o.axX=fJ W)(k:Nat)(q:k<X n.aM)(e:En)(f:cY e=0)(l:e.axZ)(D:pO e<300): ∃p x,(∀J,bh A 18 [.agg n.axV,.agg (Ev.axV ⟨1,k,0,0,e⟩)] J (ij p 0))/\GN m (W++[x]) (M+1) p/\x.axW=1/\x.axY=e/\∀y∈W,nz x y=G:=by
 have P:=h.len;have I:=h.m8;have t:=h.wl;obtain⟨o,g⟩:∃o,n.aM[k]?=S o:=⟨_,aA q⟩;obtain⟨s,i⟩:=u o (bn g);have N:=uE (mq f).dL;have O:=uE (mq f).dh;obtain⟨F,v,⟨j,L,Q,rfl⟩|⟨K,_,_,rfl⟩⟩:=h.gs k o g
 .obtain⟨E,x,z,B,r⟩:=HB (k:=j) h.pl v (by omega) 1 e (.inl ⟨rfl,f⟩) l (by omega) D;obtain⟨a,b,c⟩:=r.ok h.pl (by omega) (by omega);refine⟨_,x,(QR n (h.axZ (by omega)) ⟨1,k,0,0,e⟩ (.inl rfl) (by simp[jz,Nc,q]) k rfl _ g E 0 ⟨λ_=>⟨x,HK _ _ l f rfl z⟩,nofun,nofun,nofun,nofun⟩ ⟨λ_=>⟨x,C3 _ _ l f rfl B⟩,nofun,nofun,nofun,nofun⟩).1,h.made a b c,?_⟩;obtain⟨d,T,U,R,w,rfl,_,_⟩:=r;refine⟨rfl,rfl,λy C=>VW ?_⟩;have H:fJ d=fJ W:=by rw[<- i,w];rfl
  have:=Yf (fq.1 (H▸fq.2 C));simp only[oa];omega
 cases s
def aoB{J:ai}{K:bG}(e:En)(h:e.axZ)(n:Net)(bd:bW (J++[.box 36 e.axV,kM n]))(t:X n.aM<2^30)(M:List En)(z:xP M)(p:∀e∈M,e.axZ)(D:∀o∈n.aM,o.axZ/\dC o.axX=M) (k:Nat) (E:find M (fZ e)=k) (g:M[k]?=S e):∀(b a:List bX),n.aM=a++b ->(((fj 89 fo) λF=>K (.exit 0) ⟨F,J++[.box 36 e.axV,kM n]⟩)) ->gF (X J) A ad2 K (X b+1) ⟨(uu 5 (.ptr (X J) 0::uu 58 (.sl 6 (n.aM.map bX.axV)::.I (X n.aM)::.I (X a)::uu 22 []))),J++[.box 36 e.axV,kM n]⟩:=by
 intro b;induction b with
 |nil =>
  intro a h j;have h:n.aM=a:=by simpa using h
  refine aD λR v=>?_;simp only[ad2,h,kJ,dZ,↓IT,VV,seval];exact j ..
 |cons o b ih =>
 intro a d j;have N:X n.aM=X a+(X b+1):=by rw[d];simp
 have H:=eE a o (by omega);have r:(n.aM.map bX.axV).getD (X a) []=o.axV:=by rw[d,gA]
 obtain⟨q,m⟩:=D o (by rw[d];simp);have B:(0:Int)<=(X a:Int):=by omega
 have x:(X a:Int)<(X n.aM:Int):=by omega
 have O:=(ag.1 g).1;have L:(0:Int)<=(k:Int):=by omega
 have y:(k:Int)<(X M:Int):=by omega
 have C:¬(k:Int)<0:=by omega
 have f:(M.map En.axV).getD k []=e.axV:=by rw[ax,bP,g];rfl
 have i:=FC o q;have w:=rO e h;have s:=JF M z p (fZ e);have l:=qS e e;rw[m]at i;rw[E]at s;rw[By.2 rfl]at l;simp only[bX.axV]at r i;simp only[En.axV]at f w l;refine aD λR v=>?_;simp only[ad2,kM,Net.axV,En.axV,r,B,x,cZ,ab,al,bb,↓IT,VV,seval];refine ak (i _) rfl ?_;simp only[bb,↓IT,VV,seval];refine ak (w _) rfl ?_;simp only[bb,↓IT,VV,seval];refine ak (s _) rfl ?_;simp only[C,L,y,f,cZ,dZ,ab,al,bb,↓IT,VV,seval];refine⟨_,rfl,?_⟩;refine cm (c:=G) (by simp only[bb,VV,seval]<;>rfl) (λ_=>l _) rfl ?_;simp only[H,bb,↓IT,VV,seval];have u:=ih (a++[o]) (by rw[d];simp) j;simp only[kM,Net.axV,En.axV]at u bd;refine v _ (dn [_,_] [_] bd (by repeat' constructor) ?_ u);simp only[LW,ah,aj,aP];omega
def M0:En:=⟨[⟨1,[83,97,118,101],0⟩],[⟨1,[108,97,115,116],0⟩],[],[],[],[],0,1⟩
def Xr:cY M0=0/\M0.axZ/\pO M0<300:=⟨by decide +kernel,⟨by decide,by decide,by decide,by decide,by decide,by decide,by decide⟩,by decide⟩
set_option maxRecDepth 4000 in
def D8(v:En)(E:v.axZ)(l:bH)(a:Int)(J:ai):bh A 7 [.sl 1 (l.map cG),.I a,.agg v.axV] J (.b true):=by
 refine aT func7 p7.2 λbd dG=>?_;have O:=RC v E;have g:=kq v E;simp only[p7,SS,seval];refine cD.cutAt (.more (.cM _ _)) λR T=>?_;have f:∀(e:En) {z:ar} {s:ai},cY e=0/\e.axZ/\pO e<300->Wk A (X J) z s (.sl 1 (l.map cG)::.I a::uu 3 (.ptr (X J) 0::uu 83 [])) (J++[.box 36 e.axV])->R ⟨z,s⟩:=by
  rintro e z s ⟨gB,q,iz⟩ Hd;refine T _ (cD.wk Hd (an ?_));clear T R;simp only[En.axV,V.pure,↓IT,VV,seval];refine kh (zs:=[.sl 1 ([l].map PR)]) (.cons (.lit _ _) .nil) (Vk [l] _) ?_;simp only[bb,↓IT,VV,seval];refine⟨λ_=>?_,λ_=>?_⟩;.refine ak (GS _) rfl ?_;simp only[↓IT,VV,seval];exact gL bd (by rfl) (by simp[LW])
  refine dV (WJ l _) rfl ?_;rintro _ _ ⟨n,es,rfl,⟨⟨m,W,L,hm,ad⟩,M⟩,rfl⟩;obtain⟨N,_,C,nI⟩:=CP L (by omega);simp only[Net.axV,bb,↓IT,VV,seval];generalize tG L.pl n=n2 at *;have iV:=C.ne;have EL:0<X n2.aM:=fb.2 iV;have Vx:=(C.axZ (by omega)).D5;obtain⟨k,hk,tN⟩:∃k:Nat,place a (X n2.aM)=k/\k<X n2.aM:=by have:=s8 (x:=a) (n:=X n2.aM) (by omega);exact⟨(place a (X n2.aM)).toNat,by omega,by omega⟩
  obtain⟨n3,x,w,d,D,r,hw⟩:=aaV C (by omega) (λo p=>⟨(nI o p).1,(nI o p).2.1⟩) k tN e gB q iz;obtain⟨c4,_,t,u⟩:=CP d (by omega);generalize tG d.pl n3=n4 at *;have i:=t.axZ (by omega);have ac:=d.wl;have B:∀y∈fJ (W++[x]),eO y=0/\y.axZ:=λy c=>⟨(d.pl.op y (fq.1 c)).ok,(d.pl.op y (fq.1 c)).axZ⟩;obtain⟨f1,f2,Q⟩:=aif B (by rw[xZ];omega) (x:=x) (fq.2 (by simp)) D (λy c=>by
   rcases bJ.1 (fq.1 c)with c|c;.exact .inr (hw y c)
   exact .inl (cQ.1 c));rw[r]at f1 f2 Q;have F:∀y∈dC (fJ (W++[x])),y.axZ:=λy c=>by simp only[dC,cP,fv]at c;obtain⟨o',⟨h1,_⟩,rfl⟩:=c;exact(B o' (oV h1)).2.axY
  simp only[Net.axV]at N c4 w;refine ak (N _) rfl ?_;simp only[ab,bb,↓IT,VV,seval];refine ak (F2 a (X n2.aM) (by omega) (by omega) _) rfl ?_;simp only[hk,bb,↓IT,VV,seval];simp only[Ev.axV,En.axV,ij,aR]at w;refine ak (w _) rfl ?_;simp only[Net.axV,bb,↓IT,VV,seval];refine ak (c4 _) rfl ?_;simp only[ab,bb,↓IT,VV,seval];have U:=λK=>aoB (J:=J) (K:=K) e q n4 (cx bd (by simp only[kM,Net.axV,En.axV,bV,bM,dp,dF,dm,LW])) i.D5 (dC (fJ (W++[x]))) (pk λy c=>(B y c).1) F (λo p=>⟨i.bg o p,by rw[(u o p).2.1]⟩)
   (find (dC (fJ (W++[x]))) (fZ e)).toNat (by omega) Q n4.aM [] rfl;simp only[kM,Net.axV,En.axV,aj]at U;refine cD.wk (Wk.fG (by repeat' constructor)) (cD.mM (X n4.aM+1) (U _ ?_));simp only[JE];intros;simp only[bb,↓IT,VV,seval];refine ak (GS _) rfl ?_;simp only[↓IT,VV,seval];exact gL bd (by rfl) (by simp[LW])
 simp only[En.axV]at f O g;simp only[En.axV,V.pure,bb,↓IT,VV,seval];refine kh (zs:=[.sl 1 ([l].map PR)]) (.cons (.lit _ _) .nil) (Vk [l] _) ?_;simp only[bb,↓IT,VV,seval];refine cm (by simp only[bb,VV,seval]<;>rfl) (λ_=>O _) rfl ?_;simp only[bb,↓IT,VV,seval];refine cm (by simp only[bb,VV,seval]<;>rfl) (λ_=>g _) rfl ?_;simp only[bb,↓IT,VV,seval];refine⟨λ_=>?_,λh=>?_⟩;.refine f M0 Xr ((Wk.fG (ys:=(.sl 1 (l.map cG)::.I a::uu 3 (.ptr (X J) 0::uu 83 []))) (by repeat' constructor)).trans ?_);have k0:=Wk.cell (P:=A) (n:=X J) (xs:=(.sl 1 (l.map cG)::.I a::uu 3 (.ptr (X J) 0::uu 83 []))) (J:=J++[.box 36 [.lit 3 [[.I 1,.s [83,97,118,101],.I 0]],.lit 3 [[.I 1,.s [108,97,115,116],.I 0]],.s [],.s [],.s [],.s [],.I 0,.I 1]]) (id:=X J) (j:=0) (y:=.sl 3 [[.I 1,.s [83,97,118,101],.I 0]]) (iF.trans rfl) rfl λ_ _ _ _ h=>(Cv.lit ..).ok h;refine k0.trans ?_;rw[rS,cu,cu];have H:=Wk.cell (P:=A) (n:=X J) (xs:=(.sl 1 (l.map cG)::.I a::uu 3 (.ptr (X J) 0::uu 83 []))) (J:=J++[.box 36 [.sl 3 [[.I 1,.s [83,97,118,101],.I 0]],.lit 3 [[.I 1,.s [108,97,115,116],.I 0]],.s [],.s [],.s [],.s [],.I 0,.I 1]]) (id:=X J) (j:=1) (y:=.sl 3 [[.I 1,.s [108,97,115,116],.I 0]]) (iF.trans rfl) rfl λ_ _ _ _ h=>(Cv.lit ..).ok h;rw[rS,cu,cH,cu]at H;exact H
 simp only[km,eI,bz,yD]at h;exact f v ⟨h.2,E,h.1.2⟩ (Wk.fG (by repeat' constructor))

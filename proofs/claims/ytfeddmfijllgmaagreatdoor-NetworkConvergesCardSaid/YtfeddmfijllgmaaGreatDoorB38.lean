/- A part of a proof; the claim's last text says of what. -/
import Derived.Test.YtfeddmfijllgmaaGreatDoorB37
set_option linter.all false
set_option maxHeartbeats 4000000
open List renaming length->Y

namespace Go.Proofs.Tryz
open Go Go.Pm Go.Bt Go.RowKit
variable{w:Int}{N:Nat}
def aaB(e:Ev):Prop:=e.azV.azU/\oV e.azV<300
def Step(W:List aV)(n:Net)(e:Ev)(f:Net)(c:List aV):Prop :=(¬(e.azT=1\/e.azT=2)/\c=W)\/((e.azT=1\/e.azT=2)/\∃(i:Nat) (o b:bO) (x:aV) (d:En),e.a=i/\n.an[i]?=some o/\f=⟨n.an.set i b,n.ax,n.cw⟩/\c=W++[x]/\Made W i o e.azT d b x)
def P4{a:Type}{l:List a}(h:LK w (Y l)=true):∃(i:Nat) (o:a),w=i/\l[i]?=some o:=by simp only[LK,aZ,bE]at h;exact⟨w.toNat,l[w.toNat]'(by omega),by omega,aD _⟩
def yS{W:List aV}{n:Net}(h:GN w W N n)(hN:N<100)(e:Ev)(K:aaB e): ∃F s W',aaC n e F s/\(s=0->GN w W' (N+1) F/\Step W n e F W'):=by
 have J:=h.azU (by omega);have hp:=h.pl;have ac:=h.len;have ad:=h.m8;have U:∀{i:Nat} {o:bO},n.an[i]?=some o->0<=(i:Int)/\(i:Int)<w/\w<=8:=λt=>by have:=(ag.1 t).1;omega
 cases q:kh n e with
 |false=>exact⟨_,_,W,Yf n e q,λh=>by simp at h⟩
 |true =>
 have B:∀F,¬(e.azT=1\/e.azT=2)->Step W n e F W:=λ_ h=>.inl ⟨h,rfl⟩;rcases kinds e.azT with d|d|d|d
 .have f:=q;simp only[kh,aQ d]at f;obtain⟨i,o,t,v⟩:=P4 f;have r:=h.gs i o v;have C:=U v;have p:=λy s=>TJ n J e d q i t o v y s;rcases d with d|d|d|d|d;.obtain⟨y,x,s,k,m,R⟩:=Tm hp r C e.azV K.1 K.2;refine⟨_,s,W++[x],p y s ⟨λ_=>⟨x,k⟩,λh=>by omega,λh=>by omega,λh=>by omega,λh=>by omega⟩ ⟨λ_=>⟨x,m⟩,λh=>by omega,λh=>by omega,λh=>by omega,λh=>by omega⟩,λg=>?_⟩;have H:=R g;obtain⟨a,b,c⟩:=H.ok hp C.2.1 (by have:=h.wl;omega);exact⟨h.made a b c,.inr ⟨.inl d,i,o,y,x,_,t,v,rfl,rfl,by rw[d];exact H⟩⟩
  .obtain⟨y,x,s,k,m,R⟩:=Tl hp r C e.azV K.1 K.2;refine⟨_,s,W++[x],p y s ⟨λh=>by omega,λ_=>⟨x,k⟩,λh=>by omega,λh=>by omega,λh=>by omega⟩ ⟨λh=>by omega,λ_=>⟨x,m⟩,λh=>by omega,λh=>by omega,λh=>by omega⟩,λg=>?_⟩;have H:=R g;obtain⟨a,b,c⟩:=H.ok hp C.2.1 (by have:=h.wl;omega);exact⟨h.made a b c,.inr ⟨.inr d,i,o,y,x,_,t,v,rfl,rfl,by rw[d];exact H⟩⟩
  .obtain⟨k,m⟩:=r7 hp r;refine⟨_,(yq o).2,W,p (yq o).1 (yq o).2 ⟨λh=>by omega,λh=>by omega,λ_=>k,λh=>by omega,λh=>by omega⟩ ⟨λh=>by omega,λh=>by omega,λ_=>m,λh=>by omega,λh=>by omega⟩,λg=>⟨?_,B _ (by omega)⟩⟩;refine(h.mono (mh N)).set ?_;cases u:o.down with|true=>rw[yq,u]at g;cases g|false=>rw[yq,u];exact r.sync u
  .obtain⟨k,m,c3⟩:=aaa hp r e.n;have X:∀Q T P A,OfX Q T P 98 A o e (r8 o e.n) (if o.down then 15 else 0)/\OfX Q T P 55 A o e (r8 o e.n) (if o.down then 15 else 0):=by
    intro Q T P A;cases u:o.down with
    |true=>exact⟨⟨λh=>by omega,λh=>by omega,λh=>by omega,λ_=>.inl ⟨u,rfl⟩,λh=>by omega⟩,⟨λh=>by omega,λh=>by omega,λh=>by omega,λ_=>.inl ⟨u,rfl⟩,λh=>by omega⟩⟩
    |false=>exact⟨⟨λh=>by omega,λh=>by omega,λh=>by omega,λ_=>.inr ⟨u,rfl,k⟩,λh=>by omega⟩,⟨λh=>by omega,λh=>by omega,λh=>by omega,λ_=>.inr ⟨u,rfl,m⟩,λh=>by omega⟩⟩
   exact⟨_,_,W,p _ _ (X ..).1 (X ..).2,λ_=>⟨(h.mono (mh N)).set c3,B _ (by omega)⟩⟩
  obtain⟨k,m⟩:=nA hp r;refine⟨_,(QF W o).2,W,p (QF W o).1 (QF W o).2 ⟨λh=>by omega,λh=>by omega,λh=>by omega,λh=>by omega,λ_=>k⟩ ⟨λh=>by omega,λh=>by omega,λh=>by omega,λh=>by omega,λ_=>m⟩,λg=>⟨?_,B _ (by omega)⟩⟩;refine(h.mono (mh N)).set ?_;have:=(uI r).1;rwa [dv,aQ g]at this
 .have f:=q;simp only[kh,aw (show ¬(e.azT=1\/e.azT=2\/e.azT=9\/e.azT=10\/e.azT=11)by omega),aQ d,aZ]at f;obtain⟨i,V,t,z⟩:=P4 f.1;obtain⟨j,oj,M,L⟩:=P4 f.2;rcases d with d|d;.obtain⟨l,C,hb⟩:=aaw n J h.pT e d q i j t M V oj z L hp (h.gs i V z) (h.gs j oj L) (by have:=U L;omega);refine⟨_,_,W,hb,λg=>⟨?_,B _ (by omega)⟩⟩;exact(h.mono (mh N)).send (by have:=U L;omega) (λx I=>(h.gs i V z).azS.1 x (C x I)) g
  exact⟨_,_,W,aeD n J h.ne h.srt e d q,λg=>⟨h.cut e g,B _ (by omega)⟩⟩
 .have f:=q;simp only[kh,aw (show ¬(e.azT=1\/e.azT=2\/e.azT=9\/e.azT=10\/e.azT=11)by omega),aw (show ¬(e.azT=3\/e.azT=7\/e.azT=8)by omega),aQ d]at f;obtain⟨i,x,t,I⟩:=P4 f;have D:=aS I;obtain⟨u,E⟩:=h.SA x D;obtain⟨j,o,M,v⟩:∃(j:Nat) (o:bO),x.dst=j/\n.an[j]?=some o:=⟨x.dst.toNat,n.an[x.dst.toNat]'(by omega),by omega,aD _⟩;have r:=h.gs j o v;obtain⟨k,m⟩:=lR hp r E;refine⟨_,_,W,BM n J h.pT e d q i t x I j M o v (sP o x.op).1 (sP o x.op).2 k m,λg=>⟨?_,B _ (by omega)⟩⟩;refine(h.mono (mh N)).post D M (λh1=>?_) g;cases O:o.down with|true=>rw[sP,O]at h1;cases h1|false=>rw[sP,O];exact(r.recv hp O E).1
 rw[HW d]at q;cases q
def eI(n:Net):Ob:=.box 29 n.azR
structure aeW (n:Net) (e:Ev):Prop where
 azT:1<=e.azT/\e.azT<=11
 a:0<=e.a/\e.a<max 1 (n.an.length:Int)
 ok:aaB e
def Eo:bU:=[1,1,1,2,3,3,3,4,4,4,5,6,7,8,9,10,11,11]
def X9{a b N:Int}(e:En)(h1:Y e.azZ<=1/\Y e.az0<=1/\Y e.cM<=1/\Y e.next<=1)(g:bo e.azZ<=90)(f:bo e.az0<=90)(c:∀x∈e.azZ++e.az0,x.id=0):aaB ⟨w,a,b,N,e⟩:=by show e.azU/\oV e<300;exact⟨⟨by omega,by omega,by omega,by omega,by omega,by omega,λx d=>by rw[c x d];decide⟩,by rw[oV];omega⟩
def Qf:gW:=[[83,97,118,101],[120]]
def Z1:∀s∈Qf,Y s<=4:=by decide
def aqH:∀d:Nat,d<9->Y (Lib.itoa (d:Int))<=2:=by decide +kernel
def Td:∀k∈Eo,1<=k/\k<=11:=by decide
def age{ws:bU}{n:Nat}(h:n<Y ws):∃w∈ws,gv (ws.map λs=>[V.i .i64 s]) n 0=some (V.i .i64 w):=by refine⟨ws[n],eJ h,?_⟩;simp[gv,h]
def BE{a:aj}{l:bU}{k b:Nat}{A c B:List Ob}{K:aj->aj->Prop}:grown (mb a N l k++A) c (mb a N l b++B) K=pw (mb a N l b) A c B K:=grown_of (by rw[cJ,cJ])
set_option maxRecDepth 20000 in
def ad9(n:Net)(J:n.azU)(b:aj)(a:Nat)(g:a<Y b)(l:bU)(k:Nat)(hk:k<2^47): PC prog 38 [.ptr a 0,.agg n.azR] (mb b a l k) (λr A=>∃(e:Ev) (i:Nat),r=.agg e.azR/\aeW n e/\(k<i/\i<=k+300)/\A=mb b a l i):=by
 have uj:=J.uE;have qw:=J.pT;refine aW func38 p38.2 λbc dQ=>?_;have F:∀x:Nat,x<2^30->∃K:Nat,(if(1:Int)<(x:Int)then(x:Int)else 1)=K/\0<K/\K<2^31/\(K:Int)=max 1 (x:Int):=λx hx=>by
  split;.exact⟨x,rfl,by omega,by omega,by omega⟩
  exact⟨1,rfl,by omega,by omega,by omega⟩
 obtain⟨K,p,W⟩:=F n.an.length uj;obtain⟨M,t,ad⟩:=F n.ax.length qw;simp only[p38,SS,seval];refine cB.cutAt (.more (.more (.one _ _))) λR q=>?_;simp only[Net.azR,cJ,o5,nb,jF,rn,aa,p,t,↓IT,VV,seval];intro X;refine dZ (kJ b a g l k (by omega) 18 (by decide) (by decide) _) rfl ?_;rintro _ _ ⟨v0,rfl,AK,rfl⟩;obtain⟨w,hw,u⟩:=age (ws:=Eo) (n:=v0.toNat) (by simp[Eo];omega);have M9:1<=w/\w<=11:=Td w hw;simp only[Eo,aI,ar]at u;simp only[u,p,t,BE,cJ,o5,nb,jF,rn,aa,↓IT,VV,seval];refine⟨by omega,?_⟩;intro X;refine dZ (kJ b a g l (k+1) (by omega) K (by omega) (by omega) _) rfl ?_;rintro _ _ ⟨o,rfl,af,rfl⟩;simp only[u,p,t,BE,cJ,o5,nb,jF,rn,aa,↓IT,VV,seval];refine⟨by omega,?_⟩;intro X;refine dZ (kJ b a g l (k+1+1) (by omega) K (by omega) (by omega) _) rfl ?_;rintro _ _ ⟨y,rfl,O,rfl⟩;simp only[u,p,t,BE,cJ,o5,nb,jF,rn,aa,↓IT,VV,seval];refine⟨by omega,?_⟩;intro X;refine dZ (kJ b a g l (k+1+1+1) (by omega) M (by omega) (by omega) _) rfl ?_;rintro _ _ ⟨Q,rfl,am,rfl⟩;simp only[u,p,t,BE,cJ,o5,nb,jF,rn,aa,↓IT,VV,seval];refine⟨by omega,q _ (cB.fw (fr':=(.ptr a 0::uu 3 (.ptr (Y b+1) 0::uu 1 (.ptr (Y b+2) 0::uu 54 [])))) ?_ (by repeat' constructor))⟩;clear q R;refine cB.cut λR q=>?_;have B:0<=o/\o<max 1 (Y n.an:Int):=by omega
 have D:∀(N:Int) (m:Nat),k<m->m<=k+10->∀h,rk h (.ptr a 0::uu 3 (.ptr (Y b+1) 0::uu 1 (.ptr (Y b+2) 0::uu 54 [])))->R ⟨h,mb b a l m++[eI n,.box 38 [.I 0,.I 0,.I 0,.I 0,.nil,.nil,.s [],.s [],.s [],.s [],.I 0,.I 0],.box 38 [.I w,.I o,.I y,.I N,.nil,.nil,.s [],.s [],.s [],.s [],.I 0,.I 0]]⟩:=by
  intro N m tX xf h yJ;refine q _ (cB.fw (aq ?_) yJ);clear q R;have v:∀(z:En) (c:aB) (f:Nat) (j:aj) (h:aB),aaB ⟨w,o,y,N,z⟩->k<f->f<=k+300->rk c z.azR->mS ⟨h,mb b a l f++j⟩ [.c 4 (some 12)]=some [.agg (.I w::.I o::.I y::.I N::c)]->zy prog b.length [.c 4 (some 12)] (λr A=>∃(e:Ev) (i:Nat),r=.agg e.azR/\aeW n e/\(k<i/\i<=k+300)/\A=mb b a l i) .ret ⟨h,mb b a l f++j⟩:=by intro z c f j h h1 h2 T h4 h5;refine dS (xs':=[.agg (Ev.azR ⟨w,o,y,N,z⟩)]) (.inr rfl) h5 ((Wk.fw (.cons (.iV (.cons (.refl _) (.cons (.refl _) (.cons (.refl _) (.cons (.refl _) h4))))) .nil)).trans (Wk.lS (by rw[cJ];exact aM _) (pn bc) (ed.1 (by simp only[Ev.azR,En.azR,LW])))) rfl ⟨_,_,rfl,⟨M9,B,h1⟩,⟨h2,T⟩,rfl⟩
  simp only[eI,Net.azR,cJ,o5,nb,jF,rn,↓IT,VV,seval];refine⟨λC=>?_,λC=>?_⟩;.refine dZ (aec b a g l m (by omega) _) rfl ?_;rintro _ _ ⟨e,f,rfl,hE,U,rfl⟩;simp only[En.azR,cJ,o5,nb,jF,rn,↓IT,VV,seval];refine dZ (kJ b a g l f (by omega) 2 (by decide) (by decide) _) rfl ?_;rintro _ _ ⟨x1,rfl,zw,rfl⟩;obtain⟨E,P,L⟩:=pD (ws:=Qf) (n:=x1.toNat) (by simp[Qf];omega);have LL:=Z1 E P;simp only[Qf,aI,ar]at L;simp only[L,cJ,o5,nb,jF,rn,↓IT,VV,seval];refine⟨by omega,?_⟩;refine dZ (kJ b a g l (f+1) (by omega) 9 (by decide) (by decide) _) rfl ?_;rintro _ _ ⟨H,rfl,Di,rfl⟩;obtain⟨d,rfl⟩:∃d:Nat,H=d:=⟨H.toNat,by omega⟩;have hd:=aqH d (by omega);simp only[cJ,o5,nb,jF,rn,↓IT,VV,seval];refine al (DQ d (by omega) _) rfl ?_;simp only[cJ,o5,nb,jF,rn,↓IT,VV,seval];refine⟨by simp only[maxLen];omega,?_⟩;refine v ⟨[⟨1,E,0⟩],[⟨1,116::Lib.itoa (d:Int),0⟩],[],[],e.eu,e.dC,e.aAb,e.aAc⟩ _ (f+1+1) _ _ (X9 _ (by simp) (by simp only[bo];omega) (by simp only[bo,ae];omega) (by simp)) (by omega) (by omega) ?_ (by simp only[mS,yy,o5,nb,VV,seval];rfl);simp only[En.azR,It.azR,aI,ar];repeat first|exact .nil|refine .cons (.refl _) ?_|refine .cons (.lit _ _) ?_
  refine v ⟨[],[],[],[],[],[],0,0⟩ _ m _ _ (X9 _ (by simp) (by simp[bo]) (by simp[bo]) (by simp)) (by omega) (by omega) ?_ (by simp only[mS,yy,o5,nb,VV,seval];rfl);simp only[En.azR,ar];repeat first|exact .nil|refine .cons (.refl _) ?_|refine .cons (.nil _) ?_
 simp only[eI,Net.azR]at D;simp only[cJ,o5,nb,jF,rn,↓IT,VV,seval];refine⟨λQH=>?_,λQH=>?_⟩;.refine dZ (kJ b a g l (k+1+1+1+1) (by omega) 200 (by decide) (by decide) _) rfl ?_;rintro _ _ ⟨V,rfl,ac,rfl⟩;simp only[cJ,o5,nb,jF,rn,↓IT,VV,seval];exact D V _ (by omega) (by omega) _ (by repeat' constructor)
 exact D Q _ (by omega) (by omega) _ (by repeat' constructor)
section
variable {m:Int} {W:List aV} (hp:Pl m W)
end
def Dt{m:Int}{W:List aV}{n:Net}(h:∀o∈n.an,o.down=false/\o.azS=ej W):FZ n.an=true:=by cases b:n.an with|nil=>rfl|cons p r =>rw[b]at h;refine df.2 λo a=>?_;rw[(h o a).1,(h o a).2,(h p (cU ..)).2];simp[yP]
end Go.Proofs.Tryz
namespace Go.Proofs.Tryz
open Go Go.Pm Go.Bt
variable(U:aj)(a:Nat)
def Fw{m:Nat}(h:1<=m/\m<=8):GN m [] 0 ⟨mw m,[],[]⟩ where
 pl:=⟨by simp,by simp,List.Pairwise.nil,by simp,by simp⟩
 wl:=by simp
 gs:=by
  intro i o a;simp only[mw,bR,aL,List.getElem?_range']at a;obtain⟨j,b,rfl⟩:=a;obtain⟨c,rfl⟩:=ag.1 b;simp only[Wa];exact⟨[],⟨aiF _,by simp,by simp⟩,.inl ⟨0,by simp,by simp,rfl⟩⟩
 len:=by simp[mw]
 m8:=by omega
 SA:=by simp
 pT:=by simp
 srt:=List.Pairwise.nil
 um:=by simp
def aea(n:Net)(o:n.azU)(b:aj)(a:Nat)(f:a<Y b)(l:bU)(k:Nat)(m:k<2^47)(c:aj): PC prog 38 [.ptr a 0,.agg n.azR] (mb b a l k++c) (λr g=>∃(e:Ev) (d:Nat),r=.agg e.azR/\aeW n e/\(k<d/\d<=k+300)/\g=mb b a l d++c):=by rw[oZ f];refine(ad9 n o (b++c) a (by rw[ah];omega) l k m).mono ?_;rintro r g ⟨e,d,i,p,h,j⟩;exact⟨e,d,i,p,h,by rw[j,oZ f]⟩
def Evs(m:Int)(b:List Ev):Prop:=∀e∈b,aaB e/\(1<=e.azT/\e.azT<=11)/\0<=e.a/\e.a<m
def GU(b:List Ev):Ob:=.row 38 12 160 a false (b.map Ev.azR)
def am2:Ti prog 38 12 160:=o8 (by kernel_rfl)
def akI(d:aj)(a:Nat)(O:a<Y d)(l:bU)(k0:Nat)(X:bT (mb d a l k0)){K:bL}(m B:Nat)(hB:B<=30):∀(c k:Nat) (W:List aV) (n:Net) (f:List Ev),k+c*300<2^46->GN m W f.length n->Y f+c<=B->Evs m f ->(∀(j:Nat) (W:List aV) (n:Net) (f:List Ev),k<=j/\j<=k+c*300->GN m W f.length n->Y f<=B->Evs m f->((fj 4 (fh (.ptr d.length 0) (fj 1 (fh (.ptr (Y d+1) 0) (fj 1 (fh (.own (Y d+2) (Y f)) (fj 37 fo))))))) λJ=>K (.exit 0) ⟨J,mb d a l j++[.box 29 [.nil,.nil,.nil],eI n,GU f.length f]⟩)) ->gw d.length prog Xz K (c+1) ⟨(.ptr a 0::uu 3 (.ptr d.length 0::uu 1 (.ptr (Y d+1) 0::uu 1 (.own (Y d+2) (Y f)::.I c::uu 36 [])))),mb d a l k++[.box 29 [.nil,.nil,.nil],eI n,GU f.length f]⟩:=by
 intro c;induction c with
 |zero =>intro k W n f M g r w A;refine az λR E=>?_;simp only[Xz,dt,bZ,Int.ofNat_zero,kC,↓IT,VV,seval];exact A k W n f (by omega) g (by omega) w ..
 |succ c ih =>
 intro k W n f M g r w A;have N:=g.azU (by omega);have F:IntKind.i64.wrap (((c+1:Nat):Int) - 1)=(c:Int):=by rw[IntWalk.i64_in _ (by omega)];omega
 have hd:decide ((0:Int)<((c+1:Nat):Int))=true:=by simp
 refine az λR E=>?_;simp only[Xz,eI,Net.azR,hd,cJ,o5,nb,jF,rn,↓IT,VV,seval];refine dZ (aea n N d a O l k (by omega) _) rfl ?_;rintro _ _ ⟨e,D,rfl,t,xf,rfl⟩;have EI:=g.len;have P:=g.m8;have v:0<=e.a/\e.a<(m:Int):=by have:=t.a;omega
 have i:Evs m (f++[e]):=λx o=>by
  rcases bW.1 o with o|o;.exact w x o
  rw[dn.1 o];exact⟨t.ok,t.azT,v⟩
 obtain⟨n',H,L,⟨_,Q⟩,ZQ⟩:=yS g (by omega) e t.ok;simp only[Ev.azR,En.azR,GU,ao,cJ,o5,nb,jF,rn,V.pure,maxLen,aa,↓IT,VV,seval];refine⟨⟨by omega,by omega⟩,?_⟩;have y:Y (f++[e])=Y f+1:=by simp
 have e0:f.map Ev.azR++[[.I e.azT,.I e.a,.I e.b,.I e.n,.sl 3 (e.azV.azZ.map It.azR),.sl 3 (e.azV.az0.map It.azR),.s e.azV.cM,.s e.azV.next,.s e.azV.eu,.s e.azV.dC,.I e.azV.aAb,.I e.azV.aAc]]=(f++[e]).map Ev.azR:=by simp[Ev.azR,En.azR]
 have h:∀(z:List aV) (n2:Net) (q:aj) (u:aB),GN m z (Y f+1) n2->rk u (.ptr a 0::uu 3 (.ptr d.length 0::uu 1 (.ptr (Y d+1) 0::uu 1 (.own (Y d+2) (Y f+1)::.I c::uu 36 []))))->R ⟨u,mb d a l D++([.box 29 [.nil,.nil,.nil],eI n2,GU (Y f+1) (f++[e])]++q)⟩:=by
  intro z n2 q u T U;have p:=ih D z n2 (f++[e]) (by omega) (by rw[y];exact T) (by rw[y];omega) i (λj W n f h3=>A j W n f (by omega));rw[y]at p;refine E _ (ub ((Wk.fw U).trans ?_) p);rw[<- List.append_assoc];refine Wk.lS (by simp[cJ]) (cj (pn X) ?_) (ed.1 ?_);.simp only[eI,Net.azR,GU,bF,bD,cA,cW,cK,LW]
  simp only[LW,ah,cJ,ae,ai];omega
 simp only[eI,Net.azR,GU,aF,ay]at h;rw[e0];refine al (Q _) (by simp only[Net.azR,Ev.azR,En.azR,VV,seval]) ?_;by_cases C:H=0;.subst C;simp only[gf,aU,Net.azR,ao,F,cJ,o5,nb,jF,rn,↓IT,VV,seval];exact h L n' [_,_] _ (ZQ rfl).1 (by repeat' constructor)
 have ZT:(H==0)=false:=by simpa using C
 simp only[gf,aw C,Net.zero,Net.azR,ar,ZT,F,cJ,o5,nb,jF,rn,↓IT,VV,seval];exact h W n [_,_] _ (g.mono (mh _)) (by repeat' constructor)
def acs(c:a<Y U)(l:bU)(k:Nat)(g:k<2^60)(n:Int)(h:0<n)(f:n<2^62)(b:aj): PC prog 37 [.ptr a 0,.I n] (mb U a l k++b) (λr d=>r=.I (place (l.getD k 0) n)/\d=mb U a l (k+1)++b):=by rw[oZ c];refine(Su (U++b) a (by rw[ah];omega) l k g n h f).mono ?_;rintro r d ⟨e,i⟩;exact⟨e,by rw[i,oZ c]⟩
structure qL (N:Nat) (n:Net) (es:List Ev):Prop where
 net:∃(m:Nat) (W:List aV),GN m W es.length n/\m<=4/\Evs m es
 len:es.length<=N
set_option maxRecDepth 4000 in
def sJ(f:a<Y U)(l:bU)(k:Nat)(B:k<2^40)(N:Nat)(D:N<=24): PC prog 13 [.ptr a 0,.I N] (mb U a l k) (λr w=>∃(n:Net) (b:List Ev) (d:Nat),r=.jg [.agg n.azR,.sl 12 (b.map Ev.azR)]/\qL N n b/\d<=k+8000/\w=mb U a l d/\(Y n.an:Int)=1+place (l.getD k 0) 4):=by
 refine aW func13 p13.2 λi z=>aq ?_;simp only[p13,SS,seval];simp only[cJ,o5,nb,jF,rn,↓IT,VV,seval];have A:=tM (x:=l.getD k 0) (n:=4) (by decide);refine al (acs U a f l k (by omega) 4 (by decide) (by decide) _) rfl ?_;generalize place (l.getD k 0) 4=v at *;obtain⟨m,s⟩:∃m:Nat,1+v=m:=⟨(1+v).toNat,by omega⟩;have t:IntKind.i64.wrap (1+v)=(m:Int):=by rw[IntWalk.i64_in _ (by omega),s]
 have g:IntKind.i64.wrap ((N:Int)+1)=((N+1:Nat):Int):=by rw[IntWalk.i64_in _ (by omega)];omega
 simp only[t,cJ,o5,nb,jF,rn,↓IT,VV,seval];refine al (sR m (by omega) (by omega) _) rfl ?_;simp only[Net.azR,ar,g,cJ,o5,nb,jF,rn,↓IT,VV,seval];refine dZ (kJ U a f l (k+1) (by omega) (N+1:Nat) (by omega) (by omega) _) rfl ?_;rintro _ _ ⟨j,rfl,p,rfl⟩;obtain⟨c,rfl⟩:∃c:Nat,j=c:=⟨j.toNat,by omega⟩;simp only[cJ,o5,nb,jF,rn,↓IT,VV,seval];have o:=λK=>akI U a f l k i (K:=K) m N (by omega) c (k+1+1) [] ⟨mw m,[],[]⟩ [] (by omega) (Fw (by omega)) (by simp;omega) (by intro e u;simp at u);simp only[eI,Net.azR,GU,ar,ai]at o;refine cB.wk (((Wk.fw (ys:=(.ptr a 0::uu 3 (.ptr U.length 0::uu 1 (.ptr (Y U+1) 0::uu 1 (.nil::.I c::uu 36 []))))) (by repeat' constructor)).trans (Wk.ph (P:=prog) (k:=8) _ am2 rfl)).trans (Wk.fw (ys:=(.ptr a 0::uu 3 (.ptr U.length 0::uu 1 (.ptr (Y U+1) 0::uu 1 (.own (Y U+2) 0::.I c::uu 36 []))))) ?_)) (cB.kT (c+1) (o _ ?_));.simp only[cJ,ae,ai,cT,cC,aG];repeat' constructor
 intro d W n b C h q y;simp only[JE];intros;simp only[eI,Net.azR,GU,ao,cJ,o5,nb,jF,rn,↓IT,VV,seval];refine dS (xs:=[.agg n.azR,.own (Y U+2) (Y b)]) (xs':=[.agg n.azR,.sl 12 (b.map Ev.azR)]) (.inr rfl) (by simp only[mS,yy,o5,nb,VV,seval];rfl) ?_ rfl ⟨n,b,d,rfl,⟨⟨m,W,h,by omega,y⟩,q⟩,by omega,rfl,by rw[h.len];omega⟩;refine(Wk.fz (Y U+2) (by rw[nb];rfl)).trans ?_;simp only[aI,ar,Pm.fz,kE,Net.azR,cG,aU,rn];exact Wk.lS (by rw[cJ];exact aM _) (pn i) (ed.1 (by simp[LW]))
end Go.Proofs.Tryz

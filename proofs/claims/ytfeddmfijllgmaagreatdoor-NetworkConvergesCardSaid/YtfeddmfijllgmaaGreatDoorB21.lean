/- A part of a proof; the claim's last text says of what. -/
import Derived.Test.YtfeddmfijllgmaaGreatDoorB20
set_option linter.all false
set_option maxHeartbeats 1000000
open Bool renaming true->θ,false->G
open List renaming length->Y

namespace Go.Bt
open Go Go.Pm
variable(X:List bO)(l:List aV){T:List bO}{U:Nat}{Q:aV}
def Rb.de(r:Rb)(n:Nat):Int×Rb:=if Y r.b<n then(0,⟨r.b,θ⟩)else(iL (r.b.take n),⟨r.b.drop n,r.bad⟩)
variable{r:Rb}
def Rb.mc(r:Rb):aR×Rb :=
 let p:=r.de 4
 if p.2.bad=θ\/(Y p.2.b:Int)<p.1 then([],⟨p.2.b,θ⟩)else(p.2.b.take p.1.toNat,⟨p.2.b.drop p.1.toNat,p.2.bad⟩)
def Rb.kp(r:Rb):List It×Rb :=
 let p:=r.mc;let q:=parse p.1
 (q.1,⟨p.2.b,p.2.bad||q.2.2 != 0⟩)
def Rb.jn:Nat->Rb->bU×Rb|0,r=>([],r)|n+1,r=>if r.bad=θ then([],r)else let p:=r.de 2;let q:=Rb.jn n p.2;(p.1::q.1,q.2)
def rB(b:aR):aV×Rb :=
 let v:=(Rb.mk b G).de 1;let k:=(Rb.mk v.2.b (v.1 != 1)).de 1;let t:=k.2.de 4;let f:=t.2.de 1;let m:=f.2.de 2;let c:=m.2.de 1;let s:=Rb.jn c.1.toNat c.2;let src:=s.2.kp;let d:=src.2.mc;let a:=d.2.mc
 if k.1=1 then
  let tg:=a.2.kp;let g:=tg.2.mc;let e:=g.2.mc;let h:=e.2.de 4;let i:=h.2.de 1
  (⟨⟨t.1,f.1,m.1⟩,k.1,⟨src.1,tg.1,d.1,a.1,g.1,e.1,h.1,i.1⟩,s.1⟩,i.2)
 else(⟨⟨t.1,f.1,m.1⟩,k.1,⟨src.1,[],d.1,a.1,[],[],0,0⟩,s.1⟩,a.2)
def Og(b:aR):aV×Int :=
 let p:=rB b
 if p.2.bad=θ\/0<Y p.2.b\/fc p.1≠0 then(CT,12)else(p.1,0)
def hZ(h:(r.azW U).2.bad=G):r.bad=G/\r.de U=r.azW U/\U<=Y r.b:=by
 simp only[Rb.azW,Rb.take]at h |-;by_cases a:Y r.b<U;.rw[aQ a]at h;simp at h
 rw[aw a]at h |-;exact⟨h,by simp only[Rb.de,aw a],by omega⟩
def lD(h:(r.de U).2.bad=G):r.bad=G/\r.de U=r.azW U/\U<=Y r.b:=by
 simp only[Rb.de]at h;by_cases a:Y r.b<U;.rw[aQ a]at h;simp at h
 rw[aw a]at h;exact⟨h,by simp only[Rb.de,Rb.azW,Rb.take,aw a],by omega⟩
def lG(h:(r.azW U).2.bad=G):∃w,Y w=U/\(r.azW U).1=iL w/\r.b=w++(r.azW U).2.b:=by have:=(hZ h).2.2;simp only[Rb.azW,Rb.take];rw[aw (by omega)];exact⟨r.b.take U,by simp;omega,rfl,by simp⟩
def Ra(h:r.bad=θ):(r.take U).2.bad=θ:=by simp only[Rb.take];split<;>simp[h]
def pC(h:r.azX.2.bad=G):r.bad=G/\r.mc=r.azX:=by
 simp only[Rb.azX]at h |-;by_cases c:(Y (r.azW 4).2.b:Int)<(r.azW 4).1;.rw[aQ c]at h;simp at h
 rw[aw c]at h |-;have a:(r.azW 4).2.bad=G:=by cases a:(r.azW 4).2.bad with|false=>rfl|true=>rw[Ra a]at h;simp at h
 obtain⟨e,d,f⟩:=hZ a;refine⟨e,?_⟩;simp only[Rb.mc,d,a,aP,pW];rw[aw c];simp only[Rb.take];rw[aw (by omega)];simp[a]
def vh(h:r.mc.2.bad=G):r.bad=G/\r.mc=r.azX:=by
 have e:=h;simp only[Rb.mc]at h;by_cases a:(r.de 4).2.bad=θ\/(Y (r.de 4).2.b:Int)<(r.de 4).1;.rw[aQ a]at h;simp at h
 rw[aw a]at h;obtain⟨d,c,f⟩:=lD h;refine⟨d,?_⟩;simp only[Bb]at a;simp only[Rb.mc];rw[aw (by simp only[Bb];exact a)];simp only[Rb.azX];rw[c]at a |-;rw[aw a.2];simp only[Rb.take];rw[aw (by omega)]
def vd(h:r.azX.2.bad=G):r.b=fH r.azX.1++r.azX.2.b:=by
 simp only[Rb.azX]at h |-
 by_cases i:(Y (r.azW 4).2.b:Int)<(r.azW 4).1
 .rw[aQ i]at h;simp at h
 .rw[aw i]at h |-
  have f:(r.azW 4).2.bad=G:=by
   cases f:(r.azW 4).2.bad with
   |false=>rfl
   |true=>rw[Ra f]at h;simp at h
  obtain⟨w,j,g,k⟩:=lG f
  match w,j with
  |[a,b,c,d],_ =>
   have l:0<=(r.azW 4).1:=by
    rw[g];simp only[iL,bH,ja];have:=a.toNat_lt;omega
   have m:(r.azW 4).1.toNat<=Y (r.azW 4).2.b:=by omega
   simp only[Rb.take];rw[aw (by omega)];simp only[fH]
   have e:((Y ((r.azW 4).2.b.take (r.azW 4).1.toNat):Nat):Int)=(r.azW 4).1:=by
    rw[bj];omega
   rw[e]
   conv=>rhs;rw[g,V0]
   conv=>lhs;rw[k]
   rw[<- g];simp
def tu(h:r.aAl.2.bad=G):r.bad=G/\r.kp=r.aAl:=by simp only[Rb.aAl,kn]at h |-;obtain⟨b,a⟩:=pC h.1;exact⟨b,by simp only[Rb.kp,a]⟩
def zZ(h:r.kp.2.bad=G):r.bad=G/\r.kp=r.aAl:=by simp only[Rb.kp,kn]at h;obtain⟨b,a⟩:=vh h.1;exact⟨b,by simp only[Rb.kp,Rb.aAl,a]⟩
def AT(h:r.aAl.2.bad=G):r.b=fH (aAh r.aAl.1).1++r.aAl.2.b:=by simp only[Rb.aAl,kn,BP]at h |-;rw[(Er h.2).2.1];exact vd h.1
def tQ:∀(n:Nat) (r:Rb),(Rb.az8 n r).2.bad=G->r.bad=G:=by intro n;induction n with|zero=>intro r h;exact h|succ n ih=>intro r h;exact(hZ (ih _ h)).1
def PD:∀(n:Nat) (r:Rb),(Rb.az8 n r).2.bad=G->Rb.jn n r=Rb.az8 n r:=by intro n;induction n with|zero=>intro r h;rfl|succ n ih =>intro r h;have a:=tQ _ _ h;simp only[Rb.az8]at h;have g:=hZ (tQ _ _ h);simp only[Rb.jn,Rb.az8,a,aP,bw,g.2.1,ih _ h]
def yx:∀(n:Nat) (r:Rb),(Rb.jn n r).2.bad=G->r.bad=G:=by
 intro n;induction n with
 |zero=>intro r h;exact h
 |succ n ih =>intro r h;cases a:r.bad with|false=>rfl|true=>simp only[Rb.jn,a,aU]at h;simp at h
def Lo:∀(n:Nat) (r:Rb),(Rb.jn n r).2.bad=G->Rb.jn n r=Rb.az8 n r:=by intro n;induction n with|zero=>intro r h;rfl|succ n ih =>intro r h;have a:=yx _ _ h;simp only[Rb.jn,a,aP,bw]at h;have g:=lD (yx _ _ h);have e:=ih _ h;simp only[Rb.jn,Rb.az8,a,aP,bw];rw[e,g.2.1]
def Ly:∀(n:Nat) (r:Rb),(Rb.az8 n r).2.bad=G->Y (Rb.az8 n r).1=n/\r.b=(Rb.az8 n r).1.flatMap wm++(Rb.az8 n r).2.b:=by
 intro n
 induction n with
 |zero=>intro r h;exact⟨rfl,rfl⟩
 |succ n ih =>
  intro r h;simp only[Rb.az8]at h |-;obtain⟨e,f⟩:=ih _ h;obtain⟨w,c,g,d⟩:=lG (tQ _ _ h)
  match w,c with
  |[a,b],_ =>
   refine⟨by simp[e],?_⟩;simp only[fK]
   conv=>rhs;rw[g,aeK]
   conv=>lhs;rw[d,f]
   simp
def Wv{b:aR}(h:(rB b).2.bad=G\/((kt b).2.2.bad=G/\(kt b).2.1=1)):rB b=((kt b).1,(kt b).2.2)/\(kt b).2.1=1/\(kt b).2.2.bad=G:=by
 rcases h with h|⟨h,g⟩
 .simp only[rB]at h;have j:∀(v k t f m c:Int×Rb) (s:bU×Rb) (src:List It×Rb) (i n:aR×Rb),
    v=(Rb.mk b G).de 1->k=(Rb.mk v.2.b (v.1 != 1)).de 1->t=k.2.de 4->f=t.2.de 1->m=f.2.de 2->c=m.2.de 1->s=Rb.jn c.1.toNat c.2->src=s.2.kp->i=src.2.mc->n=i.2.mc->n.2.bad=G ->
    v=(Rb.mk b G).azW 1/\v.1=1/\k=v.2.azW 1/\t=k.2.azW 4/\f=t.2.azW 1/\m=f.2.azW 2/\c=m.2.azW 1/\s=Rb.az8 c.1.toNat c.2/\src=s.2.aAl/\i=src.2.azX/\n=i.2.azX:=by
   intro v k t f m c s src i n ev u z A y w r a d e hb;obtain⟨D,P⟩:=vh (e▸hb);obtain⟨b9,g9⟩:=vh (d▸D);obtain⟨X,g8⟩:=zZ (a▸b9);have b7:=yx _ _ (r▸X);have g7:=Lo _ _ (r▸X);obtain⟨b6,g6,_⟩:=lD (w▸b7);obtain⟨b5,g5,_⟩:=lD (y▸b6);obtain⟨b4,g4,_⟩:=lD (A▸b5);obtain⟨b3,g3,_⟩:=lD (z▸b4);obtain⟨B,g2,_⟩:=lD (u▸b3);simp only[BP]at B;have b1:v.2.bad=G:=by
    rw[ev]at B |-;simp only[Rb.de]at B |-;split;.rename_i h;rw[aQ h]at B;simp at B
    rfl
   have U:(Rb.mk v.2.b (v.1 != 1))=v.2:=by
    have:(v.1 != 1)=G:=by simpa using B
    rw[this,<- b1]
   have g1:=(lD (ev▸b1)).2.1;rw[U]at u g2;exact⟨ev.trans g1,B,u.trans g2,z.trans g3,A.trans g4,y.trans g5,w.trans g6,r.trans g7,a.trans g8,d.trans g9,e.trans P⟩
  simp only[rB,kt];generalize ev:(Rb.mk b G).de 1=v at h |-;generalize u:(Rb.mk v.2.b (v.1 != 1)).de 1=k at h |-;generalize z:k.2.de 4=t at h |-;generalize A:t.2.de 1=f at h |-;generalize y:f.2.de 2=m at h |-;generalize w:m.2.de 1=c at h |-;generalize r:Rb.jn c.1.toNat c.2=s at h |-;generalize a:s.2.kp=src at h |-;generalize d:src.2.mc=i at h |-;generalize e:i.2.mc=n at h |-;by_cases p:k.1=1;.rw[aQ p]at h;simp only at h;obtain⟨M,o,_⟩:=lD h;obtain⟨N,q,_⟩:=lD M;obtain⟨E,x⟩:=vh N;obtain⟨J,C⟩:=vh E;obtain⟨O,K⟩:=zZ J;obtain⟨R,U,H,L,W,Q,I,V,T,F,l⟩:=j v k t f m c s src i n ev.symm u.symm z.symm A.symm y.symm w.symm r.symm a.symm d.symm e.symm O;rw[<- R,<- H,<- L,<- W,<- Q,<- I,<- V,<- T,<- F,<- l,aQ p,aQ p];rw[K]at h C x q o |-;rw[C]at h x q o |-;rw[x]at h q o |-;rw[q]at h o |-;rw[o]at h |-;exact⟨by dsimp only,U,by dsimp only;exact h⟩
  rw[aw p]at h;simp only at h;obtain⟨R,U,H,L,W,Q,I,V,T,F,l⟩:=j v k t f m c s src i n ev.symm u.symm z.symm A.symm y.symm w.symm r.symm a.symm d.symm e.symm h;rw[<- R,<- H,<- L,<- W,<- Q,<- I,<- V,<- T,<- F,<- l,aw p,aw p];exact⟨by dsimp only,U,by dsimp only;exact h⟩
 simp only[kt]at h g;simp only[rB,kt];have j:∀(v k t f m c:Int×Rb) (s:bU×Rb) (src:List It×Rb) (i n:aR×Rb),
   v=(Rb.mk b G).azW 1->k=v.2.azW 1->t=k.2.azW 4->f=t.2.azW 1->m=f.2.azW 2->c=m.2.azW 1->s=Rb.az8 c.1.toNat c.2->src=s.2.aAl->i=src.2.azX->n=i.2.azX->n.2.bad=G->v.1=1 ->
   (Rb.mk b G).de 1=v/\(Rb.mk v.2.b (v.1 != 1)).de 1=k/\k.2.de 4=t/\t.2.de 1=f/\f.2.de 2=m/\m.2.de 1=c/\Rb.jn c.1.toNat c.2=s/\s.2.kp=src/\src.2.mc=i/\i.2.mc=n:=by
  intro v k t f m c s src i n ev u z A y w r a d e hb g;obtain⟨D,P⟩:=pC (e▸hb);obtain⟨b9,g9⟩:=pC (d▸D);obtain⟨X,g8⟩:=tu (a▸b9);have b7:=tQ _ _ (r▸X);have g7:=PD _ _ (r▸X);obtain⟨b6,g6,_⟩:=hZ (w▸b7);obtain⟨b5,g5,_⟩:=hZ (y▸b6);obtain⟨b4,g4,_⟩:=hZ (A▸b5);obtain⟨b3,g3,_⟩:=hZ (z▸b4);obtain⟨B,g2,_⟩:=hZ (u▸b3);have g1:=(hZ (ev▸B)).2.1;have U:(Rb.mk v.2.b (v.1 != 1))=v.2:=by
   have:(v.1 != 1)=G:=by rw[g];rfl
   rw[this,<- B]
  rw[U];exact⟨g1.trans ev.symm,g2.trans u.symm,g3.trans z.symm,g4.trans A.symm,g5.trans y.symm,g6.trans w.symm,g7.trans r.symm,g8.trans a.symm,g9.trans d.symm,P.trans e.symm⟩
 generalize ev:(Rb.mk b G).azW 1=v at h g |-;generalize u:v.2.azW 1=k at h g |-;generalize z:k.2.azW 4=t at h g |-;generalize A:t.2.azW 1=f at h g |-;generalize y:f.2.azW 2=m at h g |-;generalize w:m.2.azW 1=c at h g |-;generalize r:Rb.az8 c.1.toNat c.2=s at h g |-;generalize a:s.2.aAl=src at h g |-;generalize d:src.2.azX=i at h g |-;generalize e:i.2.azX=n at h g |-;by_cases p:k.1=1;.rw[aQ p]at h g;simp only at h g;obtain⟨M,o,_⟩:=hZ h;obtain⟨N,q,_⟩:=hZ M;obtain⟨E,x⟩:=pC N;obtain⟨J,C⟩:=pC E;obtain⟨O,K⟩:=tu J;obtain⟨R,H,L,W,Q,I,V,T,F,l⟩:=j v k t f m c s src i n ev.symm u.symm z.symm A.symm y.symm w.symm r.symm a.symm d.symm e.symm O g;rw[R,H,L,W,Q,I,V,T,F,l,aQ p,aQ p];refine⟨?_,by dsimp only;exact g,by dsimp only;exact h⟩;dsimp only;rw[K,C,x,q,o]
 rw[aw p]at h g;simp only at h g;obtain⟨R,H,L,W,Q,I,V,T,F,l⟩:=j v k t f m c s src i n ev.symm u.symm z.symm A.symm y.symm w.symm r.symm a.symm d.symm e.symm h g;rw[R,H,L,W,Q,I,V,T,F,l,aw p,aw p];exact⟨by dsimp only,by dsimp only;exact g,by dsimp only;exact h⟩
def UC{b:aR}(h:(kt b).2.2.bad=G)(e:(kt b).2.1=1)(g:(kt b).1.azT=1\/(kt b).1.azT=2):b=dJ (kt b).1++(kt b).2.2.b:=by
 simp only[kt]at h e g |-
 have n:∀(v k t f m c:Int×Rb) (s:bU×Rb) (src:List It×Rb) (o l:aR×Rb),
   (Rb.mk b G).azW 1=v->v.2.azW 1=k->k.2.azW 4=t->t.2.azW 1=f->f.2.azW 2=m->m.2.azW 1=c->Rb.az8 c.1.toNat c.2=s->s.2.aAl=src->src.2.azX=o->o.2.azX=l->l.2.bad=G->v.1=1 ->
   b=[1,ll k.1]++(G4 t.1++([ll f.1]++(wm m.1++([ll (Y s.1)]++(s.1.flatMap wm++(fH (aAh src.1).1++(fH o.1++(fH l.1++l.2.b)))))))):=by
  intro v k t f m c s src o l ev z w x r y A d i j hb e;have F:=pC (j▸hb);have b9:=pC (i▸F.1);have b8:=tu (d▸b9.1);have b7:=tQ _ _ (A▸b8.1);have b6:=hZ (y▸b7);have b5:=hZ (r▸b6.1);have b4:=hZ (x▸b5.1);have b3:=hZ (w▸b4.1);have b2:=hZ (z▸b3.1);have J:=vd (j▸hb);have x9:=vd (i▸F.1);have x8:=AT (d▸b9.1);have X:=Ly _ _ (A▸b8.1);obtain⟨w6,l6,Q,x6⟩:=lG (y▸b7);obtain⟨w5,l5,y5,x5⟩:=lG (r▸b6.1);obtain⟨w4,l4,y4,x4⟩:=lG (x▸b5.1);obtain⟨w3,l3,y3,x3⟩:=lG (w▸b4.1);obtain⟨w2,l2,y2,x2⟩:=lG (z▸b3.1);obtain⟨w1,l1,y1,T⟩:=lG (ev▸b2.1);rw[j]at J;rw[i]at x9;rw[d]at x8;rw[A]at X;rw[y]at x6 Q;rw[r]at x5 y5;rw[x]at x4 y4;rw[w]at x3 y3;rw[z]at x2 y2;rw[ev]at T y1
  have e1:w1=[1]:=by
   match w1,l1 with
   |[a],_ =>
    rw[e]at y1;have:(a.toNat:Int)=1:=by simpa[iL]using y1.symm
    have:a=1:=rm.1 (by simp;omega);rw[this]
  have e2:w2=[ll k.1]:=by
   match w2,l2 with
   |[a],_=>rw[y2,QB]
  have e3:w3=G4 t.1:=by
   match w3,l3 with
   |[p,q,u,v],_=>rw[y3,V0]
  have e4:w4=[ll f.1]:=by
   match w4,l4 with
   |[a],_=>rw[y4,QB]
  have e5:w5=wm m.1:=by
   match w5,l5 with
   |[p,q],_=>rw[y5,aeK]
  have e6:w6=[ll (Y s.1)]:=by
   match w6,l6 with
   |[a],_ =>
    have h0:0<=c.1:=by rw[Q];simp[iL]
    have:((Y s.1:Nat):Int)=c.1:=by rw[X.1];omega
    rw[this,Q,QB]
  simp only at T
  conv=>lhs;rw[T,x2,x3,x4,x5,x6,X.2,x8,x9,J,e1,e2,e3,e4,e5,e6]
  simp
 generalize ev:(Rb.mk b G).azW 1=v at h e g |-;generalize z:v.2.azW 1=k at h e g |-;generalize w:k.2.azW 4=t at h e g |-;generalize x:t.2.azW 1=f at h e g |-;generalize r:f.2.azW 2=m at h e g |-;generalize y:m.2.azW 1=c at h e g |-;generalize A:Rb.az8 c.1.toNat c.2=s at h e g |-;generalize d:s.2.aAl=src at h e g |-;generalize i:src.2.azX=o at h e g |-;generalize j:o.2.azX=l at h e g |-
 by_cases K:k.1=1
 .rw[aQ K]at h e |-;simp only at h e |-;have B:=hZ h;have C:=hZ B.1;have H:=pC C.1;have I:=pC H.1;have ad:=tu I.1;have P:=n v k t f m c s src o l ev z w x r y A d i j ad.1 e;have M:=AT I.1;have af:=vd H.1;have ac:=vd C.1;obtain⟨D,N,O,U⟩:=lG B.1;obtain⟨E,W,V,L⟩:=lG h
  have am:D=G4 (l.2.aAl.2.azX.2.azX.2.azW 4).1:=by
   match D,N with
   |[p,q,u,v],_=>rw[O,V0]
  have R:E=[ll ((l.2.aAl.2.azX.2.azX.2.azW 4).2.azW 1).1]:=by
   match E,W with
   |[a],_=>rw[V,QB]
  simp only[dJ,aQ K]
  conv=>lhs;rw[P,M,af,ac,U,L,am,R]
  simp only[aO]
 .rw[aw K]at h e g |-;simp only at h e g |-;have P:=n v k t f m c s src o l ev z w x r y A d i j h e;simp only[dJ,aw K]
  conv=>lhs;rw[P]
  simp only[aO,ay,bI]
def UD(b:aR):Og b=decode b:=by
 simp only[Og,decode];by_cases a:(rB b).2.bad=θ
 .rw[aQ (.inl a)];by_cases h:(kt b).2.2.bad=θ\/0<Y (kt b).2.2.b\/(kt b).2.1≠1;.rw[aQ h]
  simp only[Bb]at h;have:=Wv (b:=b) (.inr ⟨by simpa using h.1,by simpa using h.2.2⟩);rw[this.1]at a;exact absurd a h.1
 have a:(rB b).2.bad=G:=by simpa using a
 obtain⟨e,j,i⟩:=Wv (.inl a);rw[e];simp only[i,j,aP,pW,gA,gu,mZ];by_cases d:0<Y (kt b).2.2.b;.rw[aQ (.inl d),aQ d]
 rw[aw d];by_cases c:fc (kt b).1=0
 .have g:=UC i j (tO c).azT;have k:(kt b).2.2.b=[]:=by simpa using d
  rw[k,bI]at g;have f:az6 (kt b).1=(b,0):=by simp only[az6,c,gA,gu,bw];rw[<- g]
  rw[f];simp[c,d]
 have f:(az6 (kt b).1).2≠0:=by simp only[az6,gA,c,fi,aU]
 rw[aQ (.inr c),aQ (.inl f)]
def jB{a:Type}(q:a->a->Bool):a->List a->List a|_,[]=>[]|p,y::r=>if q y p then jB q y r else y::jB q y r
def ot{a:Type}(q:a->a->Bool):List a->List a|[]=>[]|x::r=>x::jB q x r
def aei{a:Type}(q:a->a->Bool)(l:List a):∀p,Y (jB q p l)<=Y l:=by induction l with|nil=>intro p;simp[jB]|cons y r ih=>intro p;have:=ih y;simp only[jB];split<;>simp<;>omega
def acC{a:Type}(q:a->a->Bool){x:a}(l:List a):∀p,x∈jB q p l->x∈l:=by
 induction l with
 |nil=>intro p h;simp[jB]at h
 |cons y r ih =>
 intro p h;simp only[jB]at h;split at h;.exact bJ _ (ih y h)
 rcases bd.1 h with rfl|h;.exact cU ..
 exact bJ _ (ih y h)
def PL{a:Type}{q:a->a->Bool}{x:a}{l:List a}(h:x∈ot q l):x∈l:=by
 cases l with
 |nil=>simp[ot]at h
 |cons y r =>
 rcases bd.1 h with rfl|h;.exact cU ..
 exact bJ _ (acC q r y h)
def Qu{a:Type}(q:a->a->Bool)(l:List a):Y (ot q l)<=Y l:=by cases l with|nil=>simp[ot]|cons y r=>have:=aei q r y;simp[ot];omega
def Yy{d:Type}(c a b:List d)(p y:d):(c++(a++p::y::b)).set c.length y=(c++[y])++((a++[p]).tail++y::b):=by rw[dX _ _ (aM _),iP];cases a<;>simp
def aiD{d:Type}(b a c:List d)(p:d):(b++(a++p::c))[Y b+Y a]?=some p:=by rw[<- List.append_assoc,bn (by simp)];simp
def aiE{d:Type}(b a c:List d)(p y:d):(b++(a++p::y::c))[Y b+Y a+1]?=some y:=by rw[<- List.append_assoc,bn (by simp)];simp
def Au{x y:aV}(d:fc x=0)(e:fc y=0)(i:x.azU)(f:y.azU)(h:iq x y=0):x=y:=by
 have b:=congrFun (congrFun Bp x) y;rw[h]at b;have g:jN (az6 x).1 (az6 y).1=0:=by simp only[vL]at b;(repeat' split at b)<;>omega
 have a:=oS.1 g;rw[Ky d,Ky e]at a;have c:=yU i d;have a:dJ x=dJ y:=a;rw[a,yU f e]at c;exact(congrArg Prod.fst c).symm
def qf:List aV:=l.mergeSort λa b=>decide (iq a b<=0)
def cI:List aV:=X.flatMap bO.azS
def ff:List aV:=ot (λa b=>iq a b==0) (qf (cI X))
def zT:(qf l).Pairwise λx y=>¬iq y x<0:=by have:=asS (le:=λa b=>decide (iq a b<=0)) (λa b c e i=>by simp only[bE]at *;have d:=lu.mY a b;have f:=lu.mY b c;have j:=lu.mY a c;have g:=lu.trans c b a (by omega) (by omega);omega) (λa b=>by have d:=lu.mY a b;simp only[iR,bE];omega) l;refine this.imp λ{a b} h=>?_;have d:=lu.mY a b;simp only[bE]at h;omega
def yu{l c:List aV}(e:∀x∈l,fc x=0/\x.azU)(hp:c.Perm l)(i:c.Pairwise λx y=>¬iq y x<0):c=qf l:=by have k:=zT l;have d:(qf l).Perm l:=uq ..;refine List.Perm.eq_of_pairwise (λa b j h x y=>?_) i k (hp.trans d.symm);have g:=e a (hp.mem_iff.1 j);have f:=e b (d.mem_iff.1 h);have m:=lu.mY a b;exact Au g.1 f.1 g.2 f.2 (by omega)
def u0{l:List aV}:Q∈qf l<->Q∈l:=(uq ..).mem_iff
def Ml:Y (qf l)=Y l:=(uq ..).length_eq
def U0(h:Q∈ff T):∃o∈T,Q∈o.azS:=by have:=u0.1 (PL h);simpa[cI]using this
def U8:Y (ff X)<=Y (cI X):=by have:=Qu (λa b=>iq a b==0) (qf (cI X));rw[Ml]at this;exact this
def wa{m:Nat}(h:∀o∈T,Y o.azS<=m):Y (cI T)<=Y T*m:=by induction T with|nil=>simp[cI]|cons o r ih =>have b:=ih λo a=>h o (bJ _ a);have c:=h o (cU ..);simp only[cI,fK,ah,ae,dK,jL]at *;omega
structure eK where
 o6:bO->Prop
 ok:aV->Prop
 fR:bO->bO×Int
 fV:bO->aV->bO×Int
 fS:bO->bO×Int
 azS:∀o,o6 o->∀x∈o.azS,ok x
 val:∀x,ok x->fc x=0/\x.azU
 sml:∀o,o6 o->o.azU
 len:∀o,o6 o->o.azS.length<=2^16
 gR:∀o,o6 o->(fR o).2=0->o6 (fR o).1
 gV:∀o x,o6 o->ok x->(fV o x).2=0->o6 (fV o x).1
 gS:∀o,o6 o->(fS o).2=0->o6 (fS o).1
def dv(p:bO×Int)(o:bO):bO:=if p.2=0 then p.1 else o
namespace eK
variable(U:eK)(R:List Let)(P:fb)(L:Nat)(Q:List aV)(X:List bO){T:List bO}{i:Nat}{M:aV}{E:eK}
def up:List bO:=X.map λo=>dv (U.fR o) o
def sync:List bO:=X.map λo=>dv (U.fS o) o
def nN(i:Nat)(x:aV):List bO :=
 match X[i]? with|some o=>if(U.fV o x).2=0 then X.set i (U.fV o x).1 else X|none=>X
def mT:List bO:=Q.foldl (λo x=>U.nN o L x) X
def ax:List bO:=R.foldl (λo x=>U.nN o x.dst.toNat x.op) X
def all:List bO:=P.foldl (λo i=>U.mT i (ff o) o) X
def settle(n:Net):List bO:=U.sync (U.all (List.range (Y n.an)) (U.ax n.ax (U.up n.an)))
def jj:Prop:=∀o∈X,U.o6 o
def pH{o:bO}{p:bO×Int}(h:E.o6 o)(hp:p.2=0->E.o6 p.1):E.o6 (dv p o):=by
 unfold dv;split;.exact hp ‹_›
 exact h
def Dm(h:E.jj T):E.jj (E.up T):=by intro o c;obtain⟨a,b,rfl⟩:=cv.1 c;exact pH (h a b) (E.gR a (h a b))
def re{i:Nat}(h:E.jj T)(c:E.ok M):E.jj (E.nN T i M):=by
 unfold nN;split
 .rename_i o e;have d:=h o (aS e);split
  .rename_i b;intro y a;rcases EH a with a|rfl;.exact h y a
   exact E.gV o M d c b
  exact h
 exact h
def Ej:Y (E.nN T i M)=Y T:=by
 unfold nN;split;.split<;>simp
 rfl
def Kh:∀{a:List bO},E.jj a->(∀x∈Q,E.ok x)->E.jj (E.mT i Q a):=by induction Q with|nil=>intro a h _;exact h|cons x r ih=>intro a h b;exact ih (re h (b x (cU ..))) λy c=>b y (bJ _ c)
def Ng:∀{a:List bO},Y (E.mT i Q a)=Y a:=by induction Q with|nil=>intro a;rfl|cons x r ih=>intro a;exact ih.trans Ej
def JN(h:E.jj T)(a:M∈ff T):E.ok M:=by obtain⟨o,b,a⟩:=U0 a;exact E.azS o (h o b) M a
def rW:∀{a:List bO},E.jj a->(∀x∈R,E.ok x.op)->E.jj (E.ax R a):=by induction R with|nil=>intro a h _;exact h|cons x r ih=>intro a h b;exact ih (re h (b x (cU ..))) λy c=>b y (bJ _ c)
def nq:∀{a:List bO},Y (E.ax R a)=Y a:=by induction R with|nil=>intro a;rfl|cons x r ih=>intro a;exact ih.trans Ej
def aeP:∀{a:List bO},E.jj a->E.jj (E.all P a):=by induction P with|nil=>intro a h;exact h|cons i r ih=>intro a h;exact ih (Kh _ h λx b=>JN h b)
def aiI:∀{a:List bO},Y (E.all P a)=Y a:=by induction P with|nil=>intro a;rfl|cons i r ih=>intro a;exact ih.trans (Ng _)
end eK
variable(i:Int)(Q:Net)(P:gh)(X:Int×Int)(l:List aV)(o:bO)(M:Int×Int){c:Int}{p R:Int×Int}{T:List aV}{U:gh}
def uw:Bool:=decide (X.1<M.1)||(decide (X.1=M.1)&&decide (X.2<M.2))
def aap:Int:=wj [gJ X.1 M.1,gJ X.2 M.2]
abbrev wc:Prop:=P.Pairwise λa b=>uw a b=θ
def BI:uw p R=θ<->p.1<R.1\/(p.1=R.1/\p.2<R.2):=by simp[uw]
def Tx:aap p R<0<->uw p R=θ:=by rw[BI];simp only[aap,wj,gJ];(repeat' split)<;>omega
def aao:aap p R=0<->p=R:=by obtain⟨a,c⟩:=p;obtain⟨d,b⟩:=R;rw[bm];simp only[aap,wj,gJ];(repeat' split)<;>omega
def FC:uw X X=G:=by simp[uw]
def fL:Nat:=Y (P.takeWhile λc=>uw c X)
def FA:fL P X<=Y P:=K4 (KY _)
def wT(h:wc U)(p:Int×Int):∀(k:Nat) (y:Int×Int),U[k]?=some y->(uw y p=θ<->k<fL U p):=by
 induction U with
 |nil=>intro k y h;simp at h
 |cons a U ih =>
 replace h:=cy.1 h;intro k y b;by_cases c:uw a p=θ
 .have e:fL (a::U) p=fL U p+1:=by simp[fL,ft,c]
  cases k with|zero=>simp only[aC,ab]at b;subst b;rw[e];simp[c]|succ k =>have:=ih h.2 k y (by simpa using b);rw[this,e];omega
 have e:fL (a::U) p=0:=by simp[fL,ft,c]
 rw[e];refine⟨λd=>?_,λh=>by omega⟩;cases k with|zero=>simp only[aC,ab]at b;subst b;exact absurd d c|succ k =>have f:=h.1 y (aS (by simpa using b));rw[BI]at c d f;omega
def FB(h:wc U){p:Int×Int}:p∈U<->U[fL U p]?=some p:=by
 refine⟨λhp=>?_,aS⟩;obtain⟨k,a⟩:=cm.1 hp;have b:=wT h p k p a;rw[FC]at b;have b:¬k<fL U p:=λh=>by have:=b.2 h;cases this
 have d:=(ag.1 a).1;have e:fL U p=k:=by
  refine cp λj=>?_;have g:U[fL U p]?=some U[fL U p]:=aD (by omega);have f:=wT h p _ _ g;have c:=iC.1 h (fL U p) k (by omega) d (by omega);have i:U[k]=p:=by rw[aD d]at a;simpa using a
  rw[i]at c;have:=f.1 c;omega
 rw[e];exact a
def aag(h:wc U)(hp:p∈U):U=U.take (fL U p)++p::U.drop (fL U p+1):=by
 obtain⟨a,e⟩:=ag.1 ((FB h).1 hp)
 conv=>lhs;rw[<- List.take_append_drop (fL U p) U,gG a,e]
def aiw(h:wc U)(hp:p∈U):U.filter (λc=>!(c==p))=U.take (fL U p)++U.drop (fL U p+1):=by
 have e:=aag h hp
 have j:∀c∈U.take (fL U p)++U.drop (fL U p+1),(!(c==p))=θ:=by
  rw[e]at h;have d:=iG.1 h;have g:=cy.1 d.2.1;intro c a
  have i:c≠p:=by
   rcases bW.1 a with a|a
   .intro b;have:=d.2.2 c a p (cU ..);rw[b,FC]at this;cases this
   .intro b;have:=g.1 c a;rw[b,FC]at this;cases this
  simpa using i
 have f:U.filter (λc=>!(c==p))=(U.take (fL U p)++U.drop (fL U p+1)).filter (λc=>!(c==p)):=by
  conv=>lhs;rw[e]
  rw[jv,jv,qc (by simp)]
 rw[f,List.filter_eq_self.2 j]
def Qn(h:wc U)(k:Nat):wc (U.take k++U.drop (k+1)):=by
 refine h.sublist ?_
 conv=>rhs;rw[<- List.take_append_drop k U]
 refine List.Sublist.append (List.Sublist.refl _) ?_;rw[<- List.drop_drop];exact aaI _ _
def Qm(h:wc U)(hp:p ∉ U):wc (U.take (fL U p)++p::U.drop (fL U p)):=by
 have i:=wT h p;refine iG.2 ?_;rw[cy];refine⟨h.sublist (aaG _ _),⟨λy j=>?_,h.sublist (aaI _ _)⟩,λa l b f=>?_⟩
 .obtain⟨k,c⟩:=cm.1 j;rw[ei]at c;have d:¬uw y p=θ:=λd=>by have:=(i _ y c).1 d;omega
  have g:y≠p:=λe=>hp (e▸eO j);rw[BI]at d |-;obtain⟨y1,o⟩:=y;obtain⟨n,m⟩:=p;simp only[gA,bm]at d g |-;omega
 have d:uw a p=θ:=by
  obtain⟨k,c⟩:=cm.1 l;rw[fZ]at c;split at c;.exact(i k a c).2 (by assumption)
  cases c
 rcases bd.1 f with rfl|f;.exact d
 obtain⟨k,c⟩:=cm.1 f;rw[ei]at c;have g:¬uw b p=θ:=λd=>by have:=(i _ b c).1 d;omega
 rw[BI]at d g |-;omega
def wq(e:Ev):Net×Int :=if e.azT=8 then(if gj e.a e.b∈Q.cw then(⟨Q.an,Q.ax,Q.cw.take (fL Q.cw (gj e.a e.b))++Q.cw.drop (fL Q.cw (gj e.a e.b)+1)⟩,0)else(Net.zero,6))
 else if e.a=e.b then(Net.zero,1)else if gj e.a e.b∈Q.cw then(Net.zero,5)
 else(⟨Q.an,Q.ax,Q.cw.take (fL Q.cw (gj e.a e.b))++gj e.a e.b::Q.cw.drop (fL Q.cw (gj e.a e.b))⟩,0)
def lB(i j:Int)(a b:Bool)(l:List aV):Net×Int :=if i=j then(Net.zero,1)else if(a||b)=θ then(Net.zero,15)else if mO Q i j=θ then(Net.zero,8)
 else if Q.ax.length+Y l<=256 then(⟨Q.an,Q.ax++l.map (λx=>⟨i,j,x⟩),Q.cw⟩,0)else(Net.zero,3)
def ji(a:Int)(k:Nat)(x:Let)(c:bO)(b:Int):Net×Int :=if a=6 then(if Q.ax.length=256 then(Net.zero,3)else(⟨Q.an,Q.ax++[x],Q.cw⟩,0))
 else if a=5 then(⟨Q.an,Q.ax.take k++Q.ax.drop (k+1),Q.cw⟩,0)
 else if mO Q x.src x.dst=θ then(Net.zero,8)else if b=0 then(⟨Q.an.set x.dst.toNat c,Q.ax.take k++Q.ax.drop (k+1),Q.cw⟩,0)else(Net.zero,b)
structure Pl (m:Int) (W:List aV):Prop where
 op:∀x∈W,V6 x
 off:∀x∈W,x.aY.bS<m
 one:W.Pairwise λa b=>dH a b≠0
 time:∀x∈W,x.aY.time<=W.length
 len:W.length<=100
structure Kn (W:List aV) (n:Int) (arr:List aV):Prop where
 base:HD n arr
 sub:∀x∈arr,x∈W
 own:∀x∈W,x.aY.bS=n->x∈arr
def UpO:Prop:=∃k,k<=l.length/\(∀x∈l.drop k,x.aY.bS≠i)/\o=gL i l k
def DnO:Prop:=∃a,kx a=0/\Y (iA l++a)<=2000800/\o=sE i l a
def GO(W:List aV)(n:Int)(o:bO):Prop:=∃arr,Kn W n arr/\(UpO n arr o\/DnO n arr o)
def afO{W:List aV}(h:W.Pairwise λa b=>dH a b≠0):∀x∈W,∀y∈W,dH x y=0->x=y:=by
 induction W with
 |nil=>intro x d;cases d
 |cons a r ih =>
 replace h:=cy.1 h;intro x d y c e;rcases bd.1 d with rfl|d
 .rcases bd.1 c with rfl|c;.rfl
  exact absurd e (h.1 y c)
 rcases bd.1 c with rfl|c;.exact absurd (Jq e) (h.1 _ ‹_›)
 exact ih h.2 x d y c e
def xL(h:T.Pairwise λa b=>dH a b≠0):T.Nodup:=h.imp λ{a b} sY e=>sY (by subst e;exact pj _)
def Pl.uniq{W:List aV}(h:Pl c W){x y:aV}(b:x∈W)(d:y∈W)(a:dH x y=0):x=y:=afO h.one x b y d a
def aas(h0:0<=c)(h:∀x∈T,x.aY.time<=c):kj T<=c:=by
 have b:∀(T:List aV) (d:Int),d<=c->(∀x∈T,x.aY.time<=c)->T.foldl CV d<=c:=by intro T;induction T with|nil=>intro d e _;exact e|cons a r ih =>intro d e h;have g:=h a (cU ..);have i:=PM d a;exact ih _ (by omega) λx f=>h x (bJ _ f)
 exact b T 0 h0 h
namespace Kn
variable {W arr:List aV} {n m:Int} {x:aV}
def len(h:Kn W n arr):Y arr<=Y W:=q8 (xL h.base.one) h.sub
def clk(h:Kn W n arr)(hp:Pl m W):kj arr<=Y W:=aas (by omega) λx a=>hp.time x (h.sub x a)
def fresh(h:Kn W n arr)(e:x.aY.bS=n)(d:x.aY.azW=su n arr+1):∀y∈W,dH y x≠0:=λy b a=>by have a:=jr.1 a;have c:=h.own y b (by omega);have:=(h.base.acb (su n arr)).1 ⟨y,c,by omega,by omega⟩;omega
def make(h:Kn W n arr)(d:V6 x)(b:x.aY.bS=n)(c:x.aY.azW=su n arr+1):Kn (W++[x]) n (arr++[x]):=by
 refine⟨h.base.Ip d b c,λy a=>?_,λy a e=>?_⟩
 .rcases bW.1 a with a|a;.exact fv _ (h.sub y a)
  exact mE _ a
 rcases bW.1 a with a|a;.exact fv _ (h.own y a e)
 exact mE _ a
def other(h:Kn W n arr)(b:x.aY.bS≠n):Kn (W++[x]) n arr:=by
 refine⟨h.base,λy a=>fv _ (h.sub y a),λy a e=>?_⟩;rcases bW.1 a with a|a;.exact h.own y a e
 rw[dn.1 a]at e;exact absurd e b
def arT(h:Kn W n arr)(hp:Pl m W)(b:x∈W)(d:x ∉ arr):x.aY.bS≠n/\(∀y∈arr,dH y x≠0)/\Kn W n (arr++[x]):=by
 have c:x.aY.bS≠n:=λe=>d (h.own x b e);have f:∀y∈arr,dH y x≠0:=λy a g=>d (hp.uniq (h.sub y a) b g▸a);refine⟨c,f,h.base.Iq (hp.op x b) c f,λy a=>?_,λy a e=>fv _ (h.own y a e)⟩;rcases bW.1 a with a|a;.exact h.sub y a
 rw[dn.1 a];exact b
def take(h:Kn W n arr)(j:Nat)(c:∀x∈arr.drop j,x.aY.bS≠n):Kn W n (arr.take j):=by
 refine⟨h.base.take j,λy b=>h.sub y (dY b),λy b e=>?_⟩;have a:=h.own y b e;rw[<- List.take_append_drop j arr]at a;rcases bW.1 a with a|a;.exact a
 exact absurd e (c y a)
end Kn
variable(T:List aV){X R:Int}{U:aV}{o:bO}
def Pl.snoc{W:List aV}(h:Pl X W)(e:V6 U)(b:U.aY.bS<X)(d:∀y∈W,dH y U≠0)(c:U.aY.time<=W.length+1)(f:W.length<100):Pl X (W++[U]):=by
 refine⟨λy a=>?_,λy a=>?_,DW.2 ⟨h.one,d⟩,λy a=>?_,by simp;omega⟩;all_goals rcases bW.1 a with a|a
 .exact h.op y a
 .rw[dn.1 a];exact e
 .exact h.off y a
 .rw[dn.1 a];exact b
 .have:=h.time y a;simp;omega
 rw[dn.1 a];simpa using c
def xg(k:Nat):Y (iA (T.take k))<=Y (iA T):=by
 have:iA T=iA (T.take k)++iA (T.drop k):=by rw[<- yc,fC]
 rw[this,ah];omega
def GO.num{W:List aV}(h:GO W X o):o.azW=X:=by obtain⟨arr,_,⟨k,_,_,rfl⟩|⟨a,_,_,rfl⟩⟩:=h<;>rfl
def GO.log{W:List aV}(hp:Pl X W)(h:GO W R o):Y o.log<=2000800/\0<=o.aAe/\o.aAe<=Y o.log:=by
 have e:=hp.len;obtain⟨arr,a,⟨k,c,b,rfl⟩|⟨d,c,b,rfl⟩⟩:=h;.have:=yb a.base.op;have:=a.len;have:=xg arr k;simp only[gL];omega
 simp only[sE];omega
def GO.azU{W:List aV}(hp:Pl X W)(h:GO W R o):o.azU:=by
 have f:=hp.len;have e:=h.log hp;obtain⟨arr,a,⟨k,c,b,rfl⟩|⟨d,c,b,rfl⟩⟩:=h;.exact wG a.base (by have:=a.len;omega)
 exact⟨by simp[sE],by simp[sE],by omega⟩
def GO.azS{W:List aV}{n:Int}(h:GO W n o):(∀x∈o.azS,x∈W)/\nW o.azS:=by
 obtain⟨arr,a,⟨k,c,b,rfl⟩|⟨e,c,b,rfl⟩⟩:=h;.exact⟨λx d=>a.sub x (dU.1 d),lr a.base.one⟩
 exact⟨by simp[sE],by simp[sE]⟩
def GO.other{W:List aV}(h:GO W X o)(b:U.aY.bS≠X):GO (W++[U]) X o:=by obtain⟨arr,c,a⟩:=h;exact⟨arr,c.other b,a⟩
def GO.recv{W:List aV}{m n:Int}(hp:Pl m W)(h:GO W n o)(r:o.down=G)(g:U∈W): GO W n (cQ o U)/\(cQ o U).down=G/\∀y,y∈(cQ o U).azS<->y=U\/y∈o.azS:=by
 obtain⟨arr,j,⟨k,f,l,rfl⟩|⟨s,f,l,rfl⟩⟩:=h
 .have p:(gL n arr k).azS.any (λy=>dH y U==0)=θ<->U∈arr:=by
   rw[dF];constructor;.rintro⟨y,d,q⟩;have d:=dU.1 d;exact hp.uniq (j.sub y d) g (by simpa using q)▸d
   exact λg=>⟨U,dU.2 g,by simp[pj]⟩
  by_cases i:U∈arr;.rw[cQ,aQ (p.2 i)];exact⟨⟨arr,j,.inl ⟨k,f,l,rfl⟩⟩,rfl,λy=>⟨.inr,λh=>h.elim (λe=>e▸dU.2 i) id⟩⟩
  rw[cQ,aw λh=>i (p.1 h)];obtain⟨a,b,c⟩:=j.arT hp g i;have e:=Zd (n:=n) f U;rw[show(gL n arr k).azS=ej arr from rfl,e];refine⟨⟨_,c,.inl ⟨k,by simp;omega,λy d=>?_,rfl⟩⟩,rfl,λy=>?_⟩
  .rw[na f]at d;rcases bW.1 d with d|d;.exact l y d
   rw[dn.1 d];exact a
  show y∈ej (arr++[U])<->_\/y∈ej arr;rw[dU,dU,bW,dn,or_comm]
 cases r
def GO.sync{W:List aV}(h:GO W X o)(b:o.down=G):GO W X { o with aAe:=Y o.log }:=by
 obtain⟨arr,c,⟨k,d,a,rfl⟩|⟨e,d,a,rfl⟩⟩:=h;.exact⟨arr,c,.inl ⟨Y arr,aM _,by simp,by simp[gL]⟩⟩
 cases b
end Go.Bt
namespace Go.Bt
open Go Go.Pm
variable(U:bO){X:List bO}{o:bO}
def Gs(W:List aV)(a:List bO):Prop:=∀(i:Nat) o,a[i]?=some o->GO W i o
def xk(a:List bO):Prop:=∀o∈a,o.down=G
def Gs.mem{W:List aV}(h:Gs W X)(a:o∈X):∃n:Int,GO W n o:=by obtain⟨i,b⟩:=cm.1 a;exact⟨i,h i o b⟩
def Gs.sub{W:List aV}(h:Gs W X):∀o∈X,∀x∈o.azS,x∈W:=λo b=>by obtain⟨n,a⟩:=h.mem b;exact a.azS.1
def Gs.set{W:List aV}(h:Gs W X){i:Nat}(c:GO W i o):Gs W (X.set i o):=by
 intro j a b;rw[jR]at b;split at b
 .rename_i e;split at b;.simp only[ab]at b;subst b e;exact c
  cases b
 exact h j a b
def xk.set(h:xk X){i:Nat}(c:o.down=G):xk (X.set i o):=by
 intro a b;rcases EH b with b|rfl;.exact h a b
 exact c
open Classical in
noncomputable def QF (W:List aV) (o:bO):bO×Int:=if h:∃arr,Kn W o.azW arr/\DnO o.azW arr o then(gL o.azW h.choose (Y h.choose),0)else(bO.zero,8)
def sP(x:aV):bO×Int:=if U.down then(bO.zero,15)else(cQ U x,0)
def tD:bO:={ U with aAe:=U.log.length }
def yq:bO×Int:=if U.down then(bO.zero,15)else(tD U,0)
def vi{W:List aV}{n:Int}(h:GO W n o):(o.down=G/\QF W o=(bO.zero,8))\/(o.down=θ/\∃arr,Kn W n arr/\DnO n arr o/\QF W o=(gL n arr (Y arr),0)):=by
 have f:=h.num;obtain⟨arr,e,⟨k,i,g,rfl⟩|c⟩:=h;.refine .inl ⟨rfl,?_⟩;rw[QF,dif_neg];rintro⟨a,_,d,_,_,h⟩;have:=congrArg bO.down h;cases this
 refine .inr ⟨by obtain⟨d,_,_,rfl⟩:=c;rfl,?_⟩;subst f;have b:∃arr,Kn W o.azW arr/\DnO o.azW arr o:=⟨arr,e,c⟩;exact⟨b.choose,b.choose_spec.1,b.choose_spec.2,by rw[QF,dif_pos b]⟩
def H7(n:Int)(arr:List aV):UpO n arr (gL n arr (Y arr)):=⟨Y arr,aM _,by simp,rfl⟩
section
variable {m:Int} {W:List aV} (hp:Pl m W)
def uI{n:Int}{o:bO}(h:GO W n o):GO W n (dv (QF W o) o)/\(dv (QF W o) o).down=G:=by
 rcases vi h with⟨a,e⟩|⟨_,arr,b,_,e⟩;.rw[e,dv,aw (by decide)];exact⟨h,a⟩
 rw[e,dv,aQ rfl];exact⟨⟨arr,b,.inl (H7 n arr)⟩,rfl⟩
end
def abm(o:aV):Nat:=Y o.azV.azZ+Y o.azV.az0+Y o.azV.cM+Y o.azV.next+Y o.az1+bo o.azV.azZ+bo o.azV.az0
def xP{s:aR}(h:aAa s=θ\/s=[]):Y s<=24:=by
 rcases h with h|rfl
 .unfold aAa at h;split at h;.simp at h
  simp only[aZ,bE]at h;exact h.1.1
 simp
def FT{f:List It}(h:dq f=0):cz [] f=0:=by
 simp only[dq]at h;split at h;.simp at h
 exact h
def abl{o:aV}(h:fc o=0)(f:abm o<320):Y (dJ o)<=20000:=by
 have F:=tO h;have k:=F.N5;simp only[abm]at f;have j:∀l:bU,Y (l.flatMap wm)=2*Y l:=by intro l;induction l with|nil=>rfl|cons a r ih=>simp only[fK,ah,iU,ih,ae];omega
 have i:(aAi o).azZ=o.azV.azZ:=by unfold aAi;split<;>rfl
 have b:=F.aAi;have c:=Es (FT (oo b).azZ);rw[i]at c;have g:o.azT=1->Y (aAh o.azV.az0).1<=4*bo o.azV.az0+30*Y o.azV.az0/\Y o.azV.eu<=24/\Y o.azV.dC<=24:=by
  intro d;have e:aAi o=o.azV:=by simp[aAi,d]
  rw[e]at b;exact⟨Es (FT (oo b).az0),xP (oo b).eu,xP (oo b).dC⟩
 simp only[dJ,fH,ah,gz,iU,ae,ai,j];split;.have:=g (by assumption);simp only[ah,gz,ae,ai];omega
 simp only[ai];omega
structure GN (m:Int) (W:List aV) (N:Nat) (n:Net):Prop where
 pl:Pl m W
 wl:W.length<=N
 gs:Gs W n.an
 len:(n.an.length:Int)=m
 m8:1<=m/\m<=8
 SA:∀x∈n.ax,(0<=x.dst/\x.dst<m)/\x.op∈W
 pT:n.ax.length<=256
 srt:wc n.cw
 um:n.cw.length<=N
namespace GN
variable {m:Int} {W:List aV} {N:Nat} {n:Net}
def ne(h:GN m W N n):n.an≠[]:=λe=>by have:=h.len;have:=h.m8;rw[e]at *;simp at *;omega
def azU(h:GN m W N n)(b:N<=100):n.azU where
 aK o ho:=by obtain⟨k,a⟩:=h.gs.mem ho;exact a.azU h.pl
 uE:=by have:=h.len;have:=h.m8;omega
 azS x hx:=(h.pl.op _ (h.SA x hx).2).azU
 pT:=by have:=h.pT;omega
 um:=by have:=h.um;omega
def mono(h:GN m W N n){M:Nat}(a:N<=M):GN m W M n:={ h with wl:=by have:=h.wl;omega,um:=by have:=h.um;omega }
def set(h:GN m W N n){i:Nat}{a:bO}(b:GO W i a):GN m W N ⟨n.an.set i a,n.ax,n.cw⟩ := { h with gs:=h.gs.set b,len:=by simpa using h.len }
def made(h:GN m W N n){i:Nat}{b:bO}{x:aV}(d:x.aY.bS=i)(hp:Pl m (W++[x]))(c:GO (W++[x]) i b):GN m (W++[x]) (N+1) ⟨n.an.set i b,n.ax,n.cw⟩ where
 pl:=hp
 wl:=by have:=h.wl;simp;omega
 gs:=by
  intro j o a;rw[jR]at a;split at a
  .rename_i e;split at a
   .simp only[ab]at a;subst a e;exact c
   .cases a
  .rename_i e;exact(h.gs j o a).other (by rw[d];omega)
 len:=by simpa using h.len
 m8:=h.m8
 SA y hy:=⟨(h.SA y hy).1,fv _ (h.SA y hy).2⟩
 pT:=h.pT
 srt:=h.srt
 um:=by have:=h.um;exact Nat.le_succ_of_le this
def azY(h:GN m W N n){l:List Let}(c:Y l<=256)(b:∀x∈l,x∈n.ax\/((0<=x.dst/\x.dst<m)/\x.op∈W)):GN m W N ⟨n.an,l,n.cw⟩ := { h with SA:=λx a=>(b x a).elim (h.SA x) id,pT:=c }
def drop(h:GN m W N n)(k:Nat):GN m W N ⟨n.an,n.ax.take k++n.ax.drop (k+1),n.cw⟩:=by
 refine h.azY ?_ λx a=>.inl ?_;.have:=h.pT;simp;omega
 rcases bW.1 a with a|a;.exact dY a
 exact eO a
def cut(h:GN m W N n)(e:Ev)(b:(wq n e).2=0):GN m W (N+1) (wq n e).1:=by
 have a:∀c,wc c->Y c<=Y n.cw+1->GN m W (N+1) ⟨n.an,n.ax,c⟩:=λc d f =>
  { h.mono (mh N)with srt:=d,um:=by have:=h.um;show Y c<=N+1;omega };revert b;unfold wq;split
 .split;.exact λ_=>a _ (Qn h.srt _) (by simp;omega)
  simp
 split;.simp
 split;.simp
 rename_i hp;exact λ_=>a _ (Qm h.srt hp) (by simp;omega)
def post(h:GN m W N n){i j:Nat}{x:Let}(f:x∈n.ax)(d:x.dst=j){o':bO}{er:Int}(b:er=0->GO W j o'){kd:Int}(c:(ji n kd i x o' er).2=0):GN m W N (ji n kd i x o' er).1:=by
 revert c;unfold ji;split
 .split;.simp
  refine λ_=>h.azY ?_ λy a=>.inl ?_;.have:=h.pT;simp;omega
  rcases bW.1 a with a|a;.exact a
  rw[dn.1 a];exact f
 split;.exact λ_=>h.drop i
 split;.simp
 split;.rename_i e;intro _;have:=(h.drop i).set (b e);rw[d,ak];exact this
 exact λe=>absurd e (by assumption)
def send(h:GN m W N n){i j:Int}{c b:Bool}{l:List aV}(e:0<=j/\j<m)(g:∀x∈l,x∈W)(d:(lB n i j c b l).2=0):GN m W N (lB n i j c b l).1:=by
 revert d;unfold lB;split;.simp
 split;.simp
 split;.simp
 split
 .refine λ_=>h.azY (by simpa using ‹_›) λy a=>?_;rcases bW.1 a with a|a;.exact .inl a
  obtain⟨x,f,rfl⟩:=cv.1 a;exact .inr ⟨e,g x f⟩
 simp
end GN
end Go.Bt

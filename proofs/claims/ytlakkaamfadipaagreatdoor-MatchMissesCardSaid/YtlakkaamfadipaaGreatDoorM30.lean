/- A part of a proof; the claim's last text says of what. -/
import Derived.Shelf.SlSortCmp.NoneTotal
import Derived.Test.YtlakkaamfadipaaGreatDoorM1
import Derived.Test.YtlakkaamfadipaaGreatDoorM27
set_option linter.all false
open Option renaming some->N
open List renaming length->F

namespace Go.Pm
open Go Go.RowKit Go.Sort Go.Proofs
variable{R:Mem}{k n S:Nat}{P:aM}{w:aT}{J:ag}{T:ao}
def Kc{W a:aT}(h:Below W.heap.size W a)(g:W.drawn<=a.drawn):∃q b,a=grow (W.drewN q) b:=by
 refine⟨a.drawn - W.drawn,a.heap.extract W.heap.size a.heap.size,?_⟩;have e:a.heap=W.heap++a.heap.extract W.heap.size a.heap.size:=by
  apply L8;intro i;rw[Array.getElem?_append];split;.exact h.block i ‹_›
  have:=h.size;rw[Array.getElem?_extract];split;.congr 1;omega
  rw[lW (by omega)]
 have c:=h.os;have f:=h.tape;have d:=h.output;obtain⟨k,l,m,os,j⟩:=a;simp only at e c f d g |-;subst c f d;simp only[grow,World.drewN,<- e];congr 1;omega
def zO{d:Type}[Inhabited d]{a:d->List Value}{E:Nat}{b:Array Value}{c:Array d}{os:Array Obj}(f:w.heap[S]?=N (.cells b E (0,0))): (sortWorldK a k w S 0 n c os).heap[S]?=N (.cells (putCells id 0 (flatK a k c) b) E (0,0)):=by
 have g:=(bh.1 f).1;have e:(putRowK a k (Sort.ahead w n) S 0 c).heap[S]?=N (.cells (putCells id 0 (flatK a k c) b) E (0,0)):=by simp only[putRowK,putRow,mapBlock,Sort.ahead,cz,aU,f,b5];rfl
 simp only[sortWorldK,grow];rw[iu (by have:=(bh.1 e).1;exact this)];exact e
def mS{b:Type}[Inhabited b]{a:b->List Value}{c:Array b}{os:Array Obj}: w.grownBy (sortWorldK a k w S 0 n c os) (N S):=by
 have d:(putRowK a k (Sort.ahead w n) S 0 c).heap.size=w.heap.size:=by rw[putRowK,Go.Sort.size_putRow];rfl
 refine⟨rfl,rfl,rfl,?_,λj g f=>?_⟩;.simp only[sortWorldK,grow,mF,d];omega
 have h:¬S=j:=λe=>f (by rw[e]);simp only[sortWorldK,grow];rw[iu (by rw[d];exact g)];simp only[putRowK,putRow,mapBlock,Sort.ahead,cz,au h]
def VR.bare{L w W:aT}{t:Mem}{y id:Nat}(X:gU P k L w J R){o:Ob}(H:J[id]?=N o)(E:∀d,o.wat d)(B:js (R id)=N y)(C:w.grownBy W (N y)){x:V}{v:Value}(h:VR w J R x v)(G:x.pure=true): VR W [] t x v:=by
 have S:∀b d u,w.cell? ⟨b,d,none⟩=N u->¬wr J R b d->W.cell? ⟨b,d,none⟩=N u:=by intro b d u g z;refine C.cell g λe=>z ⟨id,o,H,?_,E d⟩;rw[B];exact e.symm
 induction h with
 |b x=>exact .b x
 |i c n=>exact .i c n
 |s l x I Q=>exact .s l x I Q
 |Dh q=>exact .Dh q
 |sle q a=>exact .sle q a
 |sl q K b o r f p D O g U ih =>exact .sl q K b o r f p D O (λi j x m=>⟨S _ _ _ (g i j x m).1 (g i j x m).2.1,by rintro⟨id,T,M,_⟩;simp at M,(g i j x m).2.2⟩) (λi j x m=>ih i j x m (g i j x m).2.2)
 |_=>simp[V.pure]at G
def PC.U7{id E n m g:Nat}{t:cD}{R:cD->Prop}(l:J[id]?=N (.row E n m g false t)) (h:∀(B:Nat) (v w:aT) (i:Mem) (p:Array Value),gU P B v w J i->Uw w J i T p->Calls P k p w λe w'=>∃c d,R c/\F c=F t/\e=.returned (.tuple #[])/\w.grownBy w' (js (i id))/\w'.ownsRow B E n (i id) (F c) d/\lp w J i c n d) : PC P k T J (λr J'=>∃c,R c/\r=.gy []/\J'=J.set id (.row E n m g false c)):=by
 intro B v w i p x W;refine(h B v w i p x W).mono ?_;rintro e w' ⟨c,d,hR,S,rfl,D,gi,V⟩;have z:id<F J:=(ab.1 l).1;have y:=x.update (w':=w') (J':=J.set id (.row E n m g false c)) (μ':=i) id (js (i id)) D (λb s=>⟨_,l,by simp,s⟩) (by simp) (λj X=>aN (λe=>X e.symm)) (λ_ _=>rfl)
  (λb s=>.inl ⟨_,l,by simp,s⟩)
  (λb Q u o q _ C _ I=>absurd ⟨id,o,q,C,by rw[l]at q;simp only[aa]at q;subst q;intro M;simp at M⟩ I)
  (λa cs f=>by rw[l]at f;simp at f)
  (λK E es f=>by rw[l]at f;simp at f)
  (λE2 G ac g2 U O _ f=>by
   simp only[aw z,aa,Ob.row.injEq]at f;obtain⟨rfl,rfl,rfl,rfl,rfl,rfl⟩:=f;exact⟨g,false,t,l,ax _,λ_=>⟨S.symm,rfl⟩⟩)
  (λL o f=>by simp only[aw z,aa]at f;subst f;obtain⟨H,_⟩:=x.obj id _ l;exact⟨H,d,gi,V.fU L.fU⟩);exact⟨.gy [],.tuple #[],_,i,rfl,⟨c,hR,rfl,rfl⟩,y.1,.gy [] #[] rfl (by simp),y.2.fU⟩
def PC.lays{L w W:aT}(y:gU P k L w J R){C:Array Value}{a:Int}(V:k<=S)(B:w.grownBy W (N S))(Q:Uw W [] (λ_=>undef) T C) (h:PC P n T [] (λr _=>r=.i .i64 a)):Calls P n C W λe d=>e=.returned (.int .i64 a)/\∃q m,d=grow (W.drewN q) m:=by
 have l:Laid P W.heap.size W:=by intro t z g x;obtain⟨I,_⟩:=y.below.laid t z g x;have f:=y.below.tab z x;have c:g<w.heap.size:=dq I y.base;refine⟨dq c B.size,?_⟩;have E:W.heap[g]?=w.heap[g]?:=B.block g c (λe=>by simp only[aa]at e;omega);unfold Lib.TabIs World.var? at f |-;simp only[x,iV]at f |-;rw[E];exact f
 have G:gU P W.heap.size W W [] (λ_=>undef):=⟨⟨Below.refl _ _,l⟩,ax _,λid o K=>by simp at K,λi j U X b M=>by simp at M⟩;refine(Calls.drawn (h _ _ _ _ _ G Q) (by rintro d ⟨r,v,H,s,O,_⟩;cases O)).mono ?_;rintro e d ⟨⟨r,v,H,s,rfl,rfl,u,p,_⟩,D⟩;exact⟨by rw[p.fE],Kc u.below.toBelow D⟩
def PC.Ee{P:aM}{ρ:Shelf.Ren}(L:SlLaysF0.n6 P ρ){k:Nat}(aE:∀w,(isAgg (ρ.t 24)).run P w=.ok true w)(zE:∀w,(Go.sizeOf (ρ.t 24)).run P w=.ok k w){α:Type}(M:α->ao)(wQ:∀x,F (M x)=k)(Hh:0<k)(cf:α->α->Int){E:Nat} (eg:∀X w,(callFunc E X).run P w=.ok (.enter E X) w) (l:List α) {J:ag} {id g am:Nat} {s:ao} (ZR:∀(B:Nat) (w0 w:aT) (O:Mem) (Q:Array Value),gU P B w0 w J O->F s=Q.size->(∀i x,s[i]?=N x->VR w J O x (Q.getD i undef))->∀(W:aT) (I:Nat),B<=I->js (O id)=N I->w.grownBy W (N I) ->∀x∈l,∀y∈l,∀vx vy:Value,VR W [] (λ_=>undef) (.agg (M x)) vx->VR W [] (λ_=>undef) (.agg (M y)) vy->Calls P E (#[vx,vy]++Q) W λe w'=>e=.returned (.int .i64 (cf x y))/\∃q aV,w'=grow (W.drewN q) aV) (hO:SWO (ltOf λ(i j:Fin (F l))=>cf l[i] l[j])) (hl:F l<2^30) (h1:J[id]?=N (.row (ρ.t 24) k am g false (l.map M))) : PC P (ρ.f 6) [.own id g,.fn E s] J (λr J'=>∃T:List α,T.Perm l/\T.Pairwise (λx y=>¬cf y x<0)/\r=.gy []/\J'=J.set id (.row (ρ.t 24) k am g false (T.map M))):=by
 refine PC.mono (PC.U7 (R:=λad=>∃T:List α,T.Perm l/\T.Pairwise (λx y=>¬cf y x<0)/\ad=T.map M) h1 λB w0 w O vs hS hv=>?_) (by rintro r J' ⟨ad,⟨T,h1,h2,rfl⟩,U,h4⟩;exact⟨T,h1,h2,U,h4⟩);have a0:=(hv.2 0 _ rfl).kE h1;have a1:=hv.2 1 _ rfl;obtain⟨_,a,gi,cH⟩:=hS.obj id _ h1;have Hg:F (l.map M)=F l:=ae ..;obtain⟨Q,e,bn,a5⟩:∃Q:Array Value,vs=#[O id,.func (.func E) #[] Q]/\F s=Q.size/\∀i x,s[i]?=N x->VR w J O x (Q.getD i undef):=by
  obtain⟨q⟩:=vs;match q,hv.1 with
  |[u,v],_ =>simp at a0 a1;cases a1 with|fn _ _ fs a3 a2=>exact⟨fs,by rw[a0],a3,a2⟩
 rw[e];rw[Hg]at gi;have Qx:F a=F l*k:=gi.1;have o1:=lp.one hS cH (by rw[Hg];exact Qx);by_cases h0:F l=0
 .have QB:l=[]:=aL h0;have be:a=[]:=aL (by rw[Qx,h0,Nat.zero_mul]);have hm:∃p C,O id=.slice p 0 C:=by
   rcases gi.2 with⟨h,_⟩|⟨I,C,S,h,_⟩;.exact⟨_,_,h⟩
   rw[h0]at h;exact⟨_,_,h⟩
  obtain⟨p,C,hm⟩:=hm;rw[hm];refine(AnyF.slices_SortFunc_none { L with } p C _ w).mono ?_;rintro e w' ⟨rfl,rfl⟩;refine⟨[],[],⟨[],by rw[QB],.nil,rfl⟩,by simp[QB],rfl,grownBy_refl _ _,?_,?_⟩;.rw[<- hm];rw[be,h0]at gi;exact gi
  exact⟨by simp,λi j x hx=>by simp[gp]at hx⟩
 have yt:0<F l:=Nat.pos_of_ne_zero h0;rcases gi.2 with⟨_,hn⟩|⟨I,C,S,ma,hB,hg,I5,BY,mE,Hk⟩;.omega
 haveI:Inhabited (Fin (F l)):=⟨⟨0,yt⟩⟩;have af:∀(i:Fin (F l)) (j:Nat),j<k->i.1*k+j<F l*k:=λi j H=>by have:(i.1+1)*k<=F l*k:=bL _ i.2;rw[cN,gN]at this;omega
 have ZP:∀i:Fin (F l),F ((a.drop (i*k)).take k)=k:=λi=>by rw[bB,bY,Qx];have:(i.1+1)*k<=F l*k:=bL _ i.2;rw[cN,gN]at this;omega
 have fG:∀(i:Fin (F l)) (j:Nat),j<k->((a.drop (i*k)).take k)[j]?=a[i*k+j]?:=λi j H=>by rw[bF H,dV]
 have sj:∀(i:Fin (F l)) (j:Nat) (x:V),(M l[i])[j]?=N x->x.pure=true/\∃u,((a.drop (i*k)).take k)[j]?=N u/\VR w J O x u:=λi j x hx=>by
  have H:j<k:=by have:=(ab.1 hx).1;rwa [wQ]at this
  have h2:gp (l.map M) i j=N x:=by simp only[gp,bu,an i.2,b5,iV];exact hx
  obtain⟨q1,u,q2,q3⟩:=cH.2 _ _ _ h2;exact⟨q1,u,by rw[fG i j H];exact q2,q3⟩
 generalize av:(λi:Fin (F l)=>(a.drop (i*k)).take k)=enc;have XY:∀i,enc i=(a.drop (i*k)).take k:=λi=>by rw[<- av]
 have XZ:(List.finRange (F l)).toArray.size=F l:=by simp
 have a4:∀j (h:j<F l),(List.finRange (F l)).toArray[j]! = ⟨j,h⟩:=λj h=>by rw[getElem!_pos _ j (by rw[XZ];exact h)];simp
 have XW:∀(d:Array (Fin (F l))) (t:Nat),d.size=F l->t<F l*k->(flatK enc k d)[t]?=a[(d[t / k]!).1*k+t % k]?:=λd t hd G=>by
  have h1:t<(flatK enc k d).size:=by rw[size_flatK,hd];exact G
  have h2:=get_flatK enc k d t (by rw[hd];exact G);have hm:t % k<k:=vB _ Hh;rw[getElem!_pos _ t h1]at h2;rw[bD h1,h2,XY,<- fG _ _ hm];rw[getElem!_pos _ (t % k) (by rw[ZP];exact hm),an]
 have hH:HoldsK enc k w I 0 (List.finRange (F l)).toArray:=λt G=>by
  rw[size_flatK,XZ]at G;have h1:=XW (List.finRange (F l)).toArray t XZ G;have hq:t / k<F l:=nr (by rw[gE];exact G);rw[a4 _ hq]at h1;have e2:t / k*k+t % k=t:=by rw[gE];exact Xv t k
  simp only[e2]at h1;have U:t<(flatK enc k (List.finRange (F l)).toArray).size:=by rw[size_flatK,XZ];exact G
  have h4:S.toList[t]?=a[t]?:=by rw[<- Hk,bF G]
  refine⟨?_,by simp[World.frozen?,hg]⟩;simp only[World.cell?,hg,bq,id_eq];rw[getElem!_pos _ t U,<- Array.getElem?_eq_getElem U,h1,<- h4];simp
 have K:js (O id)=N I:=by rw[ma];rfl
 have ZV:=AnyQ.slices_SortFunc L k aE zE enc (λi=>by rw[XY];exact ZP i) (λi v hv=>o1 v (by rw[XY]at hv;exact eU (dv hv))) (λi j=>cf l[i] l[j]) hO E Q I 0 C (List.finRange (F l)).toArray w eg (λm os dk _ x y=>by
   have ac:∀q:Fin (F l),VR (sortWorldK enc k w I 0 m dk os) [] (λ_=>undef) (.agg (M l[q])) (.agg (enc q).toArray):=λq=>by
    refine .agg _ _ (by rw[eS,XY,ZP,wQ]) λi z hz=>?_;obtain⟨q1,u,q2,q3⟩:=sj q i z hz;rw[XY];have:((a.drop (q*k)).take k).toArray.getD i undef=u:=by simp only[bJ,mB,q2,gM]
    rw[this];exact VR.bare hS h1 (λbi h=>by simp at h) K mS q3 q1
   exact ZR B w0 w O Q hS bn a5 _ I hB K mS l[x] (cS _) l[y] (cS _) _ _ (ac x) (ac y)) hH (bh.1 hg).1 (by rw[XZ];omega);rw[XZ,<- ma]at ZV;refine ZV.mono ?_;rintro e w' ⟨rfl,D,n,os,uM,a9,rfl⟩;have b:D.size=F l:=by have:=uM.1;rw[XZ]at this;exact this
 have zW:D.toList.Perm (List.finRange (F l)):=by
  have h1:=uM.2.2;have e1:D.extract 0 (F l)=D:=by have:=Array.extract_size (xs:=D);rwa [b]at this
  have e2:(List.finRange (F l)).toArray.extract 0 (F l)=(List.finRange (F l)).toArray:=by have:=Array.extract_size (xs:=(List.finRange (F l)).toArray);rwa [XZ]at this
  rw[e1,e2]at h1;simpa using h1
 have uq:(flatK enc k D).size=F l*k:=by rw[size_flatK,b]
 have c:F ((D.toList.map λi=>l[i]).map M)=F l:=by rw[ae,ae,aW,b]
 refine⟨_,(flatK enc k D).toList,⟨D.toList.map λi=>l[i],?_,?_,rfl⟩,by rw[c,Hg],rfl,by rw[K];exact mS,⟨by rw[c,aW,uq],.inr ⟨I,C,putCells _root_.id 0 (flatK enc k D) S,by rw[c,ma],hB,zO hg,by rw[c];exact I5,BY,?_,?_⟩⟩,?_,?_⟩
 .refine(zW.map _).trans (List.Perm.of_eq ?_);apply jw;intro i;rw[bu];by_cases hi:i<F l;.simp[hi]
  rw[bK (by simpa using Ub hi),bK (by omega)];rfl
 .refine Qp.2 (xy.2 λi j hi H Hi=>?_);rw[aW]at hi H;have:=a9 i j (eR _) Hi (by rw[<- b];exact H);rw[getElem!_pos _ i hi,getElem!_pos _ j H]at this;simp only[ltOf,cI]at this;simpa using this
 .simp[putCells,mE]
 .rw[c];apply jw;intro t;by_cases G:t<F l*k
  .rw[bF G];have U:t<(flatK enc k D).size:=by rw[uq];exact G
   have h4:t<S.size:=by rw[mE];have:=bL k I5;omega
   simp only[putCells,kj,DY,bD h4,b5,eR,gL,bq,aK U,qd,id_eq];rw[getElem!_pos _ t U,bD U]
  rw[bK (by rw[bB];omega),bK (by rw[aW,uq];omega)]
 .intro r hr;obtain⟨x,_,rfl⟩:=br.1 hr;exact wQ x
 intro i j x hx;obtain⟨r,hr,H⟩:=iD hx;rw[bu,bu]at hr;simp only[al]at hr;obtain⟨o,⟨q,hq,rfl⟩,rfl⟩:=hr;obtain⟨q1,u,q2,q3⟩:=sj q j x H;have No:j<k:=by have:=(ab.1 H).1;rwa [wQ]at this
 have vK:i<F l:=by have:=(ab.1 hq).1;rwa [aW,b]at this
 refine⟨q1,u,?_,q3⟩;have ap:(i*k+j) / k=i:=by rw[gE,Nat.mul_add_div Hh,Nat.div_eq_of_lt No,dQ]
 have SH:(i*k+j) % k=j:=by rw[gE,Nat.mul_add_mod,Af No]
 rw[kj,XW D (i*k+j) b (af ⟨i,vK⟩ j No),ap,SH,<- fG _ j No];have Uq:D[i]! = q:=by rw[getElem!_pos _ i (by rw[b];exact vK)];rw[kj,bD (by rw[b];exact vK)]at hq;simpa using hq
 rw[Uq];exact q2
def PC.Q7{P:aM}{d:Shelf.Ren}(L:SlLaysF0.n6 P d){k:Nat}(s:∀w,(isAgg (d.t 24)).run P w=.ok true w)(v:∀w,(Go.sizeOf (d.t 24)).run P w=.ok k w){m:Type}(c:m->ao)(R:∀x,F (c x)=k)(D:0<k)(n:m->m->Int){a:Nat} (G:∀b w,(callFunc a b).run P w=.ok (.enter a b) w) (l:List m) (p:∀x∈l,∀y∈l,PC P a [.agg (c x),.agg (c y)] [] (λr _=>r=.i .i64 (n x y))) (H:SWO (ltOf λ(i j:Fin (F l))=>n l[i] l[j])) (M:F l<2^30) {J:ag} {id g e:Nat} (h1:J[id]?=N (.row (d.t 24) k e g false (l.map c))) : PC P (d.f 6) [.own id g,.fn a []] J (λr E=>∃o:List m,o.Perm l/\o.Pairwise (λx y=>¬n y x<0)/\r=.gy []/\E=J.set id (.row (d.t 24) k e g false (o.map c))) :=PC.Ee L s v c R D n G l (λB w0 w T I Q C _ W U S V u x O y K X vy h1 q=>by
  obtain rfl:I=#[]:=by apply rW;simpa using C.symm
  rw[Ma];refine PC.lays Q S u ⟨rfl,λi z h=>?_⟩ (p x O y K);rcases i with _|_|i;.simp only[aH,aa]at h;subst h;exact h1
  .simp only[bq,bS,aH,aa]at h;subst h;exact q
  simp at h) H M h1
end Go.Pm

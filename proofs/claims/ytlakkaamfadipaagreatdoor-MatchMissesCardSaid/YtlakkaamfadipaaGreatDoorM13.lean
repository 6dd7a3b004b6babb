/- A part of a proof; the claim's last text says of what. -/
import Derived.Test.YtlakkaamfadipaaGreatDoorM12
set_option linter.all false
open Option renaming some->N,none->Y
open Bool renaming true->A,false->Z
open List renaming length->F

namespace Go.Pm
open Go Go.RowKit
variable(X:Array Oper)(U:Nat)(S:Nat){M:Array Oper}
def GF(o:Oper)(j:Nat):Oper:={ o with after:=o.after.push { on:=j,ground:=.data } }
def waitsFor:Array Oper:=X.mapIdx λk o=>if k=U then GF o S else o
def jy:(waitsFor X U S).size=X.size:=by simp[waitsFor]
def re(k:Nat):(waitsFor X U S)[k]?=(X[k]?).map λo=>if k=U then GF o S else o:=by simp[waitsFor]
def iJ{a:Region.Mode}{listed:Array Bool}{i j x:Nat}:x∈Region.ready a (waitsFor M i j) listed<->x∈Region.ready a M listed/\(x=i->listed.getD j Z=A):=by
 simp only[Region.ready,cV,dt,jy,re];rw[and_assoc];refine and_congr_right λh=>?_;have f:M[x]?=N M[x]:=bD h;simp only[f,b5,gM];by_cases e:x=i
 .subst e;have g:Region.binds a { on:=j,ground:=Ground.data }=A:=rfl;simp only[aU,GF,Array.all_push,g,fL,ia,aP,forall_const];constructor;.rintro⟨c,b,d⟩;exact⟨⟨c,b⟩,d⟩
  rintro⟨⟨c,b⟩,d⟩;exact⟨c,b,d⟩
 simp only[e,aQ,yM,lq]
def C9(a:Array Value):yielded (waitsFor X U S) a=yielded X a:=by funext k;simp only[yielded,re];cases X[k]? with|none=>rfl|some o =>simp only[b5,iV];by_cases h:k=U<;>simp[h,GF]
section
variable {P:aM} {Q:Exit->Act->aT->Prop}
def qZ{ops:Array Oper}{i j x:Nat}{K:Act->aT->Prop}{a:Act}{w:aT}:wpOp P (waitsFor ops i j) Q x K a w<->wpOp P ops Q x K a w:=by
 simp only[wpOp,re,C9];cases ops[x]? with
 |none=>exact Hp
 |some o =>
 simp only[b5];by_cases h:x=i;.simp only[h,aU];exact Hp
 simp only[h,aQ]
def pC:Op->Bool
 |.move _|.assign _|.alloc _|.box _ _|.load _ _|.store _ _ _|.fieldAddr _ _ _=>A
 |_=>Z
def Ks{s:Sem Value}{w c:aT}{n:Next}(h:(do pure (Next.value (<- s)):Sem Next).run P w=.ok n c):∃v,n=.value v:=by
 rw[Sem.run_bind]at h;cases a:s.run P w with
 |ok v b =>
  rw[a]at h;simp only[Result.andThen_ok,Sem.run_pure,Result.ok.injEq]at h;exact⟨v,h.1.symm⟩
 |halt x b=>rw[a]at h;simp[Result.andThen]at h
def Of{s:Sem Unit}{w c:aT}{n:Next}(h:(do s;pure Next.skip:Sem Next).run P w=.ok n c):n=.skip:=by
 rw[Sem.run_bind]at h;cases a:s.run P w with
 |ok v b =>
  rw[a]at h;simp only[Result.andThen_ok,Sem.run_pure,Result.ok.injEq]at h;exact h.1.symm
 |halt x b=>rw[a]at h;simp[Result.andThen]at h
def LJ{o:Oper}{e:Operand->Value}{w c:aT}{n:Next}(a:pC o.op=A)(h:(execOp e o).run P w=.ok n c):(∃v,n=.value v)\/n=.skip:=by
 obtain⟨d,b,t,p,f,g⟩:=o;simp only at a;cases b<;>simp only[pC,aI]at a;all_goals simp only[execOp]at h
 all_goals first
  |exact .inl (Ks h)
  |exact .inr (Of h)
  |(simp only[Sem.run_pure,Result.ok.injEq]at h;exact .inl ⟨_,h.1.symm⟩)
def Ys{o:Oper}(e:pC o.op=A){a:Act}{w:aT}{c d:Act->aT->Prop}(h1:o.wp P a w c Q)(b:o.wp P a w d Q):o.wp P a w (λa w=>c a w/\d a w) Q:=by
 unfold Oper.wp at *;generalize g:(execOp a.eval o).run P w=r at *;cases r with
 |ok n f =>
  rcases LJ e g with⟨v,rfl⟩|rfl;.exact⟨h1,b⟩
  exact⟨h1,b⟩
 |halt x f=>cases x<;>simp only[Oper.upon]at h1 b |-<;>exact h1
def QM{ops:Array Oper}{x:Nat}(g:∀o,ops[x]?=N o->pC o.op=A){e f:Act->aT->Prop}{a:Act}{w:aT}(h1:wpOp P ops Q x e a w)(b:wpOp P ops Q x f a w): wpOp P ops Q x (λa w=>e a w/\f a w) a w:=by
 unfold wpOp at *;cases d:ops[x]? with
 |none=>simp only[d]at h1 b |-;exact⟨h1,b⟩
 |some o =>
 simp only[d]at h1 b |-;split
 .rename_i c;simp only[c,aU]at h1 b;rcases h1 with h1|h1
  .rcases b with b|b;.exact .inl (Ys (g o d) h1 b)
   exact .inr b
  exact .inr h1
 rename_i c;simp only[c]at h1 b;exact⟨h1,b⟩
def rY{f:Region.Mode}{ops:Array Oper}{i j:Nat}:∀(b:Nat) (listed:Array Bool) (a:Act) (w:aT),listed.getD j Z=A->wpAny P f (waitsFor ops i j) Q b listed a w->wpAny P f ops Q b listed a w:=by
 intro b;induction b with
 |zero =>intro listed a w c h;refine⟨?_,h.2⟩;refine ck.2 λx d=>?_;exact ck.1 h.1 x (iJ.2 ⟨d,λ_=>c⟩)
 |succ b ih =>
 intro listed a w c h;refine⟨λk=>h.1 (ck.2 λx d=>ck.1 k x (iJ.1 d).1),λx d=>?_⟩;have:=h.2 x (iJ.2 ⟨d,λ_=>c⟩);rw[qZ]at this;refine wpOp_mono (λa w l=>ih _ a w ?_ l) this;simp only[bJ]at c |-;by_cases e:x=j
 .subst e;by_cases g:x<listed.size;.simp[tN,g]
  rw[lW (by omega)]at c;simp at c
 rw[cT e];exact c
def Ht{l:Region.Mode}{ops:Array Oper}{i j:Nat}(q:i≠j)(s:∀x o,x≠i->x≠j->ops[x]?=N o->pC o.op=A): ∀(b:Nat) (listed:Array Bool) (a:Act) (w:aT),listed.size=ops.size->i<ops.size->j<ops.size->wpAny P l (waitsFor ops i j) Q b listed a w->wpAny P l (waitsFor ops j i) Q b listed a w->wpAny P l ops Q b listed a w:=by
 intro b;induction b with
 |zero =>
  intro listed a w k m n g h;refine⟨?_,g.2⟩;refine ck.2 λx c=>?_;by_cases d:x=i;.exact ck.1 h.1 x (iJ.2 ⟨c,λe=>absurd (d.symm.trans e) q⟩)
  exact ck.1 g.1 x (iJ.2 ⟨c,λe=>absurd e d⟩)
 |succ b ih =>
 intro listed a w k m n g h;refine⟨λu=>g.1 (ck.2 λx c=>ck.1 u x (iJ.1 c).1),λx c=>?_⟩;by_cases d:x=i;.have:=h.2 x (iJ.2 ⟨c,λe=>absurd (d.symm.trans e) q⟩);rw[qZ]at this;refine wpOp_mono (λa w f=>rY b _ a w ?_ f) this;subst d;simp[bJ,tN,k,m]
 by_cases p:x=j;.have:=g.2 x (iJ.2 ⟨c,λe=>absurd e d⟩);rw[qZ]at this;refine wpOp_mono (λa w f=>rY b _ a w ?_ f) this;subst p;simp[bJ,tN,k,n]
 have k1:=g.2 x (iJ.2 ⟨c,λe=>absurd e d⟩);have r:=h.2 x (iJ.2 ⟨c,λe=>absurd e p⟩);rw[qZ]at k1 r;refine wpOp_mono (λa w f=>ih _ a w (by simp[k]) m n f.1 f.2) (QM (λo t=>s x o d p t) k1 r)
end
variable(U:Array Oper)(S:Nat)(R:Nat){X:Array Oper}{M H:Nat}
def sw(k:Nat):Nat:=if k=S then R else if k=R then S else k
def AV(k:Nat):sw S R (sw S R k)=k:=by simp only[sw];(repeat' split)<;>omega
def D8{i j k n:Nat}(b:i<n)(a:j<n):sw i j k<n<->k<n:=by simp only[sw];(repeat' split)<;>omega
def HZ(o:Oper):Oper:={ o with after:=o.after.map λe=>{ e with on:=sw S R e.on },guard:=o.guard.map λg=>(sw S R g.1,g.2) }
def pz:Array Oper:=U.mapIdx λk o=>HZ S R ((U[sw S R k]?).getD o)
def AW:(pz U S R).size=U.size:=by simp[pz]
def xM(c:M<X.size)(b:H<X.size)(k:Nat):(pz X M H)[k]?=(X[sw M H k]?).map (HZ M H):=by
 simp only[pz,DY];by_cases a:k<X.size;.have d:=(D8 (k:=k) c b).2 a;simp[bD a,bD d]
 have d:¬sw M H k<X.size:=λh=>a ((D8 c b).1 h);rw[lW (by omega),lW (by omega)];rfl
def TW(a:Region.Mode)(e:Edge)(n:Nat):Region.binds a { e with on:=n }=Region.binds a e:=rfl
def Bd{e:Region.Mode}{listed a:Array Bool}(c:M<X.size)(b:H<X.size)(f:∀k d,a.getD k d=listed.getD (sw M H k) d){x:Nat}:
  x∈Region.ready e (pz X M H) a<->sw M H x∈Region.ready e X listed:=by simp only[Region.ready,cV,dt,AW,xM c b,D8 c b,f];refine and_congr_right λh=>?_;have g:=(D8 (k:=x) c b).2 h;simp only[bD g,b5,gM,HZ,Array.all_map,Function.comp_def,TW,f,AV]
def J8(c:M<X.size)(b:H<X.size)(a:Array Value)(k:Nat):yielded (pz X M H) a (sw M H k)=yielded X a k:=by simp only[yielded,xM c b,AV];cases X[k]?<;>rfl
section
variable {P:aM} {Q:Exit->Act->aT->Prop}
def UD{ops:Array Oper}{i j x:Nat}(b:i<ops.size)(c:j<ops.size){K:Act->aT->Prop}{a:Act}{w:aT}:wpOp P (pz ops i j) Q x K a w<->wpOp P ops Q (sw i j x) K a w:=by
 simp only[wpOp,xM b c];cases ops[sw i j x]? with
 |none=>exact Hp
 |some o =>
 simp only[b5];have e:Region.wanted (HZ i j o) (yielded (pz ops i j) a.tmps)=Region.wanted o (yielded ops a.tmps):=by obtain⟨d,h,t,p,f,g⟩:=o;cases g with|none=>rfl|some g=>simp only[Region.wanted,HZ,b5,J8 b c]
 rw[e];exact Hp
def QN{p:Region.Mode}{ops:Array Oper}{i j:Nat}(n:i<ops.size)(o:j<ops.size):∀(c:Nat) (listed b:Array Bool) (a:Act) (w:aT),listed.size=ops.size->b.size=ops.size->(∀k d,b.getD k d=listed.getD (sw i j k) d) ->wpAny P p (pz ops i j) Q c b a w->wpAny P p ops Q c listed a w:=by
 intro c;induction c with
 |zero =>intro listed b a w r g m h;refine⟨?_,h.2⟩;refine ck.2 λx f=>?_;exact ck.1 h.1 (sw i j x) ((Bd n o m).2 (by rw[AV];exact f))
 |succ c ih =>
 intro listed b a w r g m h;refine⟨λt=>h.1 (ck.2 λx f=>ck.1 t _ ((Bd n o m).1 f)),λx f=>?_⟩;have:=h.2 (sw i j x) ((Bd n o m).2 (by rw[AV];exact f));rw[UD n o,AV]at this;have u:x<ops.size:=by simp only[Region.ready,cV,dt]at f;exact f.1
 refine wpOp_mono (λa w l=>ih _ _ a w (by simp[r]) (by simp[g]) (λk d=>?_) l) this;have q:=m k d;simp only[bJ]at q |-;have v:=(D8 (k:=x) n o).2 u;by_cases l:sw i j x=k;.subst l;rw[AV,E9 (by omega),E9 (by omega)]
 have s:x≠sw i j k:=λe=>l (by rw[e,AV]);rw[cT l,cT s];exact q
def Fq{ops:Array Oper}{id i j:Nat}{a:Act}{w:aT}(f:P.follows .mixedOrders=A)(h:i≠j)(c:i<ops.size)(b:j<ops.size)(e:∀x o,x≠i->x≠j->ops[x]?=N o->pC o.op=A) (h1:wpAny P .any (waitsFor ops j i) Q ops.size (Array.replicate ops.size Z) a { w with drawn:=w.drawn+1 }) (g:wpAny P .any (pz (waitsFor ops i j) i j) Q ops.size (Array.replicate ops.size Z) a { w with drawn:=w.drawn+1 }):(Code.region id ops A).wp P Q a w:=by refine wp_region_any f (Ht h e _ _ _ _ (by simp) c b ?_ h1);refine QN (by rw[jy];exact c) (by rw[jy];exact b) _ _ _ _ _ (by simp[jy]) (by simp[jy]) (λk d=>?_) g;simp only[bJ,yQ,D8 c b]
end
def Le(J J':ag):Prop:=∀(id:Nat) (o:Ob),J[id]?=N o->o=Ob.dead\/J'[id]?=N o
section
variable {J J':ag} (h:Le J J')
include h
theorem Le.box{id T:Nat}{a:ao}(e:J[id]?=N (.box T a)):J'[id]?=N (.box T a):=(h id _ e).resolve_left (by simp)
theorem Le.row{id E sz by' g:Nat}{sh:Bool}{xs:cD}(e:J[id]?=N (.row E sz by' g sh xs)):J'[id]?=N (.row E sz by' g sh xs):=(h id _ e).resolve_left (by simp)
theorem Le.map{id K E:Nat}{a:List (V×V)}(e:J[id]?=N (.map K E a)):J'[id]?=N (.map K E a):=(h id _ e).resolve_left (by simp)
theorem EW{x:V}(a:gA J x=A):gA J' x=A:=by
 unfold gA at a |-;repeat' split at a
 all_goals first|(simp at a;done)|skip
 all_goals first|(rename_i e;simp only[h.row e];exact a)|rfl
theorem BD{x:V}(a:gD J x=A):gD J' x=A:=by
 unfold gD at a |-;split at a;.rw[cv]at a |-;exact λy b=>EW h (a y b)
 exact EW h a
theorem On{b:Nat}{x:V}{r:cD}(a:rowsOf J b x=N r):rowsOf J' b x=N r:=by unfold rowsOf at a |-;split at a<;>(try exact a)<;>split at a<;>(try (simp at a;done));all_goals (rename_i e;simp only[h.row e];exact a)
theorem K6{b:Nat}{m k:V}{r:Option (Nat×V)}(a:c8 J b m k=N r):c8 J' b m k=N r:=by unfold c8 at a |-;split at a<;>(try exact a);split at a<;>(try (simp at a;done));rename_i e;simp only[h.map e];exact a
theorem Ru{j:ao}{i:I}{d:Prop}{r:V}(b:ba j J i=N (d,r))(c:d):∃l,ba j J' i=N (l,r)/\l:=by
 cases i;case build zs parts =>simp only[ba]at b |-;split at b<;>simp only[aa,aB,reduceCtorEq]at b;obtain⟨rfl,rfl⟩:=b;rename_i e;exact⟨_,by simp only[e],λp q=>BD h (c p q)⟩
 case bN sz szs xs =>simp only[ba,aa,aB]at b |-;obtain⟨rfl,rfl⟩:=b;exact⟨_,⟨rfl,rfl⟩,λx f=>BD h (c.1 x f),c.2⟩
 case load k a =>
  simp only[ba]at b |-;split at b;.split at b<;>(try (simp at b;done));rename_i e;simp only[h.box e];exact⟨d,b,c⟩
  .exact⟨d,b,c⟩
  .split at b<;>(try (simp at b;done));rename_i e;simp only[h.row e];exact⟨d,b,c⟩
  simp at b
 case dE x =>simp only[ba]at b |-;split at b<;>(try exact⟨d,b,c⟩);split at b<;>(try (simp at b;done));rename_i e;simp only[h.row e];exact⟨d,b,c⟩
 case fV off x =>simp only[ba]at b |-;split at b<;>(try exact⟨d,b,c⟩);split at b<;>(try (simp at b;done));rename_i e;simp only[h.row e];exact⟨d,b,c⟩
 case G5 x =>simp only[ba]at b |-;split at b<;>(try (simp at b;done));rename_i e;simp only[On h e];exact⟨d,b,c⟩
 case look kd z ok m k =>simp only[ba]at b |-;split at b<;>(try (simp at b;done));all_goals (rename_i e;simp only[K6 h e];exact⟨d,b,c⟩)
 case BJ x =>simp only[ba]at b |-;split at b<;>(try exact⟨d,b,c⟩);split at b<;>(try (simp at b;done));rename_i e;simp only[h.map e];exact⟨d,b,c⟩
 case Nz x =>simp only[ba]at b |-;split at b<;>(try (simp at b;done));split at b<;>(try (simp at b;done));rename_i t;split at b<;>(try (simp at b;done));rename_i v;simp only[(h _ _ t).resolve_left (by simp),h.map v];exact⟨d,b,c⟩
 case len str x =>
  cases str
  .simp only[ba]at b |-;split at b<;>(try exact⟨d,b,c⟩);all_goals
    split at b<;>(try (simp at b;done));rename_i e;simp only[h.row e];exact⟨d,b,c⟩
  exact⟨d,b,c⟩
 case idx sz x i =>
  simp only[ba]at b |-;split at b<;>(try (simp at b;done));split at b<;>(try exact⟨d,b,c⟩);all_goals
   split at b<;>(try (simp at b;done));rename_i e;simp only[h.row e];exact⟨d,b,c⟩
 case slice sz x lo hi =>
  by_cases f:∃id g,ev j x=.own id g
  .obtain⟨id,g,f⟩:=f;simp only[ba,f]at b |-;cases n:J[id]? with
   |none=>simp[n]at b
   |some o =>
   rcases h id o n with rfl|s;.simp[n]at b
   rw[n]at b;rw[s];exact⟨d,b,c⟩
  have e:ba j J' (.slice sz x lo hi)=ba j J (.slice sz x lo hi):=by simp only[ba];cases u:ev j x<;>first|rfl|(exact absurd ⟨_,_,u⟩ f)
  rw[e];exact⟨d,b,c⟩
 all_goals exact⟨d,b,c⟩
end
variable(X:List Pi)(M:cy){B:Nat}{p:Pi}{H:aM}{G:ag}{R:ao}
def Fact.le{J':ag}(a:Fact p R G)(h:Le G J'):Fact p R J':=by obtain⟨c,e,r,b,g⟩:=a;exact⟨c,e,r,b,λi=>by obtain⟨j,d,f⟩:=g i;exact Ru h d f⟩
def TA{k w:aT}{g:Mem}(p:gU H B k w G g){id:Nat}(c:G[id]?=N .dead)(T:Nat)(e:ao)(d:Array Value)(h:CR w G g e d): ∃μ',gU H B k (w.alloc (.cells d T)) (G.set id (.box T e)) μ'/\VR (w.alloc (.cells d T)) (G.set id (.box T e)) μ' (.ptr id 0) (.pointer (N ⟨w.heap.size,0,Y⟩))/\np w G g (w.alloc (.cells d T)) (G.set id (.box T e)) μ':=by
 have t:id<F G:=(ab.1 c).1;have i:(G.set id (.box T e))[id]?=N (.box T e):=aw t;have n:=p.update (w':=w.alloc (.cells d T)) (J':=G.set id (.box T e)) (μ':=r7 g id (.pointer (N ⟨w.heap.size,0,Y⟩))) id Y (World.grownBy_alloc w _ Y) (by simp) (by simp)
  (λj f=>aN (Qm f)) (λj f=>mQ g _ _ j f) (λb l=>by rw[eH]at l;simp only[js,aa]at l;exact .inr (by omega))
  (λb r v o a u=>by rw[c]at a;simp only[aa]at a;exact absurd a.symm u)
  (λJ s a=>by rw[c]at a;simp at a) (λK E D a=>by rw[c]at a;simp at a)
  (λE z y L I C _ a=>by rw[i]at a;simp at a)
  (λq o a=>by
   rw[i]at a;simp only[aa]at a;subst a;rw[eH];refine⟨w.heap.size,d,rfl,p.base,heap_alloc_new w _,h.1.symm,λj x m=>?_⟩;have f:j<d.size:=by rw[<- h.1];exact(ab.1 m).1
   exact⟨d[j],bD f,by have:=(h.2 j x m).mono q;simpa[f]using this⟩);exact⟨_,n.1,.ptr _ 0 _ ⟨T,e,i⟩ (eH _ _ _),n.2⟩
def LZ{ops:Array Oper}{o:Oper}{T:Nat}{zs:ao}(u:cPi H ops o=N p)(E:p=⟨N B,[],.alloc T zs⟩){l:Nat->Option (dF)}{d:Nat}{S w:aT}{J:ag}{μ:Mem}{a:Act} (hS:gU H d S w J μ) (hF:DW w J μ R l a) (V:JU l p) {id:Nat} (L:J[id]?=N .dead) {e:Act->aT->Prop} {Q:Exit->Act->aT->Prop} (W:∀i P y,gU H d S y (J.set id (.box T zs)) i->DW y (J.set id (.box T zs)) i (ek R (N B) (.ptr id 0)) (sE l p) P->nM w J μ y (J.set id (.box T zs)) i->e P y) : if Region.wanted o (yielded ops a.tmps)then o.wp H a w e Q\/(o.asks H a w/\LetsOut Q)else e (a.put o.dst undef) w:=by
 unfold cPi at u;split at u<;>simp only[aa,reduceCtorEq]at u;rename_i g s;rw[E]at u;simp only[Pi.mk.injEq]at u;obtain⟨X,rfl,m⟩:=u;have hw:Region.wanted o (yielded ops a.tmps)=A:=by cases O:o.guard with|none=>simp[Region.wanted,O]|some jb =>obtain⟨j,b⟩:=jb;rw[O]at s;simp only[xk]at s;split at s<;>(try simp only[reduceCtorEq]at s);split at s<;>simp at s
 rw[aK hw];refine .inl ?_;have f:compile H o=N (.alloc T zs):=by cases M:compile H o with|none=>rw[M]at m;simp at m|some j=>rw[M]at m;simp only[gM]at m;rw[m]
 have fc:∃t z,o.op=.alloc T/\H.info? T=N t/\t.zero=N z/\jr z.cells.toList=N zs:=by
  cases k:o.op;case alloc T' =>simp only[compile,k]at f;split at f<;>(try simp only[reduceCtorEq]at f);rename_i t C;split at f<;>(try simp only[reduceCtorEq]at f);rename_i z D;simp only[al,I.alloc.injEq]at f;obtain⟨ac,G,rfl,rfl⟩:=f;exact⟨t,z,rfl,C,D,G⟩
  case call c =>exfalso;simp only[compile,k,kQ]at f;revert f;(repeat' split)<;>simp
  case makeFunc fn first caps =>exfalso;cases fn<;>simp only[compile,k,reduceCtorEq]at f;revert f;split<;>simp
  case next x q =>exfalso;cases q<;>simp[compile,k]at f
  case makeMap T' n =>exfalso;cases n<;>simp only[compile,k,reduceCtorEq]at f;revert f;split<;>simp
  case slice T' x lo m mx =>exfalso;cases mx<;>cases lo<;>cases m<;>simp only[compile,k,reduceCtorEq]at f<;>(revert f;(repeat' split)<;>simp)
  all_goals
   exfalso;simp only[compile,k]at f;revert f;(try (repeat' split))<;>simp;all_goals (intro x _;split<;>simp)
 obtain⟨t,z,k,C,D,G⟩:=fc;have dA:(execOp a.eval o).run H w=.ok (.value (.pointer (N ⟨w.heap.size,0,Y⟩))) (w.alloc (.cells z.cells T)):=by simp[execOp,k,Instr.alloc,zeroValue,typeInfo,C,D,newVar,newRow]
 obtain⟨i,h1,h2,U⟩:=TA hS L T _ _ (lS (w:=w) (J:=J) (μ:=μ) G);unfold Oper.wp;rw[dA];simp only[Oper.upon];rw[E]at V;have K:o.dst=N B:=X;rw[K];have:=hF.r7 (v:=.pointer (N ⟨w.heap.size,0,Y⟩)) (r:=.ptr id 0) V U.fU (λ_ _ _ _=>h2) (λh=>by simp[chainB]at h);rw[E]at W;exact W i _ _ h1 this U.fU
def L1:List Ob->(List Ob->Prop)->Prop|[],p=>p []|_::b,p=>∀X,L1 b λa=>p (X::a)
def jH(b:List Ob):List Ob:=b.map λ_=>.dead
def NK:∀{b:List Ob} {p:List Ob->Prop},L1 b p->∀a,F a=F b->p a
 |[],p,h,a,hl=>by simp only[az,Ag]at hl;subst hl;exact h
 |_::b,p,h,a,hl=>by cases a with|nil=>simp at hl|cons X a=>exact NK (h X) a (by simpa using hl)
def grown(c:ag)(d:List Ob)(s:ag)(K:ag->ag->Prop):Prop:=∃a b,F a=F c/\s=a++(d++b)/\K a b
def xQ(P:aM)(c:List Ob):List (List Pi×Pi×List Pi)->List (List Pi×Pi×List Pi)->List Pi->(bk)->ao->ag->ag->Prop
 |[],[],last,K,fr,τ,ε=>kL P [] last (λst=>K ⟨st.fr,τ++(c++ε)⟩) ⟨fr,τ++(jH c++ε)⟩
 |[],(Hb,L,chk)::ds,last,K,fr,τ,ε=>kL P [] Hb (λb=>gI P L (λa=>(∀p∈chk,CC p a)/\so P ds last K a) ⟨b.fr,τ++(c++ε)⟩) ⟨fr,τ++(jH c++ε)⟩
 |(Hb,L,chk)::ds1,ds2,last,K,fr,τ,ε=>kL P [] Hb (λb=>L1 c λd=>gI P L (λa=>(∀p∈chk,CC p a)/\grown τ d a.J (xQ P c ds1 ds2 last K a.fr)) ⟨b.fr,τ++(d++ε)⟩) ⟨fr,τ++(jH c++ε)⟩
def JI(p:Pi):Ob:=match p.i with|.alloc T zs=>.box T zs|_=>.dead
def JG:List Ob:=M.map λf=>JI (fq X f)
def uG(listed:Array Bool):List Ob:=M.map λf=>bif listed.getD f Z then JI (fq X f)else .dead
structure XOF (pis:List Pi) (bs:cy) (m:Nat) (ls fl:cy) (k1:Nat):Prop where
 Hl:∀f∈fl,f<m/\f ∉ ls/\∃d T zs,fq pis f=⟨some d,[],.alloc T zs⟩
 nd:fl.Nodup
 kl:k1<=ls.length
 late:∀(k L f:Nat),k1<=k->ls[k]?=some L->f∈fl->tb bs L f=true
section
variable {P:aM} {ops:Array Oper} {pis:List Pi} {bs:cy} {m:Nat} {ls fl:cy} {k1:Nat}
def U9{listed:Array Bool}(h:∀f∈fl,kz listed f):uG pis fl listed=JG pis fl:=by refine di λf a=>?_;have:listed.getD f Z=A:=h f a;rw[this];rfl
def Le.mid{d a b e:ag}(h:Le a b)(f:F a=F b):Le (d++(a++e)) (d++(b++e)):=by
 intro id o c;by_cases i:id<F d;.rw[aj i]at c |-;exact .inr c
 rw[aD (by omega)]at c |-;by_cases g:id - F d<F a;.rw[aj g]at c;rw[aj (by omega)];exact h _ _ c
 rw[aD (by omega)]at c;rw[aD (by omega),<- f];exact .inr c
def R9(c b:ag)(listed:Array Bool):Le (c++(jH (JG pis fl)++b)) (c++(uG pis fl listed++b)):=by refine Le.mid (λid o a=>?_) (by simp[jH,JG,uG]);simp only[jH,JG,im,bu,al]at a;obtain⟨_,_,rfl⟩:=a;exact .inl rfl
def MV(k:XOF pis bs m ls fl k1){listed:Array Bool}{i:Nat}(g:i<listed.size)(d:i ∉ fl):uG pis fl (listed.setIfInBounds i A)=uG pis fl listed:=by
 refine di λf b=>?_;have c:=fF (listed:=listed) (j:=f) g;have a:f≠i:=λe=>d (e▸b);simp only[a,qb,kz]at c;have:(listed.setIfInBounds i A).getD f Z=listed.getD f Z:=by cases h:listed.getD f Z<;>simp_all
 rw[this]
def U8(i:XOF pis bs m ls fl k1){listed:Array Bool}{j f:Nat}(d:f<listed.size)(a:fl[j]?=N f):uG pis fl (listed.setIfInBounds f A)=(uG pis fl listed).set j (JI (fq pis f)):=by
 refine jw λx=>?_;have c:j<F fl:=(ab.1 a).1;by_cases b:j=x;.subst b;rw[aw (by simpa[uG]using c)];have:(listed.setIfInBounds f A).getD f Z=A:=(fF d).2 (.inl rfl);simp only[uG,bu,a,b5,this,cond_true]
 rw[aN b];simp only[uG,bu];cases h:fl[x]? with
 |none=>rfl
 |some y =>
 have e:y≠f:=by rintro rfl;exact b ((List.getElem?_inj c i.nd).1 (a.trans h.symm))
 have g:=fF (listed:=listed) (j:=y) d;simp only[e,qb,kz]at g;have:(listed.setIfInBounds f A).getD y Z=listed.getD y Z:=by cases k:listed.getD y Z<;>simp_all
 simp only[b5,this]
def zI(P:aM)(pis:List Pi)(bs:cy)(m:Nat)(ls fl:cy)(k1:Nat)(d:bk)(k:Nat)(e:ao)(b f:ag):Prop :=
 match (ls.take k1)[k]? with
 |some L=>L1 (JG pis fl) λc=>gI P (fq pis L) (λa=>(∀p∈(TO pis bs m ls k L).map (fq pis),CC p a)/\grown b c a.J
   (xQ P (JG pis fl) (CY pis bs m ls (k+1) ((ls.take k1).drop (k+1))) (CY pis bs m ls k1 (ls.drop k1)) ((nC pis bs m ls (F ls)).map (fq pis)) d a.fr)) ⟨e,b++(c++f)⟩
 |none=>uX P pis bs m ls d k e (b++(JG pis fl++f))
def AK.XE(f:AK ops pis bs m ls fl)(H:XOF pis bs m ls fl k1){D:bk}{k:Nat}(I:k<=k1){u:ao}{w z:ag} (h:xQ P (JG pis fl) (CY pis bs m ls k ((ls.take k1).drop k)) (CY pis bs m ls k1 (ls.drop k1)) ((nC pis bs m ls (F ls)).map (fq pis)) D u w z) : ∃a,zI P pis bs m ls fl k1 D k a w z/\(∀i∈nC pis bs m ls k,Fact (fq pis i) a (w++(jH (JG pis fl)++z)))/\(∀t,(∀i∈nC pis bs m ls k,(fq pis i).d≠N t)->a[t]?=u[t]?)/\F a=F u:=by
 have v:(nC pis bs m ls k).Pairwise (λi j=>∀t,(fq pis j).d=N t->t ∉ looks (fq pis i)/\(fq pis i).d≠N t):=by
  refine afg ?_ (List.Pairwise.filter _ ajW);intro i j b o K t p;replace b:=(eB (k:=k)).1 b;replace o:=(eB (k:=k)).1 o;refine⟨λq=>?_,λy=>?_⟩;.have:=f.lt b.1 o.1 (f.qG b.1 o.1 p q);omega
  have:=f.dst i j t b.1 o.1 y p;omega
 have r:∀i∈nC pis bs m ls k,∀t,(fq pis i).d=N t->t ∉ looks (fq pis i):=λi b t p q=>by rw[eB]at b;have:=f.lt b.1 b.1 (f.qG b.1 b.1 p q);omega
 have x:∀i∈nC pis bs m ls k,(fq pis i).i.de=A:=λi b=>(eB.1 b).2.1;have L:=H.kl;have B:F (ls.take k1)=k1:=by rw[bB];omega
 by_cases J:k<k1;.have e:(ls.take k1).drop k=(ls.take k1)[k]::(ls.take k1).drop (k+1):=cX (by omega);rw[e]at h;simp only[CY,xQ]at h;obtain⟨a,l,c,n,g⟩:=xP _ _ h x v r;refine⟨a,?_,c,n,g⟩;simp only[zI,an (show k<F (ls.take k1) by omega)];exact l
 have s:k=k1:=by omega
 subst s;rw[List.drop_of_length_le (by omega)]at h;have E:(ls.take k)[k]?=Y:=bK (by omega);by_cases C:k<F ls;.have e:ls.drop k=ls[k]::ls.drop (k+1):=cX C;rw[e]at h;simp only[CY,xQ]at h;obtain⟨a,l,c,n,g⟩:=xP _ _ h x v r;refine⟨a,?_,c,n,g⟩;simp only[zI,E,uX,an C];exact l
 have G:k=F ls:=by omega
 subst G;rw[nN]at h;simp only[CY,xQ]at h;obtain⟨a,l,c,n,g⟩:=xP _ _ h x v r;refine⟨a,?_,c,n,g⟩;have e:ls[F ls]?=Y:=bK (ax _);simp only[zI,E,uX,e];exact l
def Ds(g:AK ops pis bs m ls fl)(M:XOF pis bs m ls fl k1)(hp:rP P ops ops.toList=N pis){n B n0:Nat}{gs:cy}{w0 ws:aT}{av:ag}{a0:Mem}{K:bk}{Q:Exit->Act->aT->Prop} (hQ:∀st w G a,K st->gU P B w0 w st.J G->FR w st.J G st.fr a->fX n ws av a0 w st.J G->Q .normal a w) (H:Hc (D0 pis m) (pis.drop m) gs=A) : ∀(c k:Nat) (listed:Array Bool) (C:ao) (l u:ag) (w:aT) (G:Mem) (a:Act),listed.size=ops.size ->(∀i j,i<F pis->j<F pis->kz listed i->tb bs i j=A->kz listed j)->(∀i,m<=i->i<F pis->¬kz listed i)->k<=k1 ->(∀j L,ls[j]?=N L->(kz listed L<->j<k))->(∀i,i<m->(fq pis i).i.de=A->Eg bs ls i<=k->¬kz listed i->Fact (fq pis i) C (l++(uG pis fl listed++u))) ->F l=n0->(∀j f d,fl[j]?=N f->(fq pis f).d=N d->ek C (N d) (.ptr (n0+j) 0)=C) ->zI P pis bs m ls fl k1 (kL P gs (pis.drop m) K) k C l u->Fa (F pis) listed<=c ->gU P B w0 w (l++(uG pis fl listed++u)) G->DW w (l++(uG pis fl listed++u)) G C (nX pis m listed) a->fX n ws av a0 w (l++(uG pis fl listed++u)) G->wpAny P .any ops Q c listed a w:=by
 have hn:F pis=ops.size:=by rw[(ou hp).1,aW]
 have hm:=g.mn;have sC:=M.kl;have b4:F (ls.take k1)=k1:=by rw[bB];omega
 have done:∀(c k:Nat) (listed:Array Bool) (C:ao) (l u:ag) (w:aT) (G:Mem) (a:Act),listed.size=ops.size ->(∀i j,i<F pis->j<F pis->kz listed i->tb bs i j=A->kz listed j)->(∀i,m<=i->i<F pis->¬kz listed i)->k=k1->(∀f∈fl,kz listed f) ->(∀j L,ls[j]?=N L->(kz listed L<->j<k))->(∀i,i<m->(fq pis i).i.de=A->Eg bs ls i<=k->¬kz listed i->Fact (fq pis i) C (l++(uG pis fl listed++u))) ->zI P pis bs m ls fl k1 (kL P gs (pis.drop m) K) k C l u->Fa (F pis) listed<=c ->
   gU P B w0 w (l++(uG pis fl listed++u)) G->DW w (l++(uG pis fl listed++u)) G C (nX pis m listed) a->fX n ws av a0 w (l++(uG pis fl listed++u)) G->wpAny P .any ops Q c listed a w:=by intro c k listed C l u w G a X hc xC hk uq S C2 BW hu hS hF Ls;subst hk;have en:(ls.take k)[k]?=Y:=bK (by omega);simp only[zI,en]at BW;rw[U9 uq]at C2 hS hF Ls;exact wh g hp hQ H c k listed C _ w G a X uq hc xC sC S C2 BW hu hS hF Ls
 intro c;induction c with
 |zero =>
  intro k listed C l u w G a X hc xC hk S C2 Lo SQ BW hu hS hF Ls;have SE:∀i,i<F pis->kz listed i:=λi hi=>bC λh=>by have:=Mf hi h;omega
  have jC:∀i,i<m->kz listed i:=λi hi=>SE i (by omega);have sC:k=k1:=by
   refine bC λgn=>?_;have dC:k<F ls:=by omega
   have:=(S k ls[k] (an dC)).1 (jC _ (g.Ue _ (cS dC)).1);omega
  exact done 0 k listed C l u w G a X hc xC sC (λf hf=>jC f (M.Hl f hf).1) S C2 BW hu hS hF Ls
 |succ c ih =>
 intro k listed C l u w G a X hc xC hk S C2 Lo SQ BW hu hS hF Ls;by_cases Nq:k=k1/\∀f∈fl,kz listed f;.exact done _ k listed C l u w G a X hc xC Nq.1 Nq.2 S C2 BW hu hS hF Ls
 have XU:¬∀i,i<m->kz listed i:=by
  intro jC;refine Nq ⟨?_,λf hf=>jC f (M.Hl f hf).1⟩;refine bC λgn=>?_;have dC:k<F ls:=by omega
  have:=(S k ls[k] (an dC)).1 (jC _ (g.Ue _ (cS dC)).1);omega
 refine⟨λh=>absurd (λi hi=>g.first X h i (by omega)) XU,λi hi=>?_⟩;obtain⟨b6,PA,o,ho,_⟩:=sR X hi;have uo:i<F pis:=by omega
 have EO:∀j,j<F pis->tb bs i j=A->kz listed j:=λj D H=>g.ready hn X hc hi D H;have DE:i<m:=by refine bC λh=>XU λj D=>?_;exact EO j (by omega) (g.tail i j (by omega) uo (by omega))
 obtain⟨p,b0,QD⟩:=(ou hp).2 i o (by simpa using ho);have V:fq pis i=p:=by simp[fq,aq,b0]
 have jf:JU (nX pis m listed) p:=V▸g.adx hc DE PA EO;have s:∀x j,x<F pis->j<F pis->kz (listed.setIfInBounds i A) x->tb bs x j=A->kz (listed.setIfInBounds i A) j:=by
  intro x j b D v H;rw[fF (by omega)]at v |-;rcases v with rfl|v;.exact .inr (EO j D H)
  exact .inr (hc x j b D v H)
 have ac:∀x,m<=x->x<F pis->¬kz (listed.setIfInBounds i A) x:=by
  intro x b bi v;rw[fF (by omega)]at v;rcases v with rfl|v;.omega
  exact xC x b bi v
 have aV:Fa (F pis) (listed.setIfInBounds i A)<=c:=by have:=Me uo (by omega:i<listed.size) PA;omega
 have Zu:∀x,x<m->(fq pis x).i.de=A->(∀j,j<F pis->tb bs x j=A->kz listed j)->Eg bs ls x<=k:=by
  intro x b hs a4;refine bC λdC=>?_;have h1:Eg bs ls x<=F ls:=fQ _ _;have h2:k<F ls:=by omega
  have h3:=(g.Hb x k ls[k] b hs (an h2)).2 (by omega);have h4:=a4 ls[k] (by have:=(g.Ue _ (cS h2)).1;omega) h3;have:=(S k ls[k] (an h2)).1 h4;omega
 have e:sE (nX pis m listed) p=nX pis m (listed.setIfInBounds i A):=by rw[<- V];exact g.sE DE (by omega)
 simp only[wpOp,ho];by_cases hs:p.i.de=A;.
  have rI:(fq pis i).i.de=A:=by rw[V];exact hs
  have QC:i ∉ fl:=λh=>by obtain⟨d,T,zs,h2⟩:=(M.Hl i h).2.2;rw[h2]at rI;simp[I.de]at rI
  have hf:=C2 i DE rI (Zu i DE rI EO) PA;rw[V]at hf;refine YJ QD hS hF jf (Ny hf) ?_;intro r J' U a' w' k1 k2 k3 k4;simp only[St.mk.injEq]at k1;obtain⟨k1,rfl⟩:=k1;rw[k1,e]at k3;have O:=MV (pis:=pis) M (listed:=listed) (i:=i) (by omega) QC;refine ih k _ C l u w' U a' (by simpa using X) s ac hk (λj L hL=>?_) (λx b xB Zq ub=>?_) Lo SQ BW aV (by rw[O];exact k2) (by rw[O];exact k3) (by rw[O];exact Ls.trans k4.NW)
  .rw[fF (by omega),S j L hL];have:L≠i:=λe=>by have:=(g.Ue L (bc hL)).2;rw[e,rI]at this;simp at this
   simp[this]
  rw[O];exact C2 x b xB Zq λh=>ub ((fF (by omega)).2 (.inr h))
 have rI:(fq pis i).i.de=Z:=by rw[V];simpa using hs
 rcases g.IH i DE rI with vK|vK;.
  obtain⟨j,D⟩:=eC.1 vK;have QC:i ∉ fl:=λh=>(M.Hl i h).2.1 vK;have lz:j<F ls:=(ab.1 D).1;have cb:¬j<k:=λh=>PA ((S j i D).2 h);have No:j=k:=by
   refine bC λgn=>?_;have sC:k<F ls:=by omega
   have h2:=g.Vf k j i ls[k] (by omega) (an sC) D;have h3:=EO ls[k] (by have:=(g.Ue _ (cS sC)).1;omega) h2;have:=(S k ls[k] (an sC)).1 h3;omega
  subst No;have bv:j<k1:=by refine bC λh=>Nq ⟨by omega,λf hf=>?_⟩;exact EO f (by have:=(M.Hl f hf).1;omega) (M.late j i f (by omega) D hf)
  have b1:(ls.take k1)[j]?=N i:=by rw[gd,aK bv];exact D
  simp only[zI,b1,V]at BW;have bp:=NK BW (uG pis fl listed) (by simp[uG,JG]);refine opG QD hS hF jf bp ?_;intro r J' U a' w' k1 k2 k3 k4;obtain⟨ZS,am,af,a3,td,dA⟩:=k1;simp only at td;subst td;obtain⟨R,h1,h2,h3,h4⟩:=g.XE M (k:=j+1) (by omega) dA;rw[e]at k3;have O:=MV (pis:=pis) M (listed:=listed) (i:=i) (by omega) QC;have ku:∀x∈nC pis bs m ls (j+1),¬kz (listed.setIfInBounds i A) x:=by
   intro x b v;rw[eB]at b;rw[fF (by omega)]at v;rcases v with rfl|v;.rw[rI]at b;simp at b
   have:=Zu x b.1 b.2.1 λy E H=>hc x y (by omega) E v H;omega
  have B5:∀t y,y<m->(fq pis y).d=N t->kz (listed.setIfInBounds i A) y->R[t]?=(ek C p.d r)[t]?:=by intro t y E W v;refine h3 t λx b aE=>ku x b ?_;rw[g.dst x y t (eB.1 b).1 E aE W];exact v
  have be:DW w' (am++(uG pis fl listed++af)) U R (nX pis m (listed.setIfInBounds i A)) a':=by
   refine⟨k3.1,by rw[h4];exact k3.2.1,λt x b ch zr=>?_⟩;have Lh:R[t]?=(ek C p.d r)[t]?:=by
    rcases lP zr with⟨_,tj⟩|⟨y,E,W,v,_⟩;.exact h3 t λx b=>tj x (eB.1 b).1
    exact B5 t y E W v
   have B0:chainB R ch=chainB (ek C p.d r) ch:=by
    refine mm λq hq=>?_;rcases lP zr with⟨rfl,_⟩|⟨y,E,W,v,rfl⟩;.simp at hq
    obtain⟨z,hz,b2,bn⟩:=g.chain y q E hq;exact B5 q.1 z hz b2 (s y z (by omega) (by omega) v bn)
   rw[B0];rw[Lh]at b;exact k3.2.2 t x b ch zr
  refine ih (j+1) _ R am af w' U a' (by simpa using X) s ac (by omega) (λy L hL=>?_) (λx b xB Zq ub=>?_) (a3.trans Lo) (λy f d E W=>?_) h1 aV (by rw[O];exact k2) (by rw[O];exact be) (by rw[O];exact Ls.trans k4.NW)
  .rw[fF (by omega),S y L hL];constructor
   .rintro(rfl|h);.refine bC λgn=>?_;have h5:=g.Vf j y L L (by omega) D hL;have:=g.lt DE DE h5;omega
    omega
   intro h;rcases gF y j with h5|h5;.exact .inr h5
   have:y=j:=by omega
   subst this;rw[hL]at D;simp only[aa]at D;exact .inl D
  .rw[O];by_cases b3:Eg bs ls x=j+1;.exact(h2 x (eB.2 ⟨b,xB,b3⟩)).le (R9 am af listed)
   have ap:Eg bs ls x<=j:=by omega
   have Sp:¬kz listed x:=λh=>ub ((fF (by omega)).2 (.inr h));have ZA:¬tb bs i x=A:=λh=>Sp (EO x (by omega) h);have GG:Fact (fq pis x) (ek C p.d r) (am++(uG pis fl listed++af)):=by
    by_cases hr:(fq pis x).i.reads=A;.exact(ZS (fq pis x) (br.2 ⟨x,by simp[TO,b,xB,hr,ap,ZA],rfl⟩)).fact
    have a9:(fq pis x).i.reads=Z:=by simpa using hr
    refine Fact.still (Fact.agree (C2 x b xB ap Sp) (λt H=>?_) (λt H=>?_) oG) a9;.refine kK λW=>?_;have h5:=g.qG b DE (V▸W) H;have:=(g.Hb x j i b xB D).1 h5;omega
    refine kK λW=>?_;have:=g.dst x i t b DE H (V▸W);subst this;rw[xB]at rI;simp at rI
   refine Fact.agree GG (λt H=>?_) (λt H=>?_) h4;.refine h3 t λy E V7=>?_;rw[eB]at E;have:=g.mono x y t b xB E.1 E.2.1 V7 H;omega
   refine h3 t λy E V7=>?_;rw[eB]at E;have:=g.dst x y t b E.1 H V7;subst this;omega
  have h5:=SQ y f d E W;have a2:=(M.Hl f (bc E)).1;have h6:R[d]?=C[d]?:=by
   rw[h3 d λx b aE=>?_];.refine kK λbm=>?_;have:=g.dst f i d a2 DE W (V▸bm);exact QC (this▸bc E)
   have:=g.dst f x d a2 (eB.1 b).1 W aE;have h7:=(eB.1 b).2.1;obtain⟨d',T,zs,h8⟩:=(M.Hl f (bc E)).2.2;rw[<- this,h8]at h7;simp[I.de]at h7
  rw[qv]at h5 |-;intro t a1 v;have h7:=h5 t a1 (by rw[h4,oG]at v;exact v);simp only[aa]at a1;subst a1;rw[h6];exact h7
 obtain⟨j,D⟩:=eC.1 vK;obtain⟨_,xD,d,T,zs,ad⟩:=M.Hl i vK;rw[V]at ad;have lz:j<F fl:=(ab.1 D).1;have bt:listed.getD i Z=Z:=by cases h:listed.getD i Z with|false=>rfl|true=>exact absurd h PA
 have a5:(l++(uG pis fl listed++u))[n0+j]?=N .dead:=by rw[aD (by omega),Lo,dD,aj (by simp only[uG,ae];omega)];simp only[uG,bu,D,b5,bt,L7]
 have eb:JI (fq pis i)=.box T zs:=by rw[V,ad];rfl
 have O:l++(uG pis fl (listed.setIfInBounds i A)++u)=(l++(uG pis fl listed++u)).set (n0+j) (.box T zs):=by rw[U8 M (by omega) D,eb,b8 _ _ (by omega),Lo,dD,eT _ _ (by simp only[uG,ae];omega)]
 have bx:p.d=N d:=by rw[ad]
 have ll:=SQ j i d D (by rw[V];exact bx);have bw:Le (l++(uG pis fl listed++u)) ((l++(uG pis fl listed++u)).set (n0+j) (.box T zs)):=by
  intro id o ho;by_cases he:n0+j=id;.subst he;rw[a5]at ho;simp only[aa]at ho;exact .inl ho.symm
  rw[aN he];exact .inr ho
 refine LZ QD ad hS hF jf a5 ?_;intro U a' w' k2 k3 k4;rw[ll,e]at k3;refine ih k _ C l u w' U a' (by simpa using X) s ac hk (λy L hL=>?_) (λx b xB Zq ub=>?_) Lo SQ BW aV (by rw[O];exact k2) (by rw[O];exact k3) (by rw[O];exact Ls.trans k4.NW);.rw[fF (by omega),S y L hL];have:L≠i:=λe=>xD (e▸bc hL);simp[this]
 rw[O];exact(C2 x b xB Zq λh=>ub ((fF (by omega)).2 (.inr h))).le bw
def z8(pis:List Pi)(fl:cy):List (Nat×Nat×ao):=fl.map λf=>match fq pis f with|⟨N d,_,.alloc T zs⟩=>(d,T,zs)|_=>(0,0,[])
def JH(a:List (Nat×Nat×ao)):List Ob:=a.map λx=>.box x.2.1 x.2.2
def vV:Nat->List (Nat×Nat×ao)->ao->ao|_,[],fr=>fr|n,x::r,fr=>vV (n+1) r (fr.set x.1 (.ptr n 0))
def u4{t:Nat}:∀{l:List (Nat×Nat×ao)} {n:Nat} {a:ao},(∀x∈l,x.1≠t)->(vV n l a)[t]?=a[t]?|[],_,_,_=>rfl|x::l,n,a,h=>by rw[vV,u4 λy b=>h y (by simp[b]),aN (h x (by simp))]
def A5:∀{l:List (Nat×Nat×ao)} {n:Nat} {a:ao},F (vV n l a)=F a|[],_,_=>rfl|x::l,n,a=>by rw[vV,A5];simp
def Mn:∀{l:List (Nat×Nat×ao)} {n j:Nat} {c:ao} {x:Nat×Nat×ao},l.Pairwise (λa b=>a.1≠b.1)->l[j]?=N x->x.1<F c->(vV n l c)[x.1]?=N (.ptr (n+j) 0)
 |[],_,_,_,_,_,h,_=>by simp at h
 |y::l,n,0,c,x,hp,h,hl=>by simp only[aH,aa]at h;subst h;rw[lU]at hp;rw[vV,u4 λz d=>Qm (hp.1 z d),aw hl,dQ]
 |y::l,n,j+1,c,x,hp,h,hl=>by rw[lU]at hp;rw[vV,Mn (j:=j) hp.2 (by simpa using h) (by simpa using hl)];congr 2;omega
def gU.jH{P:aM}{B:Nat}{f w:aT}:∀(b:List Ob) {J:ag} {c:Mem},gU P B f w J c->∃a,gU P B f w (J++Go.Pm.jH b) a/\np w J c w (J++Go.Pm.jH b) a
 |[],J,c,h=>⟨c,by simpa[Go.Pm.jH]using h,by simpa[Go.Pm.jH]using np.refl w J c⟩
 |_::b,J,c,h=>by
  obtain⟨j,i⟩:=h.sb (w':=w) .dead undef ⟨rfl,rfl,rfl,ax _,λ_ _ _=>rfl⟩ (by simp[js,undef]) λ_=>trivial;obtain⟨a,g,d⟩:=gU.jH b j;have e:J++[Ob.dead]++Go.Pm.jH b=J++Go.Pm.jH (.dead::b):=by simp[Go.Pm.jH]
  rw[e]at g d;exact⟨a,g,i.trans d⟩
def okF(pis:List Pi)(bs:cy)(m:Nat)(ls fl:cy)(k1:Nat):Bool :=
 (fl.all λf=>decide (f<m)&&(!ls.contains f&&match fq pis f with|⟨N _,[],.alloc _ _⟩=>A|_=>Z))&&(decide fl.Nodup&&(decide (k1<=F ls)&&(ls.drop k1).all λL=>fl.all λf=>tb bs L f))
def YK(h:okF pis bs m ls fl k1=A):XOF pis bs m ls fl k1:=by
 simp only[okF,aP,cv,a7,da]at h;obtain⟨l,g,o,j⟩:=h;refine⟨λf a=>?_,g,o,λk L f q p a=>j L ?_ f a⟩
 .obtain⟨n,c,b⟩:=l f a;refine⟨n,by simpa using c,?_⟩;split at b;.rename_i d T zs e;exact⟨d,T,zs,e⟩
  simp at b
 refine bc (i:=k - k1) ?_;rw[dV,<- p];congr 1;omega
def Dk{n B:Nat}{gs:cy}{K:bk}{Q:Exit->Act->aT->Prop}(hp:rP P ops ops.toList=N pis)(jf:U6 ops pis bs m ls fl=A)(Zy:okF pis bs m ls fl k1=A) (ht:Hc (D0 pis m) (pis.drop m) gs=A) {fr:ao} {J:ag} {w0 w:aT} {S:Mem} {a:Act} (h:xQ P (JH (z8 pis fl)) (CY pis bs m ls 0 (ls.take k1)) (CY pis bs m ls k1 (ls.drop k1)) ((nC pis bs m ls (F ls)).map (fq pis)) (kL P gs (pis.drop m) K) (vV (F J) (z8 pis fl) fr) J []) (hS:gU P B w0 w J S) (hF:FR w J S fr a) (hQ:∀c w' o M,K c->gU P B w0 w' c.J o->FR w' c.J o c.fr M->fX n w J S w' c.J o->Q .normal M w'):wpAny P .any ops Q ops.size (Array.replicate ops.size Z) a { w with drawn:=w.drawn+1 }:=by
 have hn:F pis=ops.size:=by rw[(ou hp).1,aW]
 have G:=Rz jf hn;have l:=YK Zy;have U:JH (z8 pis fl)=JG pis fl:=by simp only[JH,z8,JG,im];refine di λf p=>?_;obtain⟨d,T,zs,e⟩:=(l.Hl f p).2.2;simp[e,JI]
 rw[U]at h;have C2:∀(j f d:Nat),fl[j]?=N f->(fq pis f).d=N d->∃x,(z8 pis fl)[j]?=N x/\x.1=d:=by intro j f d v u;obtain⟨W,T,zs,e⟩:=(l.Hl f (bc v)).2.2;rw[e]at u;simp only[aa]at u;exact⟨(W,T,zs),by simp[z8,v,e],u⟩
 have ac:∀x∈z8 pis fl,∃f,f∈fl/\(fq pis f).d=N x.1:=by intro x q;simp only[z8,br]at q;obtain⟨f,p,rfl⟩:=q;obtain⟨d,T,zs,e⟩:=(l.Hl f p).2.2;exact⟨f,p,by simp[e]⟩
 have Nj:(z8 pis fl).Pairwise (λa b=>a.1≠b.1):=by rw[z8,Qp];refine l.nd.imp_of_mem ?_;intro f g p hg gn he;obtain⟨d,T,zs,e⟩:=(l.Hl f p).2.2;obtain⟨W,T',am,e'⟩:=(l.Hl g hg).2.2;simp only[e,e']at he;subst he;exact gn (G.dst f g d (l.Hl f p).1 (l.Hl g hg).1 (by rw[e]) (by rw[e']))
 obtain⟨ad,Qy⟩:=hS.grown (w':={ w with drawn:=w.drawn+1 }) ⟨rfl,rfl,rfl,ax _,λ_ _ _=>rfl⟩;obtain⟨O,X7,D⟩:=ad.jH (JG pis fl);have e0:J++jH (JG pis fl)=J++(jH (JG pis fl)++[]):=by rw[bM]
 rw[e0]at X7 D;have hk:=Qy.fU.trans D.fU;have r:=hF.fU hk;obtain⟨af,h1,h2,h3,h4⟩:=G.XE l (k:=0) (eR _) (by simpa using h);have E:∀i,¬kz (Array.replicate ops.size Z) i:=by intro i;simp only[kz,bJ,yQ];split<;>simp
 have H:uG pis fl (Array.replicate ops.size Z)=jH (JG pis fl):=by
  simp only[uG,jH,JG,im];refine di λf _=>?_;have:(Array.replicate ops.size Z).getD f Z=Z:=by cases hh:(Array.replicate ops.size Z).getD f Z with|false=>rfl|true=>exact absurd hh (E f)
  simp[this]
 refine Ds (n:=n) G l hp (λc w' o M k1 k2 k3 k4=>hQ c w' o M k1 k2 k3 (fX.trans hk.NW k4)) ht ops.size 0 _ af J [] _ O a (by simp) (λi j _ _ s=>absurd s (E i)) (λi _ _=>E i) (eR _) (λj L hL=>⟨λs=>absurd s (E L),λh=>by omega⟩) (λi X hs Zu _=>by rw[H];exact h2 i (eB.2 ⟨X,hs,by omega⟩)) rfl (λj f d v u=>?_) h1 (by rw[hn];unfold Fa;exact bX (fQ _ _) (by simp)) (by rw[H];exact X7) ?_ (by rw[H];exact fX.refl _ _ _ _)
 .have V:=(l.Hl f (bc v)).1;obtain⟨x,q,rfl⟩:=C2 j f d v u;rw[qv];intro t z s;simp only[aa]at z;subst z;rw[h3 x.1 λy C V7=>?_];.exact Mn Nj q (by rwa [h4,A5]at s)
  have:=G.dst f y x.1 V (eB.1 C).1 u V7;have h7:=(eB.1 C).2.1;obtain⟨W,T,zs,h8⟩:=(l.Hl f (bc v)).2.2;rw[<- this,h8]at h7;simp[I.de]at h7
 rw[H];refine⟨r.1,by rw[h4,A5];exact r.2.1,λt x q ch zr=>?_⟩;rcases lP zr with⟨rfl,tj⟩|⟨y,C,u,s,_⟩
 .rw[h3 t λi X=>tj i (eB.1 X).1,u4 λy C e=>?_]at q;.exact⟨λ_=>r.2.2 t x q,λh=>by simp[chainB]at h⟩
  obtain⟨f,p,R⟩:=ac y C;exact tj f (l.Hl f p).1 (e▸R)
 exact absurd s (E y)
end
variable(S:aM)(X:Array Oper)(H:List Pi)(G:cy)(D:Nat){U:Array Oper}{R:aM}{E:cy}
inductive bH where
 |skip
 |ar (gs:cy) (is:List Pi)
 |dH (ds:List (List Pi×Pi×List Pi)) (last:List Pi) (gs:cy) (tail:List Pi)
 |seq (a b:bH)
 |ite (c:O) (a b:bH)
 |block (id:Nat) (c:bH)
 |loop (c:bH)
 |exit (id:Nat)
 |ret
 |both (a b:bH)
 |QG (fls:List (Nat×Nat×ao)) (ds1 ds2:List (List Pi×Pi×List Pi)) (last:List Pi) (gs:cy) (tail:List Pi)
variable{M:bH}
def yy:cy:=H.filterMap λp=>if p.g.isEmpty then Y else p.d
def aaM:Option bH :=
 match rP S X X.toList with|some pis=>if Hc [] pis (yy pis)then N (.ar (yy pis) pis)else Y|none=>Y
def xo:Option bH :=
 if S.follows .mixedOrders then match rP S X X.toList with
  |some pis =>
   let m:=mX G (F pis);let ls:=(List.range m).filter λi=>!(fq pis i).i.de
   if U6 X pis G m ls []&&Hc (D0 pis m) (pis.drop m) (yy pis)then
    N (.dH (CY pis G m ls 0 ls) ((nC pis G m ls (F ls)).map (fq pis)) (yy pis) (pis.drop m))else Y
  |none=>Y
 else Y
def V0:Op->Bool
 |.alloc _|.box _ _=>A
 |_=>Z
def Xr:cy:=(List.range X.size).filter λi=>match X[i]? with|some o=>V0 o.op|none=>Z
def NH:Option bH :=
 match Xr X with
 |[i,j]=>if i≠j/\i<X.size/\j<X.size/\S.follows .mixedOrders=A/\((List.range X.size).all λx=>x==i||(x==j||match X[x]? with|some o=>pC o.op|none=>A))=A then
   match xo S (waitsFor X j i) (Region.before (waitsFor X j i)).toList,xo S (pz (waitsFor X i j) i j) (Region.before (pz (waitsFor X i j) i j)).toList with
   |some a,N b=>N (.both a b)
   |_,_=>Y
  else Y
 |_=>Y
def agM(i:Nat):Bool:=match fq H i with
 |⟨N _,[],.alloc _ _⟩=>(List.range D).any λj=>!(fq H j).i.de&&(j != i&&(!tb G i j&&!tb G j i))
 |_=>Z
def cFl:Option bH :=
 if S.follows .mixedOrders then match rP S X X.toList with
  |some pis =>
   let m:=mX G (F pis);let fl:=(List.range m).filter (agM pis G m);let ls:=(List.range m).filter λi=>!(fq pis i).i.de&&!fl.contains i;let k1:=F (ls.filter λL=>!fl.all (tb G L))
   if U6 X pis G m ls fl&&(okF pis G m ls fl k1&&Hc (D0 pis m) (pis.drop m) (yy pis))then
    N (.QG (z8 pis fl) (CY pis G m ls 0 (ls.take k1)) (CY pis G m ls k1 (ls.drop k1)) ((nC pis G m ls (F ls)).map (fq pis)) (yy pis) (pis.drop m))else Y
  |none=>Y
 else Y
def TR:Option bH :=
 match xo S X (Region.before X).toList with
 |some c=>N c
 |none=>match NH S X with
  |some c=>N c
  |none=>cFl S X (Region.before X).toList
def fW(P:aM):Code->Option bH
 |.skip=>N .skip
 |.region _ ops Z=>aaM P ops
 |.region _ ops A=>TR P ops
 |.seq a b=>match fW P a,fW P b with
  |some a,N b=>N (.seq a b)
  |_,_=>Y
 |.cond c a b=>match cO c,fW P a,fW P b with
  |some c,N a,N b=>N (.ite c a b)
  |_,_,_=>Y
 |.block id c=>(fW P c).map (.block id)
 |.loop c=>(fW P c).map .loop
 |.exit id=>N (.exit id)
 |.ret=>N .ret
 |_=>Y
def jl(h:aaM R U=N M):∃pis,rP R U U.toList=N pis/\Hc [] pis (yy pis)=A/\M=.ar (yy pis) pis:=by
 unfold aaM at h;split at h;.rename_i pis a;split at h<;>simp only[aa,reduceCtorEq]at h;rename_i b;exact⟨pis,a,b,h.symm⟩
 simp at h
def vt(h:xo R U E=N M): R.follows .mixedOrders=A/\∃pis m ls,rP R U U.toList=N pis/\U6 U pis E m ls []=A/\Hc (D0 pis m) (pis.drop m) (yy pis)=A /\M=.dH (CY pis E m ls 0 ls) ((nC pis E m ls (F ls)).map (fq pis)) (yy pis) (pis.drop m):=by
 unfold xo at h;split at h
 .rename_i c;split at h;.rename_i pis b;dsimp only at h;split at h<;>simp only[aa,reduceCtorEq]at h;rename_i a;rw[aP]at a;exact⟨c,pis,_,_,b,a.1,a.2,h.symm⟩
  simp at h
 simp at h
def CE(h:NH R U=N M):∃i j a b,i≠j/\i<U.size/\j<U.size/\R.follows .mixedOrders=A /\(∀x o,x≠i->x≠j->U[x]?=N o->pC o.op=A)/\xo R (waitsFor U j i) (Region.before (waitsFor U j i)).toList=N a /\xo R (pz (waitsFor U i j) i j) (Region.before (pz (waitsFor U i j) i j)).toList=N b/\M=.both a b:=by
 unfold NH at h;split at h
 .rename_i i j r;split at h
  .rename_i l;obtain⟨k,e,m,g,c⟩:=l;split at h<;>simp only[aa,reduceCtorEq]at h;rename_i a b n f;refine⟨i,j,a,b,k,e,m,g,λx o q p d=>?_,n,f,h.symm⟩;simp only[cv,dt,dW,b9]at c;have:=c x (bh.1 d).1;rw[d]at this;rcases this with h|h|h;.exact absurd h q
   .exact absurd h p
   exact h
  simp at h
 simp at h
def JD(h:cFl R U E=N M): R.follows .mixedOrders=A/\∃pis m ls fl k1,rP R U U.toList=N pis/\U6 U pis E m ls fl=A/\okF pis E m ls fl k1=A/\Hc (D0 pis m) (pis.drop m) (yy pis)=A /\M=.QG (z8 pis fl) (CY pis E m ls 0 (ls.take k1)) (CY pis E m ls k1 (ls.drop k1)) ((nC pis E m ls (F ls)).map (fq pis)) (yy pis) (pis.drop m):=by
 unfold cFl at h;split at h
 .rename_i c;split at h;.rename_i pis b;dsimp only at h;split at h<;>simp only[aa,reduceCtorEq]at h;rename_i a;rw[aP,aP]at a;exact⟨c,pis,_,_,_,_,b,a.1,a.2.1,a.2.2,h.symm⟩
  simp at h
 simp at h
def il(h:TR R U=N M): (∃o last f c,M=.dH o last f c/\xo R U (Region.before U).toList=N M)\/(∃a b,M=.both a b/\NH R U=N M) \/(∃k g l last f c,M=.QG k g l last f c/\cFl R U (Region.before U).toList=N M):=by
 unfold TR at h;split at h;.rename_i n e;simp only[aa]at h;subst h;obtain⟨_,pis,m,ls,_,_,_,d⟩:=vt e;exact .inl ⟨_,_,_,_,d,e⟩
 split at h;.rename_i n e;simp only[aa]at h;subst h;obtain⟨i,j,a,b,_,_,_,_,_,_,_,d⟩:=CE e;exact .inr (.inl ⟨a,b,d,e⟩)
 obtain⟨_,pis,m,ls,fl,k1,_,_,_,_,d⟩:=JD h;exact .inr (.inr ⟨_,_,_,_,_,_,d,h⟩)
def cd(P:aM)(c:bH)(K:bj)(st:St):Prop:=∀a,fW P a=N c->PW D P a K st
def cd.mono{n:Nat}{K c:bj}{st:St}(h:cd n R M K st)(d:∀e b,K e b->c e b):cd n R M c st :=λa f=>(h a f).mono d
section rules
variable {n:Nat} {P:aM} {K:bj} {st:St}
def cd.skip(h:K .normal st):cd n P .skip K st:=by
 intro a c;cases a;case skip=>exact PW.skip h
 all_goals first|(exfalso;revert c;simp only[fW];try ((repeat' split)<;>simp);done)|(rename_i _ ops b;exfalso;cases b<;>simp only[fW]at c<;>first|(obtain⟨_,_,_,h⟩:=jl c;simp at h;done)|(rcases il c with⟨_,_,_,_,h,_⟩|⟨_,_,h,_⟩|⟨_,_,_,_,_,_,h,_⟩<;>simp at h;done))
def cd.ar{gs:cy}{d:List Pi}(h:kL P gs d (K .normal) st):cd n P (.ar gs d) K st:=by
 intro b c;cases b;case region id ops draw =>
  cases draw
  .simp only[fW]at c;obtain⟨u,p,r,i⟩:=jl c;simp only[bH.ar.injEq]at i;obtain⟨rfl,rfl⟩:=i;intro B w0 w e a s o;refine wp_region ?_;have:=Ba (P:=P) (ops:=ops) (n:=n) (B:=B) (gs:=yy d) (w0:=w0) (ws:=w) (σs:=st.J) (μs:=e) (K:=K .normal) (Q:=iI P n B w0 w st.J e K)
    (λg t f v m k q l=>⟨g,f,m,k,q,l⟩) ops.toList 0 d [] st.fr st.J w e a (λj=>by simp) p r h s o.toI (fX.refl _ _ _ _);simp only[bq,List.map_id',aW]at this;exact this
  simp only[fW]at c;rcases il c with⟨_,_,_,_,h,_⟩|⟨_,_,h,_⟩|⟨_,_,_,_,_,_,h,_⟩<;>simp at h
 all_goals first|(exfalso;revert c;simp only[fW];try ((repeat' split)<;>simp);done)
def cd.dH{i:List (List Pi×Pi×List Pi)}{last:List Pi}{g:cy}{b:List Pi}(h:so P i last (kL P g b (K .normal)) st):cd n P (.dH i last g b) K st:=by
 intro d c;cases d;case region id ops draw =>
  cases draw;.simp only[fW]at c;obtain⟨_,_,_,h⟩:=jl c;simp at h
  simp only[fW]at c;rcases il c with⟨_,_,_,_,_,c⟩|⟨_,_,h,_⟩|⟨_,_,_,_,_,_,h,_⟩;rotate_left;.simp at h
  .simp at h
  obtain⟨u,pis,m,ls,r,t,l,j⟩:=vt c;simp only[bH.dH.injEq]at j;obtain⟨rfl,rfl,rfl,rfl⟩:=j;intro B C w x a v q;exact H0 (n:=n) u r t l h v q λf y e z p k s o=>⟨f,e,p,k,s,o⟩
 all_goals first|(exfalso;revert c;simp only[fW];try ((repeat' split)<;>simp);done)
def EZ{ops:Array Oper}{bs:cy}{c:bH}(C:xo P ops bs=N c)(h:∃k last j d,c=.dH k last j d/\so P k last (kL P j d (K .normal)) st) {B:Nat} {o w:aT} {i:Mem} {a:Act} (z:gU P B o w st.J i) (u:FR w st.J i st.fr a) : wpAny P .any ops (λe l g=>∃b f,K e b/\gU P B o g b.J f/\FR g b.J f b.fr l/\fX n w st.J i g b.J f) ops.size (Array.replicate ops.size Z) a { w with drawn:=w.drawn+1 }:=by obtain⟨D,pis,m,ls,v,y,r,rfl⟩:=vt C;obtain⟨k,last,j,d,p,h⟩:=h;simp only[bH.dH.injEq]at p;obtain⟨rfl,rfl,rfl,rfl⟩:=p;exact v7 (n:=n) v y r h z u λb g f l t q x s=>⟨b,f,t,q,x,s⟩
def cd.both{x y:bH}(h1:∃g last f c,x=.dH g last f c/\so P g last (kL P f c (K .normal)) st)(o:∃g last f c,y=.dH g last f c/\so P g last (kL P f c (K .normal)) st): cd n P (.both x y) K st:=by
 intro e d;cases e;case region id ops draw =>
  cases draw;.simp only[fW]at d;obtain⟨_,_,_,h⟩:=jl d;simp at h
  simp only[fW]at d;rcases il d with⟨_,_,_,_,h,_⟩|⟨a,b,h,d⟩|⟨_,_,_,_,_,_,h,_⟩;.simp at h
  rotate_left;.simp at h
  obtain⟨i,j,D,C,s,r,u,t,q,v,p,m⟩:=CE d;simp only[bH.both.injEq]at m;obtain⟨rfl,rfl⟩:=m;intro B E w z a l k;refine Fq t s r u q ?_ ?_;.have:=EZ (n:=n) v h1 l k;rwa [jy]at this
  have:=EZ (n:=n) p o l k;rwa [AW,jy]at this
 all_goals first|(exfalso;revert d;simp only[fW];try ((repeat' split)<;>simp);done)
def cd.QG{c:List (Nat×Nat×ao)}{f g:List (List Pi×Pi×List Pi)}{last:List Pi}{k:cy}{b:List Pi} (h:xQ P (JH c) f g last (kL P k b (K .normal)) (vV (F st.J) c st.fr) st.J []):cd n P (.QG c f g last k b) K st:=by
 intro e d;cases e;case region id ops draw =>
  cases draw;.simp only[fW]at d;obtain⟨_,_,_,h⟩:=jl d;simp at h
  simp only[fW]at d;rcases il d with⟨_,_,_,_,h,_⟩|⟨_,_,h,_⟩|⟨_,_,_,_,_,_,_,d⟩;.simp at h
  .simp at h
  obtain⟨y,pis,m,ls,fl,k1,t,x,u,p,l⟩:=JD d;simp only[bH.QG.injEq]at l;obtain⟨rfl,rfl,rfl,rfl,rfl,rfl⟩:=l;intro B G w C a z s;exact wp_region_any y (Dk (n:=n) t x u p h z s λj D i E r o v q=>⟨j,i,r,o,v,q⟩)
 all_goals first|(exfalso;revert d;simp only[fW];try ((repeat' split)<;>simp);done)
def cd.ret(h:K .ret st):cd n P .ret K st:=by
 intro a c;cases a;case ret=>exact PW.ret h
 all_goals first|(exfalso;revert c;simp only[fW];try ((repeat' split)<;>simp);done)|(rename_i _ ops b;exfalso;cases b<;>simp only[fW]at c<;>first|(obtain⟨_,_,_,h⟩:=jl c;simp at h;done)|(rcases il c with⟨_,_,_,_,h,_⟩|⟨_,_,h,_⟩|⟨_,_,_,_,_,_,h,_⟩<;>simp at h;done))
def cd.exit{id:Nat}(h:K (.exit id) st):cd n P (.exit id) K st:=by
 intro b a;cases b;case exit id'=>simp only[fW,aa,bH.exit.injEq]at a;subst a;exact PW.exit h
 all_goals first|(exfalso;revert a;simp only[fW];try ((repeat' split)<;>simp);done)|(rename_i _ ops c;exfalso;cases c<;>simp only[fW]at a<;>first|(obtain⟨_,_,_,h⟩:=jl a;simp at h;done)|(rcases il a with⟨_,_,_,_,h,_⟩|⟨_,_,h,_⟩|⟨_,_,_,_,_,_,h,_⟩<;>simp at h;done))
def abu(n:Nat)(P:aM)(y:bH)(K:bj):bj|.normal,st=>cd n P y K st|e,st=>K e st
def cd.seq{x y:bH}(h:cd n P x (abu n P y K) st):cd n P (.seq x y) K st:=by
 intro b a;cases b;case seq p q =>simp only[fW]at a;split at a<;>simp only[aa,reduceCtorEq,bH.seq.injEq]at a;rename_i j k f g;obtain⟨rfl,rfl⟩:=a;refine PW.seq ((h p f).mono ?_);intro e i d;cases e<;>first|exact d q g|exact d
 all_goals first|(exfalso;revert a;simp only[fW];try ((repeat' split)<;>simp);done)|(rename_i _ ops c;exfalso;cases c<;>simp only[fW]at a<;>first|(obtain⟨_,_,_,h⟩:=jl a;simp at h;done)|(rcases il a with⟨_,_,_,_,h,_⟩|⟨_,_,h,_⟩|⟨_,_,_,_,_,_,h,_⟩<;>simp at h;done))
def cd.block{id:Nat}{c:bH}(h:cd n P c (yI id K) st):cd n P (.block id c) K st:=by
 intro b a;cases b;case block id' c' =>simp only[fW,al,bH.block.injEq]at a;obtain⟨f,e,rfl,rfl⟩:=a;exact PW.block (h c' e)
 all_goals first|(exfalso;revert a;simp only[fW];try ((repeat' split)<;>simp);done)|(rename_i _ ops d;exfalso;cases d<;>simp only[fW]at a<;>first|(obtain⟨_,_,_,h⟩:=jl a;simp at h;done)|(rcases il a with⟨_,_,_,_,h,_⟩|⟨_,_,h,_⟩|⟨_,_,_,_,_,_,h,_⟩<;>simp at h;done))
def cd.loop{c:bH}(I:bk)(m:St->Nat)(h0:I st)(h:∀st,I st->cd n P c (XK I m (m st) K) st):cd n P (.loop c) K st:=by
 intro b a;cases b;case loop c' =>simp only[fW,al,bH.loop.injEq]at a;obtain⟨g,f,rfl⟩:=a;exact PW.loop I m h0 λst e=>h st e c' f
 all_goals first|(exfalso;revert a;simp only[fW];try ((repeat' split)<;>simp);done)|(rename_i _ ops d;exfalso;cases d<;>simp only[fW]at a<;>first|(obtain⟨_,_,_,h⟩:=jl a;simp at h;done)|(rcases il a with⟨_,_,_,_,h,_⟩|⟨_,_,h,_⟩|⟨_,_,_,_,_,_,h,_⟩<;>simp at h;done))
def cd.ite{c:O}{x y:bH}{b:Bool}(o:ev st.fr c=.b b)(m:b=A->cd n P x K st)(u:b=Z->cd n P y K st):cd n P (.ite c x y) K st:=by
 intro e d;cases e;case cond c' p q =>
  simp only[fW]at d;split at d<;>simp only[aa,reduceCtorEq,bH.ite.injEq]at d;rename_i v z C s t r;obtain⟨rfl,rfl,rfl⟩:=d;intro B j w i a l g;have k:=(o▸dp g s).oR;cases b;.exact wp_cond_false k (u rfl q r B j w i a l g)
  exact wp_cond_true k (m rfl p t B j w i a l g)
 all_goals first|(exfalso;revert d;simp only[fW];try ((repeat' split)<;>simp);done)|(rename_i _ ops f;exfalso;cases f<;>simp only[fW]at d<;>first|(obtain⟨_,_,_,h⟩:=jl d;simp at h;done)|(rcases il d with⟨_,_,_,_,h,_⟩|⟨_,_,h,_⟩|⟨_,_,_,_,_,_,h,_⟩<;>simp at h;done))
end rules
variable(p:Func)(H:Array Value){q:Bool}{R:Mem}{B:Nat}{v:Value}{X:aM}{w:aT}{U E:ag}{S C:ao}{M:cD}
inductive V.Wf:V->Prop
 |s (l:aJ) (h:l.length<=maxLen):Wf (.s l)
 |sl (sz:Nat) (xs:cD) (h:xs.length<=maxLen) (hr:∀r∈xs,r.length=sz) (hx:∀i j x,gp xs i j=some x->Wf x):Wf (.sl sz xs)
 |agg (xs:ao) (h:∀(i:Nat) (x:V),xs[i]?=some x->Wf x):Wf (.agg xs)
 |b (x):Wf (.b x)
 |i (k n):Wf (.i k n)
 |u:Wf .u
 |nil:Wf .nil
 |lit (sz xs):Wf (.lit sz xs)
 |own (id g):Wf (.own id g)
 |sub (id g lo hi):Wf (.sub id g lo hi)
 |ptr (id off):Wf (.ptr id off)
 |ep (sz xs i off):Wf (.ep sz xs i off)
 |rp (id g i off):Wf (.rp id g i off)
 |mp (id):Wf (.mp id)
 |it (id):Wf (.it id)
 |sy (id n):Wf (.sy id n)
 |eE:Wf .eE
 |gO:Wf .gO
 |fn (f caps):Wf (.fn f caps)
 |gy (xs):Wf (.gy xs)
variable{D:V}
def VR.wf(h:VR w U R D v):D.Wf:=by induction h with|u v=>exact .u|b D=>exact .b D|i k n=>exact .i k n|s l D x m=>exact .s l m|nil=>exact .nil|Dh c=>exact .sl c [] (by simp) (by simp) (by simp[gp])|sle c a=>exact .sl c [] (by simp) (by simp) (by simp[gp])|sl c e b o G f j z y C p ih=>exact .sl c e (bX j z) y ih|Gt c=>exact .lit c _|lit c e b o f z y C p ih=>exact .lit c e|own id g v q h=>exact .own id g|sub id g H E v q h=>exact .sub id g H E|ptr id d b h m=>exact .ptr id d|ep c e i d b o f E y C p ih=>exact .ep c e i d|rp id g i d v q h=>exact .rp id g i d|mp id r h m=>exact .mp id|it id v h m=>exact .it id|sy id n b h m=>exact .sy id n|eE=>exact .eE|gO=>exact .gO|fn f t B x p ih=>exact .fn f t|agg e B x p ih=>exact .agg e ih|gy e B x p ih=>exact .gy e
def Ob.refs:Ob->ao|.box _ cs=>cs|.map _ _ es=>es.map (·.2)|.iter _ m _ _ _ _=>[.mp m]|_=>[]
def bT(J:ag):Prop:=∀(id:Nat) (o:Ob),J[id]?=N o->∀(j:Nat) (x:V),o.refs[j]?=N x->x.Lt (F J)
def gU.closed{a:aT}(l:gU X B w a U R):bT U:=by
 intro id o h j x d;cases o with
 |dead=>simp[Ob.refs]at d
 |row E I t g C J=>simp[Ob.refs]at d
 |box T H =>obtain⟨b,G,_,_,_,_,q⟩:=l.NI h;obtain⟨u,_,i⟩:=q j x d;exact i.lt
 |map K E L =>obtain⟨r,p,clock,_,_,_,z⟩:=l.obj id _ h;simp only[Ob.refs,bu,al]at d;obtain⟨⟨k,y⟩,s,rfl⟩:=d;obtain⟨_,_,e,_,_,i⟩:=z.2.1 j k y s;exact i.lt
 |iter st m E n D c =>
 have v:m<F U:=by
  have:=l.obj id _ h;cases st;.obtain⟨_,_,_,_,_,_,_,_,_,_,_,_,_,_,f,_⟩:=this;exact(ab.1 f).1
  obtain⟨_,_,_,_,_,_,_,_,_,f,_⟩:=this;exact(ab.1 f).1
 cases j with|zero=>simp only[Ob.refs,aH,aa]at d;subst d;exact .mp _ v|succ j=>simp[Ob.refs]at d
def Wk(P:aM)(n:Nat)(xs:ao)(J:ag)(b:ao)(J':ag):Prop :=∀(B:Nat) (e w:aT) (c:Mem) (d:Array Value),gU P B e w J c->CR w J c xs d->∃a,gU P B e w J' a/\CR w J' a b d/\fX n w J c w J' a
def Wk.refl(a:ao)(J:ag):Wk X B a J a J:=λ_ _ _ c _ b d=>⟨c,b,d,fX.refl _ _ _ _⟩
def Wk.trans{b:ao}{c:ag}(h:Wk X B S U C E)(k:Wk X B C E b c):Wk X B S U b c:=by intro a f w i g p l;obtain⟨d,m,o,r⟩:=h a f w i g p l;obtain⟨e,n,q,j⟩:=k a f w d g m o;exact⟨e,n,q,r.trans j⟩
def cd.wk{c:bH}{K:bj}(h:Wk X B S U C E)(k:cd B X c K ⟨C,E⟩):cd B X c K ⟨S,U⟩:=by intro d v b m w n a u g;obtain⟨f,p,l,s⟩:=h b m w n a.tmps u ⟨g.2.1.symm,g.2.2⟩;exact wp_mono (k d v b m w f a p ⟨g.1,l.1.symm,l.2⟩) λe y x ⟨i,j,o,r,t,q⟩=>⟨i,j,o,r,t,s.trans q⟩
def PC.wk{b args':ao}{Q:V->ag->Prop}(h:Wk X (F U) b U args' E)(k:PC X B args' E Q):PC X B b U Q:=by intro a j w n i z m;obtain⟨c,p,g,t⟩:=h a j w n i z ⟨m.1.symm,m.2⟩;refine(k a j w c i p ⟨g.1.symm,g.2⟩).mono ?_;rintro e C ⟨r,v,d,f,rfl,o,s,y,q⟩;exact⟨r,v,d,f,rfl,o,s,y,λx u l=>q x u (t x u l l.lt)⟩
inductive Cv:V->V->Prop
 |refl (x):Cv x x
 |forget (x):Cv x .u
 |nil (sz):Cv .nil (.sl sz [])
 |lit (sz xs):Cv (.lit sz xs) (.sl sz xs)
 |agg (xs ys:ao) (hl:ys.length=xs.length) (h:∀(i:Nat) (x y:V),xs[i]?=some x->ys[i]?=some y->Cv x y):Cv (.agg xs) (.agg ys)
 |gy (xs ys:ao) (hl:ys.length=xs.length) (h:∀(i:Nat) (x y:V),xs[i]?=some x->ys[i]?=some y->Cv x y):Cv (.gy xs) (.gy ys)
def Cv.ok{x y:V}(h:Cv x y):∀{v:Value},VR w U R x v->VR w U R y v:=by
 induction h with
 |refl x=>exact λh=>h
 |forget x=>exact λ_=>.u _
 |nil n=>intro v h;rw[h.nz];exact .Dh _
 |lit n a =>
  intro v h;rcases h.pL with⟨rfl,rfl⟩|⟨b,o,f,rfl,p,j⟩;.exact .Dh _
  exact .sl _ _ b o _ f (ax _) p j.1 j.2.1 j.2.2
 |agg a l c q ih =>
  intro v h;obtain⟨k,rfl,m,g⟩:=h.iZ;refine .agg l k (by rw[c,m]) λi y d=>?_;have e:i<F a:=by rw[<- c];exact(ab.1 d).1
  exact ih i a[i] y (an e) d (g i _ (an e))
 |gy a l c q ih =>
 intro v h;obtain⟨k,rfl,m,g⟩:=h.Gx;refine .gy l k (by rw[c,m]) λi y d=>?_;have e:i<F a:=by rw[<- c];exact(ab.1 d).1
 exact ih i a[i] y (an e) d (g i _ (an e))
inductive pe:ao->ao->Prop
 |nil:pe [] []
 |cons {x y xs ys} (h:Cv x y) (t:pe xs ys):pe (x::xs) (y::ys)
def pe.at{c a:ao}(h:pe c a):F a=F c/\∀(i:Nat) (x y:V),c[i]?=N x->a[i]?=N y->Cv x y:=by
 induction h with
 |nil=>simp
 |cons h t ih =>refine⟨by simp[ih.1],λi x y d b=>?_⟩;cases i with|zero=>simp only[aH,aa]at d b;subst d;subst b;exact h|succ i=>exact ih.2 i x y (by simpa using d) (by simpa using b)
def pe.refl(a:ao):pe a a:=by induction a with|nil=>exact .nil|cons x a ih=>exact .cons (.refl x) ih
def Cv.T7(h:pe S C):Cv (.agg S) (.agg C):=.agg S C h.at.1 h.at.2
def Wk.gW{b ys:ao}(h:pe b ys):Wk X B b U ys U:=by
 intro a m w g l j c;obtain⟨e,k⟩:=h.at;refine⟨g,j,⟨by rw[e];exact c.1,λi y d=>?_⟩,fX.refl _ _ _ _⟩;have f:i<F b:=by rw[<- e];exact(ab.1 d).1
 exact(k i b[i] y (an f) d).ok (c.2 i _ (an f))
def Wk.share{P:aM}{n:Nat}{xs:ao}{J:ag}{id E sz by' g:Nat}{sh:Bool}{rows:cD}(a:J[id]?=N (.row E sz by' g sh rows)):Wk P n xs J xs (J.set id (.row E sz by' g A rows)):=by
 intro B S w l O p k;have d:id<F J:=(ab.1 a).1;have f:=p.update (w':=w) (J':=J.set id (.row E sz by' g A rows)) (μ':=l) id Y (grownBy_refl w Y) (by simp) (by simp) (λj I=>aN (λe=>I e.symm)) (λ_ _=>rfl)
  (λb r=>.inl ⟨_,a,by simp,r⟩)
  (λb C u o c _ q G t=>⟨G,λV m W=>by
   rw[a]at c;simp only[aa]at c;subst c;simp only[aw d,aa]at m;subst m;intro v;exact t ⟨id,_,a,q,λ_=>v rfl⟩⟩)
  (λT Q h=>by rw[a]at h;simp at h) (λK E U h=>by rw[a]at h;simp at h)
  (λR s L M D z _ h=>by
   simp only[aw d,aa,Ob.row.injEq]at h;obtain⟨rfl,rfl,rfl,rfl,rfl,rfl⟩:=h;exact⟨g,sh,rows,a,ax _,λ_=>⟨rfl,rfl⟩⟩)
  (λy o h=>by simp only[aw d,aa]at h;subst h;exact(p.obj id _ a).fU y.fU λ_ _=>rfl);exact⟨l,f.1,⟨k.1,λi x H=>(k.2 i x H).mono f.2⟩,f.2.fU.NW⟩
def VR.wv{T w:aT}{J:ag}{μ:Mem}(L:gU X B T w J μ){id E c q g:Nat}(v:J[id]?=N (.row E c q g A M))(a e:Nat)(W:a<=e)(S:e<=F M): VR w J μ (.sl c ((M.drop a).take (e - a))) (lk (μ id) a e c):=by
 obtain⟨_,I,z⟩:=L.rowAt v;have H:F ((M.drop a).take (e - a))=e - a:=by simp;omega
 rcases z with⟨n,U⟩|⟨b,l,R,n,_,hc,BY,_,z⟩
 .subst U;simp only[az]at S;have h:a=0:=by omega
  have D:e=0:=by omega
  subst h;subst D;rw[n];exact .Dh c
 rw[n];let f:Nat->Nat->Value:=λi j=>(w.cell? ⟨b,i*c+j,Y⟩).getD undef;have t:∀i j x,gp M i j=N x->w.cell? ⟨b,i*c+j,Y⟩=N (f i j)/\x.pure=A/\VR w J μ x (f i j):=by
  intro i j x d;obtain⟨k,u,m,h⟩:=z i j x d;have:f i j=u:=by simp[f,m]
  exact⟨by rw[this];exact m,k,by rw[this];exact h⟩
 have y:∀i j x,gp M i j=N x->¬wr J μ b (i*c+j):=by
  rintro i j x d ⟨s,G,k,m,h⟩;have O:G≠.dead:=by rintro rfl;exact h
  have:=L.sep id s _ G b v k (by simp) O (by simp[n,js]) m;subst this;rw[v]at k;simp only[aa]at k;subst k;have D:=h rfl;obtain⟨r,C,Q⟩:=iD d;have o:i<F M:=(ab.1 C).1;have hj:j<c:=by rw[<- I r (bc C)];exact(ab.1 Q).1
  have:(i+1)*c<=F M*c:=bL _ o;rw[cN,gN]at this;omega
 have P:pc w J μ M c b 0 f:=⟨I,λi j x d=>⟨by rw[bq];exact(t i j x d).1,by rw[bq];exact y i j x d,(t i j x d).2.1⟩,λi j x d=>(t i j x d).2.2⟩;by_cases K:l=a
 .have h:e - a=0:=by omega
  simp only[lk,K,aU,h,qe,fA];exact .sl c [] b 0 0 f (by simp) (by simp) (by simp) (by simp[gp]) (by simp[gp])
 simp only[lk,K,aQ,b5,Addr.add_lit];have p:=P.sub a (e - a);have V:=VR.sl (w:=w) (J:=J) (μ:=μ) c _ b _ (l - a) _ (by rw[H];omega) (by omega) p.1 p.2.1 p.2.2;rwa [H]at V
def HM{a:aT}(i:gU X B w a U R){id E e d g:Nat}(h:U[id]?=N (.row E e d g q M)):lk (R id) 0 (F M) e=R id:=by
 rcases(i.rowAt h).2.2 with⟨c,k⟩|⟨b,j,f,c,_⟩;.subst k;rw[c];rfl
 rw[c];simp[lk,Addr.add_lit]
def Wk.own{J:ag}{k id E j h g:Nat}(d:J[id]?=N (.row E j h g A M))(m:S[k]?=N (.own id g)):Wk X B S J (S.set k (.sl j M)) J:=by
 intro a r w n s f c;have p:k<F S:=(ab.1 m).1;refine⟨n,f,⟨by simp[c.1],λi y b=>?_⟩,fX.refl _ _ _ _⟩;by_cases l:i=k;.subst l;rw[aw p]at b;simp only[aa]at b;subst b;have q:=c.2 i _ m;have o:=q.kE d;rw[o];have:=VR.wv f d 0 (F M) (by omega) (ax _);rw[HM f d]at this;simpa using this
 rw[aN (λe=>l e.symm)]at b;exact c.2 i y b
def Wk.sub{k id E j h g d c:Nat}(l:U[id]?=N (.row E j h g A M))(m:S[k]?=N (.sub id g d c)):Wk X B S U (S.set k (.sl j ((M.drop d).take (c - d)))) U:=by
 intro a t w o u n f;have r:k<F S:=(ab.1 m).1;refine⟨o,n,⟨by simp[f.1],λi y b=>?_⟩,fX.refl _ _ _ _⟩;by_cases c:i=k;.subst c;rw[aw r]at b;simp only[aa]at b;subst b;obtain⟨s,p,q⟩:=(f.2 i _ m).pJ l;rw[q];exact VR.wv n l d _ s p
 rw[aN (λe=>c e.symm)]at b;exact f.2 i y b
def Wk.jV{P:aM}{n:Nat}{xs:ao}{J:ag}{k E sz by':Nat}(hT:Ti P E sz by')(f:xs[k]?=N .nil):Wk P n xs J (xs.set k (.own (F J) 0)) (J++[.row E sz by' 0 Z []]):=by
 intro B l w μ m j b;have h:k<F xs:=(ab.1 f).1;have c:=j.sb (w':=w) (.row E sz by' 0 Z []) (.slice Y 0 0) (grownBy_refl w Y) (by simp[js]) (λ_=>⟨hT,[],World.ownsRow_nil w B E sz,by simp,by simp[gp]⟩);refine⟨_,c.1,⟨by simp[b.1],λi y a=>?_⟩,c.2.fU.NW⟩;by_cases d:i=k;.subst d;rw[aw h]at a;simp only[aa]at a;subst a;rw[(b.2 i _ f).nz];have:=VR.nR (w:=w) (J:=J++[.row E sz by' 0 Z []]) (μ:=r7 μ (F J) (.slice Y 0 0)) (id:=F J) (E:=E) (sz:=sz) (by':=by') (g:=0) (sh:=Z) (xs:=[]) (by simp);rwa [eH]at this
 rw[aN (λe=>d e.symm)]at a;exact(b.2 i y a).mono c.2
def lK(h:D.pure=A)(m:Nat):D.Lt m:=by
 cases D<;>simp[V.pure]at h;.exact .b _
 .exact .i _ _
 .exact .s _
 exact .sl _ _
def VR.take{μ:Mem}(h:VR w U μ D v)(C:B<=F U)(d:D.Lt B):VR w (U.take B) μ D v:=by
 have S:∀b m,wr (U.take B) μ b m->wr U μ b m:=by
  rintro b m ⟨id,o,y,h2,h3⟩;refine⟨id,o,?_,h2,h3⟩;rw[gd]at y;split at y;.exact y
  simp at y
 have G:∀{id:Nat} {o:Ob},id<B->((U.take B)[id]?=N o<->U[id]?=N o):=λh=>by rw[bF h]
 have p:F (U.take B)=B:=by simp;omega
 induction h with
 |u v=>exact .u v
 |b D=>exact .b D
 |i k n=>exact .i k n
 |s l D e C=>exact .s l D e C
 |nil=>exact .nil
 |Dh q=>exact .Dh q
 |sle q a=>exact .sle q a
 |sl q t b o X f p W L x M ih =>exact .sl q t b o X f p W L (λi j D d=>⟨(x i j D d).1,λh=>(x i j D d).2.1 (S _ _ h),(x i j D d).2.2⟩) (λi j D d=>ih i j D d (lK (x i j D d).2.2 B))
 |Gt q=>exact .Gt q
 |lit q t b o f W L x M ih =>exact .lit q t b o f W L (λi j D d=>⟨(x i j D d).1,λh=>(x i j D d).2.1 (S _ _ h),(x i j D d).2.2⟩) (λi j D d=>ih i j D d (lK (x i j D d).2.2 B))
 |own id g v O h =>
  cases d with
  |own _ _ e=>exact .own id g v (by rw[p];exact e) λE q z I P t J=>h E q z I P t ((G e).1 J)
 |sub id g lo V v O h =>
  cases d with
  |sub _ _ _ _ e=>exact .sub id g lo V v (by rw[p];exact e) λE q z I P t J=>h E q z I P t ((G e).1 J)
 |ptr id m b h C =>
  cases d with
  |ptr _ _ e =>obtain⟨T,R,y⟩:=h;exact .ptr id m b ⟨T,R,(G e).2 y⟩ C
 |ep q t i m b o f V L x M ih =>exact .ep q t i m b o f V L (λj D d=>⟨(x j D d).1,λh=>(x j D d).2.1 (S _ _ h),(x j D d).2.2⟩) (λj D d=>ih j D d (lK (x j D d).2.2 B))
 |rp id g i m v O h =>
  cases d with
  |rp _ _ _ _ e=>exact .rp id g i m v (by rw[p];exact e) λE q z I P t J=>h E q z I P t ((G e).1 J)
 |mp id r h C =>
  cases d with
  |mp _ e =>obtain⟨K,E,es,y⟩:=h;exact .mp id r ⟨K,E,es,(G e).2 y⟩ C
 |it id v h C =>
  cases d with
  |it _ e =>obtain⟨st,m',E,n,ps,c,y⟩:=h;exact .it id v ⟨st,m',E,n,ps,c,(G e).2 y⟩ C
 |sy id n b h C =>
  cases d with
  |sy _ _ e =>obtain⟨T,R,y⟩:=h;exact .sy id n b ⟨T,R,(G e).2 y⟩ C
 |eE=>exact .eE
 |gO=>exact .gO
 |fn f Q H e M ih =>
  cases d with
  |fn _ _ h=>exact .fn f Q H e λi D d=>ih i D d (h i D d)
 |agg t H e M ih =>
  cases d with
  |agg _ h=>exact .agg t H e λi D d=>ih i D d (h i D d)
 |gy t H e M ih =>cases d with|gy _ h=>exact .gy t H e λi D d=>ih i D d (h i D d)
def wy(h:D.qE=A)(m:Nat):D.Lt m:=by
 cases D<;>simp[V.qE]at h;.exact .b _
 .exact .i _ _
 .exact .s _
 rename_i c;refine .agg _ λi D a=>?_;have:=h D (bc a);cases D<;>simp[V.Oe]at this;.exact .b _
 .exact .i _ _
 exact .s _
def map_lt{a:List (V×V)}(h:∀(j:Nat) (x:V),(a.map (·.2))[j]?=N x->x.Lt B){i:Nat}{x:V}(b:a[i]?=N (D,x)):x.Lt B :=h i x (by rw[bu,b];rfl)
def yo{w:aT}{e:Mem}{m a n:Nat}{j:cy}{c:bP}(h:Ad X B w U R v (.iter q m a n j c))(h1:E[m]?=U[m]?)(l:e m=R m):Ad X B w E e v (.iter q m a n j c):=by
 have i:=xw.same (w:=w) (w':=w) h1 l λ_ _=>rfl;cases q;.obtain⟨r,k,since,b,f,g,p,o⟩:=h;exact⟨r,k,since,b,f,g,p,o.step i⟩
 obtain⟨d,f,g⟩:=h;exact⟨d,f,g.step i⟩
def Wk.drop{P:aM}{n m:Nat}{xs:ao}{J:ag}(ZB:n<=m)(y:m<=F J)(hx:∀(i:Nat) (x:V),xs[i]?=N x->x.Lt m)(O:∀(id:Nat) (o:Ob),id<m->J[id]?=N o->∀(j:Nat) (x:V),o.refs[j]?=N x->x.Lt m):Wk P n xs J xs (J.take m):=by
 intro B w0 w μ vs L S;have M:∀{id:Nat} {o:Ob},(J.take m)[id]?=N o->id<m/\J[id]?=N o:=by
  intro id o h;rw[gd]at h;split at h;.exact⟨by assumption,h⟩
  simp at h
 refine⟨μ,⟨L.below,L.base,λid o X=>?_,λi j W oj b I s q l f a=>L.sep i j W oj b (M I).2 (M s).2 q l f a⟩,⟨S.1,λi x z=>(S.2 i x z).take y (hx i x z)⟩,λx v hv hl=>hv.take y (hl.mono ZB)⟩;obtain⟨p,d⟩:=M X;have H:=L.obj id o d;cases o with
 |dead=>trivial
 |box T cs =>obtain⟨b,us,q,l,f,a,t⟩:=H;exact⟨b,us,q,l,f,a,λj x s=>let ⟨u,G,Q⟩:=t j x s;⟨u,G,Q.take y (O id _ p d j x s)⟩⟩
 |row E sz ac g sh R =>obtain⟨q,C,l,f⟩:=H;exact⟨q,C,l,f.1,λi j x s=>let ⟨a,u,t,G⟩:=f.2 i j x s;⟨a,u,t,G.take y (lK a m)⟩⟩
 |map K E es =>obtain⟨r,D,clock,q,l,f,a⟩:=H;exact⟨r,D,clock,q,l,f,a.1,λi k x I=>let ⟨t,G,e,Q,h8,h9⟩:=a.2.1 i k x I;⟨t,G,e,Q,h8.take y (wy t m),h9.take y (map_lt (O id _ p d) I)⟩,a.2.2⟩
 |iter st U E n ps c =>
 have dC:U<m:=by have:=O id _ p d 0 (.mp U) rfl;cases this;assumption
 exact yo H (bF dC) rfl
def Wk.xe{P:aM}{n:Nat}{xs:ao}{J loc:ag}(d:n<=F J)(c:bT J)(e:∀(i:Nat) (x:V),xs[i]?=N x->x.Lt (F J)):Wk P n xs (J++loc) xs J:=by have:=Wk.drop (P:=P) (n:=n) (m:=F J) (xs:=xs) (J:=J++loc) d (by simp) e (λid o a h j x b=>c id o (by rwa [aj a]at h) j x b);simpa using this
inductive Rs where
 |t (n:Nat)
 |c (n:Nat) (k:bP)
structure cm where
 nt:Nat
 rs:List Rs
 c:bH
def Yb(P:aM):List ResultVar->Option (List Rs)
 |[]=>N []
 |.tmp t::r=>(Yb P r).map (.t t::·)
 |.cell t T::r=>match fO P T,P.info? T,Yb P r with
  |some A,N b,N a=>N (.c t (N b.size)::a)
  |some Z,N _,N a=>N (.c t Y::a)
  |_,_,_=>Y
def cu(P:aM)(b:Func):Option cm :=
 match b.body with
 |some a=>match fW P a,Yb P b.results.toList with
  |some c,N d=>N ⟨b.ntmps,d,c⟩
  |_,_=>Y
 |none=>Y
def u7(st:St):Rs->Option V
 |.t n=>N (st.fr.getD n .u)
 |.c n k=>match st.fr.getD n .u with
  |.ptr id off=>match st.J[id]? with
   |some (.box _ cs)=>match k with
    |none=>cs[off]?
    |some m=>if off+m<=F cs then N (.agg ((cs.drop off).take m))else Y
   |_=>Y
  |_=>Y
def lg(st:St):List Rs->Option (ao)
 |[]=>N []
 |r::rs=>match u7 st r,lg st rs with
  |some x,N a=>N (x::a)
  |_,_=>Y
def one:ao->V|[x]=>x|xs=>.gy xs
def rv(P:aM)(n:Nat)(b:List Rs)(Q:V->ag->Prop)(e:Exit)(st:St):Prop :=(e=.normal\/e=.ret)/\∃a,lg st b=N a/\∃r J',Wk P n [one a] st.J [r] J'/\Q r J'
def KB:ResultVar->Sem Value
 |.tmp t=>pure (H.getD t undef)
 |.cell a t=>do loadVar t (<- asAddr (H.getD a undef))
def Kz:results p H=(do let vs <- p.results.mapM (KB H);pure (if h:vs.size=1 then vs[0]else .tuple vs)):=rfl
def yW{P:aM}{B:Nat}{w0 w:aT}{st:St}{μ:Mem}{a:Act}(I:gU P B w0 w st.J μ)(D:FR w st.J μ st.fr a):∀(l:List ResultVar) (q:List Rs) (s:ao),Yb P l=N q->lg st q=N s ->
  ∃n:List Value,(l.mapM (KB a.tmps)).run P w=.ok n w/\F n=F s/\∀(i:Nat) (x:V),s[i]?=N x->VR w st.J μ x (n.getD i undef)
 |[],q,s,hc,hx=>by
  simp only[Yb,aa]at hc;subst hc;simp only[lg,aa]at hx;subst hx;exact⟨[],by simp,rfl,by simp⟩
 |r::l,q,s,hc,hx=>by
  have E:∃C d,q=C::d/\Yb P l=N d/\∀x,u7 st C=N x->∃v,(KB a.tmps r).run P w=.ok v w/\VR w st.J μ x v:=by
   cases r with
   |tmp t =>
    simp only[Yb,al]at hc;obtain⟨d,e,rfl⟩:=hc;refine⟨.t t,d,rfl,e,λx h=>⟨_,rfl,?_⟩⟩;simp only[u7,aa]at h;subst h;exact D.at t
   |cell t T =>
    simp only[Yb]at hc
    have inner:∀(g:Bool) (f:TypeInfo),fO P T=N g->P.info? T=N f->∀x,u7 st (.c t (if g then N f.size else Y))=N x->∃v,(do loadVar T (<- asAddr (a.tmps.getD t undef)):Sem Value).run P w=.ok v w/\VR w st.J μ x v:=by
     intro g f o p x h;simp only[u7]at h;split at h
     .rename_i id off hp;have e:=hp▸D.at t;obtain⟨b,hm,W,_⟩:=e.pK;split at h
      .rename_i T' Q L;obtain⟨b',n,m,hB,hh,gv,M⟩:=I.NI L;rw[hm]at m;simp only[Value.pointer.injEq,aa,Addr.mk.injEq,lq]at m;subst m;have u:=IK (P:=P) (J:=st.J) (μ:=μ) (row:=Q) (k:=if g then N f.size else Y) (b:=b) (off:=off) p (IW o) off (λj z S=>M _ z S)
       have X:(do loadVar T (<- asAddr (a.tmps.getD t undef)):Sem Value).run P w=(Instr.loadAt T (.pointer (N ⟨b,off,Y⟩))).run P w:=by
        rw[W];rfl
       rw[X];cases g
       .simp only[aI,aQ]at h u;exact u.1 trivial x h
       .simp only[aU]at h u;split at h<;>simp only[aa,reduceCtorEq]at h;rename_i H;subst h;exact u.2 _ rfl H
      .simp at h
     .simp at h
    split at hc<;>simp only[aa,reduceCtorEq]at hc
    .rename_i f d o p e;exact⟨_,d,hc.symm,e,λx h=>inner A f o p x h⟩
    .rename_i f d o p e;exact⟨_,d,hc.symm,e,λx h=>inner Z f o p x h⟩
  obtain⟨C,d,rfl,e,K⟩:=E;simp only[lg]at hx;split at hx<;>simp only[aa,reduceCtorEq]at hx;rename_i x ys zV R;subst hx;obtain⟨v,U,O⟩:=K x zV;obtain⟨n,h5,h6,h7⟩:=yW I D l d ys e R;refine⟨v::n,?_,by simp[h6],λi y G=>?_⟩
  .simp only[List.mapM_cons,Sem.run_bind,U,Result.andThen_ok,h5,Sem.run_pure]
  .cases i with
   |zero=>simp only[aH,aa]at G;subst G;simpa using O
   |succ i=>simpa using h7 i y (by simpa using G)
abbrev bO(P:Program)(f:Nat)(a:List V)(J:ag)(y:V):Prop:=PC P f a J λr J'=>r=y/\J'=J
def a6{g:Func}{t:cm}{Q:V->ag->Prop}(hf:X.funcs[B]?=N g)(m:cu X g=N t) (h:bT U->(∀(i:Nat) (x:V),S[i]?=N x->x.Wf/\x.Lt (F U))->cd (F U) X t.c (rv X (F U) t.rs Q) ⟨S++List.replicate (t.nt - F S) .u,U⟩):PC X B S U Q:=by
 unfold cu at m;split at m
 .rename_i n hb;split at m<;>simp only[aa,reduceCtorEq]at m;rename_i c rs B0 Su;subst m;intro a M w G k W p;refine calls_of_wp hf hb ?_;have hF:FR w U G (S++List.replicate (g.ntmps - F S) .u) { tmps:=k++Array.replicate (g.ntmps - k.size) undef,defers:=[] }:=by
   refine⟨rfl,by simp[p.1],λi x b=>?_⟩;by_cases T:i<F S
   .rw[aj T]at b;have I:=p.2 i x b;have Hj:i<k.size:=by rw[p.1];exact T
    have e:(k++Array.replicate (g.ntmps - k.size) undef).getD i undef=k.getD i undef:=by simp only[bJ,iu Hj]
    simp only[e];exact I
   rw[aD (by omega)]at b;have:x=.u:=by have:=(ab.1 b).2;simpa using this.symm
   subst this;exact .u _
  refine wp_mono (h W.closed (λi x b=>⟨(p.2 i x b).wf,(p.2 i x b).lt⟩) n B0 a M w G _ W hF) ?_;rintro e P f ⟨L,d,hK,s,j,hk⟩;obtain⟨he,D,xB,r,J',hw,hQ⟩:=hK;obtain⟨l,I,E,o⟩:=yW s j g.results.toList rs D Su xB;have K:∃v,(results g P.tmps).run X f=.ok v f/\VR f L.J d (one D) v:=by
   have C:(results g P.tmps).run X f=.ok (if h:l.toArray.size=1 then l.toArray[0]else .tuple l.toArray) f:=by rw[Kz,Array.mapM_eq_mapM_toList];simp only[Sem.run_bind,Sem.run_map,I,Result.andThen_ok,Sem.run_pure]
   refine⟨_,C,?_⟩;match D,l,E,o with
   |[x],[u],_,o=>have:=o 0 x rfl;exact this
   |[],[],_,_=>exact .gy [] #[] rfl (by simp)
   |x::y::D,u::v::l,E,o =>
    have gn:¬((u::v::l).toArray.size=1):=by simp
    rw[dif_neg gn];exact .gy _ _ (by simpa using E.symm) λi z hz=>by have:=o i z hz;simpa[aq]using this
  obtain⟨v,C,H⟩:=K;obtain⟨O,h4,h5,h6⟩:=hw a M f d #[v] s ⟨rfl,λi x b=>by
   cases i with
   |zero=>simp only[aH,aa]at b;subst b;simpa using H
   |succ i=>simp at b⟩;have R:∃r q J' d,Ending.returned v=.returned q/\Q r J'/\gU X a M f J' d/\VR f J' d r q/\nM w U G f J' d :=
   ⟨r,v,J',O,rfl,hQ,h4,by have:=h5.2 0 r rfl;simpa using this,λx u b=>h6 x u (hk x u b b.lt) b.lt⟩;rcases he with rfl|rfl;.exact⟨j.1,v,C,R⟩
  exact⟨j.1,v,C,R⟩
 simp at m
end Go.Pm

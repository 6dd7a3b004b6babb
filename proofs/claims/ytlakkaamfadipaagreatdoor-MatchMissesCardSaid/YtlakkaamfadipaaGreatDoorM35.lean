/- A part of a proof; the claim's last text says of what. -/
import Derived.WalkKit
import Derived.Laws.IdiomStrings
import Derived.Test.YtlakkaamfadipaaGreatDoorM23
import Derived.Test.YtlakkaamfadipaaGreatDoorM25
import Derived.Test.YtlakkaamfadipaaGreatDoorM33
set_option linter.all false
set_option maxHeartbeats 4000000
open Option renaming some->N,none->Y
open Bool renaming true->A,false->Z
open Go.Proofs.Tryz renaming prog->θ
open List renaming length->F

namespace Go.Proofs.Tryz
open Go Go.Pm Go.Bt Go.RowKit
variable(x:It)(a:List It)(l:aJ)(S:It)(b:List It)(X:ag){k:Nat}{U:UInt8}{T:aJ}{J:ag}{K:bj}
def JV(w wr:aT)(l:aJ)(k:Nat):Prop :=w.grownBy wr Y/\wr.heap.size=w.heap.size+1/\∀j x,l[j]?=N x->wr.cell? ⟨w.heap.size,j,Y⟩=N (.int .u8 (if j<k then pH x else x).toNat)/\wr.frozen? ⟨w.heap.size,j,Y⟩=Z
def BM(w:aT)(l:aJ)(c:Nat): JV w (w.alloc (.cells (bytesRow ⟨l.toArray⟩ c) 5 ((bytesRow ⟨l.toArray⟩ c).size,(bytesRow ⟨l.toArray⟩ c).size+1))).drew l 0:=by
 refine⟨?_,?_,λj x a=>?_⟩;.have h:=World.grownBy_alloc w (.cells (bytesRow ⟨l.toArray⟩ c) 5 ((bytesRow ⟨l.toArray⟩ c).size,(bytesRow ⟨l.toArray⟩ c).size+1)) Y;exact⟨h.os,h.tape,h.output,h.size,h.block⟩
 .simp
 have b:j<F l:=(ab.1 a).1;have d:l[j]=x:=(ab.1 a).2;have e:j<(bytesRow ⟨l.toArray⟩ c).size:=by simp[bytesRow];omega
 rw[au (by omega)];constructor;.show(w.alloc _).cell? _=_;rw[World.cell?_alloc_mark,bytesRow_at ⟨l.toArray⟩ c j (by simpa using b)];simp[d]
 show(w.alloc _).frozen? _=_;rw[World.frozen?_alloc_mark];simp only[DX,cI];exact .inl (by omega)
def EA{w wr:aT}(h:JV w wr T k)(d:T[k]?=N U){v:Int}(o:v=(pH U).toNat):JV w (wr.setCell ⟨w.heap.size,k,Y⟩ (.int .u8 v)) T (k+1):=by
 obtain⟨a,l,c⟩:=h;refine⟨⟨a.os,a.tape,a.output,by simpa using a.size,λi m n=>?_⟩,by simpa using l,λj y b=>?_⟩;.rw[<- a.block i m n];simp only[World.setCell,cz];rw[au (by omega)]
 have f:=c j y b;have g:=c k U d;by_cases p:j=k
 .subst p;rw[d]at b;simp only[aa]at b;subst b;refine⟨?_,?_⟩;.rw[World.cell?_setCell_same _ _ _ g.1,aK (by omega),o]
  simpa using g.2
 refine⟨?_,?_⟩
 .rw[World.cell?_setCell_other _ _ _ _ (by intro e;injection e;omega),f.1];congr 3;by_cases h:j<k;.rw[aK h,aK (by omega)]
  rw[au h,au (by omega)]
 simpa using f.2
def tW{w wr:aT}(h:JV w wr T k)(c:T[k]?=N U)(e:pH U=U):JV w wr T (k+1):=by
 obtain⟨f,d,b⟩:=h;refine⟨f,d,λj y a=>⟨?_,(b j y a).2⟩⟩;rw[(b j y a).1];congr 3;by_cases g:j=k;.subst g;rw[c]at a;simp only[aa]at a;subst a;rw[au (by omega),aK (by omega),e]
 by_cases h:j<k;.rw[aK h,aK (by omega)]
 rw[au h,au (by omega)]
def EB{w wr:aT}(h:JV w wr T (F T))(a:Nat):(convert 58 9 (.slice (N ⟨w.heap.size,0,Y⟩) (F T) a)).run θ wr=.ok (.string ⟨(lower T).toArray⟩) wr:=by
 have:=run_convert_bytes_back (P:=θ) wr 58 9 5 ⟨w.heap.size,0,Y⟩ a (lower T) underlying58 underlying5 underlying9 (λj c=>by
  have b:j<F T:=by simpa[lower]using c
  have:=(h.2.2 j T[j] (an b)).1;rw[aK b]at this;rw[Addr.add_lit,bq,this];simp[lower]);simpa[lower]using this
set_option maxRecDepth 100000 in
def IG(o:F l<=maxLen)(w:aT): Calls θ 257 #[.string ⟨l.toArray⟩] w λe g=>e=.returned (.string ⟨(lower l).toArray⟩)/\w.grownBy g Y:=by
 have s:=run_bytes_of_string (P:=θ) w 9 58 5 ⟨l.toArray⟩ underlying9 underlying58 underlying5;go_enter func257,Tryz.ntmps257;go_wp2;go_loopw [10] (λi wr=>∃k:Nat,k<=F l/\i=.int .i64 k/\JV w wr l k) (λi _=>F l - (intOf i).toNat);case atStart=>exact⟨0,eR _,rfl,BM w l _⟩
 case round =>
  obtain⟨k,q,rfl,b⟩:=hrel;have m:=b.1;have j:k<F l->wr.cell? ⟨w.heap.size,k,Y⟩=N (.int .u8 (l.getD k 0).toNat):=λh=>by have:=(b.2.2 k l[k] (an h)).1;rw[au (by omega)]at this;rw[this];simp[aq,h]
  have p:k<F l->wr.frozen? ⟨w.heap.size,k,Y⟩=Z:=λh=>(b.2.2 k l[k] (an h)).2;have n:=λ(h:k=F l) (f:Nat)=>EB (h▸b) f;unfold maxLen at o;go_wp2;.rename_i a c d;refine⟨⟨k+1,a,rfl,EA b (an a) ?_⟩,by simp[intOf];omega⟩;rw[zn (by simpa using c) (by simpa using d)];omega
  .rename_i a c d;exact⟨⟨k+1,a,rfl,tW b (an a) (rE (by simp at c d |-;omega))⟩,by simp[intOf];omega⟩
  .rename_i a c;exact⟨⟨k+1,a,rfl,tW b (an a) (rE (by simp at c |-;omega))⟩,by simp[intOf];omega⟩
  rename_i r;rw[n (by omega)];go_wp2;go_ret;exact⟨rfl,m⟩
def RM:bO θ 257 [.s l] X (.s (lower l)):=by
 refine PC.KT λB o w m c p b=>?_;obtain⟨s,j,f,a⟩:=(b.2 0 _ rfl).mi;have k:c=#[.string ⟨l.toArray⟩]:=by
  have g:=b.1;have e:s=⟨l.toArray⟩:=by rw[<- f]
  rw[<- e,<- j];apply Array.ext;.simpa using g
  intro i d h;have:i=0:=by simp at h;omega
  subst this;simp[d]
 rw[k];exact⟨_,IG l a w,λn=>.s _ _ (by simp) (by rw[wB];exact a)⟩
def AS:Ti θ 150 3 32:=nQ (by kernel_rfl)
def RW{J:ag}(p n F10 F11:V)(m:Ob):∀(a:Nat) (s:aJ) (d:cD) (g:Nat),F s<=a->F s<2^61->F d+F s<2^40 ->(∀g,((fh (p) (fj 2 (fh (.own (F J) g) (fj 5 (fh (n) (fh (F10) (fh (F11) (fj 38 fo)))))))) λu=>K (.exit 3) ⟨u,J++[.row 150 3 32 g Z (d++(jI s).map It.aoZ),m]⟩)) ->fS (F J) θ Iv K (a+1) ⟨(p::uu 2 (.own (F J) g::uu 2 (.s s::uu 2 (n::F10::F11::uu 38 [])))),J++[.row 150 3 32 g Z d,m]⟩:=by
 intro a;induction a with
 |zero =>intro s d g f j o b;have f:s=[]:=aL (by omega);subst f;have e:(jI []).map It.aoZ=[]:=rfl;rw[e,bM]at b;refine aF λR k=>?_;simp only[Iv,VV,seval];exact b g ..
 |succ a ih =>
 intro s d g f j o b;cases s with
 |nil =>have e:(jI []).map It.aoZ=[]:=rfl;rw[e,bM]at b;refine aF λR k=>?_;simp only[Iv,VV,seval];exact b g ..
 |cons c r =>
 have q:c::r≠[]:=by simp
 have v:=nH (c::r);have l:=BI q;rw[zz q]at b;refine aF λR k=>?_;simp only[Iv,VV,seval];refine⟨λ_=>?_,λh=>by simp at h⟩;refine aA (Kg c r (by simp at j;omega) _) rfl ?_;simp only[VV,seval];simp only[ah]at l o j f;have t:List.take (F r+1 - (eG (c::r)).2) (List.drop (eG (c::r)).2 (c::r))=(c::r).drop (eG (c::r)).2:=cn (by simp);rw[t];refine⟨⟨by omega,by omega⟩,⟨by omega,by simp only[maxLen];omega⟩,⟨by omega,by omega,by omega⟩,?_⟩;refine k _ (aX ?_ (ih ((c::r).drop (eG (c::r)).2) (d++[[V.i .i64 (eG (c::r)).1,V.s (List.take (eG (c::r)).2 (c::r)),V.i .i64 0]]) (g+1) (by simp;omega) (by simp;omega) (by simp;omega) (by simpa[It.aoZ]using b)));repeat' constructor
def RV{J:ag}(E:bT J)(i:F a<2^38)(T:aR a<2^38):∀(b pre:List It) (c:List It) (g:Nat),a=pre++b->F c<=F pre+(aR a - aR b) ->(∀g,((fj 3 (fh (.own (F J) g) (fj 46 fo))) λG=>K (.exit 0) ⟨G,J++[.row 150 3 32 g Z ((c++cR b).map It.aoZ)]⟩)) ->fS (F J) θ Bn K (F b+1) ⟨(.sl 3 (a.map It.aoZ)::uu 2 (.own (F J) g::uu 5 (.sl 3 (a.map It.aoZ)::.I (F a)::.I (F pre)::uu 38 []))),J++[.row 150 3 32 g Z (c.map It.aoZ)]⟩:=by
 intro b;induction b with
 |nil =>
  intro pre c g p L m;have p:=db p;subst p;have e:c++cR []=c:=by simp[cR]
  rw[e]at m;refine aF λR j=>?_;simp only[Bn,VV,seval];exact⟨λh=>by simp at h,λ_=>m g ..⟩
 |cons x b ih =>
 intro pre c g p L m;subst p;have r:=dY pre x (by simp at i;omega);have D:aR (x::b)=F x.ao3+aR b:=rfl;have v:=sI pre (x::b);have u:F pre+1+F b<2^38:=by simp at i;omega
 have e:c++cR (x::b)=(c++lA x)++cR b:=by simp[cR]
 rw[e]at m;have C:∀g o,bT (J++[.row 150 3 32 g Z o]):=λg o=>cL E (by simp);have f:∀{y:ao} {R:bk} (g:Nat),(∀n,fS (F J) θ Bn K (F b+1) n->R n)->pe y (.sl 3 ((pre++x::b).map It.aoZ)::uu 2 (.own (F J) g::uu 5 (.sl 3 ((pre++x::b).map It.aoZ)::.I (F (pre++x::b))::.I (F (pre++[x]))::uu 38 []))) ->
   R ⟨y,J++[.row 150 3 32 g Z ((c++lA x).map It.aoZ),.box 61 x.aoZ]⟩:=λg j S=>by have l:=xK x;refine j _ (cC [_] [_] (C _ _) S ?_ (ih (pre++[x]) (c++lA x) g (by simp) (by simp;omega) m));simp only[LW,ah,az,bq];omega
 have Q:(F c+1)*32<=140737488355328/\F c+1<=maxLen:=by simp only[maxLen];omega
 obtain⟨k,t,d⟩:=x;have M:c.map It.aoZ++[[.I k,.s t,.I d]]=(c++[(⟨k,t,d⟩:It)]).map It.aoZ:=by simp[It.aoZ]
 refine aF λR j=>?_;have one:(k=2\/k=3\/k=4\/k=5)->lA ⟨k,t,d⟩=[⟨k,t,d⟩]:=λh=>by simp only[lA,h,aU]
 rcases qg (k=2\/k=3\/k=4\/k=5)with l|l
 .rw[one l]at f;rcases l with rfl|rfl|rfl|rfl;all_goals
   simp only[Bn,It.aoZ,↓IT,VV,seval];simp only[r,ae,M,It.aoZ];refine⟨λ_=>⟨by simp;omega,Q,f _ j ?_⟩,λh=>by simp at h;omega⟩;repeat' constructor
 have H:(k==2)=Z:=by simp;omega
 have O:(k==3)=Z:=by simp;omega
 have P:(k==4)=Z:=by simp;omega
 have B:(k==5)=Z:=by simp;omega
 rcases qg (k=1)with q|q
 .subst q;have w:lA ⟨1,t,d⟩=jI t:=by simp[lA]
  simp only[Bn,It.aoZ,↓IT,VV,seval];refine⟨λ_=>⟨by simp;omega,?_⟩,λh=>by simp at h;omega⟩;simp only[aR]at D v;refine cd.aX (fr':=(.sl 3 ((pre++⟨1,t,d⟩::b).map It.aoZ)::uu 2 (.own (F J) g::uu 2 (.s t::uu 2 (.sl 3 ((pre++⟨1,t,d⟩::b).map It.aoZ)::.I (F (pre++⟨1,t,d⟩::b))::.I (F pre)::uu 38 []))))) (by repeat' constructor) (F t+1) (RW (J:=J) _ _ _ _ _ (F t) t _ g (ax _) (by omega) (by simp;omega) ?_);intro U;simp only[JE];intros;simp only[VV,seval];simp only[r];rw[<- List.map_append,<- w];refine f _ j ?_;repeat' constructor
 have w:lA ⟨k,t,d⟩=[]:=by simp[lA,l,q]
 have z:(k==1)=Z:=by simpa using q
 rw[w,bM]at f;simp only[Bn,It.aoZ,H,O,P,B,z,↓IT,VV,seval];simp only[r];refine⟨λ_=>⟨by simp;omega,f _ j ?_⟩,λh=>by simp at h;omega⟩;repeat' constructor
def Kf(b:F a<2^38)(e:aR a<2^38)(J:ag):PC θ 51 [.sl 3 (a.map It.aoZ)] J (λr d=>r=.own (F J) 0/\d=J++[.row 150 3 32 0 Z ((cR a).map It.aoZ)]):=by
 refine a6 func51 c51 λc f=>ay ?_;simp only[p51,SS,seval];simp only[ae,VV,seval];refine cd.wk ((Wk.jV (J:=J) (k:=3) AS rfl).trans (Wk.gW ?_)) (cd.xA (F a+1) (RV a c b e a [] [] 0 rfl (by simp) ?_));.simp only[VV,seval];repeat' constructor
 intro g;simp only[JE];intros;simp only[VV,seval];exact rq 0 c (.inr rfl) rfl rfl rfl (by simp[zT,Ob.gen]) (by simp[one,RJ,Ob.fresh])
def qk(b:F a<2^38)(c:aR a<2^38)(J:ag):bO θ 51 [.sl 3 (a.map It.aoZ)] J (.sl 3 ((cR a).map It.aoZ)) :=PC.closed λd=>PC.fz d (Kf a b c J)
def lX:bO θ 184 [.agg x.aoZ] X (.I (weight x)):=by
 refine a6 func184 aiN λg m=>ay ?_;obtain⟨k,t,d⟩:=x;simp only[acm,It.aoZ,SS,seval];have a:∀(w:Int) {f:ao} {c:ag},weight ⟨k,t,d⟩=w->f.getD 2 .u=.I w->rv θ (F X) [.t 2] (λr i=>r=.I (weight ⟨k,t,d⟩)/\i=X) .ret ⟨f,X++c⟩:=λw _ _ j l =>
  bl (xs:=[.I w]) g (.inr rfl) (by simp only[lg,u7,l]) (by simp only[LW]) ⟨by rw[j];rfl,rfl⟩;rcases qg (k=6\/k=5\/k=7\/k=2\/k=3\/k=4\/k=9\/k=8)with b|b
 .rcases b with rfl|rfl|rfl|rfl|rfl|rfl|rfl|rfl;all_goals
   simp only[↓IT,VV,seval];exact a _ rfl rfl
 have e:∀n:Int,(n=6\/n=5\/n=7\/n=2\/n=3\/n=4\/n=9\/n=8)->(k==n)=Z:=λn h=>by simp only[cU];rintro rfl;exact b h
 simp only[e 6 (by simp),e 5 (by simp),e 7 (by simp),e 2 (by simp),e 3 (by simp),e 4 (by simp),e 9 (by simp),e 8 (by simp),↓IT,VV,seval];exact a 0 (by simp only[weight];rw[au (by omega),au (by omega),au (by omega),au (by omega)]) rfl
def Vq(j:bT J)(d:F a<2^40):∀(b pre:List It),a=pre++b ->((fj 3 (fh (.I (ic a)) (fj 14 fo))) λl=>K (.exit 0) ⟨l,J⟩) ->fS (F J) θ FP K (F b+1) ⟨(uu 3 (.I (ic pre)::uu 2 (.sl 3 (a.map It.aoZ)::.I (F a)::.I (F pre)::uu 9 []))),J⟩:=by
 intro b;induction b with
 |nil =>intro pre c f;have c:=db c;subst c;refine aF λR g=>?_;simp only[FP,VV,seval];exact⟨λh=>by simp at h,λ_=>f ..⟩
 |cons x b ih =>
 intro pre c f;subst c;have e:F pre+1+F b<2^40:=by simp at d;omega
 have m:=vN pre;have n:=mP x;have i:=dY pre x (by omega);have k:IntKind.i64.wrap (ic pre+weight x)=ic (pre++[x]):=by rw[IntWalk.i64_in _ (by omega)];simp[ic]
 refine aF λR g=>?_;simp only[FP,It.aoZ,VV,seval];refine⟨λ_=>⟨by simp;omega,?_⟩,λh=>by simp at h;omega⟩;refine aA (lX x _) rfl ?_;simp only[VV,seval];simp only[i,k];refine g _ (oK (ax _) j ?_ ?_ (ih (pre++[x]) (by simp) f));.repeat' constructor
 simp only[LW]
def AQ(b:F a<2^40)(J:ag):bO θ 181 [.sl 3 (a.map It.aoZ)] J (.I (ic a)):=by refine a6 func181 aiQ λc d=>ay ?_;simp only[acp,SS,seval];simp only[ae,VV,seval];refine cd.aX (fr':=(uu 3 (.I (ic [])::uu 2 (.sl 3 (a.map It.aoZ)::.I (F a)::.I (F ([]:List It))::uu 9 [])))) (by repeat' constructor) (F a+1) (Vq a c b a [] rfl ?_);simp only[JE];intros;simp only[VV,seval];exact aY (.inr rfl) rfl ⟨rfl,rfl⟩
def oI:bO θ 251 [.agg x.aoZ,.agg S.aoZ] X (.b (lJ x S)):=by refine a6 func251 aid λa c=>ay ?_;simp only[abL,It.aoZ,SS,seval];simp only[VV,seval];exact km a (by simp only[RS,seval];rfl) (by simp only[LW])
def tP:bO θ 224 [.agg x.aoZ] X (.s (eQ x)):=by
 refine a6 func224 aio λa b=>ay ?_;simp only[abV,It.aoZ,SS,seval];simp only[VV,seval];refine⟨λh=>?_,λh=>?_⟩;.refine aA (RM x.ao3 _) rfl ?_;simp only[VV,seval];simp only[b9]at h;exact bl a (.inr rfl) (by simp only[RS,seval];rfl) (by simp only[LW]) ⟨by simp only[one,eQ,h,aU],rfl⟩
 simp only[cU,fJ]at h;exact bl a (.inr rfl) (by simp only[RS,seval];rfl) (by simp only[LW]) ⟨by simp only[one,eQ,h,aQ],rfl⟩
def yC:bO θ 250 [.agg x.aoZ] X (.b (bW x)):=by refine a6 func250 aie λa c=>ay ?_;simp only[abM,It.aoZ,SS,seval];simp only[VV,seval];exact km a (by simp only[RS,seval];rfl) (by simp only[LW])
def tT:bO θ 213 [.agg x.aoZ] X (.I (single x)):=by
 refine a6 func213 aiy λa b=>ay ?_;simp only[ab5,It.aoZ,SS,seval];simp only[VV,seval];refine aA (yC x _) rfl ?_;simp only[VV,seval];refine⟨λh=>?_,λh=>?_⟩;.exact bl a (.inr rfl) (by simp only[RS,seval];rfl) (by simp only[LW]) ⟨by simp only[one,single,h,aU],rfl⟩
 refine aA (lX x _) rfl ?_;simp only[VV,seval];exact bl a (.inr rfl) (by simp only[RS,seval];rfl) (by simp only[LW]) ⟨by simp only[one,single,h,aQ,aI],rfl⟩
def Xj:bO θ 214 [.agg x.aoZ,.agg S.aoZ] X (.gy [.I ((er x S).getD 0),.b (er x S).isSome]):=by
 refine a6 func214 aix λy s=>ay ?_;have c:∀(w:Int) (q:Bool) {n:ao} {o:ag},(er x S).getD 0=w->(er x S).isSome=q->n.getD 4 .u=.I w->n.getD 5 .u=.b q->rv θ (F X) [.t 4,.t 5] (λr z=>r=.gy [.I ((er x S).getD 0),.b (er x S).isSome]/\z=X) .ret ⟨n,X++o⟩:=λw q _ _ C B D v =>
  bl (xs:=[.I w,.b q]) y (.inr rfl) (by simp only[lg,u7,D,v]) (by simp only[LW]) ⟨by rw[C,B];rfl,rfl⟩;clear s;simp only[ab4,It.aoZ,SS,seval];cases a:lJ x S with
 |true =>simp only[↓IT,VV,seval];refine aA (oI x S _) rfl ?_;simp only[a,↓IT,VV,seval];exact c 0 A (by simp[er,a]) (by simp[er,a]) rfl rfl
 |false =>
 by_cases d:x.ao0=S.ao0
 .have l:(x.ao0 != S.ao0)=Z:=by simpa using d
  by_cases e:x.ao0=6
  .have m:(x.ao0==6)=A:=by simpa using e
   simp only[↓IT,VV,seval];refine aA (oI x S _) rfl ?_;simp only[a,l,m,↓IT,VV,seval];refine aA (tP x _) rfl ?_;simp only[↓IT,VV,seval];refine aA (tP S _) rfl ?_;simp only[VV,seval];refine⟨λh=>?_,λh=>?_⟩;.exact c 1 A (by simp[er,a,<- d,e,h]) (by simp[er,a,<- d,e,h]) rfl rfl
   refine aA (lX x _) rfl ?_;simp only[VV,seval];exact c (weight x) A (by simp[er,a,<- d,e,h]) (by simp[er,a,<- d,e,h]) rfl rfl
  have m:(x.ao0==6)=Z:=by simpa using e
  by_cases p:x.ao0=7\/x.ao0=8\/x.ao0=9\/x.ao0=5
  .have k:er x S=N (weight x):=by simp[er,a,<- d,e,p]
   have g:(x.ao0==7)=Z\/(x.ao0==7)=A:=by cases(x.ao0==7)<;>simp
   have j:(x.ao0==8)=Z\/(x.ao0==8)=A:=by cases(x.ao0==8)<;>simp
   have i:(x.ao0==9)=Z\/(x.ao0==9)=A:=by cases(x.ao0==9)<;>simp
   have f:(x.ao0==5)=Z\/(x.ao0==5)=A:=by cases(x.ao0==5)<;>simp
   simp only[↓IT,VV,seval];refine aA (oI x S _) rfl ?_;rcases g with g|g<;>rcases j with j|j<;>rcases i with i|i<;>rcases f with f|f<;>first|(exfalso;simp at g j i f;omega)|skip
   all_goals
    simp only[a,l,m,g,j,i,f,↓IT,VV,seval];refine aA (lX x _) rfl ?_;simp only[VV,seval];exact c (weight x) A (by rw[k];rfl) (by rw[k];rfl) rfl rfl
  have k:er x S=Y:=by simp[er,a,<- d,e,p]
  have g:(x.ao0==7)=Z:=by simp;omega
  have j:(x.ao0==8)=Z:=by simp;omega
  have i:(x.ao0==9)=Z:=by simp;omega
  have f:(x.ao0==5)=Z:=by simp;omega
  simp only[↓IT,VV,seval];refine aA (oI x S _) rfl ?_;simp only[a,l,m,g,j,i,f,↓IT,VV,seval];exact c 0 Z (by rw[k];rfl) (by rw[k];rfl) rfl rfl
 have l:(x.ao0 != S.ao0)=A:=by simpa using d
 simp only[↓IT,VV,seval];refine aA (oI x S _) rfl ?_;simp only[a,l,↓IT,VV,seval];exact c 0 Z (by simp[er,a,d]) (by simp[er,a,d]) rfl rfl
def l9{a:Type}{b:a->V}(n:Nat)(C:List (a×Int)):fY n ((emap b eZ C).map (·.2)):=o8 λx c=>by obtain⟨k,_,rfl⟩:=br.1 c;exact .i _ _
def oX{b a:Type}{d:b->V}{c:a->V}(C:List (b×a)):F (emap d c C)=F C:=by simp[emap]
def O0(G:bT J)(j:F b<2^38):∀(d pre:List It) (C:List (TK×Int)) (n:Nat),b=pre++d->CB n C->n+F d<2^39 ->((fj 1 (fh (.sl 3 (a.map It.aoZ)) (fj 3 (fh (.mp (F J)) (fj 60 fo))))) λH=>K (.exit 0) ⟨H,J++[.map 150 3 (emap iv eZ (ga 1 C d))]⟩) ->fS (F J) θ FL K (F d+1) ⟨(uu 1 (.sl 3 (a.map It.aoZ)::uu 3 (.mp (F J)::uu 8 (.sl 3 (b.map It.aoZ)::.I (F b)::.I (F pre)::uu 49 [])))),J++[.map 150 3 (emap iv eZ C)]⟩:=by
 intro d;induction d with
 |nil =>intro pre C n m p B f;have m:=db m;subst m;refine aF λR r=>?_;simp only[FL,VV,seval];exact⟨λh=>by simp at h,λ_=>f ..⟩
 |cons x d ih =>
 intro pre C n m p B f;subst m;have z:F pre+1+F d<2^38:=by simp at j;omega
 have y:=dY pre x (by omega);simp only[ah]at B;have v:=p.getD (eI x);have L:∀c,(bZ (eI x) C).getD 0=c->IntKind.i64.wrap (c+1)=c+1:=λc E=>IntWalk.i64_in _ (by rw[E]at v;have:=v.1;have:=v.2;omega);have t:∀C,bT (J++[.map 150 3 (emap iv eZ C)]):=λC=>cL G (by simp[l9]);refine aF λR r=>?_;simp only[FL,It.aoZ,VV,seval];refine⟨λ_=>⟨by simp;omega,?_⟩,λh=>by simp at h;omega⟩;refine aA (yC x _) rfl ?_;simp only[y,VV,seval];refine⟨λu=>?_,λu=>?_⟩
 .have e:ga 1 C (x::d)=ga 1 (bump C (eI x) 1) d:=by simp only[ga,u,aU]
  rw[e]at f;have s:=p.bump (eI x) 1 (by omega);rcases tz u0 C (eI x)with⟨q,g,o,l,D⟩|⟨i,c,q,g,o,l⟩
  .have k:IntKind.i64.wrap 1=1:=by decide
   have w:bump C (eI x) 1=fZ C (eI x) 1:=by simp[bump,q]
   rw[w]at s f;simp only[iv,eI]at g o l D;simp only[c8,g,o,l,D,k,dB,V.jG,V.cell,VV,seval];simp only[y,k];refine r _ (cC [_] [_,_] (t _) ?_ ?_ (ih (pre++[x]) _ (n+1) (by simp) s (by omega) f));.repeat' constructor
   simp only[LW,ah,az,bq];omega
  have k:=L c (by rw[q];rfl);have w:bump C (eI x) 1=fZ C (eI x) (c+1):=by simp[bump,q]
  rw[w]at s f;simp only[iv,eI]at g o l;simp only[c8,g,o,l,k,dB,V.jG,V.cell,VV,seval];simp only[y,k];refine r _ (cC [_] [_,_] (t _) ?_ ?_ (ih (pre++[x]) _ (n+1) (by simp) s (by omega) f));.repeat' constructor
  simp only[LW,ah,az,bq];omega
 have e:ga 1 C (x::d)=ga 1 C d:=by simp only[ga,u,aQ,aI]
 rw[e]at f;refine r _ (cC [_] [_] (t _) ?_ ?_ (ih (pre++[x]) C n (by simp) p (by omega) f));.repeat' constructor
 simp only[LW,ah,az,bq];omega
def OZ(E:bT J)(g:F a<2^38):∀(c pre:List It) (C:List (TK×Int)) (n:Nat),a=pre++c->CB n C->n+F c<2^39 ->((fj 5 (fh (.mp (F J)) (fj 60 fo))) λG=>K (.exit 2) ⟨G,J++[.map 150 3 (emap iv eZ (ga (-1) C c))]⟩) ->fS (F J) θ FK K (F c+1) ⟨(uu 5 (.mp (F J)::uu 27 (.sl 3 (a.map It.aoZ)::.I (F a)::.I (F pre)::uu 30 []))),J++[.map 150 3 (emap iv eZ C)]⟩:=by
 intro c;induction c with
 |nil =>intro pre C n l o z d;have l:=db l;subst l;refine aF λR q=>?_;simp only[FK,VV,seval];exact⟨λh=>by simp at h,λ_=>d ..⟩
 |cons x c ih =>
 intro pre C n l o z d;subst l;have y:F pre+1+F c<2^38:=by simp at g;omega
 have w:=dY pre x (by omega);simp only[ah]at z;have u:=o.getD (eI x);have H:∀b,(bZ (eI x) C).getD 0=b->IntKind.i64.wrap (b - 1)=b - 1:=λb D=>IntWalk.i64_in _ (by rw[D]at u;have:=u.1;have:=u.2;omega);have s:∀C,bT (J++[.map 150 3 (emap iv eZ C)]):=λC=>cL E (by simp[l9]);refine aF λR q=>?_;simp only[FK,It.aoZ,VV,seval];refine⟨λ_=>⟨by simp;omega,?_⟩,λh=>by simp at h;omega⟩;refine aA (yC x _) rfl ?_;simp only[w,VV,seval];refine⟨λt=>?_,λt=>?_⟩
 .have e:ga (-1) C (x::c)=ga (-1) (bump C (eI x) (-1)) c:=by simp only[ga,t,aU]
  rw[e]at d;have r:=o.bump (eI x) (-1) (by omega);rcases tz u0 C (eI x)with⟨p,f,m,k,B⟩|⟨i,b,p,f,m,k⟩
  .have j:IntKind.i64.wrap (-1) = -1:=by decide
   have v:bump C (eI x) (-1)=fZ C (eI x) (-1):=by simp[bump,p]
   rw[v]at r d;simp only[iv,eI]at f m k B;simp only[c8,f,m,k,B,j,dB,V.jG,V.cell,VV,seval];simp only[w,j];refine q _ (cC [_] [_,_] (s _) ?_ ?_ (ih (pre++[x]) _ (n+1) (by simp) r (by omega) d));.repeat' constructor
   simp only[LW,ah,az,bq];omega
  have j:=H b (by rw[p];rfl);have v:bump C (eI x) (-1)=fZ C (eI x) (b - 1):=by simp[bump,p];rfl
  rw[v]at r d;simp only[iv,eI]at f m k;simp only[c8,f,m,k,j,dB,V.jG,V.cell,VV,seval];simp only[w,j];refine q _ (cC [_] [_,_] (s _) ?_ ?_ (ih (pre++[x]) _ (n+1) (by simp) r (by omega) d));.repeat' constructor
  simp only[LW,ah,az,bq];omega
 have e:ga (-1) C (x::c)=ga (-1) C c:=by simp only[ga,t,aQ,aI]
 rw[e]at d;refine q _ (cC [_] [_] (s _) ?_ ?_ (ih (pre++[x]) C n (by simp) o (by omega) d));.repeat' constructor
 simp only[LW,ah,az,bq];omega
def OY(C:List (TK×Int))(m:Nat)(t:CB m C)(x:jM C)(L:m<2^39)(S:Int)(M:S<=2^60):∀(a:Nat) (c:cy) (e:bP) (b:Int),F c<=a->c.Nodup->(∀p∈c,p<F C)->0<=b ->b+r9 (λi=>2*max (C.getD i ((0,[]),0)).2 (-(C.getD i ((0,[]),0)).2)) c=S ->(∀c e,((fj 10 (fh (.I S) (fj 55 fo))) λw=>K (.exit 4) ⟨w,J++[.map 150 3 (emap iv eZ C),.iter Z (F J) 3 (F (emap iv eZ C)) c e]⟩)) ->fS (F J) θ FJ K (a+1) ⟨(uu 5 (.mp (F J)::uu 4 (.I b::uu 42 (.it (F J+1)::uu 12 [])))),J++[.map 150 3 (emap iv eZ C),.iter Z (F J) 3 (F (emap iv eZ C)) c e]⟩:=by
 intro a;induction a with
 |zero =>
  intro c e b z n k D f g;have l:c=[]:=aL (by omega);subst l;have:b=S:=by simpa[r9]using f
  subst this;refine aF λR s=>?_;simp only[FJ,VV,seval];exact g _ _ ..
 |succ a ih =>
 intro c e b z n k D f g;refine aF λR s=>?_;simp only[FJ,VV,seval];refine⟨λl=>?_,λq j=>?_⟩
 .subst l;have:b=S:=by simpa[r9]using f
  subst this;exact g _ _ ..
 have r:=k q j;rw[Fg _ n j]at f;have H:=Ff (λi=>2*max (C.getD i ((0,[]),0)).2 (-(C.getD i ((0,[]),0)).2)) (λi=>by omega) (c.filter λi=>i != q);have o:=ug (ke:=iv) (ve:=eZ) C ((0,[]),0) r;have u:=t.2 _ _ (l5 x (wU (d:=((0,[]),0)) r));generalize O:(C.getD q ((0,[]),0)).2=v at f o u;have B:IntKind.i64.wrap (0 - v) = -v:=by rw[IntWalk.i64_in _ (by omega)];omega
 have y:(if v < -v then -v else v)=max v (-v):=by split<;>omega
 have E:IntKind.i64.wrap (2*max v (-v))=2*max v (-v):=IntWalk.i64_in _ (by omega);have G:IntKind.i64.wrap (b+2*max v (-v))=b+2*max v (-v):=IntWalk.i64_in _ (by omega);simp only[o,eZ,B,y,E,G,VV,seval];refine s _ (aX ?_ (ih (c.filter λi=>i != q) (N q) (b+2*max v (-v)) (by have:=nh j;omega) (n.filter _) (λp h=>k p (cV.1 h).1) (by omega) (by omega) g));repeat' constructor
def Km(n:F a<2^27)(l:F b<2^27)(J:ag):bO θ 215 [.sl 3 (a.map It.aoZ),.sl 3 (b.map It.aoZ)] J (.I (jS a b)):=by
 refine a6 func215 aiw λe k=>ay ?_;simp only[ab3,SS,seval];simp only[ae,VV,seval];have c:=CB.nil.count 1 (by omega) a;have d:=c.count (-1) (by omega) b;have g:jM (rj a b):=jM.count (-1) b (jM.count 1 a (by simp[jM]));have i:=E5 (C:=rj a b) d g;have f:((0+F a+F b:Nat):Int)*(F (rj a b):Int)<=2^28*2^28:=by
  have j:(F (rj a b):Int)<=2^28:=by have:=d.1;unfold rj;omega
  exact vG (by omega) j (by omega) (by omega)
 refine cd.aX (fr':=(uu 1 (.sl 3 (b.map It.aoZ)::uu 3 (.mp (F J)::uu 8 (.sl 3 (a.map It.aoZ)::.I (F a)::.I (F ([]:List It))::uu 49 []))))) (by repeat' constructor) (F a+1) (O0 b a e (by omega) a [] [] 0 rfl CB.nil (by omega) ?_);simp only[JE];intros;simp only[ae,VV,seval];refine cd.aX (fr':=(uu 5 (.mp (F J)::uu 27 (.sl 3 (b.map It.aoZ)::.I (F b)::.I (F ([]:List It))::uu 30 [])))) (by repeat' constructor) (F b+1) (OZ b e (by omega) b [] _ _ rfl c (by omega) ?_);simp only[JE];intros;simp only[ae,VV,seval];refine cd.aX (fr':=(uu 5 (.mp (F J)::uu 4 (.I 0::uu 42 (.it (F J+1)::uu 12 []))))) (by repeat' constructor) (F (emap iv eZ (rj a b))+1) (OY (rj a b) _ d g (by omega) (jS a b) (by have:=eD i.2 f;unfold jS;omega) _ (List.range (F (emap iv eZ (rj a b)))) Y 0 (by simp) lx (by simp[emap]) (cP _) ?_ ?_);.rw[oX,HL (λp:TK×Int=>2*max p.2 (-p.2)),HH,fm];rfl
 intro m h;simp only[JE];intros;simp only[VV,seval];exact km e (by simp only[RS,seval]) (by simp only[LW])

set_option maxRecDepth 4000
def O8(t:It)(i:Nat)(M:Int)(hM:M<2^50)(X:bT J)(p:F b<2^38):∀(g pre:List It) (m f:bG) (d left:Int),b=pre++g->F m=F pre->F f=F g->BR M f->0<=d/\d<=M->0<=left/\left<=M+4 ->((fh (.sl 3 (a.map It.aoZ)) (fh (.sl 3 (b.map It.aoZ)) (fj 3 (fh (.own (F J) 0) (fj 33 (fh (.sl 3 (a.map It.aoZ)) (fh (.I (F a)) (fh (.I i) (fj 69 fo))))))))) λZZ=>K (.exit 4) ⟨ZZ,J++[.row 3 1 8 0 Z ((m++left::jD t d left g f).map cg),.box 150 t.aoZ]⟩) ->fS (F J) θ F1 K (F g+1) ⟨(.sl 3 (a.map It.aoZ)::.sl 3 (b.map It.aoZ)::uu 3 (.own (F J) 0::uu 3 (.ptr (F J+1) 0::.I d::uu 28 (.sl 3 (a.map It.aoZ)::.I (F a)::.I i::uu 13 (.sl 3 (b.map It.aoZ)::.I (F b)::.I (F pre)::uu 53 []))))),J++[.row 3 1 8 0 Z ((m++left::f).map cg),.box 150 t.aoZ]⟩:=by
 intro g;induction g with
 |nil =>intro pre m f d left r o y O S Q z;have r:=db r;subst r;have ho:f=[]:=aL (by simpa using y);subst ho;have e:jD t d left [] []=[]:=rfl;rw[e]at z;refine aF λR L=>?_;simp only[F1,VV,seval];exact⟨λh=>by simp at h,λ_=>z ..⟩
 |cons u g ih =>
 intro pre m f d left r o y O S Q z;subst r;cases f with
 |nil=>simp at y
 |cons j f =>
 have G:F pre+1+F g<2^38:=by simp at p;omega
 have E:=dY pre u (by omega);have W:=O j (by simp);have st:=eV t;have su:=eV u;have e1:IntKind.i64.wrap (j+single t)=j+single t:=IntWalk.i64_in _ (by omega);have e2:IntKind.i64.wrap (left+single u)=left+single u:=IntWalk.i64_in _ (by omega);have q:m++left::j::f=(m++[left])++j::f:=by simp
 have B:((F (pre++[u]):Nat):Int)=((F (m++[left]):Nat):Int):=by simp[o]
 have ac:((F pre:Nat):Int)=((F m:Nat):Int):=by rw[o]
 have w:gp ((m++left::j::f).map cg) (F (m++[left])) 0=N (.I j):=by rw[q];exact Av _ _ _
 have H:gp ((m++left::j::f).map cg) (F pre) 0=N (.I left):=by rw[<- o];exact Av _ _ _
 have P:∀v,((m++left::j::f).map cg).set (F (m++[left])) [.I v]=(m++left::v::f).map cg:=λv=>by rw[q,BU];simp
 have U:((m++left::j::f).map cg).getD (F (m++[left])) []=[.I j]:=by rw[q];exact yr _ _ _
 refine aF λR L=>?_;simp only[F1,It.aoZ,VV,seval];refine⟨λ_=>⟨by simp;omega,?_⟩,λh=>by simp at h;omega⟩;simp only[E,B,aG,w,VV,seval];refine⟨by simp[y];omega,?_⟩;refine⟨by simp[o];omega,?_⟩;simp only[aG,H,VV,seval];refine aA (tT t _) rfl ?_;simp only[e1,VV,seval];have n:(0:Int)<=(F (m++[left]):Nat)/\((F (m++[left]):Nat):Int)<(F ((m++left::j::f).map cg):Nat):=⟨by omega,by simp;omega⟩;have V:(0:Int)<=(F pre:Nat)/\((F pre:Nat):Int)<(F ((m++left::j::f).map cg):Nat):=⟨by omega,by simp[o];omega⟩;simp only[w,H];refine⟨⟨n,⟨True,rfl,trivial⟩,V,⟨True,rfl,trivial⟩⟩,?_⟩;refine aA (tT u _) rfl ?_;simp only[e2,w,H,VV,seval];refine⟨⟨n,V⟩,?_⟩;have SY:=zG (t:=t) (u:=u) S Q W;have T:∀l,bT (J++[.row 3 1 8 0 Z (List.map cg l),.box 150 t.aoZ]):=λl=>cL X (by simp[It.aoZ,LW]);have k:=ih (pre++[u]) (m++[left]) f j (oZ t u d left j) (by simp) (by simp[o]) (by simpa using y) (λx q=>O x (by simp[q])) W SY (by simpa only[aS,bo,bg,jD,It.aoZ]using z);simp only[aS,bo,bg,It.aoZ,B]at k;have C:∀c,er t u=N c->IntKind.i64.wrap (d+c)=d+c:=λc s=>IntWalk.i64_in _ (by have:=qR s;omega);refine aA (Xj t u _) rfl ?_;cases s:er t u with
 |none =>
  simp only[E,B,aG,w,P,U,Option.isSome,Option.getD,VV,seval];have D:oZ t u d left j=if left+single u<j+single t then left+single u else j+single t:=by unfold oZ;rw[s];rfl
  refine⟨n,n,by have:=n.2;omega,?_⟩;rw[<- D];exact L _ (cC [_,_] [_] (T _) (by repeat' constructor) (by simp[LW]) k)
 |some c =>
 simp only[E,B,aG,C c s,w,P,U,Option.isSome,Option.getD,VV,seval];have D:oZ t u d left j=(if d+c<(if left+single u<j+single t then left+single u else j+single t)then d+c else(if left+single u<j+single t then left+single u else j+single t)):=by unfold oZ;rw[s];rfl
 refine⟨n,n,by have:=n.2;omega,?_⟩;rw[<- D];exact L _ (cC [_,_] [_] (T _) (by repeat' constructor) (by simp[LW]) k)
def O7(q:bT J)(f:F b<2^38)(C:F a<2^38):∀(c pre:List It) (row:bG) (M:Int),a=pre++c->F row=F b+1->BR M row->M+4*F c<2^50 ->((fh (.sl 3 (a.map It.aoZ)) (fh (.sl 3 (b.map It.aoZ)) (fj 3 (fh (.own (F J) 0) (fj 105 fo))))) λB=>K (.exit 2) ⟨B,J++[.row 3 1 8 0 Z ((c.foldl (λrow t=>iG t b row) row).map cg)]⟩) ->fS (F J) θ FZ K (F c+1) ⟨(.sl 3 (a.map It.aoZ)::.sl 3 (b.map It.aoZ)::uu 3 (.own (F J) 0::uu 33 (.sl 3 (a.map It.aoZ)::.I (F a)::.I (F pre)::uu 69 []))),J++[.row 3 1 8 0 Z (row.map cg)]⟩:=by
 intro c;induction c with
 |nil =>intro pre row M g i j o k;have g:=db g;subst g;refine aF λR r=>?_;simp only[FZ,VV,seval];exact⟨λh=>by simp at h,λ_=>k ..⟩
 |cons x c ih =>
 intro pre row M g i j o k;subst g;obtain⟨e,d,rfl⟩:∃e d,row=e::d:=by cases row with|nil=>simp at i|cons e d=>exact⟨_,_,rfl⟩
 have n:F pre+1+F c<2^38:=by simp at C;omega
 have D:=dY pre x (by omega);have w:=j e (by simp);have L:=eV x;have H:IntKind.i64.wrap (e+single x)=e+single x:=IntWalk.i64_in _ (by omega);have p:gp (cg e::d.map cg) 0 0=N (.I e):=Av [] _ _;have s:∀v,(cg e::d.map cg).set 0 [.I v]=cg v::d.map cg:=λv=>BU [] _ _ _;have z:(cg e::d.map cg).getD 0 []=[.I e]:=yr [] _ _;refine aF λR r=>?_;simp only[FZ,It.aoZ,VV,seval];refine⟨λ_=>⟨by simp;omega,?_⟩,λh=>by simp at h;omega⟩;refine⟨by omega,?_⟩;simp only[p,VV,seval];refine⟨by omega,?_⟩;refine aA (tT x _) rfl ?_;simp only[H,p,s,z,ae,VV,seval];have m:BR (M+4) (iG x b (e::d)):=j.new b;have E:F (iG x b (e::d))=F b+1:=by rw[zh,i]
 simp only[ah]at o;have u:∀l,bT (J++[.row 3 1 8 0 Z (List.map cg l)]):=λl=>cL q (by simp);refine⟨by omega,by omega,by omega,?_⟩;refine cd.aX (fr':=(.sl 3 ((pre++x::c).map It.aoZ)::.sl 3 (b.map It.aoZ)::uu 3 (.own (F J) 0::uu 3 (.ptr (F J+1) 0::.I e::uu 28 (.sl 3 ((pre++x::c).map It.aoZ)::.I (F (pre++x::c))::.I (F pre)::uu 13 (.sl 3 (b.map It.aoZ)::.I (F b)::.I (F ([]:List It):Nat)::uu 53 [])))))) (by repeat' constructor) (F b+1) (O8 (pre++x::c) b x (F pre) M (by omega) q f b [] [] d e (e+single x) rfl rfl (by simpa using i) (λy G=>j y (by simp[G])) w (by omega) ?_);simp only[JE];intros;simp only[VV,seval];simp only[D];refine r _ (cC [_] [_] (u (iG x b (e::d))) (by repeat' constructor) (by simp[LW]) (ih (pre++[x]) _ (M+4) (by simp) E m (by omega) k))
def O9(C:bT J)(j:F b<2^38):∀(d pre:List It) (e:bG) (s:Int) (c:bG),b=pre++d->F e=F pre->F c=F d->0<=s/\s<=4*(F pre:Int) ->((fh (.sl 3 (a.map It.aoZ)) (fh (.sl 3 (b.map It.aoZ)) (fj 3 (fh (.own (F J) 0) (fj 105 fo))))) λG=>K (.exit 0) ⟨G,J++[.row 3 1 8 0 Z ((e++s::lL s d).map cg)]⟩) ->fS (F J) θ F2 K (F d+1) ⟨(.sl 3 (a.map It.aoZ)::.sl 3 (b.map It.aoZ)::uu 3 (.own (F J) 0::uu 14 (.sl 3 (b.map It.aoZ)::.I (F b)::.I (F pre)::uu 88 []))),J++[.row 3 1 8 0 Z ((e++s::c).map cg)]⟩:=by
 intro d;induction d with
 |nil =>intro pre e s c i f l B n;have i:=db i;subst i;have x:c=[]:=aL (by simpa using l);subst x;refine aF λR r=>?_;simp only[F2,VV,seval];exact⟨λh=>by simp at h,λ_=>n ..⟩
 |cons u d ih =>
 intro pre e s c i f l B n;subst i;cases c with
 |nil=>simp at l
 |cons w c =>
 have m:F pre+1+F d<2^38:=by simp at j;omega
 have t:=dY pre u (by omega);have H:=eV u;have E:IntKind.i64.wrap (s+single u)=s+single u:=IntWalk.i64_in _ (by omega);have q:gp ((e++s::w::c).map cg) (F pre) 0=N (.I s):=by rw[<- f];exact Av _ _ _
 have g:e++s::w::c=(e++[s])++w::c:=by simp
 have y:∀v,((e++s::w::c).map cg).set (F (pre++[u])) [.I v]=(e++s::v::c).map cg:=λv=>by
  have:F (pre++[u])=F (e++[s]):=by simp[f]
  rw[this,g,BU];simp
 have D:((e++s::w::c).map cg).getD (F (pre++[u])) []=[.I w]:=by
  have:F (pre++[u])=F (e++[s]):=by simp[f]
  rw[this,g];exact yr _ _ _
 have o:(0:Int)<=(F (pre++[u]):Nat)/\((F (pre++[u]):Nat):Int)<(F ((e++s::w::c).map cg):Nat):=⟨by omega,by simp[f];omega⟩;have k:=ih (pre++[u]) (e++[s]) (s+single u) c (by simp) (by simp[f]) (by simpa using l) (by simp;omega) (by simpa only[aS,bo,bg,lL]using n);simp only[aS,bo,bg]at k;refine aF λR r=>?_;simp only[F2,It.aoZ,VV,seval];refine⟨λ_=>⟨by simp;omega,?_⟩,λh=>by simp at h;omega⟩;simp only[aG,q,VV,seval];have p:(0:Int)<=(F pre:Nat)/\((F pre:Nat):Int)<(F ((e++s::w::c).map cg):Nat):=⟨by omega,by simp[f];omega⟩;refine⟨p,?_⟩;refine aA (tT u _) rfl ?_;simp only[E,t,aG,q,y,D,VV,seval];have z:bT (J++[.row 3 1 8 0 Z (List.map cg (e++s::(s+single u)::c))]):=cL C (by simp);exact⟨p,o,by have:=o.2;omega,r _ (cC [_] [_] z (by repeat' constructor) (by simp[LW]) k)⟩
def AX(i:F a<2^27)(j:F b<2^27):0<=jS a b/\jS a b<=2^60:=by
 have d:=CB.nil.count 1 (by omega) a;have e:=d.count (-1) (by omega) b;have g:jM (rj a b):=jM.count (-1) b (jM.count 1 a (by simp[jM]));have f:=E5 (C:=rj a b) e g;have c:((0+F a+F b:Nat):Int)*(F (rj a b):Int)<=2^28*2^28:=by
  have h:(F (rj a b):Int)<=2^28:=by have:=e.1;unfold rj;omega
  exact vG (by omega) h (by omega) (by omega)
 have:=eD f.2 c;have:=f.1;unfold jS;omega
def Js(j:F a<2^27)(h:F b<2^27)(J:ag):bO θ 166 [.sl 3 (a.map It.aoZ),.sl 3 (b.map It.aoZ)] J (.I (iM a b)):=by
 refine a6 func166 ai5 λd p=>ay ?_;simp only[acF,SS,seval];have l:IntKind.i64.wrap ((F b:Int)+1)=((F b+1:Nat):Int):=cq (by omega);have o:((F b+1:Nat):Int)<=maxLen:=eD (show _<=(2^62:Int)by omega) (by decide);have m:List.replicate (F b+1) [V.i .i64 0]=(([]:bG)++0::List.replicate (F b) 0).map cg:=by simp[uk,cg]
 simp only[ae,l,aG,m,VV,seval];have f:=HV a b;refine⟨⟨by omega,Or.inl trivial,by omega,by omega,o⟩,?_⟩;refine cd.aX (fr':=(.sl 3 (a.map It.aoZ)::.sl 3 (b.map It.aoZ)::uu 3 (.own (F J) 0::uu 14 (.sl 3 (b.map It.aoZ)::.I (F b)::.I (F ([]:List It):Nat)::uu 88 [])))) (by repeat' constructor) (F b+1) (O9 a b d (by omega) b [] [] 0 _ rfl rfl (by simp) (by simp) ?_);simp only[JE];intros;simp only[ae,VV,seval];refine cd.aX (fr':=(.sl 3 (a.map It.aoZ)::.sl 3 (b.map It.aoZ)::uu 3 (.own (F J) 0::uu 33 (.sl 3 (a.map It.aoZ)::.I (F a)::.I (F ([]:List It):Nat)::uu 69 [])))) (by repeat' constructor) (F a+1) (O7 a b d (by omega) (by omega) a [] (vY b) (4*F b) rfl (HX b) (BR.vY b) (by omega) ?_);simp only[JE];intros;simp only[ae,VV,seval];have c:F (List.foldl (α:=bG) (λrow t=>iG t b row) (vY b) a)=F b+1:=f.2;obtain⟨x,e⟩:∃x,(Bc a b)[F b]?=N x:=⟨_,an (by rw[f.2];omega)⟩;have q:=f.1 x (bc e);have r:=AX a b j h;have k:iM a b=x+jS a b:=by simp only[iM,aq,e,Option.getD]
 have n:IntKind.i64.wrap (x+jS a b)=x+jS a b:=IntWalk.i64_in _ (by omega);have g:gp (List.map cg (List.foldl (λrow t=>iG t b row) (vY b) a)) (F b) 0=N (.I x):=by have:(List.foldl (λrow t=>iG t b row) (vY b) a)[F b]?=N x:=e;simp[gp,this,cg]
 refine⟨by omega,?_⟩;simp only[aG,g,VV,seval];refine aA (Km a b j h _) rfl ?_;simp only[n,g,c,aG,VV,seval];refine⟨⟨by rw[ae],by omega,by rw[ae];omega⟩,?_⟩;exact km d (by rw[k];simp only[RS,seval]) (by simp only[LW])
end Go.Proofs.Tryz
namespace Go.Pm
def qx{P:aM}{c:bH}{K:bj}{a:Nat}{e b:ao}{J:ag}(d:ag)(f:bT J)(h:pe e b)(g:fY (F J) b)(k:fS (F J) P c K a ⟨b,J⟩):fS (F J) P c K a ⟨e,J++d⟩ :=u6 ((Wk.gW h).trans (Wk.xe (ax _) f (fi.1 g))) k
end Go.Pm
namespace Go.Proofs.Tryz
open Go Go.Pm Go.Bt
variable(a:List It)(l:aJ)(T:Int)(n:Nat)(X:ag)(M:List fe)(b:List It)(c:UInt8)(U:bG){J:ag}{K:bj}
def Cq(e:F a<2^27)(f:F b<2^27):0<=iM a b/\iM a b<=2^61:=by
 have c:=HV a b;obtain⟨x,d⟩:∃x,(Bc a b)[F b]?=N x:=⟨_,an (by rw[c.2];omega)⟩;have i:=c.1 x (bc d);have h:=AX a b e f;have g:iM a b=x+jS a b:=by simp only[iM,aq,d,Option.getD]
 omega
def Xq(e:F a<2^27)(c:F b<2^27)(J:ag):bO θ 165 [.sl 3 (a.map It.aoZ),.sl 3 (b.map It.aoZ)] J (.I (gZ a b)):=by refine a6 func165 ai6 λf d=>ay ?_;simp only[acG,SS,seval];simp only[VV,seval];refine aA (AQ a (by omega) _) rfl ?_;simp only[VV,seval];refine aA (AQ b (by omega) _) rfl ?_;simp only[VV,seval];exact aY (.inr rfl) rfl ⟨rfl,rfl⟩
def KN(f:F a<2^27)(e:F b<2^27)(J:ag):bO θ 106 [.sl 3 (a.map It.aoZ),.sl 3 (b.map It.aoZ)] J (.I (dm a b)):=by
 refine a6 func106 ajJ λm l=>ay ?_;simp only[adp,SS,seval];simp only[VV,seval];refine aA (Xq a b f e _) rfl ?_;simp only[VV,seval];have n:=xq a b;have g:=Cq a b f e;refine⟨λh=>?_,λh=>?_⟩
 .have c:gZ a b=0:=by simpa using h
  exact aY (.inr rfl) rfl ⟨by simp[dm,c,one],rfl⟩
 have c:gZ a b≠0:=by simpa using h
 have i:IntKind.i64.wrap (gZ a b - iM a b)=gZ a b - iM a b:=IntWalk.i64_in _ (by omega);have j:IntKind.i64.wrap (100*if gZ a b - iM a b<0 then 0 else gZ a b - iM a b)=100*if gZ a b - iM a b<0 then 0 else gZ a b - iM a b:=IntWalk.i64_in _ (by split<;>omega);refine aA (Js a b f e _) rfl ?_;simp only[i,j,VV,seval];have k:=s3 a b g.1;have d:dm a b=(100*if gZ a b - iM a b<0 then 0 else gZ a b - iM a b).tdiv (gZ a b):=by simp only[dm,c,aQ,mx]
 refine⟨c,?_⟩;rw[<- d,IntWalk.i64_in _ (by omega)];exact aY (.inr rfl) rfl ⟨rfl,rfl⟩
def LR(e:En)(q:Qr)(J:ag):bO θ 108 [.agg e.aoZ,.agg q.aoZ] J (.I (iC e q)):=by
 refine a6 func108 ajH λd g=>ay ?_;simp only[adn,SS,seval];simp only[En.aoZ,Qr.aoZ,VV,seval];have c:IntKind.i64.wrap 1=1:=by decide
 have f:IntKind.i64.wrap (1+1)=2:=by decide
 simp only[c,f];refine⟨λb=>⟨λa=>?_,λa=>?_⟩,λb=>⟨λa=>?_,λa=>?_⟩⟩ <;>
  exact bl d (.inr rfl) (by simp only[RS,seval];rfl) (by simp only[LW]) ⟨by have b:=(show ET _ _=_ from b);have a:=(show ET _ _=_ from a);simp[iC,b,a,one],rfl⟩
def EG:bO θ 200 [.s l] X (.b Z):=by refine a6 func200 aiI λc a=>ay ?_;simp only[acg,SS,seval];simp only[VV,seval];exact aY (.inr rfl) rfl ⟨by simp[one],rfl⟩
def GX(b:aJ)(J:ag):bO θ 133 [.s l,.s b] J (.I (gw l b)):=by
 refine a6 func133 ajp λg d=>ay ?_;simp only[acZ,SS,seval];simp only[VV,seval];refine aA (EG l _) rfl ?_;simp only[VV,seval];refine aA (EG b _) rfl ?_;simp only[VV,seval];have i:=ND l b;rw[kS];refine⟨λh=>?_,λh=>⟨λa=>?_,λa=>?_⟩⟩
 .have e:gw l b = -1:=by simp only[a7]at h;omega
  exact aY (.inr rfl) rfl ⟨by rw[e];rfl,rfl⟩
 .have e:gw l b=1:=by
   simp only[cI]at h;have f:¬gw l b=0:=λc=>by rw[oB]at c;subst c;simp at a
   omega
  exact aY (.inr rfl) rfl ⟨by rw[e];rfl,rfl⟩
 have e:gw l b=0:=by rw[h,ia]at a;rw[oB];simpa using a
 exact aY (.inr rfl) rfl ⟨by rw[e];rfl,rfl⟩
def Vr(n:bT J)(d:F a<2^40):∀(b pre:List It) (g:Nat),a=pre++b ->(∀g,((fj 3 (fh (.own (F J) g) (fj 18 fo))) λp=>K (.exit 0) ⟨p,J++[.row 9 1 16 g Z ((a8 a).map Dc)]⟩)) ->fS (F J) θ FQ K (F b+1) ⟨(uu 3 (.own (F J) g::uu 2 (.sl 3 (a.map It.aoZ)::.I (F a)::.I (F pre)::uu 13 []))),J++[.row 9 1 16 g Z ((a8 pre).map Dc)]⟩:=by
 intro b;induction b with
 |nil =>intro pre g c f;have c:=db c;subst c;refine aF λR j=>?_;simp only[FQ,VV,seval];exact⟨λh=>by simp at h,λ_=>f g ..⟩
 |cons x b ih =>
 intro pre g c f;subst c;have i:F pre+1+F b<2^40:=by simp at d;omega
 have l:=dY pre x (by omega);have m:∀g o,bT (J++[.row 9 1 16 g Z o]):=λg o=>cL n (by simp);have q:F (a8 pre)<=F pre:=by unfold a8;rw[ae];exact fQ _ _
 refine aF λR j=>?_;simp only[FQ,It.aoZ,VV,seval];refine⟨λ_=>⟨by simp;omega,?_⟩,λh=>by simp at h;omega⟩;refine⟨λh=>?_,λh=>?_⟩
 .refine aA (tP x _) rfl ?_;simp only[l,VV,seval];have e:(a8 pre).map Dc++[[.s (eQ x)]]=(a8 (pre++[x])).map Dc:=by simp[a8,iW,h,Dc]
  rw[e];refine⟨by simp only[ae,maxLen];omega,j _ (cC [_] [_] (m _ _) (by repeat' constructor) (by simp[LW]) (ih (pre++[x]) (g+1) (by simp) f))⟩
 have e:a8 (pre++[x])=a8 pre:=by simp[a8,iW,h]
 simp only[l];have k:=ih (pre++[x]) g (by simp) f;rw[e]at k;exact j _ (cC [_] [_] (m _ _) (by repeat' constructor) (by simp[LW]) k)
def Yw:Ti θ 9 1 16:=nQ (by kernel_rfl)
def QO(c:F a<2^38)(J:ag):bO θ 180 [.sl 3 (a.map It.aoZ)] J (.sl 1 ((a8 a).map Dc)):=by
 refine PC.closed λb=>PC.fz b (g:=0) (E:=9) (by':=16) (sh:=Z) ?_;refine a6 func180 aiR λb d=>ay ?_;simp only[acq,SS,seval];simp only[ae,VV,seval];refine cd.wk ((Wk.jV (J:=J) (k:=3) Yw rfl).trans (Wk.gW ?_)) (cd.xA (F a+1) (Vr a b (by omega) a [] 0 rfl ?_));.simp only[VV,seval];repeat' constructor
 intro g;simp only[JE];intros;simp only[VV,seval];exact rq 0 b (.inr rfl) rfl rfl rfl (by simp[zT,Ob.gen]) (by simp[one,RJ,Ob.fresh])

set_option maxRecDepth 4000
set_option maxHeartbeats 1000000
def X5(c:n<2^60):IntKind.i64.wrap ((IntKind.u64.wrap (n:Int)).fdiv (2^min 1 IntKind.u64.bits))=((n / 2:Nat):Int):=by
 have a:IntKind.u64.wrap (n:Int)=n:=by simp only[IntKind.wrap,IntKind.bits,IntKind.signed];simp only[eA,aI,aQ];omega
 have b:(2:Int)^min 1 IntKind.u64.bits=2:=by decide
 rw[a,b,aaY _ (by decide)];rw[show(n:Int) / 2=((n / 2:Nat):Int)by omega,AL (by omega)]
def iN:Ob:=.row 108 11 176 n Z (M.map fe.aoZ)
def Jn(s:fe)(k:aJ)(J:ag):bO θ 132 [.agg s.aoZ,.s k] J (.I (gw s.key k)):=by refine a6 func132 ajq λa b=>ay ?_;simp only[ac0,SS,seval];simp only[fe.aoZ,VV,seval];refine aA (GX s.key k _) rfl ?_;simp only[VV,seval];exact bl a (.inr rfl) rfl (by simp[LW]) ⟨rfl,rfl⟩
def VC{K:bj}(B:mM M)(p:aJ)(c g:Nat)(L:F M<2^30)(o:J[c]?=N (iN g M)):∀(a i j:Nat),j - i<=a->i<=gP M p->gP M p<=j->j<=F M ->((fh (.own c g) (fh (.s p) (fh (.fn 132 []) (fj 5 (fh (.I (F M)) (fh (.I (gP M p)) (fj 39 fo))))))) λv=>K (.exit 0) ⟨v,J⟩) ->fS (F J) θ Bz K (a+1) ⟨(.own c g::.s p::.fn 132 []::uu 5 (.I (F M)::.I i::.I j::uu 38 [])),J⟩:=by
 intro a;induction a with
 |zero =>
  intro i j w l r q d;obtain rfl:i=gP M p:=by omega
  have b:decide ((gP M p:Int)<(j:Int))=Z:=by simp;omega
  refine aF λR e=>?_;simp only[Bz,b,VV,seval];exact d ..
 |succ a ih =>
 intro i j w l r q d;by_cases O:i<j
 .have b:decide ((i:Int)<(j:Int))=A:=by simp;omega
  have D:IntKind.i64.wrap ((i:Int)+(j:Int))=((i+j:Nat):Int):=by rw[show(i:Int)+(j:Int)=((i+j:Nat):Int)by omega,AL (by omega)]
  have y:=X5 (i+j) (by omega);have C:(i+j) / 2<F M:=by omega
  have f:M[(i+j) / 2]?=N M[(i+j) / 2]:=an C;generalize z:M[(i+j) / 2]=x at f;have k:(M.map fe.aoZ).getD ((i+j) / 2) []=x.aoZ:=by simp[aq,f]
  have n:=yk B p _ x f;clear z;generalize H:(i+j) / 2=m at *;have u:(0:Int)<=(m:Int):=by omega
  have E:(m:Int)<(F M:Int):=by omega
  have t:IntKind.i64.wrap ((m:Int)+1)=((m+1:Nat):Int):=by rw[cq (by omega)]
  simp only[fe.aoZ]at k;simp only[iN]at o;refine aF λR e=>?_;simp only[Bz,o,b,D,y,t,k,u,E,ae,VV,Int.reduceBEq,Int.reduceBNe,Nat.reduceAdd,Nat.reduceSub,Nat.reduceLeDiff,Nat.reduceEqDiff,Int.reduceToNat,reduceIte,reduceCtorEq];refine⟨by decide,?_⟩;refine xn rfl (by kernel_rfl) (Jn x p _) (by simp only[fe.aoZ,VV,seval]) ?_;simp only[t,VV,seval];refine⟨λh=>?_,λh=>?_⟩
  .have h:gw x.key p<0:=by simpa using h
   have:=n.1 h;refine e _ (aX ?_ (ih (m+1) j (by omega) (by omega) r q d));repeat' constructor
  have h:¬gw x.key p<0:=by simp at h;omega
  have:¬m<gP M p:=λG=>h (n.2 G);refine e _ (aX ?_ (ih i m (by omega) l (by omega) (by omega) d));repeat' constructor
 obtain rfl:i=gP M p:=by omega
 have b:decide ((gP M p:Int)<(j:Int))=Z:=by simp;omega
 refine aF λR e=>?_;simp only[Bz,b,VV,seval];exact d ..
def aaO(n:mM M)(p:aJ)(c g:Nat)(t:F M<2^30)(J:ag)(a:J[c]?=N (iN g M)):bO θ 131 [.own c g,.s p,.fn 132 []] J (.gy [.I (gP M p),.b (decide (p∈M.map fe.key))]):=by
 refine a6 func131 ajr λC B=>ay ?_;have k:=Gw M p;have r:=λK=>VC (K:=K) M n p c g t a (F M) 0 (F M) (by omega) (eR _) k (ax _);have l:=tY n p;simp only[ac1,SS,seval];simp only[iN]at a;simp only[a,ae,VV,seval];refine cd.wk (Wk.gW ?_) (cd.xA (F M+1) (r _ ?_));.repeat' constructor
 simp only[JE];intros;generalize gP M p=m at *;have f:(true==true)=true:=rfl;have d:(Z==true)=Z:=rfl;by_cases y:m<F M
 .have j:M[m]?=N M[m]:=an y;generalize M[m]=x at j;have o:(M.map fe.aoZ).getD m []=x.aoZ:=by simp[aq,j]
  have i:decide ((m:Int)<(F M:Int))=true:=by simp;omega
  have w:(0:Int)<=(m:Int):=by omega
  have z:(m:Int)<(F M:Int):=by omega
  simp only[fe.aoZ]at o;simp only[a,i,w,z,o,f,d,kH,ae,VV,seval];refine⟨_,rfl,?_⟩;refine ui (c:=true) (by simp only[f,VV,seval]<;>rfl) (λ_=>⟨_,_,rfl,by kernel_rfl,Jn x p _⟩) ?_;simp only[f,d,VV,seval];refine aY (.inr rfl) rfl ⟨?_,rfl⟩;have e:(gw x.key p==0)=decide (p∈M.map fe.key):=by rw[dL,b9,oB,decide_eq_true_iff,l,j];simp
  rw[e];rfl
 have i:decide ((m:Int)<(F M:Int))=Z:=by simp;omega
 have q:decide (p∈M.map fe.key)=Z:=oC (by rw[l,bK (by omega)];simp);simp only[a,i,q,f,d,uy,ae,VV,seval];refine⟨.u,ui (c:=Z) (v:=.I 0) (by simp only[d,VV,seval]<;>rfl) (λh=>by cases h) ?_⟩;simp only[d,VV,seval];exact aY (.inr rfl) rfl ⟨rfl,rfl⟩

set_option maxRecDepth 4000
set_option maxHeartbeats 1000000
def UP:bO θ 124 [.I T] X (.b Z):=by refine a6 func124 ajw λc a=>ay ?_;simp only[ac6,SS,seval];simp only[VV,seval];exact aY (.inr rfl) rfl ⟨by simp[one],rfl⟩
def VO(b:Int)(J:ag):bO θ 123 [.I T,.I b] J (.b (decide (T<b))):=by refine a6 func123 mH λd a=>ay ?_;simp only[ac7,SS,seval];simp only[VV,seval];refine aA (Sj T _) rfl ?_;simp only[VV,seval];refine b7 (c:=Z) (by simp only[VV,seval]<;>rfl) (nofun) rfl (v:=.b Z) ?_;simp only[VV,seval];exact aY (.inr rfl) rfl ⟨rfl,rfl⟩
def Y5{J:ag}{K:bj}(y:U.Pairwise λa b=>a<b)(t:Int)(G:F U<2^30):∀(c i j:Nat),j - i<=c->i<=wH U t->wH U t<=j->j<=F U ->((fh (.sl 1 (U.map cg)) (fh (.I t) (fj 4 (fh (.I (F U)) (fh (.I (wH U t)) (fj 46 fo)))))) λs=>K (.exit 0) ⟨s,J⟩) ->fS (F J) θ Is K (c+1) ⟨(.sl 1 (U.map cg)::.I t::uu 4 (.I (F U)::.I i::.I j::uu 45 [])),J⟩:=by
 intro c;induction c with
 |zero =>
  intro i j u k o n e;obtain rfl:i=wH U t:=by omega
  have d:decide ((wH U t:Int)<(j:Int))=Z:=by simp;omega
  refine aF λR f=>?_;simp only[Is,d,VV,seval];exact e ..
 |succ c ih =>
 intro i j u k o n e;by_cases H:i<j
 .have d:decide ((i:Int)<(j:Int))=A:=by simp;omega
  have B:IntKind.i64.wrap ((i:Int)+(j:Int))=((i+j:Nat):Int):=by rw[show(i:Int)+(j:Int)=((i+j:Nat):Int)by omega,AL (by omega)]
  have v:=X5 (i+j) (by omega);have z:(i+j) / 2<F U:=by omega
  have g:U[(i+j) / 2]?=N U[(i+j) / 2]:=an z;generalize w:U[(i+j) / 2]=x at g;have q:gp (U.map cg) ((i+j) / 2) 0=N (.I x):=by simp[gp,g,cg]
  have l:=Px y t _ x g;clear w;generalize E:(i+j) / 2=m at *;have r:(0:Int)<=(m:Int):=by omega
  have C:(m:Int)<(F U:Int):=by omega
  have p:IntKind.i64.wrap ((m:Int)+1)=((m+1:Nat):Int):=by rw[cq (by omega)]
  refine aF λR f=>?_;simp only[Is,d,B,v,p,q,r,C,ae,aG,VV,Int.reduceBEq,Int.reduceBNe,Nat.reduceAdd,Nat.reduceSub,Nat.reduceLeDiff,Nat.reduceEqDiff,Int.reduceToNat,reduceIte,reduceCtorEq];refine⟨by decide,?_⟩;refine aA (VO x t _) rfl ?_;simp only[p,VV,seval];refine⟨λh=>?_,λh=>?_⟩
  .have h:x<t:=by simpa using h
   have:=l.1 h;refine f _ (aX ?_ (ih (m+1) j (by omega) (by omega) o n e));repeat' constructor
  have h:¬x<t:=by simpa using h
  have:¬m<wH U t:=λD=>h (l.2 D);refine f _ (aX ?_ (ih i m (by omega) k (by omega) (by omega) e));repeat' constructor
 obtain rfl:i=wH U t:=by omega
 have d:decide ((wH U t:Int)<(j:Int))=Z:=by simp;omega
 refine aF λR f=>?_;simp only[Is,d,VV,seval];exact e ..
def aaP(o:U.Pairwise λa b=>a<b)(t:Int)(u:F U<2^30)(J:ag):bO θ 59 [.sl 1 (U.map cg),.I t] J (.gy [.I (wH U t),.b (decide (t∈U))]):=by
 refine a6 func59 c59 λz y=>ay ?_;have l:wH U t<=F U:=Mr _ _;have s:=λK=>Y5 (J:=J) (K:=K) U o t u (F U) 0 (F U) (by omega) (eR _) l (ax _);have i:=V5 o t;simp only[p59,SS,seval];simp only[ae,VV,seval];refine cd.wk (Wk.gW ?_) (cd.xA (F U+1) (s _ ?_));.repeat' constructor
 simp only[JE];intros;generalize wH U t=m at *;have d:(true==true)=true:=rfl;have f:(Z==true)=Z:=rfl;by_cases w:m<F U
 .have h:U[m]?=N U[m]:=an w;generalize U[m]=x at h;have j:gp (U.map cg) m 0=N (.I x):=by simp[gp,h,cg]
  have g:decide ((m:Int)<(F U:Int))=true:=by simp;omega
  have n:(0:Int)<=(m:Int):=by omega
  have p:(m:Int)<(F U:Int):=by omega
  by_cases k:x=t;.subst k;have e:decide (x∈U)=true:=G7 (i.2 h);simp only[g,n,p,j,e,d,f,kH,Ua,ae,aG,VV,seval];refine⟨_,rfl,?_⟩;simp only[e,d,f,Ua,VV,seval];refine⟨nofun,.I 0,nofun,?_⟩;refine b7 (c:=Z) (by simp only[d,VV,seval]<;>rfl) (nofun) rfl (v:=.b Z) ?_;simp only[d,f,VV,seval];refine b7 (c:=Z) (by simp only[d,VV,seval]<;>rfl) (nofun) rfl (v:=.b Z) ?_;simp only[d,f,VV,seval];exact aY (.inr rfl) rfl ⟨rfl,rfl⟩
  have e:decide (t∈U)=Z:=oC (by rw[i,h];simpa using k);have q:(x==t)=Z:=by simpa using k
  simp only[g,n,p,j,e,q,d,f,kH,ae,aG,VV,seval];refine⟨_,rfl,?_⟩;simp only[e,q,d,f,VV,seval];refine⟨⟨by omega,by rw[ae];omega⟩,.I x,⟨True,by rw[j],trivial⟩,?_⟩;refine b7 (c:=true) (by simp only[d,VV,seval]<;>rfl) (λ_=>UP x _) rfl ?_;simp only[d,f,VV,seval];refine b7 (c:=Z) (by simp only[d,VV,seval]<;>rfl) (nofun) rfl (v:=.b Z) ?_;simp only[d,f,VV,seval];exact aY (.inr rfl) rfl ⟨rfl,rfl⟩
 have g:decide ((m:Int)<(F U:Int))=Z:=by simp;omega
 have r:decide (t∈U)=Z:=oC (by rw[i,bK (by omega)];simp);simp only[g,r,d,f,uy,ae,VV,seval];refine⟨.I 0,?_⟩;simp only[d,f,VV,seval];refine⟨.I 0,?_⟩;refine b7 (c:=Z) (by simp only[d,f,VV,seval]<;>rfl) (nofun) rfl (v:=.b Z) ?_;simp only[d,f,VV,seval];refine b7 (c:=Z) (by simp only[d,f,VV,seval]<;>rfl) (nofun) rfl (v:=.b Z) ?_;simp only[d,f,VV,seval];exact aY (.inr rfl) rfl ⟨rfl,rfl⟩
open Go.RowKit
set_option maxRecDepth 100000 in
def Dl(o:F l<=maxLen)(w:aT): Calls θ 273 #[.string ⟨l.toArray⟩] w λe g=>e=.returned (.string ⟨(lower l).toArray⟩)/\w.grownBy g Y:=by
 have s:=run_bytes_of_string (P:=θ) w 9 58 5 ⟨l.toArray⟩ underlying9 underlying58 underlying5;go_enter func273,Tryz.ntmps273;go_wp2;go_loopw [9] (λi wr=>∃k:Nat,k<=F l/\i=.int .i64 k/\JV w wr l k) (λi _=>F l - (intOf i).toNat);case atStart=>exact⟨0,eR _,rfl,BM w l _⟩
 case round =>
  obtain⟨k,q,rfl,b⟩:=hrel;have m:=b.1;have j:k<F l->wr.cell? ⟨w.heap.size,k,Y⟩=N (.int .u8 (l.getD k 0).toNat):=λh=>by have:=(b.2.2 k l[k] (an h)).1;rw[au (by omega)]at this;rw[this];simp[aq,h]
  have p:k<F l->wr.frozen? ⟨w.heap.size,k,Y⟩=Z:=λh=>(b.2.2 k l[k] (an h)).2;have n:=λ(h:k=F l) (f:Nat)=>EB (h▸b) f;unfold maxLen at o;go_wp2;.rename_i a c d;refine⟨⟨k+1,a,rfl,EA b (an a) ?_⟩,by simp[intOf];omega⟩;rw[zn (by simpa using c) (by simpa using d)]
  .rename_i a c d;exact⟨⟨k+1,a,rfl,tW b (an a) (rE (by simp at c d |-;omega))⟩,by simp[intOf];omega⟩
  .rename_i a c;exact⟨⟨k+1,a,rfl,tW b (an a) (rE (by simp at c |-;omega))⟩,by simp[intOf];omega⟩
  rename_i r;rw[n (by omega)];go_wp2;go_ret;exact⟨rfl,m⟩
def KH:bO θ 273 [.s l] X (.s (lower l)):=by
 refine PC.KT λB o w m c p b=>?_;obtain⟨s,j,f,a⟩:=(b.2 0 _ rfl).mi;have k:c=#[.string ⟨l.toArray⟩]:=by
  have g:=b.1;have e:s=⟨l.toArray⟩:=by rw[<- f]
  rw[<- e,<- j];apply Array.ext;.simpa using g
  intro i d h;have:i=0:=by simp at h;omega
  subst this;simp[d]
 rw[k];exact⟨_,Dl l a w,λn=>.s _ _ (by simp) (by rw[wB];exact a)⟩
def Vs(f:F l<2^62):∀(a pre:aJ),l=pre++a ->((fj 3 (fh (.I ((F pre+gS a:Nat):Int)) (fj 14 fo))) λn=>K (.exit 0) ⟨n,J⟩) ->fS (F J) θ FU K (F a+1) ⟨(.s l::uu 2 (.I (F pre)::uu 14 [])),J⟩:=by
 intro a;induction a with
 |nil =>intro pre c d;have c:=db c;subst c;refine aF λR k=>?_;simp only[FU,VV,seval];refine⟨λh=>by simp at h,?_⟩;refine b7 (by simp only[VV,seval]<;>rfl) (λ_=>jU _ _) rfl ?_;simp only[VV,seval];exact⟨λh=>by simp at h,λ_=>d ..⟩
 |cons b a ih =>
 intro pre c d;subst c;have i:F pre+1+F a<2^62:=by simp at f;omega
 have m:=dY pre b (by omega);refine aF λR k=>?_;simp only[FU,VV,seval];refine⟨λ_=>by simp;omega,?_⟩;refine b7 (by simp only[VV,seval]<;>rfl) (λ_=>jU b _) rfl ?_;simp only[m,VV,seval];have j:decide ((F pre:Int)<(F (pre++b::a):Nat))=A:=by simp;omega
 refine⟨λh=>?_,λh=>?_⟩
 .have g:pS b=A:=by rw[j]at h;simpa[pS]using h
  exact k _ (aX (by repeat' constructor) (ih (pre++[b]) (by simp) (by simpa[gS,g,gB]using d)))
 have g:pS b=Z:=by rw[j]at h;simpa[pS]using h
 have e:gS (b::a)=0:=by simp[gS,g]
 rw[e]at d;exact d ..
def H7(a:F l<2^62)(J:ag):bO θ 177 [.s l] J (.I (gS l:Nat)):=by refine a6 func177 aiU λc b=>ay ?_;simp only[acu,SS,seval];simp only[VV,seval];refine cd.aX (fr':=(.s l::uu 2 (.I (F ([]:aJ))::uu 14 []))) (by repeat' constructor) (F l+1) (Vs l a l [] rfl ?_);simp only[JE];intros;simp only[VV,seval];exact aY (.inr rfl) (by simp only[RS,seval];rfl) ⟨by simp[one],rfl⟩
def Vu(i:F l<2^62):∀(n:Nat) (a pre:aJ),F a<=n->l=pre++a ->((fj 3 (fh (.I ((F pre+iA mO 39 45 a:Nat):Int)) (fj 57 fo))) λu=>K (.exit 0) ⟨u,J⟩) ->fS (F J) θ Bu K (n+1) ⟨(.s l::uu 2 (.I (F pre)::uu 57 [])),J⟩:=by
 intro n;induction n with
 |zero =>intro a pre r k c;have y:a=[]:=aL (by omega);subst y;have k:=db k;subst k;refine aF λR m=>?_;simp only[Bu,VV,seval];exact⟨λh=>by simp at h,λ_=>c ..⟩
 |succ n ih =>
 intro a pre r k c;subst k;cases a with
 |nil =>refine aF λR m=>?_;simp only[Bu,VV,seval];exact⟨λh=>by simp at h,λ_=>c ..⟩
 |cons b a =>
 have f:F pre+1+F a<2^62:=by simp at i;omega
 have w:=dY pre b (by omega);refine aF λR m=>?_;simp only[Bu,VV,seval];refine⟨λ_=>⟨by simp;omega,?_⟩,λh=>by simp at h;omega⟩;refine aA (jU b _) rfl ?_;simp only[w,VV,seval];refine⟨λh=>?_,λh=>?_⟩;.have g:mO b=A:=h;rw[yl g]at c;exact m _ (aX (by repeat' constructor) (ih a (pre++[b]) (by simp at r;omega) (by simp) (by simpa[gB]using c)))
 have g:mO b=Z:=h;have v:((b.toNat:Int)==39)=(b==39):=Hy b 39;have t:((b.toNat:Int)==45)=(b==45):=Hy b 45;simp only[v,t];refine⟨by simp;omega,λ_=>by simp;omega,λj=>?_,λj=>?_⟩
 .cases a with
  |nil=>simp at j
  |cons d a =>
  have o:(pre++b::d::a).getD (F (pre++[b])) 0=d:=by
   have:pre++b::d::a=(pre++[b])++d::a:=by simp
   rw[this];simp[aq]
  have x:IntKind.i64.wrap ((F pre:Int)+2)=((F (pre++[b,d]):Nat):Int):=by rw[IntWalk.i64_in _ (by omega)];simp
  simp only[ah]at f;refine⟨by simp;omega,?_⟩;simp only[o,aG];refine aA (jU d _) rfl ?_;simp only[x,VV,seval];have z:((b==39||b==45)&&A)=A:=by rw[dM];exact(Bool.and_eq_true_iff.1 j).1
  refine⟨λp=>?_,λp=>?_⟩;.have q:mO d=A:=p;rw[ym g (by rw[q];exact z)]at c;exact m _ (aX (by repeat' constructor) (ih a (pre++[b,d]) (by simp at r;omega) (by simp) (by simpa[gB]using c)))
  have q:mO d=Z:=p;rw[wC g (by rw[q,ir])]at c;exact c ..
 have e:iA mO 39 45 (b::a)=0:=by
  cases a with
  |nil=>exact yn g
  |cons d a =>
  have o:decide (((F (pre++[b]):Nat):Int)<(F (pre++b::d::a):Nat))=A:=by simp;omega
  rw[o,dM]at j;exact wC g (by rw[j,eA]) _
 rw[e]at c;exact c ..
def KI(l:aJ)(b:F l<2^61)(J:ag):bO θ 175 [.s (c::l)] J (.I ((if du c=4 then 1+iA mO 39 45 l else 0:Nat):Int)):=by
 refine a6 func175 aiW λf e=>ay ?_;simp only[acw,SS,seval];have d:(c::l==[])=Z:=rfl;simp only[d,VV,seval];refine⟨by omega,?_⟩;refine b7 (by simp only[VV,seval]<;>rfl) (λ_=>jU c _) rfl ?_;simp only[VV,seval];refine⟨λh=>?_,λh=>?_⟩
 .have a:¬du c=4:=by simpa using h
  exact aY (.inr rfl) (by simp only[RS,seval];rfl) ⟨by simp[one,a],rfl⟩
 have a:du c=4:=by simpa using h
 refine cd.aX (fr':=(.s (c::l)::uu 2 (.I (F ([c]:aJ))::uu 57 []))) (by repeat' constructor) (F l+1) (Vu (c::l) (by simp;omega) (F l) l [c] (ax _) rfl ?_);simp only[JE];intros;simp only[VV,seval];exact aY (.inr rfl) (by simp only[RS,seval];rfl) ⟨by simp[one,a],rfl⟩
def Vt(f:F l<2^62):∀(n:Nat) (a pre:aJ),F a<=n->l=pre++a ->((fj 3 (fh (.I ((F pre+iA DN 46 44 a:Nat):Int)) (fj 47 fo))) λt=>K (.exit 0) ⟨t,J⟩) ->fS (F J) θ Bs K (n+1) ⟨(.s l::uu 2 (.I (F pre)::uu 47 [])),J⟩:=by
 intro n;induction n with
 |zero =>intro a pre m i c;have y:a=[]:=aL (by omega);subst y;have i:=db i;subst i;refine aF λR j=>?_;simp only[Bs,VV,seval];exact⟨λh=>by simp at h,λ_=>c ..⟩
 |succ n ih =>
 intro a pre m i c;subst i;cases a with
 |nil =>refine aF λR j=>?_;simp only[Bs,VV,seval];exact⟨λh=>by simp at h,λ_=>c ..⟩
 |cons b a =>
 have k:F pre+1+F a<2^62:=by simp at f;omega
 have v:=dY pre b (by omega);refine aF λR j=>?_;simp only[Bs,VV,seval];refine⟨λ_=>⟨by simp;omega,?_⟩,λh=>by simp at h;omega⟩;refine aA (jU b _) rfl ?_;simp only[v,VV,seval];refine⟨λh=>?_,λh=>?_⟩;.have e:DN b=A:=h;rw[yl e]at c;exact j _ (aX (by repeat' constructor) (ih a (pre++[b]) (by simp at m;omega) (by simp) (by simpa[gB]using c)))
 have e:DN b=Z:=h;have u:((b.toNat:Int)==46)=(b==46):=Hy b 46;have q:((b.toNat:Int)==44)=(b==44):=Hy b 44;simp only[u,q];refine⟨by simp;omega,λ_=>by simp;omega,?_⟩;refine⟨λg=>?_,?_⟩;.have r:=(Bool.and_eq_true_iff.1 (by simpa only[beq_true]using g)).2;exact⟨by omega,by simpa using r⟩
 refine b7 (by simp only[VV,seval]<;>rfl) (λ_=>jU _ _) rfl ?_;simp only[VV,seval];cases a with
 |nil =>
  have w:decide (((F (pre++[b]):Nat):Int)<(F (pre++[b]):Nat))=Z:=by simp
  rw[yn e]at c;simp only[w,ir,eA];exact⟨λh=>by simp at h,λ_=>c ..⟩
 |cons d a =>
 have p:decide (((F (pre++[b]):Nat):Int)<(F (pre++b::d::a):Nat))=A:=by simp;omega
 have o:(pre++b::d::a).getD (F (pre++[b])) 0=d:=by
  have:pre++b::d::a=(pre++[b])++d::a:=by simp
  rw[this];simp[aq]
 have x:IntKind.i64.wrap ((F pre:Int)+2)=((F (pre++[b,d]):Nat):Int):=by rw[IntWalk.i64_in _ (by omega)];simp
 simp only[p,o,x,dM];refine⟨λg=>?_,λg=>?_⟩;.rw[ym e g]at c;exact j _ (aX (by repeat' constructor) (ih a (pre++[b,d]) (by simp at m;omega) (by simp) (by simpa[gB]using c)))
 rw[wC e g]at c;exact c ..
def Fz(l:aJ)(b:F l<2^61)(J:ag):bO θ 176 [.s (c::l)] J (.I ((if du c=3 then 1+iA DN 46 44 l else 0:Nat):Int)):=by
 refine a6 func176 aiV λf e=>ay ?_;simp only[acv,SS,seval];have d:(c::l==[])=Z:=rfl;simp only[d,VV,seval];refine⟨by omega,?_⟩;refine b7 (by simp only[VV,seval]<;>rfl) (λ_=>jU c _) rfl ?_;simp only[VV,seval];refine⟨λh=>?_,λh=>?_⟩
 .have a:¬du c=3:=by simpa using h
  exact aY (.inr rfl) (by simp only[RS,seval];rfl) ⟨by simp[one,a],rfl⟩
 have a:du c=3:=by simpa using h
 refine cd.aX (fr':=(.s (c::l)::uu 2 (.I (F ([c]:aJ))::uu 47 []))) (by repeat' constructor) (F l+1) (Vt (c::l) (by simp;omega) (F l) l [c] (ax _) rfl ?_);simp only[JE];intros;simp only[VV,seval];exact aY (.inr rfl) (by simp only[RS,seval];rfl) ⟨by simp[one,a],rfl⟩
def VH(P:bT J):∀(a:Nat) (s:aJ) (b:List It) (g:Nat),F s<=a->F s<2^61->F b+F s<2^40 ->(∀g,((fj 3 (fh (.own (F J) g) (fj 35 fo))) λG=>K (.exit 0) ⟨G,J++[.row 150 3 32 g Z ((b++jI s).map It.aoZ)]⟩)) ->fS (F J) θ BB K (a+1) ⟨(.s s::uu 2 (.own (F J) g::uu 35 [])),J++[.row 150 3 32 g Z (b.map It.aoZ)]⟩:=by
 intro a;induction a with
 |zero =>
  intro s b g p z w f;have p:s=[]:=aL (by omega);subst p;have e:b++jI []=b:=by simp[jI,Ab]
  rw[e]at f;refine aF λR u=>?_;simp only[BB,VV,seval];exact⟨λh=>by simp at h,λ_=>f g ..⟩
 |succ a ih =>
 intro s b g p z w f;cases s with
 |nil =>
  have e:b++jI []=b:=by simp[jI,Ab]
  rw[e]at f;refine aF λR u=>?_;simp only[BB,VV,seval];exact⟨λh=>by simp at h,λ_=>f g ..⟩
 |cons c r =>
 have C:c::r≠[]:=by simp
 have y:=nH (c::r);have d:=BI C;simp only[ah]at d w z p;rw[zz C]at f;refine aF λR u=>?_;simp only[BB,VV,seval];refine⟨λ_=>?_,λh=>by simp at h⟩;have q:∀n:Nat,decide ((0:Int)<((1+n:Nat):Int))=A:=λn=>by simp;omega
 have hzero:decide ((0:Int)<((0:Nat):Int))=Z:=by decide
 have j:decide False=Z:=rfl;have k:∀n,List.take (F r+1 - n) (List.drop n (c::r))=(c::r).drop n:=λn=>cn (by simp);have i:∀{x:ao} (n:Nat) (m:Int),eG (c::r)=(m,n)->pe x (.s ((c::r).drop n)::uu 2 (.own (F J) (g+1)::uu 35 []))->R ⟨x,J++[.row 150 3 32 (g+1) Z (b.map It.aoZ++[[.I m,.s ((c::r).take n),.I 0]])]⟩:=λn m M O=>by
  rw[M]at f y d;simp only at f y d;refine u _ (aX O ?_);have L:b.map It.aoZ++[[.I m,.s ((c::r).take n),.I 0]]=(b++[(⟨m,(c::r).take n,0⟩:It)]).map It.aoZ:=by simp[It.aoZ]
  rw[L];exact ih ((c::r).drop n) (b++[⟨m,(c::r).take n,0⟩]) (g+1) (by simp;omega) (by simp;omega) (by simp;omega) (by simpa using f)
 have W:=KI c r (by omega) (J++[.row 150 3 32 g Z (b.map It.aoZ)]);have D:=Fz c r (by omega) (J++[.row 150 3 32 g Z (b.map It.aoZ)]);have B:=H7 (c::r) (by simp;omega) (J++[.row 150 3 32 g Z (b.map It.aoZ)]);have o:(F (b.map It.aoZ)+1)*32<=140737488355328/\F (b.map It.aoZ)+1<=maxLen:=by simp only[maxLen,ae];omega
 rcases(show du c=4\/du c=3\/du c=2\/(du c≠4/\du c≠3/\du c≠2)by omega)with h|h|h|⟨E,H,v⟩
 .have e:eG (c::r)=(6,1+iA mO 39 45 r):=by simp[eG,h]
  have l:gS (c::r)=0:=by simp[gS,pS,h]
  rw[e]at d;simp only at d;rw[aK h]at W;rw[au (by omega)]at D;rw[l]at B;refine aA W rfl ?_;simp only[q,VV,seval];refine aA D rfl ?_;simp only[hzero,j,VV,seval];refine aA B rfl ?_;simp only[hzero,j,k,VV,seval];exact⟨⟨by omega,by omega⟩,o,⟨by omega,by omega,by omega⟩,i _ _ e (by repeat' constructor)⟩
 .have e:eG (c::r)=(7,1+iA DN 46 44 r):=by simp[eG,h]
  have l:gS (c::r)=0:=by simp[gS,pS,h]
  rw[e]at d;simp only at d;rw[au (by omega)]at W;rw[aK h]at D;rw[l]at B;refine aA W rfl ?_;simp only[hzero,j,VV,seval];refine aA D rfl ?_;simp only[q,VV,seval];refine aA B rfl ?_;simp only[hzero,j,k,VV,seval];exact⟨⟨by omega,by omega⟩,o,⟨by omega,by omega,by omega⟩,i _ _ e (by repeat' constructor)⟩
 .have e:eG (c::r)=(8,1+gS r):=by simp[eG,h]
  have l:gS (c::r)=1+gS r:=by simp[gS,pS,h]
  rw[e]at d;simp only at d;rw[au (by omega)]at W;rw[au (by omega)]at D;rw[l]at B;refine aA W rfl ?_;simp only[hzero,j,VV,seval];refine aA D rfl ?_;simp only[hzero,j,VV,seval];refine aA B rfl ?_;simp only[q,k,VV,seval];exact⟨⟨by omega,by omega⟩,o,⟨by omega,by omega,by omega⟩,i _ _ e (by repeat' constructor)⟩
 have e:eG (c::r)=(9,1):=by simp[eG,E,H,v]
 have l:gS (c::r)=0:=by simp[gS,pS,v]
 rw[e]at d;simp only at d;rw[au (by omega)]at W;rw[au (by omega)]at D;rw[l]at B;refine aA W rfl ?_;simp only[hzero,j,VV,seval];refine aA D rfl ?_;simp only[hzero,j,VV,seval];refine aA B rfl ?_;simp only[hzero,j,k,VV,seval];have t:List.take (F r) r=r:=List.take_length ..;simp only[t];refine⟨by omega,o,⟨by omega,by omega⟩,i 1 9 e ?_⟩;simp only[nT,qf];repeat' constructor
def KJ(a:F l<2^39)(J:ag):PC θ 112 [.s l] J (λr c=>r=.own (F J) 0/\c=J++[.row 150 3 32 0 Z ((jI l).map It.aoZ)]):=by
 refine a6 func112 ajE λb d=>ay ?_;simp only[adj,SS,seval];simp only[VV,seval];refine cd.wk ((Wk.jV (J:=J) (k:=3) AS rfl).trans (Wk.gW ?_)) (cd.xA (F l+1) (VH b (F l) l [] 0 (ax _) (by omega) (by simp;omega) ?_));.simp only[VV,seval];repeat' constructor
 intro g;simp only[JE];intros;simp only[VV,seval];exact rq 0 b (.inr rfl) rfl rfl rfl (by simp[zT,Ob.gen]) (by simp[one,RJ,Ob.fresh])
def OA(a:F l<2^39)(J:ag):bO θ 112 [.s l] J (.sl 3 ((jI l).map It.aoZ)) :=PC.closed λb=>PC.fz b (KJ l a J)
def Y9(G:bT J)(i:F a<2^38)(V:aR a<2^38):∀(b pre:List It) (c:List It) (g:Nat),a=pre++b->F c<=F pre+(aR a - aR b) ->(∀g,((fj 3 (fh (.own (F J) g) (fj 34 fo))) λH=>K (.exit 0) ⟨H,J++[.row 150 3 32 g Z ((c++cR b).map It.aoZ)]⟩)) ->fS (F J) θ Bm K (F b+1) ⟨(uu 3 (.own (F J) g::uu 2 (.sl 3 (a.map It.aoZ)::.I (F a)::.I (F pre)::uu 29 []))),J++[.row 150 3 32 g Z (c.map It.aoZ)]⟩:=by
 intro b;induction b with
 |nil =>
  intro pre c g p M m;have p:=db p;subst p;have e:c++cR []=c:=by simp[cR]
  rw[e]at m;refine aF λR l=>?_;simp only[Bm,VV,seval];exact⟨λh=>by simp at h,λ_=>m g ..⟩
 |cons x b ih =>
 intro pre c g p M m;subst p;have r:=dY pre x (by simp at i;omega);have E:aR (x::b)=F x.ao3+aR b:=rfl;have v:=sI pre (x::b);have u:F pre+1+F b<2^38:=by simp at i;omega
 have e:c++cR (x::b)=(c++lA x)++cR b:=by simp[cR]
 rw[e]at m;have D:∀g o,bT (J++[.row 150 3 32 g Z o]):=λg o=>cL G (by simp);have f:∀{z:ao} {R:bk} (g:Nat) (y:Ob),(∀n,fS (F J) θ Bm K (F b+1) n->R n)->pe z (uu 3 (.own (F J) g::uu 2 (.sl 3 ((pre++x::b).map It.aoZ)::.I (F (pre++x::b))::.I (F (pre++[x]))::uu 29 []))) ->
   R ⟨z,J++[.row 150 3 32 g Z ((c++lA x).map It.aoZ),y]⟩:=λg y l U=>by have j:=xK x;refine l _ (cC [_] [_] (D _ _) U ?_ (ih (pre++[x]) (c++lA x) g (by simp) (by simp;omega) m));simp only[LW,ah,az,bq];omega
 have T:(F c+1)*32<=140737488355328/\F c+1<=maxLen:=by simp only[maxLen];omega
 obtain⟨k,t,d⟩:=x;have O:c.map It.aoZ++[[.I k,.s t,.I d]]=(c++[(⟨k,t,d⟩:It)]).map It.aoZ:=by simp[It.aoZ]
 refine aF λR l=>?_;have one:(k=2\/k=3\/k=4\/k=5)->lA ⟨k,t,d⟩=[⟨k,t,d⟩]:=λh=>by simp only[lA,h,aU]
 rcases qg (k=2\/k=3\/k=4\/k=5)with j|j
 .rw[one j]at f;rcases j with rfl|rfl|rfl|rfl;all_goals
   simp only[Bm,It.aoZ,↓IT,VV,seval];simp only[r,ae,O,It.aoZ];refine⟨λ_=>⟨by simp;omega,T,f _ _ l ?_⟩,λh=>by simp at h;omega⟩;repeat' constructor
 have L:(k==2)=Z:=by simp;omega
 have Q:(k==3)=Z:=by simp;omega
 have S:(k==4)=Z:=by simp;omega
 have C:(k==5)=Z:=by simp;omega
 rcases qg (k=1)with q|q
 .subst q;have w:lA ⟨1,t,d⟩=jI t:=by simp[lA]
  simp only[Bm,It.aoZ,↓IT,VV,seval];refine⟨λ_=>⟨by simp;omega,?_⟩,λh=>by simp at h;omega⟩;simp only[aR]at E v;refine aA (OA t (by omega) _) rfl ?_;simp only[VV,seval];simp only[r];have j:=vn (F t) t;have P:(F (c.map It.aoZ)+F ((jI t).map It.aoZ))*32<=140737488355328/\F (c.map It.aoZ)+F ((jI t).map It.aoZ)<=maxLen:=by simp only[ae,maxLen,jI];omega
  refine⟨P,?_⟩;rw[<- List.map_append,<- w];refine f _ _ l ?_;repeat' constructor
 have w:lA ⟨k,t,d⟩=[]:=by simp[lA,j,q]
 have B:(k==1)=Z:=by simpa using q
 rw[w,bM]at f;simp only[Bm,It.aoZ,L,Q,S,C,B,↓IT,VV,seval];simp only[r];refine⟨λ_=>⟨by simp;omega,f _ _ l ?_⟩,λh=>by simp at h;omega⟩;repeat' constructor
def Dp(b:F a<2^38)(e:aR a<2^38)(J:ag):PC θ 53 [.sl 3 (a.map It.aoZ)] J (λr d=>r=.own (F J) 0/\d=J++[.row 150 3 32 0 Z ((cR a).map It.aoZ)]):=by
 refine a6 func53 c53 λc f=>ay ?_;simp only[p53,SS,seval];simp only[ae,VV,seval];refine cd.wk ((Wk.jV (J:=J) (k:=3) AS rfl).trans (Wk.gW ?_)) (cd.xA (F a+1) (Y9 a c b e a [] [] 0 rfl (by simp) ?_));.simp only[VV,seval];repeat' constructor
 intro g;simp only[JE];intros;simp only[VV,seval];exact rq 0 c (.inr rfl) rfl rfl rfl (by simp[zT,Ob.gen]) (by simp[one,RJ,Ob.fresh])
def wg(b:F a<2^38)(c:aR a<2^38)(J:ag):bO θ 53 [.sl 3 (a.map It.aoZ)] J (.sl 3 ((cR a).map It.aoZ)) :=PC.closed λd=>PC.fz d (Dp a b c J)
end Go.Proofs.Tryz

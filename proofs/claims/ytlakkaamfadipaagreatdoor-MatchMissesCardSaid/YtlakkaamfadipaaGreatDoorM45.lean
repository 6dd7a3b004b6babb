/- MatchMisses returns true for all lists of integers, and leaves all that was there as it was. -/
import Derived.Test.YtlakkaamfadipaaGreatDoorM41
import Derived.Test.YtlakkaamfadipaaGreatDoorM44
set_option linter.all false
set_option maxHeartbeats 80000000
open Option renaming some->N,none->Y
open Bool renaming true->A,false->Z
open Go.Proofs.Tryz renaming prog->θ
open List renaming length->F

set_option maxRecDepth 8000
set_option maxHeartbeats 2000000
namespace Go.Proofs.Tryz
open Go Go.Pm Go.Bt
variable{k:Nat}{K:bj}
def nj(i:Int)(a:List Mt):Nat:=F (a.filter λy=>y.apc==i)
def Qb{i:Int}{a b:List Mt}(h:a.Perm b):nj i a=nj i b:=(h.filter _).length_eq
def I7(l:List Pn)(q:Qr)(tq:List It):∀(M:List fe) (i j:Nat),nj ((i+j:Nat):Int) (oT l q tq i M)=match M[j]? with|some s=>if q.threshold<=(ig s.en s.cR tq l q).score then 1 else 0|none=>0
 |[],i,j=>rfl
 |s::r,i,j=>by
  have e:=λm d=>tk l q tq r (i+1) m d;have f:∀(k:Int) (a b:List Mt),nj k (a++b)=nj k a+nj k b:=λk a b=>by simp[nj]
  rw[oT,f];cases j with
  |zero =>
   have c:nj ((i+0:Nat):Int) (oT l q tq (i+1) r)=0:=by unfold nj;rw[List.filter_eq_nil_iff.2,az];intro m d;have:=(e m d).1;simp;omega
   rw[c];simp only[aH];split<;>simp[nj]
  |succ j =>
  have c:nj ((i+(j+1):Nat):Int) (if q.threshold<=(ig s.en s.cR tq l q).score then[{ ig s.en s.cR tq l q with apc:=i }]else[])=0:=by
   split
   .have:(((i:Int))==((i+(j+1):Nat):Int))=Z:=by simp;omega
    simp only[nj,dS,List.filter_nil,this];rfl
   rfl
  rw[c,bS,<- I7 l q tq r (i+1) j,bq,show i+1+j=i+(j+1)by omega]
def Vh(q j l f g:V)(b:List Mt)(x:F b<2^30)(i:Int):∀(a pre:List Mt) (c:Nat) (S:ag),b=pre++a->c<=F pre ->(∀T,((fj 8 (fh (q) (fj 2 (fh (j) (fh (l) (fh (.sl 5 (b.map Mt.aoZ)) (fj 1 (fh (.I i) (fh (.I (c+nj i a:Nat)) (fj 46 (fh (f) (fh (g) (fj 41 fo))))))))))))) λs=>K (.exit 2) ⟨s,S++T⟩)) ->fS k θ U5 K (F a+1) ⟨(uu 8 (q::uu 2 (j::l::.sl 5 (b.map Mt.aoZ)::uu 1 (.I i::.I c::uu 46 (f::g::uu 2 (.sl 5 (b.map Mt.aoZ)::.I (F b)::.I (F pre)::uu 36 [])))))),S⟩:=by
 intro a;induction a with
 |nil =>
  intro pre c S e w d;have e:b=pre:=by simpa using e
  have d:=d [];rw[bM]at d;simp only[nj,List.filter_nil,az,dQ]at d;have m:decide ((F pre:Int)<(F b:Int))=Z:=by rw[e];simp
  refine aF λR n=>?_;simp only[U5,m,V.pure,↓IT,VV,seval];exact d ..
 |cons y a ih =>
 intro pre c S e w d;have r:=uY e;have u:=dY pre y (by omega);have v:IntKind.i64.wrap ((c:Int)+1)=((c+1:Nat):Int):=cq (by omega);have o:(List.map Mt.aoZ b).getD (F pre) []=y.aoZ:=by rw[e];simp[aq]
 have m:decide ((F pre:Int)<(F b:Int))=A:=by simp;omega
 have t:(0:Int)<=(F pre:Int)/\(F pre:Int)<(F b:Int):=by omega
 simp only[Mt.aoZ]at o;refine aF λR n=>?_;simp only[U5,o,m,u,v,ae,aG,V.pure,↓IT,VV,seval];refine⟨t,λh=>?_,λh=>?_⟩
 .have p:nj i (y::a)=nj i a+1:=by simp[nj,dS,h]
  refine n _ (aX ?_ (ih (pre++[y]) (c+1) _ (by simp[e]) (by rw[ai,iQ];omega) (λT=>by rw[aS,show c+1+nj i a=c+nj i (y::a)by omega];exact d _)));repeat' constructor
 have p:nj i (y::a)=nj i a:=by simp[nj,dS,h]
 refine n _ (aX ?_ (ih (pre++[y]) c _ (by simp[e]) (by rw[ai,iQ];omega) (λT=>by rw[aS,<- p];exact d _)));repeat' constructor
def Vg(z:Nat)(q:Qr)(b:List En)(H:F b<2^20)(h:List Pn)(D:∀e∈b,JT e h q)(d:List Mt)(B:F d<2^30) (E:∀(i:Nat) (e:En),b[i]?=N e->nj i d=if q.threshold<=(oH e h q).score then 1 else 0):∀(a pre:List En) (S:ag),b=pre++a->S[z]?=N (.box 24 q.aoZ) ->
  (∀T,((fh (.u) (fj 105 fo)) λx=>K (.exit 0) ⟨x,S++T⟩)) ->
  fS k θ U4 K (F a+1) ⟨(uu 8 (.sl 8 (b.map En.aoZ)::uu 2 (.sl 5 (h.map Pn.aoZ)::.ptr z 0::.sl 5 (d.map Mt.aoZ)::uu 49 (.I (F b)::.I (F pre)::uu 41 [])))),S⟩:=by
 intro a;induction a with
 |nil =>
  intro pre S f o j;have f:b=pre:=by simpa using f
  have j:=j [];rw[bM]at j;have n:decide ((F pre:Int)<(F b:Int))=Z:=by rw[f];simp
  refine aF λR p=>?_;simp only[U4,n,V.pure,↓IT,VV,seval];exact j ..
 |cons e a ih =>
 intro pre S f o j;have w:=uY f;have t:=dY pre e (by omega);have s:(List.map En.aoZ b).getD (F pre) []=e.aoZ:=by rw[f];exact xU
 have n:decide ((F pre:Int)<(F b:Int))=A:=by simp;omega
 have C:=D e (by rw[f];simp);have v:=E (F pre) e (by rw[f];simp);simp only[En.aoZ]at s;have y:(0:Int)<=(F pre:Int)/\(F pre:Int)<(F b:Int):=by omega
 refine aF λR p=>?_;simp only[U4,n,ae,V.pure,↓IT,VV,seval];refine cd.aX (fr':=(uu 8 (.sl 8 (b.map En.aoZ)::uu 2 (.sl 5 (h.map Pn.aoZ)::.ptr z 0::.sl 5 (d.map Mt.aoZ)::uu 1 (.I (F pre)::.I (0:Nat)::uu 46 (.I (F b)::.I (F pre)::uu 2 (.sl 5 (d.map Mt.aoZ)::.I (F d)::.I (F ([]:List Mt):Nat)::uu 36 []))))))) (by repeat' constructor) (F d+1) (Vh _ _ _ _ _ d B (F pre) d [] 0 S rfl (ax _) λT=>?_);have G:=(ab.1 o).1;have c:∀T,(S++T)[z]?=N (.box 24 q.aoZ):=λT=>by rw[aj G];exact o
 simp only[Qr.aoZ]at c;simp only[JE];intros;simp only[bq,s,c,ae,aG,V.pure,↓IT,VV,seval];refine⟨y,?_⟩;refine aA (H4 C _) (by simp only[En.aoZ,Qr.aoZ,VV,seval]) ?_;have l:=λT=>ih (pre++[e]) (S++T) (by simp[f]) (by rw[c T];rfl) (λJ=>by rw[aS];exact j _);by_cases m:q.threshold<=(oH e h q).score
 .have r:nj (F pre) d=1:=by rw[v,aK m]
  have g:decide (q.threshold<=(oH e h q).score)=A:=G7 m;simp only[r,g,t,c,Mt.aoZ,V.pure,↓IT,VV,seval];exact p _ (aX (by repeat' constructor) (l T))
 have r:nj (F pre) d=0:=by rw[v,au m]
 have g:decide (q.threshold<=(oH e h q).score)=Z:=oC m;simp only[r,g,t,c,Mt.aoZ,V.pure,↓IT,VV,seval];exact p _ (aX (by repeat' constructor) (l T))

set_option maxRecDepth 20000
set_option maxHeartbeats 4000000
def MX{J:ag}{l:bG}:J++[.box 31 [.sl 1 (l.map cg),.I 0]]=gT (J++[.dead]) (F J) l 0:=by simp[gT]
def Ce{e:En}(a:k<=20)(h:pd k e):e.apa/\F (cR e.ao2)<=2^20 :=
 ⟨h.apa a,by have:=vO e.ao2;have:=h.kt;have:=h.iY;omega⟩
def Vd{q:Qr}(h:fb q=0)(n:Int)(b:1<=n/\n<=100):fb { q with oc:=n }=0:=by have a:=rz h;unfold fb at h |-;simp only at h |-;(repeat' split at h)<;>omega
def PS{a:List Pn}(h:∀p∈a,CS p)(b:F a<=3):qA a=0:=by unfold qA;rw[au (by omega)];induction a with|nil=>rfl|cons p a ih =>have d:=(h p (by simp)).ok;have c:=ih (λx e=>h x (by simp[e])) (by simp at b;omega);simp only[mY,d,c];rfl
def BK(l m:bG)(J:ag):bO θ 5 [.sl 1 (l.map cg),.sl 1 (m.map cg)] J (.b A):=by
 refine a6 func5 c5 λU dN=>?_;simp only[p5,SS,seval];refine cd.cut λR a=>?_;simp only[VV,seval];refine a _ (cd.gW (fr':=(.sl 1 (l.map cg)::.sl 1 (m.map cg)::uu 104 [])) ?_ (by repeat' constructor));clear a R;refine cd.cut λR a=>?_;simp only[ae,V.pure,VV,seval];refine⟨λ_=>?_,λ_=>?_⟩;.refine aA (BN _) rfl ?_;simp only[VV,seval];exact aY (.inr rfl) rfl ⟨rfl,rfl⟩
 refine a _ (cd.gW (fr':=(.sl 1 (l.map cg)::.sl 1 (m.map cg)::uu 104 [])) ?_ (by repeat' constructor));clear a R;refine cd.cut λR a=>?_;simp only[V.pure,VV,seval];refine a _ (cd.gW (fr':=(uu 1 (.sl 1 (m.map cg)::uu 3 (.ptr (F J) 0::uu 100 [])))) ?_ (by repeat' constructor));clear a R;rw[MX];refine cd.cut λR a=>?_;simp only[V.pure,VV,seval];refine cB (LK _ (F J) (by simp) l 0 (by decide) 7 (by decide)) rfl ?_;rintro _ _ ⟨k,C,rfl,p,g2,g3,rfl⟩;have u:gT (J++[.dead]) (F J) l C=J++[.box 31 [.sl 1 (l.map cg),.I C]]:=by simp[gT]
 rw[u];generalize Ob.box 31 _=nb;simp only[V.pure,VV,seval];refine a _ (cd.gW (fr':=(uu 1 (.sl 1 (m.map cg)::uu 4 (.sl 8 (k.map En.aoZ)::uu 99 [])))) ?_ (by repeat' constructor));clear a R;refine cd.cut λR a=>?_;simp only[V.pure,VV,seval];refine cB (P2 k (by omega) (λe n=>Ce (by omega) (p e n)) _) rfl ?_;rintro _ d ⟨M,next,rfl,L,E,w,ac⟩;simp only[V.pure,VV,seval];refine a _ (cd.gW (fr':=(uu 1 (.sl 1 (m.map cg)::uu 4 (.sl 8 (k.map En.aoZ)::.ptr (F J+1+4) 0::.sl 8 ((M.map fe.en).map En.aoZ)::.b A::uu 96 [])))) ?_ (by repeat' constructor));clear a R;refine cd.cut λR a=>?_;simp only[V.pure,VV,seval];refine a _ (cd.gW (fr':=(uu 6 (.sl 8 (k.map En.aoZ)::.ptr (F J+1+4) 0::.sl 8 ((M.map fe.en).map En.aoZ)::.b A::.ptr (F d) 0::uu 95 []))) ?_ (by repeat' constructor));clear a R;obtain⟨ad,W⟩:=L.pre;rw[MX];refine cd.cut λR a=>?_;simp only[V.pure,VV,seval];refine cB (FE _ (F d) (by simp) m 0 (by decide) 3 (by decide)) rfl ?_;rintro _ _ ⟨c,k2,rfl,P,S,p3,rfl⟩;simp only[V.pure,VV,seval];refine cB (IL _ (F d) (by simp) m k2 (by omega) k p (by omega)) rfl ?_;rintro _ _ ⟨x,G,rfl,o,_,rfl⟩;have Wc:gT (d++[.dead]) (F d) m G=d++[.box 31 [.sl 1 (m.map cg),.I G]]:=by simp[gT]
 rw[Wc];generalize Ob.box 31 _=nb2;simp only[Qr.aoZ,bd,V.pure,VV,seval];refine a _ (cd.gW (fr':=(uu 7 (.ptr (F J+1+4) 0::.sl 8 ((M.map fe.en).map En.aoZ)::.b A::uu 1 (.sl 5 (c.map Pn.aoZ)::.ptr (F d+1) 0::uu 93 [])))) ?_ (by repeat' constructor));clear a R;refine cd.cut λR a=>?_;simp only[V.pure,VV,seval];refine a _ (cd.gW (fr':=(uu 7 (.ptr (F J+1+4) 0::.sl 8 ((M.map fe.en).map En.aoZ)::.b A::uu 1 (.sl 5 (c.map Pn.aoZ)::.ptr (F d+1) 0::uu 93 [])))) ?_ (by repeat' constructor));clear a R;obtain⟨q,v⟩:∃q:Qr,q={ x with oc:=100 }:=⟨_,rfl⟩;have r:q.aoZ=[.sl 3 (x.ao2.map It.aoZ),.s x.b6,.s x.next,.I x.now,.I x.threshold,.I 100]:=by rw[v];rfl
 have f:QrB q:=by rw[v];exact⟨Vd o.ok 100 (by decide),o.kt,o.iY,o.prev,o.next⟩
 have y:q.oc=100:=by rw[v]
 rw[<- r];have Q:∀e∈k,JT e c q:=λz X=>WH (by omega) (p z X) P (by omega) f;have t:F (J++[nb])=F J+1:=by simp
 have H:=Jm (L.app [nb2,.box 24 q.aoZ]) (by omega) c (by omega) q (by have:=f.prev;omega) (by have:=f.next;omega) (by have:=f.kt;omega) (by have:=f.iY;omega) (by have:=vO q.ao2;have:=f.kt;have:=f.iY;omega)
  (λs g=>⟨by rw[(E.ok s g).2.1];exact(Ce (by omega) (p _ (w s g))).2,(Q _ (w s g)).sc⟩);rw[t]at H;refine cd.cut λR a=>?_;simp only[r,V.pure,VV,seval];rw[<- r];refine cB H (by simp only[r,VV,seval]) ?_;rintro _ _ ⟨hr,rfl⟩;rcases hr with⟨h,_⟩|⟨_,h,_⟩|⟨_,_,j,O,_,rfl⟩;.exact absurd f.ok h
 .exact absurd (PS P S) h
 have ub:F j<=7:=by rw[O.length_eq];have:=yv c q (cR q.ao2) M 0;omega
 rw[y,cn (by simp;omega)];simp only[V.pure,VV,seval];refine a _ (cd.gW (fr':=(uu 8 (.sl 8 ((M.map fe.en).map En.aoZ)::.b A::uu 1 (.sl 5 (c.map Pn.aoZ)::.ptr (F d+1) 0::.sl 5 (j.map Mt.aoZ)::.I 0::uu 91 [])))) ?_ (by repeat' constructor));clear a R;refine cd.cut λR a=>?_;simp only[V.pure,↓IT,VV,seval];refine a _ (cd.gW (fr':=(uu 8 (.sl 8 ((M.map fe.en).map En.aoZ)::uu 2 (.sl 5 (c.map Pn.aoZ)::.ptr (F d+1) 0::.sl 5 (j.map Mt.aoZ)::uu 92 [])))) (ay ?_) (by repeat' constructor));clear a R;have B:∀(i:Nat) (e:En),(M.map fe.en)[i]?=N e->nj i j=if q.threshold<=(oH e c q).score then 1 else 0:=λi e n=>by rw[bu,al]at n;obtain⟨s,g,rfl⟩:=n;have K:=I7 c q (cR q.ao2) M 0 i;rw[bq,g]at K;have D:nj (i:Int) (oT c q (cR q.ao2) 0 M)=if q.threshold<=(ig s.en s.cR (cR q.ao2) c q).score then 1 else 0:=K;rw[(E.ok s (bc g)).2.1]at D;rw[Qb O];exact D
 simp only[ae,V.pure,VV,seval];refine cd.aX (fr':=(uu 8 (.sl 8 ((M.map fe.en).map En.aoZ)::uu 2 (.sl 5 (c.map Pn.aoZ)::.ptr (F d+1) 0::.sl 5 (j.map Mt.aoZ)::uu 49 (.I (F (M.map fe.en))::.I (F ([]:List En):Nat)::uu 41 []))))) (by rw[ae];repeat' constructor) (F (M.map fe.en)+1) (Vg (F d+1) q (M.map fe.en) (by rw[ae];omega) c (λe n=>by obtain⟨s,g,rfl⟩:=br.1 n;exact Q _ (w s g)) j (by omega) B (M.map fe.en) [] _ rfl (by simp) λT=>?_);simp only[JE];intros;simp only[VV,seval];refine aA (BN _) rfl ?_;simp only[VV,seval];rw[W];simp only[aS];exact km U (by rfl) (by simp[LW])
end Go.Proofs.Tryz
namespace Go.Proofs.YtlakkaamfadipaaGreatDoor.matchMisses
open Go Go.Pm Go.ChangeShapes Go.WideShapes Go.ChangeAt Go.RowKit Go.Proofs.Tryz
set_option maxRecDepth 100000 in
def TD(H:Type)(b:TypeId×Value->H)(W:aT)(c:Nat)(a:Array Value)(r z:List (DataW H))(before:List MemPlace) (g:∀(j:Nat) t v,f5.params[j]?=N t->a[j]?=N v->Value.okWide θ W .any c t v) (hW:DataW.Whole b θ f5.params.toList Rows.matchMissesSpec.vars Z W a.toList r z before) (B:laidMetH θ Rows.matchMissesRow.laid W) : Calls θ 5 a W λe o=>∃v,e=.returned v/\Rows.matchMissesSpec.post b θ f5 Z A Z Z W a v o:=by
 have f:=hW;obtain⟨p,q,h,G,rfl,Q,nB⟩:=hW;have s:DataW.TrodAll b θ W 0 (λ_=>A) A f5.params.toList a.toList r p:=h;have O:f5.params=#[25,25]:=params5;rw[O]at s g;obtain⟨n,D,R,w,X,S,M,rfl,rfl,K,x⟩:=trodAll_cons s;obtain⟨k,vs1,U,C,V,T,rfl,rfl,rfl,L,J⟩:=trodAll_cons x;obtain⟨rfl,rfl,rfl⟩:=trodAll_nil J;obtain rfl:a=#[n,k]:=by cases a;simp_all
 obtain⟨rfl,rfl⟩:=trodVars_none G;obtain⟨l,I,_⟩:=JM (λ_=>undef) underlying25 underlying3 (by kernel_rfl) (g 0 25 n rfl rfl) K;obtain⟨m,P,_⟩:=JM (λ_=>undef) underlying25 underlying3 (by kernel_rfl) (g 1 25 k rfl rfl) L;refine(UQ B (BK l m []) (μ:=λ_=>undef) ⟨rfl,λi y d=>?_⟩).mono λe o ⟨E,u⟩=>?_
 .rcases i with _|_|i;.simp only[bq,Nat.reduceAdd,aH,bS,aa]at d;subst d;exact I
  .simp only[bq,Nat.reduceAdd,aH,bS,aa]at d;subst d;exact P
  simp at d
 exact⟨_,E,OI rfl rfl (by kernel_rfl) f rfl u⟩
def reads(os:Os){H:Type}(a:TypeId×Value->H):∃places,DataW.whole a θ ((World.doorLaid θ 400 os).forCall (λ_ _=>0) ⟨#[],#[.slice Y 0 0,.slice Y 0 0],[]⟩).memory f5.params.toList Rows.matchMissesSpec.vars Z #[(Value.slice Y 0 0),(Value.slice Y 0 0)].toList 8=N ([.nil,.nil],[],places) :=⟨[],by kernel_rfl⟩
set_option maxRecDepth 100000 in
def lifted(os:Os)(started:os.Started)(H:Type)(enc:TypeId×Value->H)(a:Stop.Interp): ReturnsInHanded {} Tryz.checked os 5 .any ((OpenSpec.ofChange Rows.matchMissesSpec).preRow enc θ f5 Rows.matchMissesRow.domain Z Rows.matchMissesRow.laid) (((OpenSpec.ofChange Rows.matchMissesSpec).at a).post enc θ f5 Z A Z Z):=by obtain⟨places,e⟩:=reads os enc;refine returnsInHanded_of_row (C:=Tryz.checked) (s:=OpenSpec.ofChange Rows.matchMissesSpec) own started (by kernel_rfl) func5 (witness_row_at (enc:=enc) (C:=Tryz.checked) Z (World.doorLaid θ 400 os) #[.slice Y 0 0,.slice Y 0 0] rfl (by kernel_rfl) (by kernel_rfl) (by kernel_rfl) (OpenSpec.preRow_of_cond 8 e (by kernel_rfl) (λk f=>by cases f) (by kernel_rfl) (Sc os _))) ?_;intro W c b h g before d hW _ _ _ i _ _;exact TD H enc W c b h g before d hW i
set_option maxRecDepth 100000 in
def said:Rows.MatchMissesSaid :=OpenClaim.holds_of_cond 5 f5 rfl rfl rfl rfl rfl rfl rfl ⟨rfl,rfl,rfl,rfl,rfl⟩ rfl rfl rfl rfl rfl (by kernel_rfl) func5 (by unfold joinedFacts;simp only[aP];(repeat' apply ak);all_goals as_aux_lemma=>kernel_rfl) (of_decide_eq_true (by kernel_rfl)) (by unfold Func.isWrapper;first|(rw[aK (by decide +kernel)];kernel_rfl)|(rw[au (by decide +kernel)];exact⟨rfl,rfl⟩)) (λos started H b _ a=>by rw[OpenClaim.pre_eq_preRow];exact lifted os started H b a)
def plain(f:FuncId)(a:Func)(e:Tryz.pinned.checked.prog.funcNamed "bitext/bitextlaw18.MatchMisses" = N f) (c:Tryz.pinned.checked.prog.funcs[f]?=N a) : Z=Tryz.pinned.checked.prog.looks []/\∀(j:Nat) t,a.params[j]?=N t->Tryz.pinned.checked.prog.wantsStandIn t=Z:=by
 obtain rfl:f=5:=iE ((show prog.funcNamed "bitext/bitextlaw18.MatchMisses" = N 5 by kernel_rfl).symm.trans e) |>.symm;obtain rfl:a=f5:=(iE (func5.symm.trans c)).symm;refine⟨by kernel_rfl,λj t b=>?_⟩;rw[params5]at b;have d:t∈[25,25]:=by simpa using Array.mem_of_getElem? b
 have g:([25,25].all λu=>!prog.wantsStandIn u)=A:=by kernel_rfl
 exact(show prog.wantsStandIn t=Z by simpa using cv.1 g t d)
end Go.Proofs.YtlakkaamfadipaaGreatDoor.matchMisses
namespace Go.Proofs.YtlakkaamfadipaaGreatDoor
open Go
def matchMisses_card:Rows.MatchMissesCardSaid :=Claim7.holds_tied_plain_at .later [] _ _ _ _ matchMisses.said (λ_ h=>by cases h) (by kernel_rfl) (λ_ h=>by cases h) matchMisses_row_tie rfl ⟨rfl,rfl⟩ (by kernel_rfl) rfl matchMisses.plain (by kernel_rfl)
#print axioms matchMisses_card
end Go.Proofs.YtlakkaamfadipaaGreatDoor

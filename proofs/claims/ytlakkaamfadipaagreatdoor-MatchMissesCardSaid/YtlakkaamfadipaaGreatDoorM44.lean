/- A part of a proof; the claim's last text says of what. -/
import Derived.StillTailTactics
import Derived.LoopN
import Derived.Test.YtlakkaamfadipaaGreatDoorM43
set_option linter.all false
set_option maxHeartbeats 8000000
open Option renaming some->N,none->Y
open Go.Proofs.Tryz renaming prog->θ
open List renaming length->F

namespace Go.Proofs.Tryz
open Go Go.Pm Go.Bt Go.RowKit Go.Sort
variable(M:List fe)(X:List Mt)(U:Mt->Int)(J:ag)(L:List LE)(a:Mt){R B:Obj}{q:Qr}{v:Value}{S:ag}
def Qc(a b:Int):Lib.compareInt a b=oq a b:=by simp only[Lib.compareInt,oq]
def OP(x y z u:Int)(b T:Nat)(W:aT)(d:W.heap[b]?=N (.cells #[.int .i64 x,.int .i64 y,.int .i64 z,.int .i64 u] T (0,0))): Calls θ 62 #[.slice (N ⟨b,0,Y⟩) 4 4] W λe h=>e=.returned (.int .i64 (Aq [x,y,z,u]))/\h=W:=by
 have k:W.cell? ⟨b,0,Y⟩=N (.int .i64 x):=by simp[World.cell?,d]
 have l:W.cell? ⟨b,1,Y⟩=N (.int .i64 y):=by simp[World.cell?,d]
 have i:W.cell? ⟨b,2,Y⟩=N (.int .i64 z):=by simp[World.cell?,d]
 have j:W.cell? ⟨b,3,Y⟩=N (.int .i64 u):=by simp[World.cell?,d]
 go_enter func62,Tryz.ntmps62;go_wp2;refine wp_loop_rounds 5 ?_;rw[rounds_succ];go_wp2;.rename_i a;go_ret;exact⟨by simp[Aq,show x≠0 by simpa using a],rfl⟩
 rename_i a;rw[rounds_succ];go_wp2;.rename_i c;go_ret;exact⟨by simp[Aq,show x=0 by simpa using a,show y≠0 by simpa using c],rfl⟩
 rename_i c;rw[rounds_succ];go_wp2;.rename_i f;go_ret;exact⟨by simp[Aq,show x=0 by simpa using a,show y=0 by simpa using c,show z≠0 by simpa using f],rfl⟩
 rename_i f;rw[rounds_succ];go_wp2;.rename_i g;go_ret;exact⟨by simp[Aq,show x=0 by simpa using a,show y=0 by simpa using c,show z=0 by simpa using f,show u≠0 by simpa using g],rfl⟩
 rename_i g;rw[rounds_succ];go_wp2;go_ret;exact⟨by simp[Aq,show x=0 by simpa using a,show y=0 by simpa using c,show z=0 by simpa using f,show u=0 by simpa using g],rfl⟩
def Hz{W w:aT}(h:w.heap=(W.heap.push R).push B):w.heap[W.heap.size]?=N R/\w.heap[W.heap.size+1]?=N B:=by
 have e:W.heap.size+1=(W.heap.push R).size:=by simp
 rw[h];refine⟨?_,by rw[e];exact oy⟩;rw[CV (by simp),Array.getElem_push_eq]
def wu{W w:aT}(h:w.heap=(W.heap.push R).push B){b o:Nat}(a:W.cell? ⟨b,o,Y⟩=N v):w.cell? ⟨b,o,Y⟩=N v:=by
 have d:b<W.heap.size:=by apply bC;intro c;simp[World.cell?,lW (Ub c)]at a
 have e:w.heap[b]?=W.heap[b]?:=by rw[h,um,um,au (by simp;omega),au (by omega)]
 unfold World.cell? at a |-;simp only[e]at *;exact a
set_option maxRecDepth 4000 in
def K5(g k w v l f m z E i c d:Int)(bb b D n B:Nat)(W:aT)(o:W.cell? ⟨bb,0,Y⟩=N (.pointer (N ⟨b,0,Y⟩)))(I:W.cell? ⟨b,1,Y⟩=N (.slice (N ⟨D,0,Y⟩) n B)) (hx:0<=g/\g<n) (V:0<=f/\f<n) (H:W.cell? ⟨D,g.toNat*11+8,Y⟩=N (.int .i64 c)) (G:W.cell? ⟨D,f.toNat*11+8,Y⟩=N (.int .i64 d)) : Calls θ 61 #[.agg #[.int .i64 g,.int .i64 k,.int .i64 w,.int .i64 v,.int .i64 l],.agg #[.int .i64 f,.int .i64 m,.int .i64 z,.int .i64 E,.int .i64 i],.pointer (N ⟨bb,0,Y⟩)] W λe p=>e=.returned (.int .i64 (Aq [oq i l,oq m k,oq d c,oq g f]))/\∃q h,p=grow (W.drewN q) h:=by
 have r:∀(x y:Int) (u:aT),Calls θ 63 #[.int .i64 x,.int .i64 y] u λe p=>e=.returned (.int .i64 (oq x y))/\p=u:=λx y u=>by have:=AnyG.cmp_Compare_int Tryz.aaK x y u;rw[Qc]at this;exact this
 go_enter func61,Tryz.ntmps61;go_wp2;generalize C:(W.alloc (.cells #[.int .i64 g,.int .i64 k,.int .i64 w,.int .i64 v,.int .i64 l] 44)).alloc (.cells #[.int .i64 f,.int .i64 m,.int .i64 z,.int .i64 E,.int .i64 i] 44)=w2;refine wp_region_still_tail 36 (by kernel_rfl) (by kernel_rfl) ?_;have j:w2.drew.heap=(W.heap.push (.cells #[.int .i64 g,.int .i64 k,.int .i64 w,.int .i64 v,.int .i64 l] 44)).push (.cells #[.int .i64 f,.int .i64 m,.int .i64 z,.int .i64 E,.int .i64 i] 44):=by rw[<- C];rfl
 obtain⟨t,s⟩:=Hz j;have O:w2.drew.cell? ⟨W.heap.size,4,Y⟩=N (.int .i64 l):=by simp[World.cell?,t]
 have k2:w2.drew.cell? ⟨W.heap.size,1,Y⟩=N (.int .i64 k):=by simp[World.cell?,t]
 have S:w2.drew.cell? ⟨W.heap.size,0,Y⟩=N (.int .i64 g):=by simp[World.cell?,t]
 have k4:w2.drew.cell? ⟨W.heap.size+1,4,Y⟩=N (.int .i64 i):=by simp[World.cell?,s]
 have U:w2.drew.cell? ⟨W.heap.size+1,1,Y⟩=N (.int .i64 m):=by simp[World.cell?,s]
 have X:w2.drew.cell? ⟨W.heap.size+1,0,Y⟩=N (.int .i64 f):=by simp[World.cell?,s]
 have Q:=wu j o;have P:=wu j I;have R:=wu j H;have T:=wu j G;have L:∃q h,w2.drew=grow (W.drewN q) h:=⟨1,_,by rw[<- C,alloc_eq_grow,alloc_eq_grow,grow_grow];rfl⟩;simp only[iw,qe,nT,qf];change wpStill _ _ w2.drew (λM=>wpList _ _ _ _ M w2.drew) _ _;have J:w2.drew.heap.size=W.heap.size+2:=by simp[j]
 generalize w2.drew=w3 at *;clear t s j C w2 H G o I;still_step;still_step;still_step;still_step;refine wpStill_step (λK a=>?_);go_simp;refine⟨_,r i l w3,a _ ?_⟩;clear a K;still_step;still_step;still_step;still_step;refine wpStill_step (λK a=>?_);go_simp;refine⟨_,r m k w3,a _ ?_⟩;clear a K;still_step;still_step;still_step;still_step;still_step;still_step;still_step;still_step;still_step;still_step;still_step;still_step;still_step;still_step;still_step;still_step;still_step;still_step;still_step;still_step;refine wpStill_step (λK a=>?_);go_simp;refine⟨_,r d c w3,a _ ?_⟩;clear a K;still_step;still_step;still_step;still_step;refine wpStill_step (λK a=>?_);go_simp;refine⟨_,r g f w3,a _ ?_⟩;clear a K;refine wpStill_nil ?_;go_wp2_with (go_at_call 62;refine(OP (oq i l) (oq m k) (oq d c) (oq g f) (W.heap.size+2) 3 _ (by rw[<- J];exact oy)).mono ?_;rintro e p ⟨rfl,rfl⟩);go_ret;obtain⟨q,os,rfl⟩:=L;exact⟨rfl,q,_,by rw[alloc_eq_grow,grow_grow]⟩
def Ey(b:Mt):Int:=Aq [oq b.score a.score,oq b.pD a.pD,oq (U b) (U a),oq a.apc b.apc]

set_option maxRecDepth 4000
def kU.rev{e:Type}{c:e->e->Int}(h:kU c):kU λa b=>c b a :=⟨λa b=>h.mI b a,λa b d f g=>h.trans d b a g f⟩
def OT:kU (Ey U):=by
 have h:=((kU.rev xi).on (λm:Mt=>m.score)).lex (((kU.rev xi).on (λm:Mt=>m.pD)).lex (((kU.rev xi).on U).lex (xi.on (λm:Mt=>m.apc))));have e:Ey U=Gu (λa b:Mt=>oq b.score a.score) (Gu (λa b:Mt=>oq b.pD a.pD) (Gu (λa b=>oq (U b) (U a)) λa b=>oq a.apc b.apc)):=by funext a b;simp only[Ey,Aq,Gu];(repeat' split)<;>first|rfl|omega
 rw[e];exact h
def crF:Int:=((M[a.apc.toNat]?).map λs=>s.en.ao9).getD 0
def IF(g:Nat)(a:List Mt):Ob:=.row 44 5 40 g false (a.map Mt.aoZ)
def Md{W:aT}{m:Mt}(h:VR W [] (λ_=>undef) (.agg m.aoZ) v):v=.agg #[.int .i64 m.apc,.int .i64 m.pD,.int .i64 m.context,.int .i64 m.points,.int .i64 m.score]:=by obtain⟨n,rfl,o,f⟩:=h.iZ;have k:=(f 0 _ rfl).fE;have j:=(f 1 _ rfl).fE;have g:=(f 2 _ rfl).fE;have l:=(f 3 _ rfl).fE;have i:=(f 4 _ rfl).fE;obtain⟨q⟩:=n;match q,o with|[a,b,c,d,e],_ =>simp[Array.getD]at k j g l i;subst k j g l i;rfl
def N5(hl:F X<2^30)(o:∀m∈X,0<=m.apc/\m.apc<F M)(id g s a D gl:Nat)(x:V)(next:Int)(J:ag)(h1:J[id]?=N (IF g X)) (n:J[s]?=N (.box 47 [.ptr a 0])) (t:J[a]?=N (.box 105 [x,.own D gl,.I next])) (l:J[D]?=N (iN gl M)) : PC θ 60 [.own id g,.fn 61 [.ptr s 0]] J (λr J'=>∃P:List Mt,P.Perm X/\P.Pairwise (λx y=>¬Ey (crF M) y x<0)/\r=.gy []/\J'=J.set id (IF g P)):=by
 refine PC.Ee Tryz.abw (k:=5) Tryz.isAgg44 Tryz.sizeOf44 Mt.aoZ (λx=>by simp[Mt.aoZ]) (by omega) (Ey (crF M)) (enters_of func61 (by kernel_rfl) rfl) X ?_ (Q0 (OT _) X) hl h1;intro B w0 w μ cb f bn ac W d hB c T m hm m' i vx vy hx hy;obtain⟨Q,rfl⟩:∃Q,cb=#[Q]:=by obtain⟨q⟩:=cb;match q,bn with|[v],_=>exact⟨v,rfl⟩
 have hp:=ac 0 _ rfl;simp only[Array.getD,eS,iQ,Nat.zero_lt_one,dif_pos]at hp;obtain⟨bb,O,K,_⟩:=hp.pK;have K:Q=.pointer (N ⟨bb,0,Y⟩):=K;subst K;obtain⟨S,vs1,q1,_,q2,q3,q4⟩:=f.obj s _ n;obtain⟨u1,q5,q6⟩:=q4 0 _ rfl;obtain⟨b,H,f2,_⟩:=q6.pK;obtain⟨C,vs2,r1,_,r2,r3,r4⟩:=f.obj a _ t;obtain⟨u2,r5,E⟩:=r4 1 _ rfl;have E:=E.kE l;obtain⟨_,ad,gi,cH⟩:=f.obj D _ l;have Hg:F (M.map fe.aoZ)=F M:=ae ..;rcases gi.2 with⟨_,hn⟩|⟨p,j,af,ma,_,R,I5,_,mE,Hk⟩;.have:=o m hm;rw[Hg]at hn;omega
 have G:S≠d:=λe=>by have:=f.sep s id _ _ d n h1 (by simp) (by simp[IF]) (by rw[q1,e];rfl) c;subst this;rw[h1]at n;simp[IF]at n
 have U:C≠d:=λe=>by have:=f.sep a id _ _ d t h1 (by simp) (by simp[IF]) (by rw[r1,e];rfl) c;subst this;rw[h1]at t;simp[IF]at t
 have L:p≠d:=λe=>by have:=f.sep D id _ _ d l h1 (by simp[iN]) (by simp[IF]) (by rw[ma,e];rfl) c;subst this;rw[h1]at l;simp[iN,IF]at l
 rw[q1]at O;simp only[Value.pointer.injEq,aa,Addr.mk.injEq,lq]at O;subst O;rw[r1]at H;simp only[Value.pointer.injEq,aa,Addr.mk.injEq,lq]at H;subst H;have k1:W.cell? ⟨S,0,Y⟩=N (.pointer (N ⟨C,0,Y⟩)):=T.cell (by simp only[World.cell?,q2];rw[<- f2];simpa using q5) (λe=>G (by simpa using e));have k2:W.cell? ⟨C,1,Y⟩=N (.slice (N ⟨p,0,Y⟩) (F M) j):=T.cell (by simp only[World.cell?,r2];rw[<- Hg,<- ma,<- E];simpa using r5) (λe=>U (by simpa using e));have k3:∀z∈X,W.cell? ⟨p,z.apc.toNat*11+8,Y⟩=N (.int .i64 (crF M z)):=λz hz=>by
  have Qv:=o z hz;have dC:z.apc.toNat<F M:=by omega
  have h2:gp (M.map fe.aoZ) z.apc.toNat 8=N (.I (crF M z)):=by simp[gp,dC,crF,fe.aoZ]
  obtain⟨_,u,h,p3⟩:=cH.2 _ _ _ h2;rw[p3.fE]at h;refine T.cell ?_ (λe=>L (by simpa using e));simp only[World.cell?,R];rw[<- Hk,gd]at h;split at h;.simpa using h
  cases h
 rw[Md hx,Md hy];exact K5 _ _ _ _ _ _ _ _ _ _ _ _ S C p (F M) j W k1 k2 (o m hm) (o m' i) (k3 m hm) (k3 m' i)

set_option maxRecDepth 4000
set_option maxHeartbeats 2000000
def uN(a:bG)(l:List Pn)(q:Qr)(tq:List It):Nat->List fe->List Mt|_,[]=>[]|i,s::r=>(if s.id∈a/\q.threshold<=(ig s.en s.cR tq l q).score then[{ ig s.en s.cR tq l q with apc:=i }]else[])++uN a l q tq (i+1) r
def Zf{K:bj}(O:bT S)(a:Nat)(ha:a<F S)(v g:Nat)(M:List fe)(y:S[v]?=N (iN g M))(hM:F M<2^20)(l:List Pn)(q:Qr)(k:bG)(P:k.Pairwise λa b=>a<b)(x:F k<2^30)(tq:List It)(T:F tq<2^27) (X:∀s∈M,F s.cR<2^27/\L6 s.en l q):∀(d pre:List fe) (c:List Mt) (e:Nat),M=pre++d->F c<=F pre ->(∀e,((fj 1 (fh (.sl 5 (l.map Pn.aoZ)) (fj 1 (fh (.ptr (F S) 0) (fj 1 (fh (.ptr (F S+1) 0) (fj 4 (fh (.sl 3 (tq.map It.aoZ)) (fh (.sl 1 (k.map cg)) (fh (.own (F S+2) e) (fj 77 fo))))))))))) λQ=>K (.exit 0) ⟨Q,S++[.box 47 [.ptr a 0],.box 24 q.aoZ,IF e (c++uN k l q tq (F pre) d)]⟩)) ->fS (F S) θ Ix K (F d+1) ⟨(uu 1 (.sl 5 (l.map Pn.aoZ)::uu 1 (.ptr (F S) 0::uu 1 (.ptr (F S+1) 0::uu 4 (.sl 3 (tq.map It.aoZ)::.sl 1 (k.map cg)::.own (F S+2) e::uu 30 (.own v g::.I (F M)::.I (F pre)::uu 44 [])))))),S++[.box 47 [.ptr a 0],.box 24 q.aoZ,IF e c]⟩:=by
 intro d;induction d with
 |nil =>intro pre c e n U u;have n:=db n;subst n;rw[uN,bM]at u;refine aF λR p=>?_;simp only[Ix,VV,seval];exact⟨λh=>by simp at h,λ_=>u e ..⟩
 |cons s d ih =>
 intro pre c e n U u;have B:=uY n;have D:=dY pre s (by omega);have z:(M.map fe.aoZ).getD (F pre) []=s.aoZ:=by rw[n];exact xU
 have hS:∀j:ag,(S++j)[v]?=N (.row 108 11 176 g false (M.map fe.aoZ)):=λj=>by rw[aj (ab.1 y).1];exact y
 obtain⟨W,L⟩:=X s (by rw[n];simp);simp only[fe.aoZ]at z;refine aF λR p=>?_;simp only[Ix,Qr.aoZ,IF,hS,z,↓IT,VV,seval];have G:decide ((F pre:Int)<(F M:Int))=true:=by simp;omega
 have J:∀e c,bT (S++[.box 47 [.ptr a 0],.box 24 q.aoZ,IF e c]):=λe c=>cL O (by simp[IF,Qr.aoZ,LW];omega);have m:∀{C:ao} {R:bk} (e:Nat) (f:List Mt) (j:ag),(∀r,fS (F S) θ Ix K (F d+1) r->R r)->F f<=F pre+1->f++uN k l q tq (F (pre++[s])) d=c++uN k l q tq (F pre) (s::d) ->
   pe C (uu 1 (.sl 5 (l.map Pn.aoZ)::uu 1 (.ptr (F S) 0::uu 1 (.ptr (F S+1) 0::uu 4 (.sl 3 (tq.map It.aoZ)::.sl 1 (k.map cg)::.own (F S+2) e::uu 30 (.own v g::.I (F M)::.I (F (pre++[s]))::uu 44 [])))))) ->
   R ⟨C,S++(.box 47 [.ptr a 0]::.box 24 q.aoZ::IF e f::j)⟩:=λe f j p vJ Up hc=>by have E:=(ab.1 y).1;refine p _ (cC [_,_,_] j (J _ _) hc ?_ (ih (pre++[s]) f e (by simp[n]) (by simpa using vJ) (by rw[Up];exact u)));simp only[LW,ah,az,bq];omega
 refine⟨λ_=>⟨⟨by omega,by rw[ae];omega⟩,?_⟩,λh=>by rw[G]at h;cases h⟩;refine aA (aaP k P s.id x _) rfl ?_;simp only[D,↓IT,VV,seval];refine⟨λw=>?_,λt=>?_⟩
 .have w:s.id ∉ k:=by simpa using w
  exact m e c [_] p (by omega) (by simp[uN,w]) (by repeat' constructor)
 have t:s.id∈k:=by simpa using t
 refine aA (Cw s.en s.cR tq l q W T L _) (by simp only[Qr.aoZ,En.aoZ,VV,seval]) ?_;simp only[Mt.aoZ,D,↓IT,VV,seval];refine⟨λo=>?_,λo=>?_⟩
 .have o:q.threshold<=(ig s.en s.cR tq l q).score:=by simpa using o
  have H:List.map Mt.aoZ c++[[V.i .i64 (F pre),.I (ig s.en s.cR tq l q).pD,.I (ig s.en s.cR tq l q).context,.I (ig s.en s.cR tq l q).points,.I (ig s.en s.cR tq l q).score]]=(c++[{ ig s.en s.cR tq l q with apc:=F pre }]).map Mt.aoZ:=by simp[Mt.aoZ]
  refine⟨⟨by rw[ae];omega,by rw[ae];unfold maxLen;omega⟩,?_⟩;rw[H];refine m (e+1) (c++[{ ig s.en s.cR tq l q with apc:=F pre }]) [_,_] p ?_ ?_ ?_;.simp;omega
  .simp[uN,t,o]
  repeat' constructor
 have o:¬q.threshold<=(ig s.en s.cR tq l q).score:=by simpa using o
 exact m e c [_,_] p (by omega) (by simp[uN,t,o]) (by repeat' constructor)

set_option maxRecDepth 4000
set_option maxHeartbeats 2000000
def oT(l:List Pn)(q:Qr)(tq:List It):Nat->List fe->List Mt|_,[]=>[]|i,s::r=>(if q.threshold<=(ig s.en s.cR tq l q).score then[{ ig s.en s.cR tq l q with apc:=i }]else[])++oT l q tq (i+1) r
def rz(h:fb q=0):(0<=q.now/\q.now<=1073741824)/\(1<=q.threshold/\q.threshold<=102)/\1<=q.oc/\q.oc<=100:=by unfold fb at h;(repeat' split at h)<;>omega
def KO(q:Qr):Int:=if 100<q.threshold then 100 else q.threshold
def OU{s:fe}{tq:List It}{l:List Pn}(h1:1<=q.threshold)(h:q.threshold<=(ig s.en s.cR tq l q).score):KO q<=dm s.cR tq:=by
 have a:=rA s.en q.now l 0 (by omega);have a:0<=jm l s.en q.now/\jm l s.en q.now<=100:=a;simp only[ig]at h;unfold KO;by_cases b:dm s.cR tq=100;.split<;>omega
 rw[au b]at h;unfold mx at h;split at h<;>split<;>omega
def I8(b:bG)(l:List Pn)(q:Qr)(h1:1<=q.threshold)(tq:List It):∀(i:Nat) (M:List fe),(∀s∈M,KO q<=dm s.cR tq->s.id∈b)->uN b l q tq i M=oT l q tq i M
 |_,[],_=>rfl
 |i,s::r,h=>by
  simp only[uN,oT];rw[I8 b l q h1 tq (i+1) r λx c=>h x (by simp[c])];congr 1;by_cases a:q.threshold<=(ig s.en s.cR tq l q).score;.rw[aK a,aK ⟨h s (by simp) (OU h1 a),a⟩]
  rw[au a,au (λh=>a h.2)]
def tk(l:List Pn)(q:Qr)(tq:List It):∀(M:List fe) (i:Nat),∀m∈oT l q tq i M,(i:Int)<=m.apc/\m.apc<i+F M
 |[],i,m,h=>by simp[oT]at h
 |s::r,i,m,h=>by
  simp only[oT,bR]at h;rcases h with h|h
  .split at h;.simp only[cj]at h;subst h;simp only[ah];omega
   simp at h
  have:=tk l q tq r (i+1) m h;simp only[ah]at *;omega
def yv(l:List Pn)(q:Qr)(tq:List It):∀(M:List fe) (i:Nat),F (oT l q tq i M)<=F M|[],i=>ax _|s::r,i=>by have:=yv l q tq r (i+1);simp only[oT,ai,ah];split<;>simp<;>omega
def NQ(l:List Pn)(q:Qr)(r:V):Prop :=(fb q≠0/\r=.gy [.sl 5 [],.I (fb q)])\/(fb q=0/\qA l≠0/\r=.gy [.sl 5 [],.I (qA l)]) \/(fb q=0/\qA l=0/\∃a:List Mt,a.Perm (oT l q (cR q.ao2) 0 M)/\a.Pairwise (λx y=>¬Ey (crF M) y x<0)/\r=.gy [.sl 5 ((a.take q.oc.toNat).map Mt.aoZ),.I 0])
def abr:Ti θ 44 5 40:=nQ (by kernel_rfl)
def Xl:bO θ 64 [.sl 5 (X.map Mt.aoZ)] J (.sl 5 (X.map Mt.aoZ)):=by refine a6 func64 c64 λa b=>ay ?_;simp only[p64,SS,seval];simp only[List.take_length,VV,seval];exact⟨⟨by omega,by omega⟩,aY (.inr rfl) rfl ⟨rfl,rfl⟩⟩
def P1{S:ag}(a x i g:Nat)(next:Int)(B:S[a]?=N (.box 105 [.ptr x 0,.own i g,.I next]))(M:List fe)(y:S[i]?=N (iN g M))(K:F M<2^20)(l:List Pn)(hl:F l<2^40)(q:Qr) (h1:F q.b6<2^39) (G:F q.next<2^39) (h3:F q.ao2<2^38) (L:aR q.ao2<2^38) (O:F (cR q.ao2)<2^27) (jf:∀s∈M,F s.cR<2^27/\L6 s.en l q) (t:fb q=0->∀T:ag,PC θ 58 [.ptr x 0,.sl 3 ((cR q.ao2).map It.aoZ),.I (KO q)] (S++T) (λr p=>∃d:bG,(d.Pairwise λa b=>a<b)/\F d<2^30/\(∀s∈M,KO q<=dm s.cR (cR q.ao2)->s.id∈d)/\r=.sl 1 (d.map cg)/\p=S++T)) : PC θ 23 [.ptr a 0,.sl 5 (l.map Pn.aoZ),.agg q.aoZ] S (λr p=>NQ M l q r/\p=S):=by
 refine a6 func23 c23 λj dN=>?_;have z:=(ab.1 B).1;simp only[p23,SS,seval];refine cd.cut λR c=>?_;simp only[Qr.aoZ,VV,seval];refine c _ (cd.gW (fr':=(uu 1 (.sl 5 (l.map Pn.aoZ)::uu 1 (.ptr (F S) 0::uu 1 (.ptr (F S+1) 0::uu 84 []))))) ?_ (by repeat' constructor));clear c R;refine cd.cut λR c=>?_;simp only[V.pure,↓IT,VV,seval];refine aA (H9 q h1 G _) (by simp only[Qr.aoZ,VV,seval]) ?_;simp only[↓IT,VV,seval];refine⟨λh=>?_,λh=>?_⟩
 .have h:fb q≠0:=by simpa using h
  refine pA (ys:=[.sl 5 [],.I (fb q)]) j (.inr rfl) (by simp only[RS,seval]) (.cons (.nil _) (.cons (.refl _) .nil)) (by simp[LW]) ⟨.inl ⟨h,rfl⟩,rfl⟩
 have n:fb q=0:=by simpa using h
 have t:=t n;refine c _ (cd.gW (fr':=(uu 1 (.sl 5 (l.map Pn.aoZ)::uu 1 (.ptr (F S) 0::uu 1 (.ptr (F S+1) 0::uu 84 []))))) ?_ (by repeat' constructor));clear c R;refine cd.cut λR c=>?_;simp only[V.pure,↓IT,VV,seval];refine aA (Du l hl _) rfl ?_;simp only[↓IT,VV,seval];refine⟨λh=>?_,λh=>?_⟩
 .have h:qA l≠0:=by simpa using h
  refine pA (ys:=[.sl 5 [],.I (qA l)]) j (.inr rfl) (by simp only[RS,seval]) (.cons (.nil _) (.cons (.refl _) .nil)) (by simp[LW]) ⟨.inr (.inl ⟨n,h,rfl⟩),rfl⟩
 have Hf:qA l=0:=by simpa using h
 refine c _ (cd.gW (fr':=(uu 1 (.sl 5 (l.map Pn.aoZ)::uu 1 (.ptr (F S) 0::uu 1 (.ptr (F S+1) 0::uu 84 []))))) ?_ (by repeat' constructor));clear c R;refine cd.cut λR c=>?_;simp only[V.pure,↓IT,VV,seval];refine aA (qk q.ao2 h3 L _) rfl ?_;simp only[↓IT,VV,seval];refine c _ (cd.gW (fr':=(uu 1 (.sl 5 (l.map Pn.aoZ)::uu 1 (.ptr (F S) 0::uu 1 (.ptr (F S+1) 0::uu 4 (.sl 3 ((cR q.ao2).map It.aoZ)::uu 79 [])))))) ?_ (by repeat' constructor));clear c R;have v:∀T:ag,(S++T)[a]?=N (.box 105 [.ptr x 0,.own i g,.I next]):=λT=>by rw[aj z];exact B
 refine cd.cut λR c=>?_;simp only[v,V.pure,↓IT,VV,seval];refine cB (t _) rfl ?_;rintro _ _ ⟨d,U,X,c3,rfl,rfl⟩;simp only[↓IT,VV,seval];refine c _ (cd.gW (fr':=(uu 1 (.sl 5 (l.map Pn.aoZ)::uu 1 (.ptr (F S) 0::uu 1 (.ptr (F S+1) 0::uu 4 (.sl 3 ((cR q.ao2).map It.aoZ)::.sl 1 (d.map cg)::uu 78 [])))))) ?_ (by repeat' constructor));clear c R;refine cd.cut λR c=>?_;simp only[V.pure,↓IT,VV,seval];refine c _ (cd.gW (fr':=(uu 1 (.sl 5 (l.map Pn.aoZ)::uu 1 (.ptr (F S) 0::uu 1 (.ptr (F S+1) 0::uu 4 (.sl 3 ((cR q.ao2).map It.aoZ)::.sl 1 (d.map cg)::.nil::uu 77 [])))))) ?_ (by repeat' constructor));clear c R;have D:∀T:ag,(S++T)[i]?=N (.row 108 11 176 g false (M.map fe.aoZ)):=λT=>by rw[aj (ab.1 y).1];exact y
 refine cd.cut λR c=>?_;simp only[v,D,ae,V.pure,↓IT,VV,seval];refine cd.wk ((Wk.mV (P:=θ) (J:=S) [_,_] (k:=12) abr rfl).trans (Wk.gW (ys:=(uu 1 (.sl 5 (l.map Pn.aoZ)::uu 1 (.ptr (F S) 0::uu 1 (.ptr (F S+1) 0::uu 4 (.sl 3 ((cR q.ao2).map It.aoZ)::.sl 1 (d.map cg)::.own (F S+2) 0::uu 30 (.own i g::.I (F M)::.I (F ([]:List fe):Nat)::uu 44 []))))))) ?_)) (cd.xA (F M+1) (Zf j a z i g M y K l q d U X (cR q.ao2) O jf M [] [] 0 rfl (by simp) ?_));.simp only[VV,seval];repeat' constructor
 intro u;simp only[JE];intros;simp only[bg,az,VV,seval];refine c _ (cd.gW (fr':=(uu 3 (.ptr (F S) 0::uu 1 (.ptr (F S+1) 0::uu 6 (.own (F S+2) u::uu 77 []))))) ?_ (by repeat' constructor));clear c R;have f:=rz n;have o:1<=q.threshold:=f.2.1.1;rw[I8 d l q o _ 0 M c3];have w:=yv l q (cR q.ao2) M 0;have C:=tk l q (cR q.ao2) M 0;generalize Q:oT l q (cR q.ao2) 0 M=out at w C |-;refine cd.cut λR c=>?_;simp only[IF,V.pure,↓IT,VV,seval];refine cB (N5 M out (by omega) (λm hm=>by have:=C m hm;omega) (F S+2) u (F S) a i g (.ptr x 0) next _ (by simp[IF]) (by simp) (v _) (D _)) rfl ?_;rintro _ _ ⟨e,p1,H,rfl,rfl⟩;simp only[IF,↓IT,VV,seval];refine c _ (cd.wk ((Wk.ae1 2 (E:=44) (sz:=5) (by':=40) (g:=u) (sh:=false) (rows:=e.map Mt.aoZ) rfl).trans (Wk.gW (ys:=(uu 5 (.ptr (F S+1) 0::uu 6 (.sl 5 (e.map Mt.aoZ)::uu 77 [])))) ?_)) (ay ?_));.simp only[aC,bI,fz,sk,lu,aU,VV,seval];repeat' constructor
 clear c R;simp only[Qr.aoZ,ae,V.pure,↓IT,VV,seval];have W:List.take (if q.oc<(F e:Int)then q.oc else(F e:Int)).toNat (e.map Mt.aoZ)=(e.take q.oc.toNat).map Mt.aoZ:=by
  rw[me];have:=f.2.2.1;split;.rfl
  rw[cn (by rw[ae];omega),cn (by rw[ae];omega)]
 refine⟨⟨by have:=f.2.2.1;split<;>omega,by split<;>omega⟩,?_⟩;simp only[W];refine aA (Xl (e.take q.oc.toNat) _) rfl ?_;simp only[↓IT,VV,seval];subst Q;exact bl j (.inr rfl) (by simp only[RS,seval];rfl) (by simp[LW]) ⟨.inr (.inr ⟨n,Hf,e,p1,H,rfl⟩),rfl⟩

set_option maxRecDepth 4000
set_option maxHeartbeats 2000000
def TP{E L:List LE}(f:E.Perm L)(k:(L.map (·.1)).Nodup)(p:LE->Bool): ((((E.filter p).map (·.1)).mergeSort λx y=>decide (x<=y)).Pairwise λa b=>a<b)/\(∀e∈L,p e=true->e.1∈(((E.filter p).map (·.1)).mergeSort λx y=>decide (x<=y)))/\F (((E.filter p).map (·.1)).mergeSort λx y=>decide (x<=y))<=F L:=by
 have m:((E.filter p).map (·.1)).Nodup:=by have d:(E.map (·.1)).Nodup:=(f.map _).nodup_iff.2 k;exact d.sublist ((List.filter_sublist).map _)
 have g:=List.mergeSort_perm ((E.filter p).map (·.1)) λx y=>decide (x<=y);refine⟨?_,λe l j=>?_,?_⟩
 .have d:(((E.filter p).map (·.1)).mergeSort λx y=>decide (x<=y)).Pairwise λa b=>decide (a<=b)=true:=afS (λa b c d i=>by simp at *;omega) (λa b=>by simp;omega) _;have i:=g.nodup_iff.2 m;refine(d.and i).imp λ{a b} h=>?_;have n:a<=b:=by simpa using h.1
  have o:a≠b:=h.2;omega
 .rw[g.mem_iff];exact br.2 ⟨e,cV.2 ⟨f.mem_iff.2 l,j⟩,rfl⟩
 rw[g.length_eq,ae,<- f.length_eq];exact fQ _ _
def aay(k:GK):∀p∈Co L k,0<=p.2:=λp a=>by obtain⟨e,_,b⟩:=lV.1 a;obtain⟨v,c,rfl⟩:=al.1 b;exact LD c
def Tr(k:TK):∀p∈Aa L k,0<=p.2:=λp a=>by obtain⟨e,_,b⟩:=lV.1 a;obtain⟨v,c,rfl⟩:=al.1 b;exact Jf c
def TQ{E:Nat×Nat×Nat}(f:List (GK×(Nat×Nat)))(c:List (TK×(Nat×Nat)))(t:Ob)(T:ag)(d:DV (F J) T L f c)(z:F L<=1024)(n:∀e∈L,F e.2.1<=2^20)(M:List fe)(u:∀s∈M,∃m,(s.id,(s.cR,m))∈L) (tq:List It) (K:F tq<=2^20) (p:Int) (x:1<=p/\p<=100) (X:ag) : PC θ 58 [.ptr (F J+3) 0,.sl 3 (tq.map It.aoZ),.I p] (pX E J L f c t T++X) (λr B=>∃q:bG,(q.Pairwise λa b=>a<b)/\F q<2^30/\(∀s∈M,p<=dm s.cR tq->s.id∈q)/\r=.sl 1 (q.map cg)/\B=pX E J L f c t T++X):=by
 have l:∀k,F (Co L k)<=1024:=λk=>bX (gC _ _) z;have i:∀k,F (Aa L k)<=1024:=λk=>bX (gC _ _) z;have C:∀g∈cE (a8 tq),0<=g.2:=λg W=>(B9 _ g W).1;have G:∀p∈kh [] tq,0<=p.2:=λp x=>by rw[GZ x];exact pP _ _
 have Uh:=mN tq;have b2:=I1 1024 (Co L) l (cE (a8 tq)) C;have b3:=I0 1024 (Aa L) i (Tr L) (kh [] tq) G;rw[Ca]at b2;have b4:=NG tq [];simp only[bI,List.sum_nil,fm]at b4;have hT:∀(j:Nat) (o:Ob),T[j]?=N o->(pX E J L f c t T++X)[F J+5+j]?=N o:=λj o h=>by have Q:=(ab.1 h).1;unfold pX;rw[aS,aD (by omega),(by omega:F J+5+j - F J=j+5)];simp only[bo,bS];rw[aj Q];exact h
 refine(Xo (ea:=E.1) (eb:=E.2.1) (ec:=E.2.2) (S:=pX E J L f c t T++X) (F J+3) (F J) (F J+1) (F J+2) (by simp[pX,vI]) L (by omega) (by simp[pX]) f (Co L) (by simp[pX])
  (λk r g h=>by obtain⟨j,rfl,w⟩:=d.p2.row k r g h;exact hT j _ w) d.p2.zU (aay L) (λk=>by have:=l k;omega)
  c (Aa L) (by simp[pX]) (λk r g h=>by obtain⟨j,rfl,w⟩:=d.p3.row k r g h;exact hT j _ w) d.p3.zU (Tr L) (λk=>by have:=i k;omega)
  tq (by omega) C G (by unfold qJ qK;omega) p (by omega) (HI tq (by omega)) (λe R=>HI _ (by have:=n e R;omega))).mono ?_;rintro r B ⟨D,E,H,hE,rfl,rfl⟩;obtain⟨V,P,k3⟩:=TP hE d.keys (uI tq (dU (dU [] (qJ (Co L) (cE (a8 tq)))) (qK (Aa L) D)) p);refine⟨_,V,by omega,λs hs v=>?_,rfl,rfl⟩;obtain⟨m,y⟩:=u s hs;refine P _ y ?_;have O:=n _ y;have U:=aaJ d.keys y tq H;simp only[uI,a7];have e:(bZ s.id (dU (dU [] (qJ (Co L) (cE (a8 tq)))) (qK (Aa L) D))).getD uB=sv tq s.cR:=U;rw[e];exact Gs tq s.cR p x v K O

set_option maxRecDepth 4000
set_option maxHeartbeats 2000000
def Jm{J:ag}{M:List fe}{next:Int}{S:ag}(h:J6 J M next S)(G:F M<=1024)(l:List Pn)(v:F l<2^40)(q:Qr) (h1:F q.b6<2^39) (n:F q.next<2^39) (w:F q.ao2<2^38) (p:aR q.ao2<2^38) (t:F (cR q.ao2)<=2^20) (f:∀s∈M,F s.cR<=2^20/\L6 s.en l q) : PC θ 23 [.ptr (F J+4) 0,.sl 5 (l.map Pn.aoZ),.agg q.aoZ] S (λr z=>NQ M l q r/\z=S):=by
 obtain⟨E,L,m,k,g,T,rfl,u,d,K⟩:=h;have D:F L=F M:=by have:=d.length_eq;simpa using this
 refine P1 (S:=jZ E J L m k next g M T) (F J+4) (F J+3) (F J+5) g next (by simp[jZ,pX,J4]) M (by simp[jZ,pX]) (by omega) l v q h1 n w p (by omega)
  (λs b=>⟨by have:=(f s b).1;omega,(f s b).2⟩) (λo a=>?_);have I:=rz o;have H:=TQ (E:=E) J _ m k (J4 (F J) (.own (F J+5) g) next) _ (u.swap (o':=iN g M) (X:=a)) (by omega) (λe B=>by have i:Uf e∈M.map JY:=d.mem_iff.1 (gr B);obtain⟨s,b,c⟩:=br.1 i;have j:s.cR=e.2.1:=congrArg Prod.snd c;rw[<- j];exact(f s b).1) M (λs b=>by have i:JY s∈L.map Uf:=d.mem_iff.2 (gr b);obtain⟨x,y,c⟩:=br.1 i;have j:x.1=s.id:=congrArg Prod.fst c;have C:x.2.1=s.cR:=congrArg Prod.snd c;exact⟨x.2.2,by rw[<- j,<- C];exact y⟩) (cR q.ao2) t (KO q) (by unfold KO;split<;>omega) [];rw[bM]at H;rw[AB];exact H

set_option maxRecDepth 8000
set_option maxHeartbeats 4000000
def VX:fe:=⟨0,bf La,La,cR uJ⟩
def Ps:La.apa:=⟨by decide,by decide,by decide,by decide,by decide,by decide,λx a=>by simp only[La,uJ,bo,bg,bE,fK,vA]at a;rcases a with rfl|rfl<;>decide⟩
def Sf{a:ag}(f:J6 S [VX] 1 a): PC θ 23 [.ptr (F S+4) 0,.sl 5 [],.agg Se.aoZ] a (λr d=>r=.gy [.sl 5 [Mt.aoZ ⟨0,100,2,0,102⟩],.I 0]/\d=a):=by
 refine(Jm f (by decide) [] (by decide) Se (by decide) (by decide) (by decide) (by decide) (by rw[show Se.ao2=uJ from rfl,BP];decide)
  (λs c=>by simp only[cj]at c;subst c;exact⟨by rw[show VX.cR=cR uJ from rfl,BP];decide,⟨by decide,by decide,by decide,by simp⟩⟩)).mono ?_;rintro r g ⟨h,rfl⟩;refine⟨?_,rfl⟩;rcases h with⟨h,_⟩|⟨_,h,_⟩|⟨_,_,i,b,_,rfl⟩;.exact absurd Zk h
 .exact absurd af4 h
 have e:oT [] Se (cR Se.ao2) 0 [VX]=[⟨0,100,2,0,102⟩]:=by rfl
 rw[e]at b;have:=List.perm_singleton.1 b;subst this;rfl
def BN:bO θ 12 [] J (.b true):=by
 refine a6 func12 c12 λj o=>ay ?_;simp only[p12,SS,seval];simp only[V.pure,↓IT,VV,seval];refine mu (zs:=[.agg La.aoZ,.sl 5 ([kPn].map Pn.aoZ),.agg Se.aoZ]) ?_ (Re La [kPn] Se ⟨by decide,by decide,by decide,by decide⟩ (by decide) (by decide) (by decide) (by decide) (by rw[show La.ao2=uJ from rfl,BP];decide) (by rw[show Se.ao2=uJ from rfl,BP];decide) _) ?_;.exact .cons (Cv.T7 (.cons (.lit _ _) (.cons (.lit _ _) (.cons (.refl _) (.cons (.refl _) (.cons (.refl _) (.cons (.refl _) (.cons (.refl _) (.cons (.refl _) .nil))))))))) (.cons (.lit _ _) (.cons (Cv.T7 (.cons (.lit _ _) (.cons (.refl _) (.cons (.refl _) (.cons (.refl _) (.cons (.refl _) (.cons (.refl _) .nil))))))) .nil))
 rw[VW];simp only[V.pure,↓IT,VV,seval];obtain⟨a,d⟩:∃a,a=J++[Ob.box 37 [.lit 3 [[.I 1,.s [83,97,118,101],.I 0]],.lit 3 [[.I 1,.s [83,105,99,104,101,114,110],.I 0]],.s [97],.s [98],.s [],.s [],.I 0,.I 3],
  .box 24 [.lit 3 [[.I 1,.s [83,97,118,101],.I 0]],.s [97],.s [98],.I 0,.I 50,.I 5],.box 44 [.I 0,.I 100,.I 2,.I 10,.I 92]]:=⟨_,rfl⟩;rw[<- d];have l:∀X:ag,(a++X)[F J]?=N (Ob.box 37 [.lit 3 [[.I 1,.s [83,97,118,101],.I 0]],.lit 3 [[.I 1,.s [83,105,99,104,101,114,110],.I 0]],.s [97],.s [98],.s [],.s [],.I 0,.I 3]):=λX=>by simp[d]
 have g:∀X:ag,(a++X)[F J+1]?=N (Ob.box 24 [.lit 3 [[.I 1,.s [83,97,118,101],.I 0]],.s [97],.s [98],.I 0,.I 50,.I 5]):=λX=>by simp[d]
 have h:∀X:ag,(a++X)[F J+2]?=N (Ob.box 44 [.I 0,.I 100,.I 2,.I 10,.I 92]):=λX=>by simp[d]
 refine aA (ER _) rfl ?_;have c:=J6.new a;generalize jZ ix0 a [] [] [] 0 0 [] []=S2 at c |-;obtain⟨r,n⟩:=c.pre;subst n;simp only[l,V.pure,↓IT,VV,seval];refine cB (PC.wk (args':=[.ptr (F a+4) 0,.agg La.aoZ]) (Wk.gW (.cons (.refl _) (.cons (Cv.T7 (.cons (.lit _ _) (.cons (.lit _ _) (.cons (.refl _) (.cons (.refl _) (.cons (.refl _) (.cons (.refl _) (.cons (.refl _) (.cons (.refl _) .nil))))))))) .nil)))
  (Rq c (by decide) (by simp[mM]) (by decide) La Ps (by rw[show La.ao2=uJ from rfl,BP];decide))) rfl ?_;rintro _ q ⟨rfl,c⟩;have e:iR [] La=0:=by rw[iR,au (by rw[adI];decide),aK (.inr (by decide))]
 have i:pV [] 0 La=[VX]:=by rw[pV,aK e];rfl
 have m:uH [] 0 La=1:=by rw[uH,aK e];rfl
 rw[i,m]at c;obtain⟨p,k⟩:=c.pre;subst k;simp only[g,h,e,V.pure,↓IT,VV,seval];refine mu (zs:=[.ptr (F a+4) 0,.sl 5 [],.agg Se.aoZ]) (.cons (.refl _) (.cons (.nil _) (.cons (Cv.T7 (.cons (.lit _ _) (.cons (.refl _) (.cons (.refl _) (.cons (.refl _) (.cons (.refl _) (.cons (.refl _) .nil))))))) .nil))) (Sf c) ?_;have f:(true==true)=true:=rfl;simp only[g,h,f,Mt.aoZ,V.pure,↓IT,VV,seval];refine⟨.I 102,⟨True,rfl,trivial⟩,?_⟩;simp only[f,V.pure,↓IT,VV,seval];rw[d,aS];exact bl j (.inr rfl) rfl (by simp[LW]) ⟨rfl,rfl⟩
end Go.Proofs.Tryz

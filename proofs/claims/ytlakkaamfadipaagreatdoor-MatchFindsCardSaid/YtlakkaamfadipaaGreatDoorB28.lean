/- A part of a proof; the claim's last text says of what. -/
import Derived.Test.YtlakkaamfadipaaGreatDoorB20
import Derived.Test.YtlakkaamfadipaaGreatDoorB27
set_option linter.all false
set_option maxHeartbeats 4000000

namespace Go.Proofs.Tryz
open Go Go.Pm Go.Bt Go.RowKit
def Rl:(prog.info? 61).map (λi=>(i.zero.map (λz=>z.cells.size),i.size,i.bytes))=some (some 3,3,32):=by kernel_rfl
def ZR{w:bD}{J:ak}{μ:Mem}{x:V}{v:Value}(h:VR w J μ x v)(a:x.pure=true):v.oneCell'=true:=by
 cases h<;>first|rfl|simp[V.pure]at a
def adb{w:bD}{J:ak}{μ:Mem}{sz:Nat}{rows:dF}{v:Value}(y:0<sz)(h:VR w J μ (.sl sz rows) v):
  ((∃a,v=.slice a 0 0)/\rows=[])\/∃b o g vals,v=.slice (some ⟨b,o,none⟩) rows.length g/\rows.length<=maxLen/\vals.length=rows.length*sz/\(∀j u,vals[j]?=some u->w.cell? ⟨b,o+j,none⟩=some u)/\(∀u∈vals,u.oneCell'=true)/\kN w J μ rows sz vals:=by
 generalize c:V.sl sz rows=x at h;cases h with
 |K4 m =>
  simp only[V.sl.injEq]at c;exact .inl ⟨⟨_,rfl⟩,c.2⟩
 |sle m a =>
  simp only[V.sl.injEq]at c;exact .inl ⟨⟨_,rfl⟩,c.2⟩
 |sl m L b o g f l I t z C =>
  simp only[V.sl.injEq]at c;obtain⟨rfl,rfl⟩:=c;refine .inr ⟨b,o,g,(List.range (rows.length*sz)).map λk=>f (k / sz) (k % sz),rfl,cu l I,by simp,λj u p=>?_,λu B=>?_,t,λi j x c=>?_⟩
  .rw[ck,aF]at p;obtain⟨k,F,rfl⟩:=p;have A:=ah.1 F;simp only[List.length_range,List.getElem_range]at A;obtain⟨s,rfl⟩:=A;have e:j / sz<rows.length:=td (by rw[kD];exact s);have n:j % sz<sz:=tc _ y;have d:=t rows[j / sz] (dC e);have q:gj rows (j / sz) (j % sz)=some (rows[j / sz][j % sz]'(by rw[d];exact n)):=by simp[gj,e,d,n]
   have:=(z _ _ _ q).1
   rwa [iW,Nat.div_add_mod']at this
  .rw[bF]at B;obtain⟨j,p,rfl⟩:=B;rw[eC]at p;have e:j / sz<rows.length:=td (by rw[kD];exact p);have n:j % sz<sz:=tc _ y;have d:=t rows[j / sz] (dC e);have q:gj rows (j / sz) (j % sz)=some (rows[j / sz][j % sz]'(by rw[d];exact n)):=by simp[gj,e,d,n]
   exact ZR (C _ _ _ q) (z _ _ _ q).2.2
  .have H:=z i j x c
   have e:i<rows.length/\j<sz:=by
    simp only[gj]at c;cases d:rows[i]? with
    |none=>rw[d]at c;simp at c
    |some r =>
     rw[d]at c;have E:=(ah.1 d).1;have s:=(ah.1 (show r[j]?=some x from c)).1;rw[t r (bE d)]at s;exact⟨E,s⟩
   refine⟨H.2.2,f i j,?_,C i j x c⟩
   have D:i*sz+j<rows.length*sz:=by
    have:(i+1)*sz<=rows.length*sz:=bI _ e.1;rw[cJ,ir]at this;omega
   rw[ck,ax (by simpa using D)];simp only[List.getElem_range,cL,ae];have K:(i*sz+j) / sz=i:=by rw[kD,Nat.mul_add_div y,Nat.div_eq_of_lt e.2];rfl
   have G:(i*sz+j) % sz=j:=by rw[kD,Nat.mul_add_mod,HI e.2]
   rw[K,G]
 |_=>simp at c
def OD{T n by':Nat}(h:(prog.info? T).map (λi=>(i.zero.map (λz=>z.cells.size),i.size,i.bytes))=some (some n,n,by')):∃i z,prog.info? T=some i/\i.zero=some z/\i.size=n/\i.bytes=by'/\z.cells.size=n:=by
 cases c:prog.info? T with
 |none=>rw[c]at h;simp at h
 |some i =>
  rw[c]at h;simp only[cL,ae,aQ]at h;obtain⟨a,d,e⟩:=h;cases b:i.zero with
  |none=>rw[b]at a;simp at a
  |some z =>
   rw[b]at a;simp only[cL,ae]at a;exact⟨i,z,rfl,b,d,e,a⟩
set_option maxRecDepth 100000 in
def R0{P:bo}{b:Shelf.Ren}(L:SlLaysE0.n41 P b)(d:TypeInfo)(z:Value)(size bytes:Nat)(hi:P.info? (b.t 23)=some d)(x:d.zero=some z)(o:d.size=size)(D:d.bytes=bytes)(s:z.cells.size=size)(A:0<size)
  (u:∀w,(Go.sizeOf (b.t 23)).run P w=.ok size w) (a:Addr) (w:bD) :
  Calls P (b.f 41) #[.slice (some a) 0 0] w λe w'=>∃v',e=.returned v'/\w'.ownsRow w.heap.size (b.t 23) size v' 0 []/\Below w.heap.size w w':=by
 have mixed:=L.mixed;have F:=L.t4;have H:=L.a4;have G:=L.z4;have I:=L.v4;have g:=L.t22;have C:=L.a22;have p:=L.z22;have y:=L.v22;have q22:∀(w:bD) (a:Option Addr) (n c j l:Nat),(binOp .eql (b.t 22) (.slice a n c) (.slice none j l)).run P w=.ok (.bool a.isNone) w:=λw a n c j l=>Lib.run_eql_slice_nil w _ _ a n c j l L.t22;have B:∀w,Sem.run P (underlying (b.t 22)) w=.ok (TypeDesc.slice (b.t 23)) w:=run_underlying g;obtain⟨_,_,q⟩:=L.f41
 go_enter q,SlBodyN.n41_ntmps b
 go_wp2_with (at_builtin;refine wpList_append_own _ rfl _ _ (b.t 22) rfl w.heap.size (b.t 23) d z size bytes g hi x o D s A _ _ _ rfl (World.ownsRow_made w #[] 0 (aD _) (fA _) (by simp)) a 0 0 [] rfl (by simp) (by simp) (by simp) (by simp) (by simp) (by simp) ?_)
 intro v' E v m _
 go_wp2
 go_ret
 exact⟨v',rfl,by simpa using v,((Below.refl _ w).alloc (aD _) _).grown m (by simp) (by intro k r;simp[Value.ownBlock]at r;omega)⟩
def ab2{f E sz by':Nat}{rows:dF}(A:0<sz)(H:(prog.info? E).map (λi=>(i.zero.map (λz=>z.cells.size),i.size,i.bytes))=some (some sz,sz,by'))
  (h:rows.length*by'<=140737488355328)
  (G:∀w,Calls prog f #[.slice none 0 0] w λe w'=>e=.returned (.slice none 0 0)/\w'=w)
  (t:∀(a:Addr) (w:bD),Calls prog f #[.slice (some a) 0 0] w λe w'=>∃v',e=.returned v'/\w'.ownsRow w.heap.size E sz v' 0 []/\Below w.heap.size w w')
  (p:∀(l:TypeInfo) (z:Value),prog.info? E=some l->l.zero=some z->l.size=sz->l.bytes=by'->z.cells.size=sz->(∀w,(Go.sizeOf E).run prog w=.ok sz w)->∀(b off n c:Nat) (news:List Value) (w:bD),news.length=n*sz->n<=maxLen->n*by'<=140737488355328 ->
   (∀j u,news[j]?=some u->w.cell? ⟨b,off+j,none⟩=some u)->(∀u∈news,u.oneCell'=true) ->
   Calls prog f #[.slice (some ⟨b,off,none⟩) n c] w λe w'=>∃v',e=.returned v'/\w'.ownsRow w.heap.size E sz v' n news/\v'≠.slice none 0 0/\Below w.heap.size w w')
  (J:ak):bM prog f [.sl sz rows] J (.sl sz rows):=by
 obtain⟨i,z,s,x,g,k,y⟩:=OD H;refine PC.ahh (E:=E) (by':=by') ⟨A,i,z,s,x,g,k,y⟩ λB Q w P v R C=>?_;have D:=C.2 0 _ rfl;have e:v=#[v.getD 0 undef]:=vs1 C.1;rw[e];rcases adb A D with⟨⟨a,m⟩,K⟩|⟨b,o,q,d,m,M,I,O,r,N⟩
 .rw[m];subst K;cases a with
  |none =>
   refine(G w).mono ?_;rintro e w' ⟨rfl,rfl⟩;exact⟨_,[],rfl,World.ownsRow_nil w' _ _ _,Below.refl _ _,by simp,by simp[gj]⟩
  |some a =>
   refine(t a w).mono ?_;rintro e w' ⟨v',rfl,g,k⟩;exact⟨_,[],rfl,g,k,by simp,by simp[gj]⟩
 .rw[m];refine(p i z s x g k y (λw=>by simp[sizeOf,run_typeInfo w s,g]) b o _ q d w I M h O r).mono ?_;rintro e w' ⟨v',rfl,L,_,F⟩;exact⟨_,d,rfl,L,F,N⟩
def Cy(xs:List It)(l:xs.length<2^40)(J:ak):bM prog 134 [.sl 3 (xs.map It.awa)] J (.sl 3 (xs.map It.awa)) :=
 ab2 (by decide) Rl (by rw[ag];omega) (λw=>AnyE.slices_Clone_nil Tryz.Ky 0 0 w)
  (λa w=>by
   obtain⟨i,z,e,k,f,g,j⟩:=OD Rl;exact R0 Tryz.Ky i z 3 32 e k f g j (by decide) (show ∀w,(Go.sizeOf 61).run prog w=.ok 3 w from λw=>by simp[sizeOf,run_typeInfo w e,f]) a w)
  (λi z e k f g j q b o n c d w m r p s h=>AnyE.slices_Clone Tryz.Ky i z 3 32 e k f g j (by decide) q b o n c d w m r p s h) J
structure KQ (e:En) (l:List Pn) (q:Qr):Prop where
 sc:UB e l q
 e1:e.awc.length<=1048576
 e2:bd e.awc<=1048576
 q1:q.awc.length<=1048576
 q2:bd q.awc<=1048576
def KQ.te{e:En}{l:List Pn}{q:Qr}(h:KQ e l q):(dz e.awc).length<2^27:=by
 have:=tx e.awc;have:=h.e1;have:=h.e2;omega
def KQ.tq{e:En}{l:List Pn}{q:Qr}(h:KQ e l q):(dz q.awc).length<2^27:=by
 have:=tx q.awc;have:=h.q1;have:=h.q2;omega
def aeg(n:Int)(h0 : -9223372036854775808<=n)(h1:n<=9223372036854775807)(J:ak):bM prog 240 [.I n] J (.s (Lib.itoa n)):=by
 refine PC.Tn λB p w o j m b=>?_;have i:=(b.2 0 _ rfl).iF;have d:j=#[.int .i64 n]:=by rw[vs1 b.1,i]
 have f:(prog.globalNamed "internal/strconv.uint64pow10").isSome=true:=by kernel_rfl
 obtain⟨g,h⟩:=pB.1 f;have a:=m.tab (t:=("internal/strconv.uint64pow10",.u64,IY)) (by simp[ac6]) h;rw[W8]at a;refine⟨_,?_,λc=>aeh n h0 h1⟩;rw[d];refine(Tryz.strconv_Itoa n h0 h1 w a).mono ?_;rintro e c ⟨l,k,os,rfl⟩;exact⟨l,OP w k os⟩
def adI{n:Nat}{J ext:ak}{K:bl}(s:aG)(j:s.length<2^40):∀(rest pre b:aG) (g:Nat),s=pre++rest->b.length+4*rest.length<2^42 ->
  ((fh (.own J.length (g+rest.length)) (fj 59 fo)) λE=>K (.exit 0) ⟨E,J++(.row 5 1 1 (g+rest.length) false (gp (b++rest.flatMap du))::ext)⟩) ->
  fm n prog I3 K (rest.length+1) ⟨(.own J.length g::.s s::uu 3 (.I pre.length::uu 54 [])),J++(.row 5 1 1 g false (gp b)::ext)⟩:=by
 intro rest
 induction rest with
 |nil =>
  intro pre b g m z o;have m:=cN m
  subst m;refine ar λR d=>?_;simp only[I3,W,seval];simp only[nP,bL,al,de]at o;exact⟨λh=>by simp at h,λ_=>o ..⟩
 |cons c rest ih =>
  intro pre b g m z o;subst m
  have l:=dh pre c (by simp at j;omega)
  have w:pre++c::rest=(pre++[c])++rest:=by simp
  simp only[ai]at z
  have next:∀(t:aG),du c=t->t.length<=4->∀{R:ca} {x:aB},(∀q,fm n prog I3 K (rest.length+1) q->R q) ->
    oJ x (.own J.length (g+1)::.s (pre++c::rest)::uu 3 (.I (pre++[c]).length::uu 54 []))->R ⟨x,J++(.row 5 1 1 (g+1) false (gp (b++t))::ext)⟩:=by
   intro t A F R x d D;have C:b++(c::rest).flatMap du=(b++t)++rest.flatMap du:=by simp[A]
   have B:g+(c::rest).length=(g+1)+rest.length:=by simp;omega
   rw[C,B]at o;refine d _ ?_;exact aK D (ih (pre++[c]) (b++t) (g+1) w (by simp;omega) o)
  have a:∀n:Nat,n<=4->((gp b).length+n)*1<=2^47/\(gp b).length+n<=maxLen:=λn G=>by simp only[il,maxLen];omega
  have r:∀(t:aG),gp b++gp t=gp (b++t):=λt=>nc;refine ar λR d=>?_;simp only[I3,VV,seval];refine⟨λ_=>⟨by simp;omega,?_⟩,λh=>by simp at h<;>omega⟩;refine aw (Qu c _) rfl ?_;cases p:qM c with
  |true =>
   simp only[VV,seval];refine⟨a 1 (by omega),?_⟩;rw[show gp b++[[V.i .u8 c.toNat]]=gp (b++[c])from r [c]];refine next [c] (by simp[du,p]) (by simp) d ?_
   rw[l];repeat' constructor
  |false =>
   by_cases c10:c=10
   .simp only[Wq (k:=10) c10 rfl,VV,seval];refine⟨a 2 (by omega),?_⟩;rw[show gp b++[[V.i .u8 92],[V.i .u8 110]]=gp (b++[92,110])from r [92,110]];refine next [92,110] (by simp only[du,p,az c10];rfl) (by simp) d ?_
    rw[l];repeat' constructor
   by_cases e:c=9
   .simp only[xN (k:=10) c10 rfl,Wq (k:=9) e rfl,VV,seval];refine⟨a 2 (by omega),?_⟩;rw[show gp b++[[V.i .u8 92],[V.i .u8 116]]=gp (b++[92,116])from r [92,116]];refine next [92,116] (by simp only[du,p,an c10,az e];rfl) (by simp) d ?_
    rw[l];repeat' constructor
   by_cases f:c=92\/c=60\/c=123
   .have y:((((c.toNat:Int)==92)||((c.toNat:Int)==60))||((c.toNat:Int)==123))=true:=by
     rcases f with h|h|h<;>rw[h]<;>rfl
    simp only[xN (k:=10) c10 rfl,xN (k:=9) e rfl,y,VV,seval];refine⟨a 2 (by omega),?_⟩;rw[show gp b++[[V.i .u8 92],[V.i .u8 c.toNat]]=gp (b++[92,c])from r [92,c]];refine next [92,c] (by simp only[du,p,an c10,an e,az f];rfl) (by simp) d ?_
    rw[l];repeat' constructor
   .have y:((((c.toNat:Int)==92)||((c.toNat:Int)==60))||((c.toNat:Int)==123))=false:=by
     rw[xN (k:=92) (λh=>f (.inl h)) rfl,xN (k:=60) (λh=>f (.inr (.inl h))) rfl,xN (k:=123) (λh=>f (.inr (.inr h))) rfl];rfl
    have u:=anA c;have v:=anz c;simp only[xN (k:=10) c10 rfl,xN (k:=9) e rfl,y,u.2.2,v.2.2,VV,Int.reduceBEq,Int.reduceBNe,Nat.reduceAdd,Nat.reduceSub,Nat.reduceLeDiff,Nat.reduceEqDiff,Int.reduceToNat,reduceIte,reduceCtorEq];refine⟨by simp,by simpa using⟨u.1,u.2.1⟩,by simpa using⟨v.1,v.2.1⟩,a 4 (by omega),?_⟩;rw[show gp b++[[V.i .u8 92],[V.i .u8 120],[V.i .u8 (gn (c.toNat / 16)).toNat],[V.i .u8 (gn (c.toNat % 16)).toNat]]=gp (b++[92,120,gn (c.toNat / 16),gn (c.toNat % 16)])from r [92,120,gn (c.toNat / 16),gn (c.toNat % 16)]];refine next [92,120,gn (c.toNat / 16),gn (c.toNat % 16)] (by simp only[du,p,an c10,an e,an f];rfl) (by simp) d ?_
    rw[l];repeat' constructor
def LV(b s:aG)(g:Nat)(a:b.length+4*s.length<2^42)(J ext:ak):PC prog 241 [.own J.length g,.s s] (J++(.row 5 1 1 g false (gp b)::ext))
  (λr J'=>r=.own J.length (g+s.length)/\J'=J++(.row 5 1 1 (g+s.length) false (gp (b++s.flatMap du))::ext)):=by
 refine aZ func241 ak6.2 λd c=>au ?_;simp only[ak6,SS,seval];simp only[W,seval];refine bZ.aK ?_ (s.length+1) (adI s (by omega) s [] b g rfl a ?_)
 .repeat' constructor
 .simp only[JE];intros;simp only[W,seval];exact fH (.inr rfl) rfl (Wk.refl _ _) rfl ⟨rfl,rfl⟩
def adO{J:ak}{K:bl}(a:List It)(v:cn J)(f:a.length<2^40)(r:∀x∈a,-9223372036854775808<=x.id/\x.id<=9223372036854775807)(y:∀x∈a,1<=x.awb/\x.awb<=5):
  ∀(rest pre:List It) (b:aG) (g:Nat),a=pre++rest->b.length+4*bd rest+40*rest.length<2^42 ->
  (∀g,((fj 5 (fh (.own J.length g) (fj 69 fo))) λw=>K (.exit 0) ⟨w,J++[.row 5 1 1 g false (gp (b++rest.flatMap cK))]⟩)) ->
  fm J.length prog I4 K (rest.length+1) ⟨(uu 5 (.own J.length g::uu 8 (.sl 3 (a.map It.awa)::.I a.length::.I pre.length::uu 58 []))),J++[.row 5 1 1 g false (gp b)]⟩:=by
 intro rest
 induction rest with
 |nil =>
  intro pre b g k s e;have k:=cN k
  subst k;refine ar λR d=>?_;simp only[I4,W,seval];simp only[nP,bL]at e;exact⟨λh=>by simp at h,λ_=>e g ..⟩
 |cons x rest ih =>
  intro pre b g k s e;subst k
  have i:=dh pre x (by simp at f;omega)
  have p:pre++x::rest=(pre++[x])++rest:=by simp
  simp only[bd,ai]at s;have m:=r x (by simp);have D:=y x (by simp);have C:=Lib.itoa_length_le x.id m.1 m.2
  have next:∀(t:aG) (l:Nat) {o:Ob},cK x=t->t.length<=4*x.awd.length+30->∀{R:ca} {q:aB},(∀j,fm J.length prog I4 K (rest.length+1) j->R j) ->
    oJ q (uu 5 (.own J.length l::uu 8 (.sl 3 ((pre++x::rest).map It.awa)::.I (pre++x::rest).length::.I (pre++[x]).length::uu 58 [])))->R ⟨q,J++[.row 5 1 1 l false (gp (b++t)),o]⟩:=by
   intro t l o u E R q d B;have A:b++(x::rest).flatMap cK=(b++t)++rest.flatMap cK:=by simp[u]
   rw[A]at e;refine d _ (cG [_] [_] (cC v (by simp)) B ?_ (ih (pre++[x]) (b++t) l p (by simp;omega) e));simp only[LW,ai,al,aY];omega
  have c:∀n:Nat,n<=x.awd.length+30->((gp b).length+n)*1<=2^47/\(gp b).length+n<=maxLen:=λn z=>by simp only[il,maxLen];omega
  have awk:∀n:Nat,n<=x.awd.length+30->n<=maxLen:=λn z=>by simp only[maxLen];omega
  refine ar λR d=>?_;simp only[I4,It.awa,VV,seval];refine⟨λ_=>⟨by simp;omega,?_⟩,λh=>by simp at h<;>omega⟩;refine aw (aeg x.id m.1 m.2 _) rfl ?_;rcases(by omega:x.awb=1\/x.awb=2\/x.awb=3\/x.awb=4\/x.awb=5)with h|h|h|h|h
  .simp only[h,VV,seval];refine aw (LV b x.awd g (by omega) J [_]) rfl ?_;simp only[VV,seval];refine next (x.awd.flatMap du) (g+x.awd.length) (by simp only[cK,h,aT]) (by have:=MZ x.awd;omega) d ?_
   rw[i];repeat' constructor
  .simp only[h,VV,seval];refine⟨awk _ (by omega),awk _ (by omega),awk _ (by simp;omega),awk _ (by simp;omega),c _ (by simp only[il,ai,aj,al];omega),?_⟩;rw[nc];refine next (60::(Lib.itoa x.id++58::(x.awd++[62]))) (g+1) (by simp[cK,h]) (by simp;omega) d ?_
   rw[i];repeat' constructor
  .simp only[h,VV,seval];refine⟨awk _ (by omega),awk _ (by simp;omega),awk _ (by simp;omega),awk _ (by simp;omega),c _ (by simp only[il,ai,aj,al];omega),?_⟩;rw[nc];refine next (60::47::(Lib.itoa x.id++58::(x.awd++[62]))) (g+1) (by simp[cK,h]) (by simp;omega) d ?_
   rw[i];repeat' constructor
  .simp only[h,VV,seval];refine⟨awk _ (by omega),awk _ (by omega),awk _ (by simp;omega),awk _ (by simp;omega),c _ (by simp only[il,ai,aj,al];omega),?_⟩;rw[nc];refine next (60::(Lib.itoa x.id++58::(x.awd++[47,62]))) (g+1) (by simp[cK,h]) (by simp;omega) d ?_
   rw[i];repeat' constructor
  .simp only[h,VV,seval];refine⟨awk _ (by omega),awk _ (by first|omega|(simp;omega)),c _ (by simp only[il,ai,aj,al];omega),?_⟩;rw[nc];refine next (123::(x.awd++[125])) (g+1) (by simp[cK,h]) (by simp;omega) d ?_
   rw[i];repeat' constructor
def Yd(a:List It)(c:a.length<2^30)(i:bd a<2^30)(b:∀x∈a,-9223372036854775808<=x.id/\x.id<=9223372036854775807)(J:ak):bM prog 199 [.sl 3 (a.map It.awa)] J (.iQ [.s (aww a).1,.I (aww a).2]):=by
 refine aZ func199 alu.2 λd f=>au ?_;simp only[alu,SS,seval];simp only[VV,seval];refine aw (qE a _) rfl ?_;simp only[ag,VV,seval];refine⟨λh=>?_,λh=>?_⟩
 .have h:cd a≠0:=by simpa using h
  exact aO (.inr rfl) rfl ⟨by simp only[aww,h,aT,fc,cP];rfl,rfl⟩
 .have h:cd a=0:=by simpa using h
  have e:aww a=(a.flatMap cK,0):=by simp only[aww,h,fc,eN,aS]
  rw[e];refine bZ.wk ((Wk.ij (k:=5) Zj rfl).trans (Wk.fg ?_)) (bZ.uh (a.length+1) (adO a d (by omega) b (qy h) a [] [] 0 rfl (by simp only[al];omega) ?_))
  .simp only[W,seval]
   repeat' constructor
  .intro g;simp only[JE];intros;simp only[sf,bc,W,seval];exact bg d (.inr rfl) rfl (by simp[LW]) ⟨rfl,rfl⟩
def rV(e:En)(c:e.awk)(J:ak):bM prog 66 [.agg e.awa] J (.I (cj e)):=by
 refine aZ func66 p66.2 λa m=>au ?_;simp only[p66,SS,seval];simp only[En.awa,VV,seval];refine aw (qE e.awc _) rfl ?_;simp only[VV,seval];refine⟨λh=>?_,λh=>?_⟩
 .have h:cd e.awc≠0:=by simpa using h
  exact bg a (.inr rfl) rfl (by simp[LW]) ⟨by simp only[cj,h,aT,fc,cP];rfl,rfl⟩
 have i:cd e.awc=0:=by simpa using h
 refine aw (qE e.awf _) rfl ?_;simp only[VV,seval];refine⟨λh=>?_,λh=>?_⟩
 .have h:cd e.awf≠0:=by simpa using h
  refine bg a (.inr rfl) rfl (by simp[LW]) ⟨?_,rfl⟩;simp only[cj,i,h,aT,fc,cP,eN,aS];rfl
 have j:cd e.awf=0:=by simpa using h
 refine aw (O6 e.awc e.awf (by have:=c.awc;omega) (by have:=c.awf;omega) (by have:=c.nU;omega) (by have:=c.HN;omega) _) rfl ?_;simp only[ag,VV,seval];refine bB (by simp only[VV,seval]<;>rfl) (λ_=>GW (gK e.awc e.awf) e.awc _) rfl ?_;simp only[VV,seval];refine bB (by simp only[VV,seval]<;>rfl) (λ_=>GW (iq e.awc e.awf) e.awf _) rfl ?_;simp only[VV,seval]
 have f:oe e=!((((e.awc.length:Int)==0)||!gL (gK e.awc e.awf) e.awc)||!gL (iq e.awc e.awf) e.awf):=by
  have:((e.awc.length:Int)==0)=(e.awc.length==0):=by rw[cB];simp
  simp only[oe,this];cases(e.awc.length==0)<;>cases gL (gK e.awc e.awf) e.awc<;>cases gL (iq e.awc e.awf) e.awf<;>rfl
 refine⟨λh=>?_,λh=>?_⟩
 .rw[h]at f;refine bg a (.inr rfl) rfl (by simp[LW]) ⟨?_,rfl⟩;simp only[cj,i,j,f,fc,eN,aS];rfl
 rw[h]at f
 have d:cj e=if(parse e.bU).2.2≠0 then(parse e.bU).2.2 else if(parse e.next).2.2≠0 then(parse e.next).2.2 else
   if(named e.c8&&named e.cA)=false then 4 else if e.awh<0\/1073741824<e.awh\/e.awq<1\/3<e.awq then 1 else 0:=by
  simp only[cj,i,j,f,fc,eN,aS];rfl
 refine aw (pG e.bU (by have:=c.bU;omega) _) rfl ?_;simp only[VV,seval];refine⟨λh=>?_,λh=>?_⟩
 .have h:(parse e.bU).2.2≠0:=by simpa using h
  rw[d,az h];exact bg a (.inr rfl) rfl (by simp[LW]) ⟨rfl,rfl⟩
 have k:¬(parse e.bU).2.2≠0:=by simpa using h
 refine aw (pG e.next (by have:=c.next;omega) _) rfl ?_;simp only[VV,seval];refine⟨λh=>?_,λh=>?_⟩
 .have h:(parse e.next).2.2≠0:=by simpa using h
  rw[d,an k,az h];exact bg a (.inr rfl) rfl (by simp[LW]) ⟨rfl,rfl⟩
 have l:¬(parse e.next).2.2≠0:=by simpa using h
 rw[an k,an l]at d;refine bB (by simp only[VV,seval]<;>rfl) (λ_=>pH e.c8 _) rfl ?_;simp only[VV,seval];refine bB (by simp only[VV,seval]<;>rfl) (λ_=>pH e.cA _) rfl ?_;simp only[VV,seval]
 have g:((!e.c8==[]&&!awj e.c8)||(!e.cA==[]&&!awj e.cA))=!(named e.c8&&named e.cA):=by
  simp only[named];cases e.c8==[]<;>cases e.cA==[]<;>cases awj e.c8<;>cases awj e.cA<;>rfl
 rw[g];refine⟨λh=>?_,λh=>⟨λb=>?_,λb=>?_⟩⟩
 .have h:(named e.c8&&named e.cA)=false:=by rw[dm]at h;exact h
  rw[d,az h];exact bg a (.inr rfl) rfl (by simp[LW]) ⟨rfl,rfl⟩
 .have h:¬(named e.c8&&named e.cA)=false:=by rw[dQ]at h;rw[h];simp
  have b:e.awh<0\/1073741824<e.awh\/e.awq<1\/3<e.awq:=by
   simp at b;omega
  rw[d,an h,az b];exact bg a (.inr rfl) rfl (by simp[LW]) ⟨rfl,rfl⟩
 .have h:¬(named e.c8&&named e.cA)=false:=by rw[dQ]at h;rw[h];simp
  have b:¬(e.awh<0\/1073741824<e.awh\/e.awq<1\/3<e.awq):=by
   simp at b;omega
  rw[d,an h,an b];exact bg a (.inr rfl) rfl (by simp[LW]) ⟨rfl,rfl⟩
def Tv(e:En)(a:e.awk)(J:ak):bM prog 130 [.agg e.awa] J (.s (cq e)):=by
 refine aZ func130 amb.2 λc f=>au ?_;simp only[amb,SS,seval];simp only[En.awa,VV,seval];refine aw (Yd e.awc a.awc a.nU (λx b=>a.ids x (by simp[b])) _) rfl ?_;simp only[VV,seval];have d:=zI e.awc a.awc a.nU (λx b=>a.ids x (by simp[b]));have h:=a.bU;have g:=a.next;refine⟨by simp[maxLen];omega,by simp[maxLen];omega,by simp[maxLen];omega,by simp[maxLen];omega,?_⟩;refine bg c (.inr rfl) rfl (by simp[LW]) ⟨?_,rfl⟩;simp[Pm.one,cq]
def FL(e:En)(b:e.awk)(J:ak):bM prog 67 [.agg e.awa] J (.s (aN e)):=by
 refine aZ func67 p67.2 λa c=>au ?_;simp only[p67,SS,seval];simp only[En.awa,VV,seval];refine aw (rV e b _) rfl ?_;simp only[VV,seval];refine⟨λh=>?_,λh=>?_⟩
 .have h:cj e≠0:=by simpa using h
  exact bg a (.inr rfl) rfl (by simp[LW]) ⟨by simp only[aN,h,aT,fc,cP];rfl,rfl⟩
 .have h:¬cj e≠0:=by simpa using h
  refine aw (Tv e b _) rfl ?_;simp only[VV,seval];exact bg a (.inr rfl) rfl (by simp[LW]) ⟨by simp only[aN,an h];rfl,rfl⟩

set_option maxRecDepth 4000
set_option maxHeartbeats 1000000
def me(E:Nat×Nat×Nat)(J:ak)(L:List LE)(a:List (GK×(Nat×Nat)))(b:List (TK×(Nat×Nat)))(next:Int)(g:Nat)(M:List dM)(T:ak):ak :=
 ur E J L a b (LO J.length (.own (J.length+5) g) next) (jK g M::T)
def ag0:Ti prog 108 11 176:=qJ (by kernel_rfl)
def BJ(J:ak):PC prog 26 [] J (λr J'=>r=.ptr (J.length+4) 0/\J'=me ix0 J [] [] [] 0 0 [] []):=by
 refine aZ func26 p26.2 λb a=>au ?_;simp only[p26,SS,seval];simp only[VV,seval];refine aw (XO _) rfl ?_;simp only[VV,seval];refine fH (.inr rfl) (by simp only[RS,seval];rfl) (Wk.Kf (id:=J.length+4) (j:=1) (cs:=[.ptr (J.length+3) 0,.nil,.I 0]) (T:=105) ag0 (by simp) rfl) rfl ⟨rfl,?_⟩;simp[me,ur,LO,jK,Dg,emap]
def Kx(e:En)(h1:e.awc.length<2^40)(a:e.awf.length<2^40)(J:ak):bM prog 69 [.agg e.awa] J (.agg e.awa):=by
 refine aZ func69 p69.2 λb c=>au ?_;simp only[p69,SS,seval];simp only[En.awa,VV,seval];refine aw (Cy e.awc h1 _) rfl ?_;simp only[VV,seval];refine aw (Cy e.awf a _) rfl ?_;simp only[V.pure,VV,seval];exact bg b (.inr rfl) (by simp only[RS,seval];rfl) (by simp[LW]) ⟨rfl,rfl⟩
def EI{E:Nat×Nat×Nat}(J:ak)(L:List LE)(a:List (GK×(Nat×Nat)))(c:List (TK×(Nat×Nat)))(next:Int)(g:Nat)(M:List dM)(T:ak)(h:kK M)(e:M.length<2^30)(k:aG)(X:ak):
  PC prog 68 [.ptr (J.length+4) 0,.s k] (me E J L a c next g M T++X) (λr J'=>r=.iQ [.I (fN M k),.b (decide (k∈M.map dM.key))]/\J'=me E J L a c next g M T++X):=by
 refine aZ func68 p68.2 λj i=>au ?_;simp only[p68,SS,seval];have d:(me E J L a c next g M T++X)[J.length+4]?=some (LO J.length (.own (J.length+5) g) next):=by simp[me,ur]
 have f:(me E J L a c next g M T++X)[J.length+5]?=some (jK g M):=by simp[me,ur]
 generalize me E J L a c next g M T++X=S at *
 simp only[LO]at d;simp only[d,VV,seval];refine aw (ajf M h k (J.length+5) g e S f) rfl ?_;simp only[VV,seval];exact fH (.inr rfl) rfl (Wk.refl _ _) rfl ⟨rfl,rfl⟩
def TO(l:List dM)(x:dM)(id g:Nat)(b:l.length<2^30)(J:ak)(h1:J[id]?=some (jK g l)):
  PC prog 71 [.own id g,.I l.length,.sl 11 [x.awa]] J (λr J'=>r=.own id (g+1)/\J'=J.set id (jK (g+1) (l++[x]))):=by
 refine aZ func71 p71.2 λc a=>au ?_;simp only[jK]at h1;simp only[p71,SS,seval];simp only[h1,ag,VV,Int.reduceBEq,Int.reduceBNe,Nat.reduceAdd,Nat.reduceSub,Nat.reduceLeDiff,Nat.reduceEqDiff,Int.reduceToNat,reduceIte,reduceCtorEq];refine⟨⟨by omega,by omega⟩,λh=>by simp at h,λ_=>⟨⟨by omega,by unfold maxLen;omega⟩,?_⟩⟩;exact fH (.inr rfl) rfl (Wk.refl _ _) rfl ⟨rfl,by simp[jK]⟩
def OE:(prog.info? 108).map (·.size)=some 11:=by kernel_rfl
def FZ(a:Array Value)(n i:Nat)(news:List Value):Array Value :=
 ((a.toList.take (i*11)++news++(a.toList.take (n*11)).drop (i*11))++a.toList.drop ((n+1)*11)).toArray
set_option maxRecDepth 100000 in
def LD(g n c i d b m:Nat)(a:Array Value)(news:List Value)(w:bD)(hi:i<n)(Ey:n+1<=c)(T:c<=9223372036854775807)(l:d≠g)
  (r:w.heap[g]?=some (.cells a 108 (0,0))) (p:a.size=c*11) (Q:news.length=11) (R:∀j v,news[j]?=some v->w.cell? ⟨d,b+j,none⟩=some v)
  (C:∀v∈a.toList.take (n*11),v.oneCell'=true) (s:∀v∈news,v.oneCell'=true)
  (L N:TypeId) (I J:Nat) (x:w.shape? d=some (L,I)) (A:w.shape? g=some (N,J)) (u:J≠0) (V:w.frozen? ⟨d,b,none⟩=false) (D:w.frozen? ⟨d,I,none⟩=false) :
  Calls prog 71 #[.slice (some ⟨g,0,none⟩) n c,.int .i64 i,.slice (some ⟨d,b,none⟩) 1 m] w λe w' =>
   e=.returned (.slice (some ⟨g,0,none⟩) (n+1) c)/\w'=w.drew.setRow g (FZ a n i news):=by
 have t:∀E B,(callFunc 136 #[.slice (some ⟨d,b,none⟩) 1 m,.slice (some ⟨g,(i+1)*11,none⟩) E B]).run prog w=.ok (.value (.bool false)) w:=λE B=>by
  rw[run_callFunc_extern func136 (by kernel_rfl) (by kernel_rfl) (by kernel_rfl) (e:=Extern.SlicesOverlaps.overlaps #[103,103] #[4]) (by kernel_rfl),
   Lib.run_overlaps_apart w 103 4 108 underlying103 11 (λw=>Tryz.sizeOf108 w) ⟨d,b,none⟩ ⟨g,(i+1)*11,none⟩ 1 m E B l L N I J x A u V D]
  rfl
 have HU:IntKind.i64.wrap ((i:Int)+1)=(i:Int)+1:=by rw[IntKind.wrap_i64];omega
 have wx:IntKind.i64.wrap ((n:Int)+1)=(n:Int)+1:=by rw[IntKind.wrap_i64];omega
 have Rp:¬((i:Int)=(n:Int)):=by omega
 have yQ:(0:Int)<=(i:Int)+1:=by omega
 have ku:i<=n:=by omega
 have JH:((i:Int)+1).toNat=i+1:=by omega
 have aa:((n:Int)+1).toNat=n+1:=by omega
 have mj:¬(c=i+1):=by omega
 have ab:(i:Int)<=(n:Int)+1:=by omega
 have Y:¬(c=i):=by omega
 have M:=underlying103
 have o:((a.toList.take (n*11)).drop (i*11)).length=(n - i)*11:=by
  rw[bA,aP,bh,p,s9];have:n*11<=c*11:=bI _ (by omega);omega
 generalize F:(a.toList.take (n*11)).drop (i*11)=cs at o
 have U:∀j v,cs[j]?=some v->(w.drew).cell? ((⟨g,i*11,none⟩:Addr).add j)=some v:=by
  intro j v k;rw[<- F,db,ee]at k;split at k
  .rw[Addr.add_lit];simp only[World.cell?,show w.drew.heap[g]?=some (.cells a 108 (0,0))from r];simpa using k
  .cases k
 have mixed:prog.follows Departure.mixedOrders=true:=by kernel_rfl
 have H:Nat.min (n+1 - i) (n - i)=n - i:=Nat.min_eq_right (by omega)
 have y:∀h f sc,(Builtin.copy_ #[103,103] h #[.slice (some ⟨g,(i+1)*11,none⟩) (n - i) f,.slice (some ⟨g,i*11,none⟩) (n+1 - i) sc]).run prog w.drew=.ok (goInt (Nat.min (n+1 - i) (n - i):Nat)) (w.drew.setRow g (a.toList.take ((i+1)*11)++cs++a.toList.drop ((i+1)*11+cs.length)).toArray):=λh f sc =>
  Bv w.drew _ _ h 108 g ((i+1)*11) _ f ⟨g,i*11,none⟩ _ sc a 108 cs 11 M OE r (by rw[o,H]) U (by rw[o,p];omega)
   (λv X=>C v (cH (F▸X)))
 generalize P:(a.toList.take ((i+1)*11)++(cs++a.toList.drop ((i+1)*11+(n - i)*11))).toArray=cur1
 have S:cur1.size=c*11:=by
  rw[<- P];simp only[eU,aj,aP,bA,bh,o,p];omega
 have Z:(w.drew.setRow g cur1).heap[g]?=some (.cells cur1 108 (0,0)):=setRow_heap w.drew g a cur1 108 (0,0) r;have z:Nat.min 1 (n+1 - i)=1:=fb (by omega)
 have G:∀h f,(Builtin.copy_ #[103,103] h #[.slice (some ⟨g,i*11,none⟩) (n+1 - i) f,.slice (some ⟨d,b,none⟩) 1 m]).run prog (w.drew.setRow g cur1)=.ok (goInt (Nat.min 1 (n+1 - i):Nat)) ((w.drew.setRow g cur1).setRow g (cur1.toList.take (i*11)++news++cur1.toList.drop (i*11+news.length)).toArray):=λh f =>
  Bv _ _ _ h 108 g (i*11) _ f ⟨d,b,none⟩ _ m cur1 108 news 11 M OE Z (by rw[Q,z]) (λj v k=>by
   rw[Addr.add_lit];have K:=R j v k;simp only[World.cell?,World.setRow,dp,an (YB l)]at K |-;exact K) (by rw[Q,S];omega) s
 go_enter func71,Tryz.ntmps71
 go_wp2_with (simp only[t])
 go_region_law_o (refine step_copy_runI rfl _ _ 103 103 rfl _ _ (by simp[Act.eval,Act.put]) (by simp[Act.eval,Act.put]) (y _ _ _) ?_)
 go_wp2_with (at_builtin;refine wpList_copy_runI _ rfl _ _ 103 103 rfl _ _ rfl rfl (G _ _) ?_)
 go_ret
 refine⟨rfl,?_⟩;rw[setRow_setRow]
 have q:((a.toList.take ((i+1)*11))).length=(i+1)*11:=by
  rw[aP,bh,p];omega
 have O:cur1.toList=a.toList.take ((i+1)*11)++(cs++a.toList.drop ((i+1)*11+(n - i)*11)):=by rw[<- P]
 have W:cur1.toList.take (i*11)=a.toList.take (i*11):=by
  rw[O,dL (by rw[q];omega),lB,fb (by omega)]
 have e3:cur1.toList.drop (i*11+11)=cs++a.toList.drop ((n+1)*11):=by
  rw[O,List.drop_append_of_le_length (by rw[q];omega),KV (by rw[q];omega),bc];congr 2;omega
 rw[W,e3,FZ,F];simp only[bk]
set_option maxRecDepth 100000 in
def OC(g n i o b W:Nat)(a:Array Value)(news:List Value)(w:bD)(hi:i<n)(af:n<=2^30)
  (R:w.heap[g]?=some (.cells a 108 (0,0))) (y:a.size=n*11) (A:news.length=11) (Eu:∀j v,news[j]?=some v->w.cell? ⟨o,b+j,none⟩=some v)
  (P:∀v∈a.toList,v.oneCell'=true) (S:∀v∈news,v.oneCell'=true) (Q:o<w.heap.size) :
  Calls prog 71 #[.slice (some ⟨g,0,none⟩) n n,.int .i64 i,.slice (some ⟨o,b,none⟩) 1 W] w λe w' =>
   ∃(G:Nat) (row:Array Value),e=.returned (.slice (some ⟨w.heap.size,0,none⟩) (n+1) G)/\n+1<=G/\G<=maxLen/\row.size=G*11 /\
    row.toList.take ((n+1)*11)=a.toList.take (i*11)++news++a.toList.drop (i*11)/\w'.heap[w.heap.size]?=some (.cells row 108 (0,0))/\w.grownBy w' none:=by
 obtain⟨i0,z,TW,Pk,YS,D,qF⟩:=OD (T:=108) (n:=11) (by':=176) (by kernel_rfl);have U:=underlying103;have hI:=underlying3;have mixed:prog.follows Departure.mixedOrders=true:=by kernel_rfl
 have J:g<w.heap.size:=(cg.1 R).1
 have l:(Builtin.firstCells i0.size i (.slice (some ⟨g,0,none⟩) i n)).run prog w.drew=.ok (a.toList.take (i*11)).toArray w.drew:=by
  rw[YS]
  exact run_firstCells_some w.drew 11 i ⟨g,0,none⟩ i n (a.toList.take (i*11)) (by rw[aP,bh,y];omega) (λj v f=>by
   rw[Addr.add_lit];rw[ee]at f;split at f
   .simp only[World.cell?,show w.drew.heap[g]?=some (.cells a 108 (0,0))from R];simpa using f
   .cases f)
 have r:i+(n+1 - i)=n+1:=by omega
 have X:(n:Int)+1 - (i:Int)=((n+1 - i:Nat):Int):=by omega
 have p:∀c,(Builtin.append_ #[103,3] c #[.slice (some ⟨g,0,none⟩) i n,.int .i64 ((n:Int)+1 - (i:Int))]).run prog w =
   .ok (.slice (some ⟨w.heap.size,0,none⟩) (n+1) (grownCap w (n+1) n 108)) (w.drew.alloc (.cells ((a.toList.take (i*11)).toArray++Builtin.zeroCells z.cells (n+1 - i)++Builtin.zeroCells z.cells (grownCap w (n+1) n 108 - (n+1))) 108)):=λc=>by
  have h:=Lib.run_append_grow_zeros w 103 3 c 108 i0 z .i64 .i64 U hI TW Pk (some ⟨g,0,none⟩) i n (a.toList.take (i*11)) l (n+1 - i) (by omega) (by omega) (by omega) (by omega) (by rw[D];omega) (by rw[D,r];exact growslice_fits (by omega) (by omega));rw[r]at h;rw[X];exact h
 have E:n+1<=grownCap w (n+1) n 108:=grownCap_ge w _ _ _;have q:grownCap w (n+1) n 108<=maxLen:=grownCap_le_maxLen w _ _ _ (by unfold maxLen;omega);generalize hG:grownCap w (n+1) n 108=G at p E q;have YP:∀k,(Builtin.zeroCells z.cells k).size=k*11:=λk=>by simp[Builtin.zeroCells,qF]
 have d:((a.toList.take (i*11)).toArray++Builtin.zeroCells z.cells (n+1 - i)++Builtin.zeroCells z.cells (G - (n+1))).size=G*11:=by
  rw[sq,sq,YP,YP,eU,aP,bh,y];omega
 have B:((a.toList.take (i*11)).toArray++Builtin.zeroCells z.cells (n+1 - i)++Builtin.zeroCells z.cells (G - (n+1))).toList.take (i*11)=a.toList.take (i*11):=by
  have x:(a.toList.take (i*11)).length=i*11:=by rw[aP,bh,y];omega
  simp only[Sv,bk];rw[dL (by rw[x];exact aD _),bW (by rw[x];exact aD _)]
 generalize O:(a.toList.take (i*11)).toArray++Builtin.zeroCells z.cells (n+1 - i)++Builtin.zeroCells z.cells (G - (n+1))=ROW at p d B;have Rp:¬((i:Int)=(n:Int)):=by omega
 have YQ:(n:Int)<(n:Int)+1:=by omega
 have HU:IntKind.i64.wrap ((i:Int)+1)=(i:Int)+1:=by rw[IntKind.wrap_i64];omega
 have wx:IntKind.i64.wrap ((n:Int)+1)=(n:Int)+1:=by rw[IntKind.wrap_i64];omega
 have aa:IntKind.i64.wrap ((n:Int)+1 - (i:Int))=(n:Int)+1 - (i:Int):=by rw[IntKind.wrap_i64];omega
 have yQ:(0:Int)<=(i:Int)+1:=by omega
 have ku:i<=n:=by omega
 have JH:((i:Int)+1).toNat=i+1:=by omega
 have aE:(i:Int)<=(n:Int):=by omega
 have am:(i:Int)<=(n:Int)+1:=by omega
 have ab:G<=9223372036854775807:=by unfold maxLen at q;omega
 have ad:¬(G=i):=by omega
 have ac:¬(G=i+1):=by omega
 have av:¬(n=i):=by omega
 have L:¬(w.heap.size=g):=by omega
 have ap:¬(w.heap.size=o):=by omega
 have t:(w.alloc (.cells ROW 108)).drew.heap[w.heap.size]?=some (.cells ROW 108 (0,0)):=heap_alloc_new w _;have K:Nat.min 1 (n+1 - i)=1:=fb (by omega);have M:Nat.min (n - i) (n - i)=n - i:=fb (aD _)
 have s:∀c m,(Builtin.copy_ #[103,103] c #[.slice (some ⟨w.heap.size,i*11,none⟩) (n+1 - i) m,.slice (some ⟨o,b,none⟩) 1 W]).run prog (w.alloc (.cells ROW 108)).drew =
   .ok (goInt (Nat.min 1 (n+1 - i):Nat)) ((w.alloc (.cells ROW 108)).drew.setRow w.heap.size (ROW.toList.take (i*11)++news++ROW.toList.drop (i*11+news.length)).toArray):=λc m =>
  Bv _ _ _ c 108 w.heap.size (i*11) _ m ⟨o,b,none⟩ _ W ROW 108 news 11 U OE t (by rw[A,K]) (λj v f=>by
   rw[Addr.add_lit];exact(World.cell?_alloc_past (w:=w) _ o (b+j) Q).trans (Eu j v f)) (by rw[A,d];omega) S
 have V:(ROW.toList.take (i*11)++news++ROW.toList.drop (i*11+news.length)).length=G*11:=by
  simp only[aj,aP,bA,bh,d,A];omega
 generalize u:(ROW.toList.take (i*11)++news++ROW.toList.drop (i*11+news.length)).toArray=RA at s;have C:RA.size=G*11:=by rw[<- u,eU,V]
 have F:((w.alloc (.cells ROW 108)).drew.setRow w.heap.size RA).drew.heap[w.heap.size]?=some (.cells RA 108 (0,0)):=setRow_heap _ w.heap.size ROW RA 108 (0,0) t
 have I:(a.toList.drop (i*11)).length=(n - i)*11:=by
  rw[bA,bh,y,s9]
 have H:∀c m sc,(Builtin.copy_ #[103,103] c #[.slice (some ⟨w.heap.size,(i+1)*11,none⟩) (n - i) m,.slice (some ⟨g,i*11,none⟩) (n - i) sc]).run prog ((w.alloc (.cells ROW 108)).drew.setRow w.heap.size RA).drew =
   .ok (goInt (Nat.min (n - i) (n - i):Nat)) (((w.alloc (.cells ROW 108)).drew.setRow w.heap.size RA).drew.setRow w.heap.size (RA.toList.take ((i+1)*11)++a.toList.drop (i*11)++RA.toList.drop ((i+1)*11+(a.toList.drop (i*11)).length)).toArray):=λc m sc =>
  Bv _ _ _ c 108 w.heap.size ((i+1)*11) _ m ⟨g,i*11,none⟩ _ sc RA 108 (a.toList.drop (i*11)) 11 U OE F (by rw[I,M]) (λj v f=>by
   rw[Addr.add_lit];rw[db]at f
   have h0:(w.alloc (.cells ROW 108)).heap[g]?=some (.cells a 108 (0,0)):=by
    rw[Below.heap_alloc w _ g J];exact R
   have h1:((w.alloc (.cells ROW 108)).drew.setRow w.heap.size RA).drew.heap[g]?=some (.cells a 108 (0,0)):=by
    simp only[World.setRow,World.drew,dp,an L];exact h0
   simp only[World.cell?,h1];simpa using f) (by rw[I,C];omega) (λv hv=>P v (cH hv))
 clear X r l O hG d
 go_enter func71,Tryz.ntmps71
 go_wp2_with (first
  |(at_builtin;refine Lib.wpList_append_run _ rfl _ _ _ _ rfl _ _ rfl rfl _ _ (p _) ?_)
  |(at_builtin;refine wpList_copy_runI _ rfl _ _ 103 103 rfl _ _ rfl rfl (s _ _) ?_))
 go_region_law_o (refine step_copy_runI rfl _ _ 103 103 rfl _ _ (by simp[Act.eval,Act.put]) (by simp[Act.eval,Act.put]) (H _ _ _) ?_)
 go_wp2
 go_ret
 have Z:(a.toList.take (i*11)).length=i*11:=by rw[aP,bh,y];omega
 have e1:RA.toList=a.toList.take (i*11)++(news++ROW.toList.drop (i*11+news.length)):=by rw[<- u,<- B,bk]
 have Y:RA.toList.take ((i+1)*11)=a.toList.take (i*11)++news:=by
  have x:(a.toList.take (i*11)++news).length=(i+1)*11:=by rw[aj,Z,A];omega
  rw[e1,<- List.append_assoc,dL (by rw[x];exact aD _),bW (by rw[x];exact aD _)]
 have N:(RA.toList.take ((i+1)*11)++a.toList.drop (i*11)).length=(n+1)*11:=by
  rw[Y,aj,aj,Z,A,I];omega
 refine⟨G,_,rfl,E,q,?_,?_,setRow_heap _ _ RA _ 108 (0,0) F,?_⟩
 .rw[eU,<- List.append_assoc,aj,N,bA,bh,C];omega
 .show List.take ((n+1)*11) (RA.toList.take ((i+1)*11)++(a.toList.drop (i*11)++RA.toList.drop ((i+1)*11+(n - i)*11)))=_;rw[<- List.append_assoc,dL (by rw[N];exact aD _),bW (by rw[N];exact aD _),Y]
 .refine⟨rfl,rfl,rfl,?_,λk hk _=>?_⟩
  .simp only[World.setRow,World.drew,xL,World.alloc,Array.size_push];omega
  .simp only[World.setRow,World.drew,dp,an (show ¬w.heap.size=k by omega)];exact Below.heap_alloc w _ k hk
end Go.Proofs.Tryz

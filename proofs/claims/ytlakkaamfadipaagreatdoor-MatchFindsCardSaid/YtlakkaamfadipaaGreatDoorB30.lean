/- A part of a proof; the claim's last text says of what. -/
import Derived.Test.YtlakkaamfadipaaGreatDoorB29
set_option linter.all false

set_option maxRecDepth 4000
namespace Go.Proofs.Tryz
open Go Go.Pm Go.Bt Go.RowKit Go.Sort
def pA.rev{α:Type}{c:α->α->Int}(h:pA c):pA λa b=>c b a :=
 ⟨λa b=>h.my b a,λa b d e f=>h.trans d b a f e⟩
def MF(c:Mt->Int):pA (kX c):=by
 have h:=((pA.rev EZ).on (λm:Mt=>m.score)).lex (((pA.rev EZ).on (λm:Mt=>m.iC)).lex (((pA.rev EZ).on c).lex (EZ.on (λm:Mt=>m.awg))))
 have e:kX c=Ow (λa b:Mt=>ox b.score a.score) (Ow (λa b:Mt=>ox b.iC a.iC) (Ow (λa b=>ox (c b) (c a)) λa b=>ox a.awg b.awg)):=by
  funext a b;simp only[kX,AK,Ow]
  (repeat' split)<;>first|rfl|omega
 rw[e];exact h
def crF(M:List dM)(m:Mt):Int:=((M[m.awg.toNat]?).map λs=>s.en.awh).getD 0
def Q2(g:Nat)(out:List Mt):Ob:=.row 44 5 40 g false (out.map Mt.awa)
def UM{W:bD}{k:Value}{m:Mt}(h:VR W [] (λ_=>undef) (.agg m.awa) k):k=.agg #[.int .i64 m.awg,.int .i64 m.iC,.int .i64 m.context,.int .i64 m.points,.int .i64 m.score]:=by
 obtain⟨o,rfl,p,f⟩:=h.mi;have l:=(f 0 _ rfl).iF;have j:=(f 1 _ rfl).iF;have g:=(f 2 _ rfl).iF;have n:=(f 3 _ rfl).iF;have i:=(f 4 _ rfl).iF;obtain⟨q⟩:=o
 match q,p with
 |[a,b,c,d,e],_ =>
  simp[Array.getD]at l j g n i;subst l j g n i;rfl
def Wz(M:List dM)(out:List Mt)(hl:out.length<2^30)(n:∀m∈out,0<=m.awg/\m.awg<M.length)(id g p a C Y:Nat)(x:V)(next:Int)(J:ak)(h1:J[id]?=some (Q2 g out))
  (A:J[p]?=some (.box 47 [.ptr a 0])) (s:J[a]?=some (.box 105 [x,.own C Y,.I next])) (l:J[C]?=some (jK Y M)) :
  PC prog 60 [.own id g,.fn 61 [.ptr p 0]] J (λr J'=>∃K:List Mt,K.Perm out/\K.Pairwise (λx y=>¬kX (crF M) y x<0)/\r=.iQ []/\J'=J.set id (Q2 g K)):=by
 refine PC.Mj Tryz.aj3 (k:=5) Tryz.isAgg44 Tryz.sizeOf44 Mt.awa (λx=>by simp[Mt.awa]) (by omega) (kX (crF M)) (enters_of func61 (by kernel_rfl) rfl) out ?_ (Zm (MF _) out) hl h1;intro B w0 w μ cb f bn T W d hB c P m R m' i vx vy hx hy
 obtain⟨L,rfl⟩:∃L,cb=#[L]:=by
  obtain⟨q⟩:=cb
  match q,bn with
  |[v],_=>exact⟨v,rfl⟩
 have hp:=T 0 _ rfl;simp only[Array.getD,eU,eI,Nat.zero_lt_one,dif_pos]at hp;obtain⟨bb,H,F,_⟩:=hp.wY;have F:L=.pointer (some ⟨bb,0,none⟩):=F;subst F;obtain⟨O,vs1,q1,_,q2,q3,q4⟩:=f.obj p _ A;obtain⟨u1,q5,q6⟩:=q4 0 _ rfl;obtain⟨b,E,f2,_⟩:=q6.wY;obtain⟨t,vs2,Z,_,r2,r3,r4⟩:=f.obj a _ s;obtain⟨u2,r5,D⟩:=r4 1 _ rfl;have D:=D.mK l;obtain⟨_,aa,jd,dd⟩:=f.obj C _ l;have LJ:(M.map dM.awa).length=M.length:=ag ..;rcases jd.2 with⟨_,hn⟩|⟨o,j,ab,U,_,N,Ez,_,pN,Dh⟩
 .have:=n m R;rw[LJ]at hn;omega
 have S:O≠d:=λe=>by
  have:=f.sep p id _ _ d A h1 (by simp) (by simp[Q2]) (by rw[q1,e];rfl) c;subst this;rw[h1]at A;simp[Q2]at A
 have G:t≠d:=λe=>by
  have:=f.sep a id _ _ d s h1 (by simp) (by simp[Q2]) (by rw[Z,e];rfl) c;subst this;rw[h1]at s;simp[Q2]at s
 have Q:o≠d:=λe=>by
  have:=f.sep C id _ _ d l h1 (by simp[jK]) (by simp[Q2]) (by rw[U,e];rfl) c;subst this;rw[h1]at l;simp[jK,Q2]at l
 rw[q1]at H;simp only[Value.pointer.injEq,ae,Addr.mk.injEq,kP]at H;subst H;rw[Z]at E;simp only[Value.pointer.injEq,ae,Addr.mk.injEq,kP]at E;subst E;have k1:W.cell? ⟨O,0,none⟩=some (.pointer (some ⟨t,0,none⟩)):=P.cell (by simp only[World.cell?,q2];rw[<- f2];simpa using q5) (λe=>S (by simpa using e));have k2:W.cell? ⟨t,1,none⟩=some (.slice (some ⟨o,0,none⟩) M.length j):=P.cell (by simp only[World.cell?,r2];rw[<- LJ,<- U,<- D];simpa using r5) (λe=>G (by simpa using e))
 have X:∀z∈out,W.cell? ⟨o,z.awg.toNat*11+8,none⟩=some (.int .i64 (crF M z)):=λz hz=>by
  have YO:=n z hz;have fk:z.awg.toNat<M.length:=by omega
  have h2:gj (M.map dM.awa) z.awg.toNat 8=some (.I (crF M z)):=by
   simp[gj,fk,crF,dM.awa]
  obtain⟨_,u,h,p3⟩:=dd.2 _ _ _ h2;rw[p3.iF]at h;refine P.cell ?_ (λe=>Q (by simpa using e));simp only[World.cell?,N];rw[<- Dh,ee]at h;split at h
  .simpa using h
  .cases h
 rw[UM hx,UM hy];exact Tw _ _ _ _ _ _ _ _ _ _ _ _ O t o M.length j W k1 k2 (n m R) (n m' i) (X m R) (X m' i)

set_option maxRecDepth 4000
set_option maxHeartbeats 2000000
def Cn(cs:bH)(l:List Pn)(q:Qr)(tq:List It):Nat->List dM->List Mt
 |_,[]=>[]
 |i,s::r=>(if s.id∈cs/\q.threshold<=(jB s.en s.dz tq l q).score then[{ jB s.en s.dz tq l q with awg:=i }]else[])++Cn cs l q tq (i+1) r
def ahK{S:ak}{K:bl}(E:cn S)(a:Nat)(X:a<S.length)(r g:Nat)(M:List dM)(u:S[r]?=some (jK g M))(W:M.length<2^20)(l:List Pn)(q:Qr)(cs:bH)(P:cs.Pairwise λa b=>a<b)(x:cs.length<2^30)(tq:List It)(w:tq.length<2^27)
  (T:∀s∈M,s.dz.length<2^27/\UB s.en l q):∀(rest pre:List dM) (out:List Mt) (c:Nat),M=pre++rest->out.length<=pre.length ->
  (∀c,((fj 1 (fh (.sl 5 (l.map Pn.awa)) (fj 1 (fh (.ptr S.length 0) (fj 1 (fh (.ptr (S.length+1) 0) (fj 4 (fh (.sl 3 (tq.map It.awa)) (fh (.sl 1 (cs.map bV)) (fh (.own (S.length+2) c) (fj 77 fo))))))))))) λO=>K (.exit 0) ⟨O,S++[.box 47 [.ptr a 0],.box 24 q.awa,Q2 c (out++Cn cs l q tq pre.length rest)]⟩)) ->
  fm S.length prog QI K (rest.length+1) ⟨(uu 1 (.sl 5 (l.map Pn.awa)::uu 1 (.ptr S.length 0::uu 1 (.ptr (S.length+1) 0::uu 4 (.sl 3 (tq.map It.awa)::.sl 1 (cs.map bV)::.own (S.length+2) c::uu 30 (.own r g::.I M.length::.I pre.length::uu 44 [])))))),S++[.box 47 [.ptr a 0],.box 24 q.awa,Q2 c out]⟩:=by
 intro rest
 induction rest with
 |nil =>
  intro pre out c k F p;have k:=cN k
  subst k;rw[Cn,bL]at p;refine ar λR n=>?_;simp only[QI,VV,seval];exact⟨λh=>by simp at h,λ_=>p c ..⟩
 |cons s rest ih =>
  intro pre out c k F p;have z:=mT k
  have A:=dh pre s (by omega)
  have y:(M.map dM.awa).getD pre.length []=s.awa:=by rw[k];exact um
  have Q:∀e:ak,(S++e)[r]?=some (.row 108 11 176 g false (M.map dM.awa)):=λe=>by
   rw[ay (ah.1 u).1];exact u
  obtain⟨U,v⟩:=T s (by rw[k];simp);simp only[dM.awa]at y;refine ar λR n=>?_;simp only[QI,Qr.awa,Q2,Q,y,↓IT,VV,seval];have H:decide ((pre.length:Int)<(M.length:Int))=true:=by simp;omega
  have J:∀c out,cn (S++[.box 47 [.ptr a 0],.box 24 q.awa,Q2 c out]):=λc out=>cC E (by simp[Q2,Qr.awa,LW];omega)
  have f:∀{B:aB} {R:ca} (c:Nat) (d:List Mt) (e:ak),(∀o,fm S.length prog QI K (rest.length+1) o->R o)->d.length<=pre.length+1->d++Cn cs l q tq (pre++[s]).length rest=out++Cn cs l q tq pre.length (s::rest) ->
    oJ B (uu 1 (.sl 5 (l.map Pn.awa)::uu 1 (.ptr S.length 0::uu 1 (.ptr (S.length+1) 0::uu 4 (.sl 3 (tq.map It.awa)::.sl 1 (cs.map bV)::.own (S.length+2) c::uu 30 (.own r g::.I M.length::.I (pre++[s]).length::uu 44 [])))))) ->
    R ⟨B,S++(.box 47 [.ptr a 0]::.box 24 q.awa::Q2 c d::e)⟩:=λc d e n L N G=>by
   have C:=(ah.1 u).1;refine n _ (cG [_,_,_] e (J _ _) G ?_ (ih (pre++[s]) d c (by simp[k]) (by simpa using L) (by rw[N];exact p)));simp only[LW,ai,al,aY];omega
  refine⟨λ_=>⟨⟨by omega,by rw[ag];omega⟩,?_⟩,λh=>by rw[H]at h;cases h⟩;refine aw (ajg cs P s.id x _) rfl ?_;simp only[A,↓IT,VV,seval];refine⟨λt=>?_,λj=>?_⟩
  .have t:s.id ∉ cs:=by simpa using t
   exact f c out [_] n (by omega) (by simp[Cn,t]) (by repeat' constructor)
  have j:s.id∈cs:=by simpa using j
  refine aw (Ku s.en s.dz tq l q U w v _) (by simp only[Qr.awa,En.awa,VV,seval]) ?_;simp only[Mt.awa,A,↓IT,VV,seval];refine⟨λm=>?_,λm=>?_⟩
  .have m:q.threshold<=(jB s.en s.dz tq l q).score:=by simpa using m
   have D:List.map Mt.awa out++[[V.i .i64 pre.length,.I (jB s.en s.dz tq l q).iC,.I (jB s.en s.dz tq l q).context,.I (jB s.en s.dz tq l q).points,.I (jB s.en s.dz tq l q).score]]=(out++[{ jB s.en s.dz tq l q with awg:=pre.length }]).map Mt.awa:=by simp[Mt.awa]
   refine⟨⟨by rw[ag];omega,by rw[ag];unfold maxLen;omega⟩,?_⟩;rw[D];refine f (c+1) (out++[{ jB s.en s.dz tq l q with awg:=pre.length }]) [_,_] n ?_ ?_ ?_
   .simp;omega
   .simp[Cn,j,m]
   .repeat' constructor
  .have m:¬q.threshold<=(jB s.en s.dz tq l q).score:=by simpa using m
   exact f c out [_,_] n (by omega) (by simp[Cn,j,m]) (by repeat' constructor)

set_option maxRecDepth 4000
set_option maxHeartbeats 2000000
def nG(l:List Pn)(q:Qr)(tq:List It):Nat->List dM->List Mt
 |_,[]=>[]
 |i,s::r=>(if q.threshold<=(jB s.en s.dz tq l q).score then[{ jB s.en s.dz tq l q with awg:=i }]else[])++nG l q tq (i+1) r
def uG{q:Qr}(h:fi q=0):(0<=q.now/\q.now<=1073741824)/\(1<=q.threshold/\q.threshold<=102)/\1<=q.gJ/\q.gJ<=100:=by
 unfold fi at h
 (repeat' split at h)<;>omega
def Th(q:Qr):Int:=if 100<q.threshold then 100 else q.threshold
def Xh{s:dM}{tq:List It}{l:List Pn}{q:Qr}(h1:1<=q.threshold)(h:q.threshold<=(jB s.en s.dz tq l q).score):Th q<=eX s.dz tq:=by
 have a:=zk s.en q.now l 0 (by omega);have a:0<=lL l s.en q.now/\lL l s.en q.now<=100:=a;simp only[jB]at h;unfold Th
 by_cases b:eX s.dz tq=100
 .split<;>omega
 .rw[an b]at h;unfold mx at h;split at h<;>split<;>omega
def RB(cs:bH)(l:List Pn)(q:Qr)(h1:1<=q.threshold)(tq:List It):∀(i:Nat) (M:List dM),(∀s∈M,Th q<=eX s.dz tq->s.id∈cs)->Cn cs l q tq i M=nG l q tq i M
 |_,[],_=>rfl
 |i,s::r,h=>by
  simp only[Cn,nG];rw[RB cs l q h1 tq (i+1) r λx b=>h x (by simp[b])];congr 1
  by_cases a:q.threshold<=(jB s.en s.dz tq l q).score
  .rw[az a,az ⟨h s (by simp) (Xh h1 a),a⟩]
  .rw[an a,an (λh=>a h.2)]
def tS(l:List Pn)(q:Qr)(tq:List It):∀(M:List dM) (i:Nat),∀m∈nG l q tq i M,(i:Int)<=m.awg/\m.awg<i+M.length
 |[],i,m,h=>by simp[nG]at h
 |s::r,i,m,h=>by
  simp only[nG,bP]at h;rcases h with h|h
  .split at h
   .simp only[cv]at h;subst h;simp only[ai];omega
   .simp at h
  .have:=tS l q tq r (i+1) m h;simp only[ai]at *;omega
def yr(l:List Pn)(q:Qr)(tq:List It):∀(M:List dM) (i:Nat),(nG l q tq i M).length<=M.length
 |[],i=>aD _
 |s::r,i=>by
  have:=yr l q tq r (i+1);simp only[nG,aj,ai];split<;>simp<;>omega
def Pb(M:List dM)(l:List Pn)(q:Qr)(r:V):Prop :=
 (fi q≠0/\r=.iQ [.sl 5 [],.I (fi q)])\/(fi q=0/\rk l≠0/\r=.iQ [.sl 5 [],.I (rk l)]) \/
  (fi q=0/\rk l=0/\∃a:List Mt,a.Perm (nG l q (dz q.awc) 0 M)/\a.Pairwise (λx y=>¬kX (crF M) y x<0)/\r=.iQ [.sl 5 ((a.take q.gJ.toNat).map Mt.awa),.I 0])
def aj0:Ti prog 44 5 40:=qJ (by kernel_rfl)
def afA(out:List Mt)(J:ak):bM prog 64 [.sl 5 (out.map Mt.awa)] J (.sl 5 (out.map Mt.awa)):=by
 refine aZ func64 p64.2 λb a=>au ?_;simp only[p64,SS,seval];simp only[List.take_length,VV,seval];exact⟨⟨by omega,by omega⟩,aO (.inr rfl) rfl ⟨rfl,rfl⟩⟩
def Yg{S:ak}(a x f g:Nat)(next:Int)(z:S[a]?=some (.box 105 [.ptr x 0,.own f g,.I next]))(M:List dM)(p:S[f]?=some (jK g M))(F:M.length<2^20)(l:List Pn)(U:l.length<2^40)(q:Qr)
  (h1:q.bU.length<2^39) (C:q.next.length<2^39) (X:q.awc.length<2^38) (G:bd q.awc<2^38) (u:(dz q.awc).length<2^27) (Z:∀s∈M,s.dz.length<2^27/\UB s.en l q)
  (i:fi q=0->∀T:ak,PC prog 58 [.ptr x 0,.sl 3 ((dz q.awc).map It.awa),.I (Th q)] (S++T) (λr J'=>∃cs:bH,(cs.Pairwise λa b=>a<b)/\cs.length<2^30/\(∀s∈M,Th q<=eX s.dz (dz q.awc)->s.id∈cs)/\r=.sl 1 (cs.map bV)/\J'=S++T)) :
  PC prog 23 [.ptr a 0,.sl 5 (l.map Pn.awa),.agg q.awa] S (λr J'=>Pb M l q r/\J'=S):=by
 refine aZ func23 p23.2 λj dN=>?_;have y:=(ah.1 z).1;simp only[p23,SS,seval];refine bZ.cut λR c=>?_;simp only[Qr.awa,VV,seval];refine c _ (bZ.fg (fr':=(uu 1 (.sl 5 (l.map Pn.awa)::uu 1 (.ptr S.length 0::uu 1 (.ptr (S.length+1) 0::uu 84 []))))) ?_ (by repeat' constructor));clear c R;refine bZ.cut λR c=>?_;simp only[V.pure,↓IT,VV,seval];refine aw (Qg q h1 C _) (by simp only[Qr.awa,VV,seval]) ?_;simp only[↓IT,VV,seval];refine⟨λh=>?_,λh=>?_⟩
 .have h:fi q≠0:=by simpa using h
  refine kb (ys:=[.sl 5 [],.I (fi q)]) j (.inr rfl) (by simp only[RS,seval]) (.cons (.nil _) (.cons (.refl _) .nil)) (by simp[LW]) ⟨.inl ⟨h,rfl⟩,rfl⟩
 have n:fi q=0:=by simpa using h
 have i:=i n;refine c _ (bZ.fg (fr':=(uu 1 (.sl 5 (l.map Pn.awa)::uu 1 (.ptr S.length 0::uu 1 (.ptr (S.length+1) 0::uu 84 []))))) ?_ (by repeat' constructor));clear c R;refine bZ.cut λR c=>?_;simp only[V.pure,↓IT,VV,seval];refine aw (Lu l U _) rfl ?_;simp only[↓IT,VV,seval];refine⟨λh=>?_,λh=>?_⟩
 .have h:rk l≠0:=by simpa using h
  refine kb (ys:=[.sl 5 [],.I (rk l)]) j (.inr rfl) (by simp only[RS,seval]) (.cons (.nil _) (.cons (.refl _) .nil)) (by simp[LW]) ⟨.inr (.inl ⟨n,h,rfl⟩),rfl⟩
 have Q:rk l=0:=by simpa using h
 refine c _ (bZ.fg (fr':=(uu 1 (.sl 5 (l.map Pn.awa)::uu 1 (.ptr S.length 0::uu 1 (.ptr (S.length+1) 0::uu 84 []))))) ?_ (by repeat' constructor));clear c R;refine bZ.cut λR c=>?_;simp only[V.pure,↓IT,VV,seval];refine aw (xO q.awc X G _) rfl ?_;simp only[↓IT,VV,seval];refine c _ (bZ.fg (fr':=(uu 1 (.sl 5 (l.map Pn.awa)::uu 1 (.ptr S.length 0::uu 1 (.ptr (S.length+1) 0::uu 4 (.sl 3 ((dz q.awc).map It.awa)::uu 79 [])))))) ?_ (by repeat' constructor));clear c R;have v:∀T:ak,(S++T)[a]?=some (.box 105 [.ptr x 0,.own f g,.I next]):=λT=>by rw[ay y];exact z
 refine bZ.cut λR c=>?_;simp only[v,V.pure,↓IT,VV,seval];refine cD (i _) rfl ?_;rintro _ _ ⟨cs,K,N,W,rfl,rfl⟩;simp only[↓IT,VV,seval];refine c _ (bZ.fg (fr':=(uu 1 (.sl 5 (l.map Pn.awa)::uu 1 (.ptr S.length 0::uu 1 (.ptr (S.length+1) 0::uu 4 (.sl 3 ((dz q.awc).map It.awa)::.sl 1 (cs.map bV)::uu 78 [])))))) ?_ (by repeat' constructor));clear c R;refine bZ.cut λR c=>?_;simp only[V.pure,↓IT,VV,seval];refine c _ (bZ.fg (fr':=(uu 1 (.sl 5 (l.map Pn.awa)::uu 1 (.ptr S.length 0::uu 1 (.ptr (S.length+1) 0::uu 4 (.sl 3 ((dz q.awc).map It.awa)::.sl 1 (cs.map bV)::.nil::uu 77 [])))))) ?_ (by repeat' constructor));clear c R;have B:∀T:ak,(S++T)[f]?=some (.row 108 11 176 g false (M.map dM.awa)):=λT=>by rw[ay (ah.1 p).1];exact p
 refine bZ.cut λR c=>?_;simp only[v,B,ag,V.pure,↓IT,VV,seval];refine bZ.wk ((Wk.jA (P:=prog) (J:=S) [_,_] (k:=12) aj0 rfl).trans (Wk.fg (ys:=(uu 1 (.sl 5 (l.map Pn.awa)::uu 1 (.ptr S.length 0::uu 1 (.ptr (S.length+1) 0::uu 4 (.sl 3 ((dz q.awc).map It.awa)::.sl 1 (cs.map bV)::.own (S.length+2) 0::uu 30 (.own f g::.I M.length::.I (([]:List dM).length:Nat)::uu 44 []))))))) ?_)) (bZ.uh (M.length+1) (ahK j a y f g M p F l q cs K N (dz q.awc) u Z M [] [] 0 rfl (by simp) ?_))
 .simp only[VV,seval]
  repeat' constructor
 intro t;simp only[JE];intros;simp only[bc,al,VV,seval];refine c _ (bZ.fg (fr':=(uu 3 (.ptr S.length 0::uu 1 (.ptr (S.length+1) 0::uu 6 (.own (S.length+2) t::uu 77 []))))) ?_ (by repeat' constructor));clear c R;have e:=uG n;have o:1<=q.threshold:=e.2.1.1;rw[RB cs l q o _ 0 M W];have w:=yr l q (dz q.awc) M 0;have A:=tS l q (dz q.awc) M 0;generalize H:nG l q (dz q.awc) 0 M=out at w A |-;refine bZ.cut λR c=>?_;simp only[Q2,V.pure,↓IT,VV,seval];refine cD (Wz M out (by omega) (λm Y=>by have:=A m Y;omega) (S.length+2) t S.length a f g (.ptr x 0) next _ (by simp[Q2]) (by simp) (v _) (B _)) rfl ?_;rintro _ _ ⟨d,O,D,rfl,rfl⟩;simp only[Q2,↓IT,VV,seval];refine c _ (bZ.wk ((Wk.rZ 2 (E:=44) (sz:=5) (by':=40) (g:=t) (sh:=false) (rows:=d.map Mt.awa) rfl).trans (Wk.fg (ys:=(uu 5 (.ptr (S.length+1) 0::uu 6 (.sl 5 (d.map Mt.awa)::uu 77 [])))) ?_)) (au ?_))
 .simp only[aH,bR,fz,oa,jx,aT,VV,seval]
  repeat' constructor
 clear c R;simp only[Qr.awa,ag,V.pure,↓IT,VV,seval]
 have L:List.take (if q.gJ<(d.length:Int)then q.gJ else(d.length:Int)).toNat (d.map Mt.awa)=(d.take q.gJ.toNat).map Mt.awa:=by
  rw[eu];have:=e.2.2.1;split
  .rfl
  .rw[bW (by rw[ag];omega),bW (by rw[ag];omega)]
 refine⟨⟨by have:=e.2.2.1;split<;>omega,by split<;>omega⟩,?_⟩;simp only[L];refine aw (afA (d.take q.gJ.toNat) _) rfl ?_;simp only[↓IT,VV,seval];subst H;exact bg j (.inr rfl) (by simp only[RS,seval];rfl) (by simp[LW]) ⟨.inr (.inr ⟨n,Q,d,O,D,rfl⟩),rfl⟩

set_option maxRecDepth 4000
set_option maxHeartbeats 2000000
def ab9{E L:List LE}(g:E.Perm L)(l:(L.map (·.1)).Nodup)(p:LE->Bool):
  ((((E.filter p).map (·.1)).mergeSort λx y=>decide (x<=y)).Pairwise λa b=>a<b)/\(∀e∈L,p e=true->e.1∈(((E.filter p).map (·.1)).mergeSort λx y=>decide (x<=y)))/\(((E.filter p).map (·.1)).mergeSort λx y=>decide (x<=y)).length<=L.length:=by
 have k:((E.filter p).map (·.1)).Nodup:=by
  have f:(E.map (·.1)).Nodup:=(g.map _).nodup_iff.2 l;exact f.sublist ((List.filter_sublist).map _)
 have d:=uz ((E.filter p).map (·.1)) λx y=>decide (x<=y);refine⟨?_,λe m j=>?_,?_⟩
 .have f:(((E.filter p).map (·.1)).mergeSort λx y=>decide (x<=y)).Pairwise λa b=>decide (a<=b)=true:=wq (λa b c f i=>by simp at *;omega) (λa b=>by simp;omega) _;have i:=d.nodup_iff.2 k;refine(f.and i).imp λ{a b} h=>?_;have n:a<=b:=by simpa using h.1
  have o:a≠b:=h.2;omega
 .rw[d.mem_iff];exact bF.2 ⟨e,cZ.2 ⟨g.mem_iff.2 m,j⟩,rfl⟩
 .rw[d.length_eq,ag,<- g.length_eq];exact eB _ _
def aiX(L:List LE)(k:GK):∀p∈Kh L k,0<=p.2:=λp a=>by
 obtain⟨e,_,b⟩:=qW.1 a;obtain⟨v,c,rfl⟩:=aF.1 b;exact Uc c
def abM(L:List LE)(k:TK):∀p∈HB L k,0<=p.2:=λp a=>by
 obtain⟨e,_,b⟩:=qW.1 a;obtain⟨v,c,rfl⟩:=aF.1 b;exact RH c
def aca{E:Nat×Nat×Nat}(J:ak)(L:List LE)(f:List (GK×(Nat×Nat)))(c:List (TK×(Nat×Nat)))(q:Ob)(T:ak)(d:LX J.length T L f c)(z:L.length<=1024)(n:∀e∈L,e.2.1.length<=2^20)(M:List dM)(t:∀s∈M,∃m,(s.id,(s.dz,m))∈L)
  (tq:List It) (w:tq.length<=2^20) (p:Int) (x:1<=p/\p<=100) (X:ak) :
  PC prog 58 [.ptr (J.length+3) 0,.sl 3 (tq.map It.awa),.I p] (ur E J L f c q T++X)
   (λr J'=>∃cs:bH,(cs.Pairwise λa b=>a<b)/\cs.length<2^30/\(∀s∈M,p<=eX s.dz tq->s.id∈cs)/\r=.sl 1 (cs.map bV)/\J'=ur E J L f c q T++X):=by
 have l:∀k,(Kh L k).length<=1024:=λk=>cu (kr _ _) z;have i:∀k,(HB L k).length<=1024:=λk=>cu (kr _ _) z;have B:∀g∈dS (bS tq),0<=g.2:=λg P=>(J3 _ g P).1;have A:∀p∈om [] tq,0<=p.2:=λp x=>by rw[O4 x];exact xk _ _
 have Z:=sF tq;have R:=Ro 1024 (Kh L) l (dS (bS tq)) B;have W:=Rn 1024 (HB L) i (abM L) (om [] tq) A;rw[J4]at R;have U:=V7 tq [];simp only[bR,List.sum_nil,iK]at U
 have hT:∀(j:Nat) (o:Ob),T[j]?=some o->(ur E J L f c q T++X)[J.length+5+j]?=some o:=λj o h=>by
  have O:=(ah.1 h).1;unfold ur;rw[bk,aU (by omega),(by omega:J.length+5+j - J.length=j+5)];simp only[bJ,bX];rw[ay O];exact h
 refine(afD (ea:=E.1) (eb:=E.2.1) (ec:=E.2.2) (S:=ur E J L f c q T++X) (J.length+3) J.length (J.length+1) (J.length+2) (by simp[ur,Dg]) L (by omega) (by simp[ur]) f (Kh L) (by simp[ur])
  (λk r g h=>by obtain⟨j,rfl,v⟩:=d.p2.row k r g h;exact hT j _ v) d.p2.Ho (aiX L) (λk=>by have:=l k;omega)
  c (HB L) (by simp[ur]) (λk r g h=>by obtain⟨j,rfl,v⟩:=d.p3.row k r g h;exact hT j _ v) d.p3.Ho (abM L) (λk=>by have:=i k;omega)
  tq (by omega) B A (by unfold yp yq;omega) p (by omega) (PM tq (by omega)) (λe H=>PM _ (by have:=n e H;omega))).mono ?_
 rintro r J' ⟨D,E,C,Q,rfl,rfl⟩;obtain⟨N,G,Y⟩:=ab9 Q d.keys (Cj tq (fV (fV [] (yp (Kh L) (dS (bS tq)))) (yq (HB L) D)) p);refine⟨_,N,by omega,λs V u=>?_,rfl,rfl⟩;obtain⟨m,y⟩:=t s V;refine G _ y ?_;have F:=n _ y;have K:=aja d.keys y tq C;simp only[Cj,aV];have e:(cX s.id (fV (fV [] (yp (Kh L) (dS (bS tq)))) (yq (HB L) D))).getD Cd=Ae tq s.dz:=K;rw[e];exact Of tq s.dz p x u w F

set_option maxRecDepth 4000
set_option maxHeartbeats 2000000
def EK{J:ak}{M:List dM}{next:Int}{S:ak}(h:CC J M next S)(D:M.length<=1024)(l:List Pn)(u:l.length<2^40)(q:Qr)
  (h1:q.bU.length<2^39) (n:q.next.length<2^39) (v:q.awc.length<2^38) (p:bd q.awc<2^38) (i:(dz q.awc).length<=2^20) (j:∀s∈M,s.dz.length<=2^20/\UB s.en l q) :
  PC prog 23 [.ptr (J.length+4) 0,.sl 5 (l.map Pn.awa),.agg q.awa] S (λr y=>Pb M l q r/\y=S):=by
 obtain⟨E,L,m,k,g,T,rfl,t,c,C⟩:=h;have B:L.length=M.length:=by have:=c.length_eq;simpa using this
 refine Yg (S:=me E J L m k next g M T) (J.length+4) (J.length+3) (J.length+5) g next (by simp[me,ur,LO]) M (by simp[me,ur]) (by omega) l u q h1 n v p (by omega)
  (λs a=>⟨by have:=(j s a).1;omega,(j s a).2⟩) (λo Y=>?_)
 have F:=uG o
 have H:=aca (E:=E) J _ m k (LO J.length (.own (J.length+5) g) next) _ (t.swap (o':=jK g M) (X:=Y)) (by omega) (λe z=>by
   have d:idL e∈M.map Sw:=c.mem_iff.1 (gN z);obtain⟨s,a,b⟩:=bF.1 d;have f:s.dz=e.2.1:=congrArg Prod.snd b;rw[<- f];exact(j s a).1) M (λs a=>by
   have d:Sw s∈L.map idL:=c.mem_iff.2 (gN a);obtain⟨x,w,b⟩:=bF.1 d;have f:x.1=s.id:=congrArg Prod.fst b;have A:x.2.1=s.dz:=congrArg Prod.snd b;exact⟨x.2.2,by rw[<- f,<- A];exact w⟩) (dz q.awc) i (Th q) (by unfold Th;split<;>omega) []
 rw[bL]at H;rw[EH];exact H

set_option maxRecDepth 8000
set_option maxHeartbeats 4000000
def aef:dM:=⟨0,aN TL,TL,dz Ck⟩
def XK:TL.awk:=⟨by decide,by decide,by decide,by decide,by decide,by decide,λx a=>by
 simp only[TL,Ck,bJ,bc,bC,gw,s8]at a;rcases a with rfl|rfl<;>decide⟩
def aaK{J S:ak}(d:CC J [aef] 1 S):
  PC prog 23 [.ptr (J.length+4) 0,.sl 5 [],.agg kQr.awa] S (λr c=>r=.iQ [.sl 5 [Mt.awa ⟨0,100,2,0,102⟩],.I 0]/\c=S):=by
 refine(EK d (by decide) [] (by decide) kQr (by decide) (by decide) (by decide) (by decide) (by rw[show kQr.awc=Ck from rfl,Jz];decide)
  (λs b=>by
   simp only[cv]at b;subst b;exact⟨by rw[show aef.dz=dz Ck from rfl,Jz];decide,⟨by decide,by decide,by decide,by simp⟩⟩)).mono ?_
 rintro r f ⟨h,rfl⟩;refine⟨?_,rfl⟩;rcases h with⟨h,_⟩|⟨_,h,_⟩|⟨_,_,g,a,_,rfl⟩
 .exact absurd ahN h
 .exact absurd apc h
 .have e:nG [] kQr (dz kQr.awc) 0 [aef]=[⟨0,100,2,0,102⟩]:=by rfl
  rw[e]at a;have:=List.perm_singleton.1 a;subst this;rfl
def qO(J:ak):bM prog 12 [] J (.b true):=by
 refine aZ func12 p12.2 λj o=>au ?_;simp only[p12,SS,seval];simp only[V.pure,↓IT,VV,seval];refine ml (zs:=[.agg TL.awa,.sl 5 ([kPn].map Pn.awa),.agg kQr.awa]) ?_ (Zy TL [kPn] kQr ⟨by decide,by decide,by decide,by decide⟩ (by decide) (by decide) (by decide) (by decide) (by rw[show TL.awc=Ck from rfl,Jz];decide) (by rw[show kQr.awc=Ck from rfl,Jz];decide) _) ?_
 .exact .cons (Cv.Uy (.cons (.lit _ _) (.cons (.lit _ _) (.cons (.refl _) (.cons (.refl _) (.cons (.refl _) (.cons (.refl _) (.cons (.refl _) (.cons (.refl _) .nil))))))))) (.cons (.lit _ _) (.cons (Cv.Uy (.cons (.lit _ _) (.cons (.refl _) (.cons (.refl _) (.cons (.refl _) (.cons (.refl _) (.cons (.refl _) .nil))))))) .nil))
 rw[aee];simp only[V.pure,↓IT,VV,seval]
 obtain⟨a,d⟩:∃a,a=J++[Ob.box 37 [.lit 3 [[.I 1,.s [83,97,118,101],.I 0]],.lit 3 [[.I 1,.s [83,105,99,104,101,114,110],.I 0]],.s [97],.s [98],.s [],.s [],.I 0,.I 3],
  .box 24 [.lit 3 [[.I 1,.s [83,97,118,101],.I 0]],.s [97],.s [98],.I 0,.I 50,.I 5],.box 44 [.I 0,.I 100,.I 2,.I 10,.I 92]]:=⟨_,rfl⟩
 rw[<- d];have l:∀X:ak,(a++X)[J.length]?=some (Ob.box 37 [.lit 3 [[.I 1,.s [83,97,118,101],.I 0]],.lit 3 [[.I 1,.s [83,105,99,104,101,114,110],.I 0]],.s [97],.s [98],.s [],.s [],.I 0,.I 3]):=λX=>by simp[d]
 have g:∀X:ak,(a++X)[J.length+1]?=some (Ob.box 24 [.lit 3 [[.I 1,.s [83,97,118,101],.I 0]],.s [97],.s [98],.I 0,.I 50,.I 5]):=λX=>by simp[d]
 have h:∀X:ak,(a++X)[J.length+2]?=some (Ob.box 44 [.I 0,.I 100,.I 2,.I 10,.I 92]):=λX=>by simp[d]
 refine aw (BJ _) rfl ?_;have c:=CC.new a;generalize me ix0 a [] [] [] 0 0 [] []=S2 at c |-;obtain⟨r,n⟩:=c.pre;subst n;simp only[l,V.pure,↓IT,VV,seval]
 refine cD (PC.wk (args':=[.ptr (a.length+4) 0,.agg TL.awa]) (Wk.fg (.cons (.refl _) (.cons (Cv.Uy (.cons (.lit _ _) (.cons (.lit _ _) (.cons (.refl _) (.cons (.refl _) (.cons (.refl _) (.cons (.refl _) (.cons (.refl _) (.cons (.refl _) .nil))))))))) .nil)))
  (Ny c (by decide) (by simp[kK]) (by decide) TL XK (by rw[show TL.awc=Ck from rfl,Jz];decide))) rfl ?_
 rintro _ q ⟨rfl,c⟩;have e:fP [] TL=0:=by rw[fP,an (by rw[amJ];decide),az (.inr (by decide))]
 have i:kp [] 0 TL=[aef]:=by rw[kp,az e];rfl
 have m:sB [] 0 TL=1:=by rw[sB,az e];rfl
 rw[i,m]at c;obtain⟨p,k⟩:=c.pre;subst k;simp only[g,h,e,V.pure,↓IT,VV,seval];refine ml (zs:=[.ptr (a.length+4) 0,.sl 5 [],.agg kQr.awa]) (.cons (.refl _) (.cons (.nil _) (.cons (Cv.Uy (.cons (.lit _ _) (.cons (.refl _) (.cons (.refl _) (.cons (.refl _) (.cons (.refl _) (.cons (.refl _) .nil))))))) .nil))) (aaK c) ?_;have f:(true==true)=true:=rfl;simp only[g,h,f,Mt.awa,V.pure,↓IT,VV,seval];refine⟨.I 102,⟨True,rfl,trivial⟩,?_⟩;simp only[f,V.pure,↓IT,VV,seval];rw[d,bk];exact bg j (.inr rfl) rfl (by simp[LW]) ⟨rfl,rfl⟩
end Go.Proofs.Tryz

/- A part of a proof; the claim's last text says of what. -/
import Derived.StillTailTactics
import Derived.LoopN
import Derived.Test.YtfeddmfijllgmaaGreatDoorB34
set_option linter.all false
set_option maxHeartbeats 4000000
open Option renaming some->S,none->Z
open Bool renaming true->θ,false->G
open Go.Proofs.Tryz renaming prog->κ
open List renaming length->Y

namespace Go.Proofs.Tryz
open Go Go.Pm Go.Bt Go.RowKit Go.Sort
variable(b:Nat)(B:gh)(H:Int)(g:Nat)(X:bO)(T:List aV)(A:Int)(P:List bO)(D:aV)(p:Int×Int){f c:Int}{l:List aV}{a M C:Nat}{Q F:Ob}{v q:V}{t:aR}{L i:aV}{U s:aj}{y:bL}{R:bO}{r:bQ}
def aeu:Lib.compareInt H A=gJ H A:=by simp only[Lib.compareInt,gJ]
def Y6(x y:Int)(b T:Nat)(W:bQ)(f:W.heap[b]?=S (.cells #[.int .i64 x,.int .i64 y] T (0,0))): Calls κ 91 #[.slice (S ⟨b,0,Z⟩) 2 2] W λe g=>e=.returned (.int .i64 (wj [x,y]))/\g=W:=by
 have i:W.cell? ⟨b,0,Z⟩=S (.int .i64 x):=by simp[World.cell?,f]
 have h:W.cell? ⟨b,1,Z⟩=S (.int .i64 y):=by simp[World.cell?,f]
 go_enter func91,Tryz.ntmps91;go_wp2;refine wp_loop_rounds 3 ?_;rw[rounds_succ];go_wp2;.rename_i c;go_ret;exact⟨by simp[wj,show x≠0 by simpa using c],rfl⟩
 rename_i c;rw[rounds_succ];go_wp2;.rename_i d;go_ret;exact⟨by simp[wj,show x=0 by simpa using c,show y≠0 by simpa using d],rfl⟩
 rename_i d;rw[rounds_succ];go_wp2;go_ret;exact⟨by simp[wj,show x=0 by simpa using c,show y=0 by simpa using d],rfl⟩
def T8{W w:bQ}{A B:Obj}(h:w.heap=(W.heap.push A).push B):w.heap[W.heap.size]?=S A/\w.heap[W.heap.size+1]?=S B:=by
 have e:W.heap.size+1=(W.heap.push A).size:=by simp
 rw[h];refine⟨?_,by rw[e];exact FO⟩;rw[avm (by simp),Array.getElem_push_eq]
set_option maxRecDepth 4000 in
def UP(h i:List Value)(u:Y h=13)(A:Y i=13)(a b c d:Int)(h1:h[1]?=S (.int .i64 a))(r:h[2]?=S (.int .i64 b))(s:i[1]?=S (.int .i64 c))(t:i[2]?=S (.int .i64 d))(W:bQ): Calls κ 115 #[.agg h.toArray,.agg i.toArray] W λe m=>e=.returned (.int .i64 (wj [gJ a c,gJ b d]))/\∃q f,m=grow (W.drewN q) f:=by
 match h,u with
 |[x0,x1,x2,x3,x4,x5,x6,x7,x8,x9,x10,x11,x12],_ =>
 match i,A with
 |[y0,y1,y2,y3,y4,y5,y6,y7,y8,y9,y10,y11,y12],_ =>
 simp only[aC,bY,ab]at h1 r s t;subst h1 r s t;have k:∀(x y:Int) (n:bQ),Calls κ 92 #[.int .i64 x,.int .i64 y] n λe m=>e=.returned (.int .i64 (gJ x y))/\m=n:=λx y n=>by have:=AnyG.cmp_Compare_int Tryz.amg x y n;rw[aeu]at this;exact this
 go_enter func115,Tryz.ntmps115;go_wp2;generalize o:(W.alloc (.cells #[x0,.int .i64 a,.int .i64 b,x3,x4,x5,x6,x7,x8,x9,x10,x11,x12] 57)).alloc (.cells #[y0,.int .i64 c,.int .i64 d,y3,y4,y5,y6,y7,y8,y9,y10,y11,y12] 57)=w2;refine wp_region_still_tail 14 (by kernel_rfl) (by kernel_rfl) ?_;have p:w2.drew.heap=(W.heap.push (.cells #[x0,.int .i64 a,.int .i64 b,x3,x4,x5,x6,x7,x8,x9,x10,x11,x12] 57)).push (.cells #[y0,.int .i64 c,.int .i64 d,y3,y4,y5,y6,y7,y8,y9,y10,y11,y12] 57):=by rw[<- o];rfl
 obtain⟨l,g⟩:=T8 p;have B:w2.drew.cell? ⟨W.heap.size,1,Z⟩=S (.int .i64 a):=by simp[World.cell?,l,g]
 have E:w2.drew.cell? ⟨W.heap.size,2,Z⟩=S (.int .i64 b):=by simp[World.cell?,l,g]
 have C:w2.drew.cell? ⟨W.heap.size+1,1,Z⟩=S (.int .i64 c):=by simp[World.cell?,l,g]
 have D:w2.drew.cell? ⟨W.heap.size+1,2,Z⟩=S (.int .i64 d):=by simp[World.cell?,l,g]
 have w:∃q f,w2.drew=grow (W.drewN q) f:=⟨1,_,by rw[<- o,alloc_eq_grow,alloc_eq_grow,grow_grow];rfl⟩;simp only[fe,jE,kQ,oL];change wpStill _ _ w2.drew (λv=>wpList _ _ _ _ v w2.drew) _ _;have z:w2.drew.heap.size=W.heap.size+2:=by simp[p]
 generalize w2.drew=w3 at *;clear l g p o w2;still_step;still_step;still_step;still_step;still_step;still_step;refine wpStill_step (λK j=>?_);go_simp;refine⟨_,k a c w3,j _ ?_⟩;clear j K;still_step;still_step;still_step;still_step;still_step;still_step;refine wpStill_step (λK j=>?_);go_simp;refine⟨_,k b d w3,j _ ?_⟩;clear j K;refine wpStill_nil ?_;go_wp2_with (go_at_call 91;refine(Y6 (gJ a c) (gJ b d) (W.heap.size+2) 3 _ (by rw[<- z];exact FO)).mono ?_;rintro e m ⟨rfl,rfl⟩);go_ret;obtain⟨q,os,rfl⟩:=w;exact⟨rfl,q,_,by rw[alloc_eq_grow,grow_grow]⟩
def Im{f:Type}[Inhabited f]{b:f->List Value}{E:Nat}{c:Array Value}{d:Array f}{os:Array Obj}(g:r.heap[C]?=S (.cells c E (0,0))): (sortWorldK b a r C 0 M d os).heap[C]?=S (.cells (putCells id 0 (flatK b a d) c) E (0,0)):=by
 have h:=(cY.1 g).1;have e:(putRowK b a (Sort.ahead r M) C 0 d).heap[C]?=S (.cells (putCells id 0 (flatK b a d) c) E (0,0)):=by simp only[putRowK,putRow,mapBlock,Sort.ahead,fk,aU,g,dV];rfl
 simp only[sortWorldK,grow];rw[ma (by have:=(cY.1 e).1;exact this)];exact e
def Ha{c:Type}[Inhabited c]{b:c->List Value}{f:Array c}{os:Array Obj}: r.grownBy (sortWorldK b a r C 0 M f os) (S C):=by
 have d:(putRowK b a (Sort.ahead r M) C 0 f).heap.size=r.heap.size:=by rw[putRowK,size_putRow];rfl
 refine⟨rfl,rfl,rfl,?_,λj i g=>?_⟩;.simp only[sortWorldK,grow,kS,d];omega
 have h:¬C=j:=λe=>g (by rw[e]);simp only[sortWorldK,grow];rw[ma (by rw[d];exact i)];simp only[putRowK,putRow,mapBlock,Sort.ahead,fk,aw h]
def Yw(c:l.Pairwise λa b=>dH a b≠0){d:List (Fin (Y l))}(f:d.Perm (List.finRange (Y l)))(p:d.Pairwise λi j=>¬dH l[j] l[i]<0):d.map (λi=>l[i])=ej l:=by
 have g:d.Nodup:=f.nodup_iff.2 (List.nodup_finRange _);refine jT ?_ (lr c) λx=>?_
 .refine EN.2 ?_;refine(p.and g).imp λ{i j} ⟨m,n⟩=>?_;have q:dH l[i] l[j]≠0:=by
   rcases Nat.lt_or_gt_of_ne (λe=>n (Fin.ext e))with h|h;.exact iC.1 c i j i.2 j.2 h
   exact λe=>iC.1 c j i j.2 i.2 h (Jq e)
  rw[jz]at m |-;rw[gA,jr]at q;omega
 rw[cv,dU];constructor;.rintro⟨i,_,rfl⟩;exact eJ _
 intro o;obtain⟨i,k,rfl⟩:=List.getElem_of_mem o;exact⟨⟨i,k⟩,f.mem_iff.2 (List.mem_finRange _),rfl⟩
def Y5:SWO (ltOf λ(i j:Fin (Y T))=>dH T[i] T[j]):=by
 refine⟨λx=>?_,λx y z a b=>?_,λx y z a b=>?_⟩;.simp only[ltOf,iX,jz];omega
 .simp only[ltOf,bE,jz]at *;omega
 simp only[ltOf,iX,jz]at *;omega
def abi(id g:Nat)(hd:T.Pairwise λa b=>dH a b≠0)(hl:T.length<2^30)(J:aj)(h1:J[id]?=some (.row 57 13 184 g G (T.map aV.azR))): PC κ 114 [.own id g,.fn 115 []] J (λr J'=>r=.jg []/\J'=J.set id (.row 57 13 184 g G ((ej T).map aV.azR))):=by
 have N:=uU T;refine PC.aj5 h1 (by simp[N]) λB w0 w μ vs hS H=>?_;have a0:=(H.2 0 _ rfl).nv h1;have a1:=H.2 1 _ rfl;obtain⟨_,c,O,eG⟩:=hS.obj id _ h1;have qw:(T.map aV.azR).length=T.length:=aa ..;have e:vs=#[μ id,.func (.func 115) #[] #[]]:=by
  obtain⟨q⟩:=vs;match q,H.1 with
  |[u,v],_ =>
   simp at a0 a1;cases a1 with
   |fn _ _ fs ad _ =>
   obtain rfl:fs=#[]:=by apply zd;simpa using ad.symm
   rw[a0]
 rw[e];rw[qw]at O;have Na:c.length=T.length*13:=O.1;have o1:=nD.one hS eG (by rw[qw];exact Na);by_cases h0:T.length=0
 .have X0:T=[]:=cd h0;have Q:c=[]:=cd (by omega);have F:∃p k,μ id=.slice p 0 k:=by
   rcases O.2 with⟨h,_⟩|⟨X,k,D,h,_⟩;.exact⟨_,_,h⟩
   rw[h0]at h;exact⟨_,_,h⟩
  obtain⟨p,k,F⟩:=F;rw[F];refine(AnyF.slices_SortFunc_none Tryz.abe p k _ w).mono ?_;rintro e w' ⟨rfl,rfl⟩;refine⟨[],rfl,grownBy_refl _ _,?_,?_⟩;.rw[Q]at O;rw[aa,N,<- F];exact O
  have:ej T=[]:=by rw[X0];rfl
  rw[this,Q]at *;exact⟨by simp,λi j x K=>by simp[gv]at K⟩
 have P7:0<T.length:=Nat.pos_of_ne_zero h0;rcases O.2 with⟨_,hn⟩|⟨X,k,D,yI,hB,hg,J7,CZ,qF,GJ⟩;.omega
 haveI:Inhabited (Fin T.length):=⟨⟨0,P7⟩⟩;have S7:∀i:Fin T.length,((c.drop (i*13)).take 13).length=13:=λi=>by rw[bj,ca,Na];have:=i.2;omega
 have dz:∀(i:Fin T.length) (j:Nat),j<13->((c.drop (i*13)).take 13)[j]?=c[i*13+j]?:=λi j C=>by rw[cD C,ei]
 have nV:∀(i:Fin T.length) (j:Nat) (x:V),(T[i]).azR[j]?=some x->x.pure=θ/\∃u,((c.drop (i*13)).take 13)[j]?=some u/\VR w J μ x u:=λi j x K=>by
  have C:j<13:=by have:=(ag.1 K).1;rwa [ov]at this
  have h2:gv (T.map aV.azR) i j=some x:=by simp only[gv,bR,aD i.2,dV,kz];exact K
  obtain⟨q1,u,M,P⟩:=eG.2 _ _ _ h2;exact⟨q1,u,by rw[dz i j C];exact M,P⟩
 have l:∀i:Fin T.length,((c.drop (i*13)).take 13)[1]?=some (.int .i64 (T[i]).aY.bS)/\((c.drop (i*13)).take 13)[2]?=some (.int .i64 (T[i]).aY.azW):=λi=>by obtain⟨_,u,M,P⟩:=nV i 1 (.I (T[i]).aY.bS) rfl;obtain⟨_,u2,q4,q5⟩:=nV i 2 (.I (T[i]).aY.azW) rfl;rw[P.kK]at M;rw[q5.kK]at q4;exact⟨M,q4⟩
 generalize ac:(λi:Fin T.length=>(c.drop (i*13)).take 13)=enc;have z:∀i,enc i=(c.drop (i*13)).take 13:=λi=>by rw[<- ac]
 have E:(List.finRange T.length).toArray.size=T.length:=by simp
 have an:∀j (h:j<T.length),(List.finRange T.length).toArray[j]! = ⟨j,h⟩:=λj h=>by rw[getElem!_pos _ j (by rw[E];exact h)];simp
 have S5:∀(d:Array (Fin T.length)) (t:Nat),d.size=T.length->t<T.length*13->(flatK enc 13 d)[t]?=c[(d[t / 13]!).1*13+t % 13]?:=λd t hd A=>by
  have h1:t<(flatK enc 13 d).size:=by rw[size_flatK,hd];exact A
  have h2:=get_flatK enc 13 d t (by rw[hd];exact A);have F:t % 13<13:=wg _ (by decide);rw[getElem!_pos _ t h1]at h2;rw[cq h1,h2,z,<- dz _ _ F];rw[getElem!_pos _ (t % 13) (by rw[S7];exact F),aD]
 have hH:HoldsK enc 13 w X 0 (List.finRange T.length).toArray:=λt A=>by
  rw[size_flatK,E]at A;have h1:=S5 (List.finRange T.length).toArray t E A;have U:t / 13<T.length:=o7 (by omega);rw[an _ U]at h1;have e2:t / 13*13+t % 13=t:=by omega
  simp only[e2]at h1;have L:t<(flatK enc 13 (List.finRange T.length).toArray).size:=by rw[size_flatK,E];exact A
  have h4:D.toList[t]?=c[t]?:=by rw[<- GJ,cD A]
  refine⟨?_,by simp[World.frozen?,hg]⟩;simp only[World.cell?,hg,aG,id_eq];rw[getElem!_pos _ t L,<- Array.getElem?_eq_getElem L,h1,<- h4];simp
 have QG:=AnyQ.slices_SortFunc Tryz.abe 13 Tryz.isAgg57 Tryz.sizeOf57 enc (λi=>by rw[z];exact S7 i) (λi v H=>o1 v (by rw[z]at H;exact eO (dY H))) (λi j=>dH T[i] T[j]) (Y5 T) 115 #[] X 0 k (List.finRange T.length).toArray w (enters_of func115 (by kernel_rfl) rfl)
  (λm os dk _ x y=>by rw[Wg,z,z];exact UP _ _ (S7 x) (S7 y) _ _ _ _ (l x).1 (l x).2 (l y).1 (l y).2 _) hH (cY.1 hg).1 (by rw[E];omega);rw[E,<- yI]at QG;refine QG.mono ?_;rintro e w' ⟨rfl,s,n,os,GB,am,rfl⟩;have f:s.size=T.length:=by have:=GB.1;rw[E]at this;exact this
 have Fp:s.toList.map (λi=>T[i])=ej T:=by
  refine Yw hd ?_ ?_
  .have h1:=GB.2.2;have e1:s.extract 0 T.length=s:=by have:=Dh (xs:=s);rwa [f]at this
   have e2:(List.finRange T.length).toArray.extract 0 T.length=(List.finRange T.length).toArray:=by have:=Dh (xs:=(List.finRange T.length).toArray);rwa [E]at this
   rw[e1,e2]at h1;simpa using h1
  refine iC.2 λi j hi C wP=>?_;rw[bf]at hi C;have:=am i j (jK _) wP (by rw[<- f];exact C);rw[getElem!_pos _ i hi,getElem!_pos _ j C]at this;simp only[ltOf,iX]at this;simpa using this
 have W:nQ (μ id)=some X:=by rw[yI];rfl
 have yi:(flatK enc 13 s).size=T.length*13:=by rw[size_flatK,f]
 refine⟨(flatK enc 13 s).toList,rfl,by rw[W];exact Ha,⟨by rw[aa,N,bf,yi],.inr ⟨X,k,putCells _root_.id 0 (flatK enc 13 s) D,by rw[aa,N,yI],hB,Im hg,by rw[aa,N];exact J7,CZ,?_,?_⟩⟩,?_,?_⟩;.simp[putCells,qF]
 .rw[aa,N];apply kR;intro t;by_cases A:t<T.length*13
  .rw[cD A];have L:t<(flatK enc 13 s).size:=by rw[yi];exact A
   have h4:t<D.size:=by rw[qF];have:=cg 13 J7;omega
   simp only[putCells,kX,Me,cq h4,dV,jK,km,aG,aQ L,B3,id_eq];rw[getElem!_pos _ t L,cq L]
  rw[cH (by rw[bj];omega),cH (by rw[bf,yi];omega)]
 .intro r R;obtain⟨x,_,rfl⟩:=cv.1 R;exact ov x
 intro i j x K;obtain⟨r,R,C⟩:=ln K;rw[bR,<- Fp,bR]at R;simp only[aL]at R;obtain⟨o,⟨q,U,rfl⟩,rfl⟩:=R;obtain⟨q1,u,M,P⟩:=nV q j x C;have af:j<13:=by have:=(ag.1 C).1;rwa [ov]at this
 have pR:i<T.length:=by have:=(ag.1 U).1;rwa [bf,f]at this
 refine⟨q1,u,?_,P⟩;rw[kX,S5 s (i*13+j) f (by omega),show(i*13+j) / 13=i by omega,show(i*13+j) % 13=j by omega,<- dz _ j af];have BW:s[i]! = q:=by rw[getElem!_pos _ i (by rw[f];exact pR)];rw[kX,cq (by rw[f];exact pR)]at U;simpa using U
 rw[BW];exact M
def acf:T.map aV.azR++[[.I D.aY.time,.I D.aY.bS,.I D.aY.azW,.I D.azT,.sl 3 (D.azV.azZ.map It.azR),.sl 3 (D.azV.az0.map It.azR),.s D.azV.cM,.s D.azV.next,.s D.azV.eu,.s D.azV.dC,.I D.azV.aAb,.I D.azV.aAc,.sl 1 (D.az1.map cN)]]=(T++[D]).map aV.azR:=by simp[aV.azR,cL.azR,En.azR]
def D3(q:V)(log:aR)(s:Int):Ob:=.box 61 [.I H,.I A,q,.sl 1 (aN log),.I s,.b G]
def afG{n:Nat}{xs:aB}{J:aj}{log:aR}{s:Int}:Wk κ n xs (J++[Q,F,D3 f c .nil log s]) xs (J++[Q,F,D3 f c (.own (Y J+3) 0) log s,gl 0 G []]):=by have:=Wk.tV (P:=κ) (n:=n) (xs:=xs) (id:=Y J+2) (j:=2) (T:=61) (cs:=[.I f,.I c,.nil,.sl 1 (aN log),.I s,.b G]) (J:=J++[Q,F,D3 f c .nil log s]) Wm (by simp[D3]) rfl;simpa only[D3,gl,kf,aO,ah,ae,ai,aF,ay,cC,cT,aG,Nat.reduceAdd,ar]using this
def afF{n g:Nat}{xs:aB}{J:aj}{nu c:Int}{log:aR}{s:Int}{l:List aV}(h:bT (J++[Q,F]))(k:n<=Y J)(i:jt (Y J+3) xs): Wk κ n xs (J++[Q,F,D3 nu c (.own (Y J+3) g) log s,gl g G l]) xs (J++[Q,F,D3 nu c (.sl 13 (l.map aV.azR)) log s]):=by
 have a:=Wk.share (P:=κ) (n:=n) (xs:=xs) (J:=J++[Q,F,D3 nu c (.own (Y J+3) g) log s,gl g G l]) (id:=Y J+3) (E:=57) (sz:=13) (by':=184) (g:=g) (sh:=G) (rows:=l.map aV.azR) (by simp[gl]);have e:=Wk.HZ (P:=κ) (n:=n) (xs:=xs) (J:=J++[Q,F,D3 nu c (.own (Y J+3) g) log s,.row 57 13 184 g θ (l.map aV.azR)]) (id:=Y J+2) (idr:=Y J+3) (T:=61) (j:=2) (g:=g) (E:=57) (sz:=13) (by':=184) (rows:=l.map aV.azR)
  (cs:=[.I nu,.I c,.own (Y J+3) g,.sl 1 (aN log),.I s,.b G]) (by simp[D3]) rfl (by simp);simp only[kf,cC,cT]at a e;have f:bT (J++[Q,F,D3 nu c (.sl 13 (l.map aV.azR)) log s]):=by have:=cj h (l:=[D3 nu c (.sl 13 (l.map aV.azR)) log s]) (by simp only[D3,bF,bD,cA,cW,cK,LW]);simpa using this
 have d:=Wk.lS (P:=κ) (n:=n) (xs:=xs) (J:=J++[Q,F,D3 nu c (.sl 13 (l.map aV.azR)) log s]) (loc:=[.row 57 13 184 g θ (l.map aV.azR)]) (by simp;omega) f (ed.1 (by simpa using i));simp only[aO,aF,ay]at d;exact(a.trans e).trans d
set_option maxRecDepth 4000 in
def akx(q:bT (U++[Q,F]))(e:Int)(log:aR)(s:Int)(b:List aV)(o:∀x∈b,V6 x)(v:b.length<=1000):∀(c a:List aV) (g:Nat),b=a++c ->(∀g,((fj 2 (fh (.ptr (U.length+1) 0) (fj 1 (fh (.ptr (U.length+2) 0) (fj 59 fo))))) λn=>y (.exit 0) ⟨n,U++[Q,F,D3 e (kj b) (.own (U.length+3) g) log s,gl g G b]⟩)) ->gw U.length κ Xf y (c.length+1) ⟨(uu 2 (.ptr (U.length+1) 0::uu 1 (.ptr (U.length+2) 0::uu 26 (.sl 1 ((b.map dJ).map B2)::.I b.length::.I a.length::uu 30 [])))),U++[Q,F,D3 e (kj a) (.own (U.length+3) g) log s,gl g G a]⟩:=by
 intro c;induction c with
 |nil =>intro a g d j;have d:=dL d;subst d;refine az λR m=>?_;simp only[Xf,VV,seval];exact⟨λh=>by simp at h,λ_=>j g ..⟩
 |cons x c ih =>
 intro a g d j;have r:=gY d;have i:=o x (by rw[d];simp);have k:=dD a x (by omega);have t:decide ((a.length:Int)<(b.length:Int))=θ:=by simp;omega
 have p:gv ((b.map dJ).map B2) a.length 0=S (.sl 1 (aN (dJ x))):=by rw[d,jQ];exact qK
 have u:=yU i.azU i.ok;refine az λR m=>?_;simp only[Xf,D3,gl,p,t,k,ak,aa,V.pure,VV,seval];refine⟨⟨by omega,by omega⟩,?_⟩;have f:(if kj a<x.aY.time then x.aY.time else kj a)=kj (a++[x]):=by rw[wW,CV]
 refine al (Sp (dJ x) (by have:=i.enc;omega) _) rfl ?_;simp only[u,f,k,aa,maxLen,aV.azR,cL.azR,En.azR,V.pure,VV,seval];refine⟨⟨by omega,by omega⟩,?_⟩;rw[acf];refine m _ (cn [Q,F,D3 e (kj (a++[x])) (.own (U.length+3) (g+1)) log s,gl (g+1) G (a++[x])] [_] ?_ ?_ ?_ (ih (a++[x]) (g+1) (by rw[d];simp) j));.have:=cj q (l:=[D3 e (kj (a++[x])) (.own (U.length+3) (g+1)) log s,gl (g+1) G (a++[x])]) (by simp only[D3,gl,bF,bD,cA,cW,cK,ah,ae,ai,LW];omega);simpa using this
 .repeat' constructor
 simp only[LW,ae,ai,aG];omega
def Ux{n:Int}{a:List aV}{d:aR}(h:HD n a)(w:Y a<=180)(t:kx d=0)(k:Y (iA a++d)<2^30)(J:aj): bh κ 59 [.agg (sE n a d).azR] J (fm (gL n a (Y a)) 0):=by
 refine aW func59 p59.2 λm v=>?_;have f:∀p∈a.map dJ,Y p<=65536:=λp f=>by obtain⟨x,j,rfl⟩:=cv.1 f;have:=(h.op x j).enc;omega
 have r:Y (iA a)<2^30:=by rw[ah]at k;omega
 have i:∀J,bh κ 112 [.sl 1 (aN (iA a))] J (.jg [.sl 1 ((a.map dJ).map B2),.I (Y (iA a))]):=λJ=>by have:=Ww (a.map dJ) [] (by rw[bI];exact r) f rfl J;rw[bI]at this;exact this
 simp only[p59,SS,seval];refine cB.cutAt (.more (.more (.more (.more (.more (.more (.one _ _))))))) λR u=>?_;simp only[sE,bO.azR,VV,seval];intro X;refine al (YK (a.map dJ) d k f t _) rfl ?_;simp only[bM,VV,seval];refine al (i _) rfl ?_;simp only[VV,seval];have q:du (a.map dJ)=iA a:=rfl;have o:bT (J++[.box 61 [.I n,.I 0,.sl 13 [],.sl 1 (aN (iA a++d)),.I (Y (iA a++d)),.b θ],.box 61 [.I 0,.I 0,.nil,.nil,.I 0,.b G]]):=cj m (by simp only[bF,bD,cA,cW,cK,LW]);refine cB.wk ((Wk.fw (ys:=(uu 2 (.ptr (Y J+1) 0::uu 1 (.ptr (Y J+2) 0::uu 26 (.sl 1 ((a.map dJ).map B2)::.I (Y a)::.I (Y ([]:List aV):Nat)::uu 30 []))))) ?_).trans afG) (cB.kT (Y a+1) (akx o n (iA a) (iA a).length a (λx j=>h.op x j) (by omega) a [] 0 rfl ?_));.simp only[aa];repeat' constructor
 intro g;simp only[JE];intros;simp only[D3,gl,VV,seval];refine al (abi a (Y J+3) g h.one (by omega) _ (by simp only[VV,seval])) rfl ?_;simp only[VV,seval];refine u _ (cB.wk ((Wk.fw (ys:=(uu 2 (.ptr (Y J+1) 0::uu 1 (.ptr (Y J+2) 0::uu 59 [])))) ?_).trans (afF (g:=g) (nu:=n) (c:=kj a) (log:=iA a) (s:=Y (iA a)) (l:=ej a) o (aM _) ?_)) (aq ?_));.repeat' constructor
 .simp only[LW];omega
 simp only[D3,VV,seval];have e:gL n a (Y a)=⟨n,kj a,ej a,iA a,Y (iA a),G⟩:=by simp[gL]
 simp only[fm,e,bO.azR];exact bA m (.inr rfl) (by simp only[RS,seval];rfl) (by simp[LW]) ⟨rfl,rfl⟩
def ID(b:X.down=G)(J:aj):bh κ 59 [.agg X.azR] J (fm bO.zero 8):=by refine aW func59 p59.2 λa c=>aq ?_;simp only[p59,SS,seval];simp only[bO.azR,b,VV,seval];exact gx a (.inr rfl) (by simp only[RS,seval]) (.cons (Cv.iV (zz 0)) (.cons (.refl _) .nil)) (by simp only[bO.azR,LW]) ⟨rfl,rfl⟩
def Yu(b:X.down=θ)(J:aj):bh κ 62 [.agg X.azR] J (fm bO.zero 15):=by refine aW func62 p62.2 λa c=>aq ?_;simp only[p62,SS,seval];simp only[bO.azR,b,VV,seval];exact gx a (.inr rfl) (by simp only[RS,seval]) (.cons (Cv.iV (zz 0)) (.cons (.refl _) .nil)) (by simp only[bO.azR,LW]) ⟨rfl,rfl⟩
def Wo(c:X.azU)(a:X.down=G)(J:aj):bh κ 62 [.agg X.azR] J (fm { X with aAe:=X.log.length } 0):=by refine aW func62 p62.2 λb d=>aq ?_;simp only[p62,SS,seval];simp only[bO.azR,a,VV,seval];refine al (tc X c _) (by simp only[bO.azR,a,VV,seval]) ?_;simp only[fm,bO.azR,a,bM,VV,seval];exact bA b (.inr rfl) (by simp only[RS,seval];rfl) (by simp[LW]) ⟨rfl,rfl⟩
def opsV:List aV->V|[]=>.nil|l=>.sl 13 (l.map aV.azR)
def af4:∀l:List aV,Cv (opsV l) (.sl 13 (l.map aV.azR))|[]=>.nil 13|_::_=>.refl _
def ace:opsV (qn T D)=.sl 13 ((qn T D).map aV.azR):=by cases h:qn T D with|nil=>simp[qn]at h|cons a r=>rfl
set_option maxRecDepth 4000 in
def aky(A:bT (U++[Q,F]))(j:Int)(log:aR)(s:Int)(e:List aV)(q:∀x∈e,V6 x)(r:e.Pairwise λa b=>dH a b≠0)(K:e.length<=1000)(u:Int):∀(f d:List aV),e=d++f ->(((fj 2 (fh (.ptr (U.length+1) 0) (fj 1 (fh (.ptr (U.length+2) 0) (fj 1 (fh (.I u) (fj 53 fo))))))) λw=>y (.exit 0) ⟨w,U++[Q,F,D3 j (kj e) (opsV (ej e)) log s]⟩)) ->gw U.length κ Xg y (f.length+1) ⟨(uu 2 (.ptr (U.length+1) 0::uu 1 (.ptr (U.length+2) 0::uu 1 (.I u::uu 20 (.sl 1 ((e.map dJ).map B2)::.I e.length::.I d.length::uu 30 []))))),U++[Q,F,D3 j (kj d) (opsV (ej d)) log s]⟩:=by
 intro f;induction f with
 |nil =>intro d g n;have g:=dL g;subst g;refine az λR v=>?_;simp only[Xg,VV,seval];exact⟨λh=>by simp at h,λ_=>n ..⟩
 |cons x f ih =>
 intro d g n;have B:=gY g;have k:=q x (by rw[g];simp);have t:=dD d x (by omega);have D:decide ((d.length:Int)<(e.length:Int))=θ:=by simp;omega
 have z:gv ((e.map dJ).map B2) d.length 0=S (.sl 1 (aN (dJ x))):=by rw[g,jQ];exact qK
 have E:=yU k.azU k.ok;have J:∀c∈ej d,dH c x≠0:=λc C=>by rw[g]at r;exact(iG.1 r).2.2 c (dU.1 C) x (by simp)
 have p:ud (ej d) x=ej (d++[x]):=by rw[mJ J,sN]
 have i:opsV (ej (d++[x]))=.sl 13 ((ej (d++[x])).map aV.azR):=by rw[sN];exact ace _ _
 refine az λR v=>?_;simp only[Xg,D3,z,D,t,ak,aa,V.pure,VV,seval];refine⟨⟨by omega,by omega⟩,?_⟩;have m:(if kj d<x.aY.time then x.aY.time else kj d)=kj (d++[x]):=by rw[wW,CV]
 refine al (Ot (dJ x) (by have:=k.enc;omega) _) rfl ?_;simp only[E,aV.azR,cL.azR,En.azR,V.pure,VV,seval];refine iN (zs:=[.sl 13 ((ej d).map aV.azR),.agg x.azR]) (.cons (af4 _) (.cons (.refl _) .nil)) (yz _ _ (by rw[uU];omega) (λo H=>(q o (by rw[g];simp[dU.1 H])).azU) k.azU _) ?_;simp only[p,m,t,V.pure,VV,seval];rw[<- i];refine v _ (cn [Q,F,D3 j (kj (d++[x])) (opsV (ej (d++[x]))) log s] [_] ?_ ?_ ?_ (ih (d++[x]) (by rw[g];simp) n));.have:=cj A (l:=[D3 j (kj (d++[x])) (opsV (ej (d++[x]))) log s]) (by simp only[D3,i,bF,bD,cA,cW,cK,LW]);simpa using this
 .repeat' constructor
 simp only[LW,ae,ai,aG];omega
def Rx(h:HD f l)(q:Y l<=180)(i:kx t=0)(d:Y (iA l++t)<2^30)(J:aj): bh κ 56 [.agg (sE f l t).azR] J (fm (gL f l (Y l)) 0):=by
 refine aW func56 p56.2 λg n=>?_;have a:∀p∈l.map dJ,Y p<=65536:=λp a=>by obtain⟨x,c,rfl⟩:=cv.1 a;have:=(h.op x c).enc;omega
 have o:Y (iA l)<2^30:=by rw[ah]at d;omega
 simp only[p56,SS,seval];refine cB.cutAt (.more (.more (.more (.more (.one _ _))))) λR k=>?_;simp only[sE,bO.azR,VV,seval];intro X;refine al (UH (l.map dJ) t d a i _) rfl ?_;simp only[bM,VV,seval];refine al (Ry (l.map dJ) t d a i _) rfl ?_;simp only[VV,seval];have j:du (l.map dJ)=iA l:=rfl;have m:bT (J++[.box 61 [.I f,.I 0,.sl 13 [],.sl 1 (aN (iA l++t)),.I (Y (iA l++t)),.b θ],.box 61 [.I 0,.I 0,.nil,.nil,.I 0,.b G]]):=cj g (by simp only[bF,bD,cA,cW,cK,LW]);refine cB.wk (Wk.fw (ys:=(uu 2 (.ptr (Y J+1) 0::uu 1 (.ptr (Y J+2) 0::uu 1 (.I (Y (iA l))::uu 20 (.sl 1 ((l.map dJ).map B2)::.I (Y l)::.I (Y ([]:List aV):Nat)::uu 30 [])))))) ?_) (cB.kT (Y l+1) (aky m f (iA l) 0 l (λx c=>h.op x c) h.one (by omega) (iA l).length l [] rfl ?_));.simp only[aa];repeat' constructor
 simp only[JE];intros;simp only[D3,VV,seval];refine k _ (cB.fw (fr':=(uu 2 (.ptr (Y J+1) 0::uu 1 (.ptr (Y J+2) 0::uu 1 (.I (Y (iA l))::uu 53 []))))) (aq ?_) (by repeat' constructor));have e:gL f l (Y l)=⟨f,kj l,ej l,iA l,Y (iA l),G⟩:=by simp[gL]
 simp only[fm,e,bO.azR];generalize ej l=so;cases so with|nil =>simp only[opsV,bM,ar,VV,seval];exact gx g (.inr rfl) (by simp only[RS,seval]) (.cons (Cv.iV (.cons (.refl _) (.cons (.refl _) (.cons (.nil 13) (.cons (.refl _) (.cons (.refl _) (.cons (.refl _) .nil))))))) (.cons (.refl _) .nil)) (by simp[LW]) ⟨rfl,rfl⟩|cons y r =>simp only[opsV,bM,VV,seval];exact bA g (.inr rfl) (by simp only[RS,seval];rfl) (by simp[LW]) ⟨rfl,rfl⟩
def Rw(b:X.down=G)(J:aj):bh κ 56 [.agg X.azR] J (fm bO.zero 8):=by refine aW func56 p56.2 λa c=>aq ?_;simp only[p56,SS,seval];simp only[bO.azR,b,VV,seval];exact gx a (.inr rfl) (by simp only[RS,seval]) (.cons (Cv.iV (zz 0)) (.cons (.refl _) .nil)) (by simp only[bO.azR,LW]) ⟨rfl,rfl⟩
def UG(b:X.down=θ)(J:aj):bh κ 54 [.agg X.azR] J (fm bO.zero 15):=by refine aW func54 p54.2 λa c=>aq ?_;simp only[p54,SS,seval];simp only[bO.azR,b,VV,seval];exact gx a (.inr rfl) (by simp only[RS,seval]) (.cons (Cv.iV (zz 0)) (.cons (.refl _) .nil)) (by simp only[bO.azR,LW]) ⟨rfl,rfl⟩
def abI(a:X.down=G)(J:aj):bh κ 54 [.agg X.azR] J (fm { X with aAe:=X.log.length } 0):=by refine aW func54 p54.2 λb c=>aq ?_;simp only[p54,SS,seval];simp only[bO.azR,a,VV,seval];simp only[fm,bO.azR,a,bM,VV,seval];exact bA b (.inr rfl) (by simp only[RS,seval];rfl) (by simp[LW]) ⟨rfl,rfl⟩
def YR(eY:Int)(a:X.down=θ)(J:aj):bh κ 55 [.agg X.azR,.I eY] J (.agg (r8 X eY).azR):=by refine aW func55 p55.2 λb c=>aq ?_;simp only[p55,SS,seval];simp only[bO.azR,a,VV,seval];rw[show r8 X eY=X from aQ a];simp only[a,VV,seval];exact bA b (.inr rfl) (by simp only[RS,seval];rfl) (by simp[LW]) ⟨rfl,rfl⟩
def YQ(eY:Int)(o:X.azU)(i:X.down=G)(s:0<=X.aAe/\X.aAe<=X.log.length)(J:aj):bh κ 55 [.agg X.azR,.I eY] J (.agg (r8 X eY).azR):=by
 refine aW func55 p55.2 λj r=>aq ?_;have t:=o.log;obtain⟨y,h⟩:∃y:Nat,X.aAe=y:=⟨X.aAe.toNat,by omega⟩;have n:(decide ((y:Int)<0)||decide ((X.log.length:Int)<(y:Int)))=G:=by simp;omega
 have m:IntKind.i64.wrap ((X.log.length:Int) - (y:Int))=((X.log.length - y:Nat):Int):=by rw[IntWalk.i64_in _ (by omega)];omega
 have k:(if 0<if((X.log.length - y:Nat):Int)<eY then((X.log.length - y:Nat):Int)else eY then if((X.log.length - y:Nat):Int)<eY then((X.log.length - y:Nat):Int)else eY else 0)=((min eY.toNat (X.log.length - y):Nat):Int):=by (repeat' split)<;>omega
 have p:IntKind.i64.wrap ((y:Int)+((min eY.toNat (X.log.length - y):Nat):Int))=((mK X eY:Nat):Int):=by rw[IntWalk.i64_in _ (by omega),mK,h,ak];omega
 have l:mK X eY<=X.log.length:=by rw[mK,h,ak];omega
 have q:(aN X.log).take (mK X eY)=aN (X.log.take (mK X eY)):=by simp[aN,gD]
 have e:Y (X.log.take (mK X eY))=mK X eY:=by rw[bj];omega
 have f:r8 X eY=⟨X.azW,0,[],X.log.take (mK X eY),mK X eY,θ⟩:=aw (by rw[i];simp);simp only[p55,SS,seval];simp only[bO.azR,i,h,bM,VV,seval];rw[f];simp only[n,m,k,p,ak,q,e,bM,ar,maxLen,VV,seval];generalize X.log.take (mK X eY)=a at e |-;generalize mK X eY=kk at l e |-;cases a with
 |nil =>have d:aN []=[]:=rfl;simp only[d,iZ,aU,VV,seval];refine⟨⟨by omega,by omega⟩,⟨by omega,by omega⟩,?_⟩;exact gx j (.inr rfl) (by simp only[RS,seval]) (.cons (Cv.iV (.cons (.refl _) (.cons (.refl _) (.cons (.nil 13) (.cons (.lit 1 []) (.cons (.refl _) (.cons (.refl _) .nil))))))) .nil) (by simp[LW]) ⟨rfl,rfl⟩
 |cons c a =>
 have d:(aN (c::a)).isEmpty=G:=rfl;simp only[d,aP,bw,VV,seval];refine⟨⟨by omega,by omega⟩,⟨by omega,by omega⟩,?_⟩;refine dS (xs:=[.agg [.I X.azW,.I 0,.nil,.own (Y J+2) 0,.I kk,.b θ]]) (xs':=[.agg [.I X.azW,.I 0,.sl 13 [],.sl 1 (aN (c::a)),.I kk,.b θ]]) (.inr rfl) (by simp only[RS,seval]) ((Wk.fz (Y J+2) (E:=5) (sz:=1) (by':=1) (g:=0) (sh:=G) (rows:=aN (c::a)) (by rw[kO];rfl)).trans ((Wk.fw (ys:=[.agg [.I X.azW,.I 0,.sl 13 [],.sl 1 (aN (c::a)),.I kk,.b θ]]) ?_).trans ?_)) rfl ⟨rfl,rfl⟩;.simp only[aI,ar,Pm.fz,kE,cG,aU];exact .cons (Cv.iV (.cons (.refl _) (.cons (.refl _) (.cons (.nil 13) (.cons (.refl _) (.cons (.refl _) (.cons (.refl _) .nil))))))) .nil
 rw[kf];exact Wk.yQ j (by simp[LW])
def Lu(b:X.down=θ)(J:aj):bh κ 63 [.agg X.azR,.agg D.azR] J (fm bO.zero 15):=by refine aW func63 p63.2 λa c=>aq ?_;simp only[p63,SS,seval];simp only[bO.azR,aV.azR,cL.azR,En.azR,b,VV,seval];exact gx a (.inr rfl) (by simp only[RS,seval]) (.cons (Cv.iV (zz 0)) (.cons (.refl _) .nil)) (by simp only[bO.azR,LW]) ⟨rfl,rfl⟩
def Ls(x y:aV)(e:X.azU)(i:x.azU)(b:X.down=G)(h:fc x=0)(f:ka X.azS x.aY.bS x.aY.azW=some y)(d:Fb x y=θ)(J:aj):
  bh κ 63 [.agg X.azR,.agg x.azR] J (fm X 0):=by refine aW func63 p63.2 λg j=>aq ?_;have a:=e.len;simp only[p63,SS,seval];simp only[bO.azR,aV.azR,cL.azR,En.azR,b,VV,seval];refine al (od x i _) (by simp only[aV.azR,cL.azR,En.azR,VV,seval]) ?_;simp only[h,VV,seval];refine al (qU X.azS (by omega) x.aY.bS x.aY.azW _) rfl ?_;simp only[f,qD,aV.azR,cL.azR,En.azR,aF,ay,VV,seval];refine bV (c:=θ) (by simp only[VV,seval]<;>rfl) (λ_=>oD x y _) (by simp only[aV.azR,cL.azR,En.azR,VV,seval]) ?_;simp only[d,VV,seval];simp only[fm,bO.azR,b,VV,seval];exact bA g (.inr rfl) (by simp only[RS,seval];rfl) (by simp[LW]) ⟨rfl,rfl⟩
def Oi(j:X.azU)(i:∀y∈X.azS,y.azU)(d:D.azU)(f:X.down=G)(g:fc D=0)(p:(dJ D).length<=60000)(k:X.log.length<=4000000)(n:ka X.azS D.aY.bS D.aY.azW=Z)(m:D.aY.bS≠X.azW)(l:∀y∈X.azS,dH y D≠0)(J:aj): bh κ 63 [.agg X.azR,.agg D.azR] J (fm (ku X D (pt X.azS D)) 0):=by
 refine aW func63 p63.2 λo q=>aq ?_;have e:=j.len;have a:(D.aY.bS==X.azW)=G:=by simpa using m
 simp only[p63,SS,seval];simp only[bO.azR,aV.azR,cL.azR,En.azR,f,VV,seval];refine al (od D d _) (by simp only[aV.azR,cL.azR,En.azR,VV,seval]) ?_;simp only[g,VV,seval];refine al (qU X.azS (by omega) D.aY.bS D.aY.azW _) rfl ?_;simp only[n,qD,nG,aV.azR,cL.azR,En.azR,aF,ay,ar,VV,seval];refine bV (c:=G) (v:=.b G) (by simp only[VV,seval]<;>rfl) (λh=>by simp at h) rfl ?_;simp only[a,VV,seval];refine al (uC D d _) (by simp only[aV.azR,cL.azR,En.azR,VV,seval]) ?_;simp only[Ky g,VV,seval];refine al (IL X.log (dJ D) p k _) rfl ?_;simp only[VV,seval];refine al (yz X.azS D (by omega) i d _) (by simp only[aV.azR,cL.azR,En.azR,VV,seval]) ?_;simp only[mJ l,VV,seval];simp only[fm,ku,bO.azR,qn,f,VV,seval];exact bA o (.inr rfl) (by simp only[RS,seval];rfl) (by simp[LW]) ⟨rfl,rfl⟩
def nK(m:Nat)(a:Int)(e:En)(c:Nat->Nat):aV:=⟨⟨X.az5+1,X.azW,(m:Int)+1⟩,a,e,tG c⟩
def gZ(e:Int):V:=.jg [.agg X.azR,.agg D.azR,.I e]
def sr:Nat:=(X.azS.filter λx=>x.aY.bS==X.azW).length
def UK(d:Int)(e:En)(i:X.azU)(k:X.down=G)(x:∀y∈X.azS,y.azU)(c:Nat->Nat)(A:s9 X.azS c)(g:∀q:Nat,q<8->c q<=128)(n:(nK X (sr X) d e c).azU)(v:fc (nK X (sr X) d e c)=0) (C:(dJ (nK X (sr X) d e c)).length<=60000) (z:X.log.length<=4000000) (H:sr X<128) (F:0<=X.az5/\X.az5<2^30) (u:∀y∈X.azS,dH y (nK X (sr X) d e c)≠0) (J:aj) : bh κ 100 [.agg X.azR,.I d,.agg e.azR] J (gZ (rR X (nK X (sr X) d e c) (pt X.azS (nK X (sr X) d e c))) (nK X (sr X) d e c) 0):=by
 refine aW func100 aqo.2 λB E=>aq ?_;have o:=i.len;have t:sr X<=X.azS.length:=kW _ _;have D:IntKind.i64.wrap ((sr X:Int)+1)=(sr X:Int)+1:=IntWalk.i64_in _ (by omega);have l:IntKind.i64.wrap (X.az5+1)=X.az5+1:=IntWalk.i64_in _ (by omega);have p:∀J,bh κ 153 [.agg X.azR] J (.I (sr X:Nat)):=λJ=>abK X i J;have r:decide ((128:Int)<(sr X:Int)+1)=G:=by simp;omega
 have w:decide ((1073741824:Int)<=X.az5)=G:=by simp;omega
 simp only[aqo,SS,seval];have m:=II X i c A g;simp only[bO.azR,En.azR,k,VV,seval]at p m |-;refine al (p _) rfl ?_;simp only[D,r,w,l,VV,seval];intro a;refine al (m _) rfl ?_;simp only[VV,seval];have f:aV.azR (nK X (sr X) d e c)=[.I (X.az5+1),.I X.azW,.I ((sr X:Int)+1),.I d,.sl 3 (e.azZ.map It.azR),.sl 3 (e.az0.map It.azR),.s e.cM,.s e.next,.s e.eu,.s e.dC,.I e.aAb,.I e.aAc,.sl 1 ((tG c).map cN)]:=by simp only[nK,aV.azR,cL.azR,En.azR,aF,ay]
 refine al (uC (nK X (sr X) d e c) n _) (by simp only[f,VV,seval]) ?_;simp only[Ky v,VV,seval];refine al (IL X.log (dJ (nK X (sr X) d e c)) C z _) rfl ?_;simp only[VV,seval];refine al (yz X.azS (nK X (sr X) d e c) (by omega) x n _) (by simp only[f,VV,seval]) ?_;simp only[mJ u,l,bM,VV,seval];have j:(if X.az5<(nK X (sr X) d e c).aY.time then(nK X (sr X) d e c).aY.time else X.az5)=X.az5+1:=aQ (show X.az5<X.az5+1 by omega);have h:(rR X (nK X (sr X) d e c) (pt X.azS (nK X (sr X) d e c))).azR=[.I X.azW,.I (X.az5+1),.sl 13 ((qn X.azS (nK X (sr X) d e c)).map aV.azR),.sl 1 (aN (X.log++rD (dJ (nK X (sr X) d e c)))),.I ((X.log++rD (dJ (nK X (sr X) d e c))).length:Nat),.b G]:=by simp only[rR,ku,bO.azR,qn,k,j]
 simp only[gZ,h,f];exact bA B (.inr rfl) (by simp only[RS,seval];rfl) (by simp[LW]) ⟨rfl,rfl⟩
def Lv(e:En)(b:X.down=θ)(J:aj):bh κ 49 [.agg X.azR,.agg e.azR] J (gZ bO.zero nG 15):=by refine aW func49 p49.2 λa c=>aq ?_;simp only[p49,SS,seval];simp only[bO.azR,En.azR,b,VV,seval];exact gx a (.inr rfl) (by simp only[RS,seval]) (.cons (Cv.iV (zz 0)) (.cons (Cv.iV op0) (.cons (.refl _) .nil))) (by simp only[bO.azR,aV.azR,cL.azR,En.azR,aF,ay,LW]) ⟨rfl,rfl⟩
def F9(e:En)(b:e.azU)(g:dx e=0)(c:X.down=G)(a:∀J,bh κ 100 [.agg X.azR,.I 1,.agg e.azR] J (gZ R L f))(J:aj): bh κ 49 [.agg X.azR,.agg e.azR] J (gZ R L f):=by refine aW func49 p49.2 λd h=>aq ?_;simp only[p49,SS,seval];simp only[bO.azR,En.azR,c,VV,seval]at a |-;refine al (lN e b _) (by simp only[En.azR,VV,seval]) ?_;simp only[g,VV,seval];refine al (a _) rfl ?_;simp only[gZ,bO.azR,aV.azR,cL.azR,En.azR,aF,ay,VV,seval];exact bA d (.inr rfl) (by simp only[RS,seval];rfl) (by simp[LW]) ⟨rfl,rfl⟩
structure OfX (f1 f2 f9 f10 f11:Nat) (o:bO) (e:Ev) (o':bO) (er:Int):Prop where
 c1:e.azT=1->∃x,∀J,bh prog f1 [.agg o.azR,.agg e.azV.azR] J (gZ o' x er)
 c2:e.azT=2->∃x,∀J,bh prog f2 [.agg o.azR,.agg e.azV.azR] J (gZ o' x er)
 c9:e.azT=9->∀J,bh prog f9 [.agg o.azR] J (fm o' er)
 Da:e.azT=10->(o.down=true/\er=15)\/(o.down=false/\er=0/\∀J,bh prog f10 [.agg o.azR,.I e.n] J (.agg o'.azR))
 Ye:e.azT=11->∀J,bh prog f11 [.agg o.azR] J (fm o' er)
def Ze{J:aj}{k a b c v K D:Nat}(h:yj J k a b c)(l:List bO)(B C:Ob)(p:oJ J.length B)(m:oJ J.length C)(e:Ev)(F:e.azT=1\/e.azT=2\/e.azT=9\/e.azT=10\/e.azT=11)(i:Nat)(E:e.a=i)(o:bO)(y:l[i]?=S o)(w:bO)(z:Int) (q:OfX 96 97 62 98 59 o e w z) : PC κ 46 [.ptr k 0,.agg e.azR] (lA J k a b c (fE (.own a v) (.own b K) (.own c D)) (bC v l) B C) (λr M=>r=.I z/\∃A,M=lA J k a b c (fE (.own a v) (.own b K) (.own c D)) A B C/\(z=0->A=bC v (l.set i w))):=by
 obtain⟨L,N,Q,R,P⟩:=e;simp only at F E;subst E;refine aW func46 p46.2 λn O=>aq ?_;have d:(l.map bO.azR).getD i []=o.azR:=by simp[aA,y]
 have s:i<Y l:=(ag.1 y).1;have t:=uF l i w;have g:(0:Int)<=(i:Int):=by omega
 have f:(i:Int)<(Y l:Int):=by omega
 have H:gv (l.map bO.azR) i 5=S (.b o.down):=by simp[gv,y,bO.azR]
 simp only[bO.azR]at d;simp only[p46,SS,seval];rcases F with rfl|rfl|rfl|rfl|rfl;.obtain⟨x,j⟩:=q.c1 rfl;simp only[Ev.azR,En.azR,fE,bC,h.all,d,g,f,bO.azR,aa,VV,seval];refine al (j _) (by simp only[bO.azR,En.azR,VV,seval]) ?_;simp only[gZ,bO.azR,h.all,d,g,f,t,aa,VV,seval];exact⟨s,lE n (lV h.la h.lb h.lc) trivial p m (.inr rfl) rfl (by simp[LW]) ⟨rfl,_,rfl,λ_=>rfl⟩⟩
 .obtain⟨x,j⟩:=q.c2 rfl;simp only[Ev.azR,En.azR,fE,bC,h.all,d,g,f,bO.azR,aa,VV,seval];refine al (j _) (by simp only[bO.azR,En.azR,VV,seval]) ?_;simp only[gZ,bO.azR,h.all,d,g,f,t,aa,VV,seval];exact⟨s,lE n (lV h.la h.lb h.lc) trivial p m (.inr rfl) rfl (by simp[LW]) ⟨rfl,_,rfl,λ_=>rfl⟩⟩
 .have j:=q.c9 rfl;simp only[Ev.azR,En.azR,fE,bC,h.all,d,g,f,bO.azR,aa,VV,seval];refine al (j _) (by simp only[bO.azR,VV,seval]) ?_;simp only[fm,bO.azR,h.all,d,g,f,t,aa,VV,seval];exact⟨s,lE n (lV h.la h.lb h.lc) trivial p m (.inr rfl) rfl (by simp[LW]) ⟨rfl,_,rfl,λ_=>rfl⟩⟩
 .rcases q.Da rfl with⟨u,rfl⟩|⟨u,rfl,j⟩;.simp only[Ev.azR,En.azR,fE,bC,h.all,d,g,f,H,u,bO.azR,aa,VV,seval];exact lE n (lV h.la h.lb h.lc) trivial p m (.inr rfl) rfl (by simp[LW]) ⟨rfl,_,rfl⟩
  simp only[Ev.azR,En.azR,fE,bC,h.all,d,g,f,H,u,bO.azR,aa,VV,seval];refine al (j _) (by simp only[bO.azR,u,VV,seval]) ?_;simp only[bO.azR,h.all,d,g,f,t,aa,VV,seval];exact⟨s,lE n (lV h.la h.lb h.lc) trivial p m (.inr rfl) rfl (by simp[LW]) ⟨rfl,_,rfl,rfl⟩⟩
 have j:=q.Ye rfl;simp only[Ev.azR,En.azR,fE,bC,h.all,d,g,f,bO.azR,aa,VV,seval];refine al (j _) (by simp only[bO.azR,VV,seval]) ?_;simp only[fm,bO.azR,h.all,d,g,f,t,aa,VV,seval];exact⟨s,lE n (lV h.la h.lb h.lc) trivial p m (.inr rfl) rfl (by simp[LW]) ⟨rfl,_,rfl,λ_=>rfl⟩⟩
def XH(d:M<a)(c:v.Lt a)(e:q.Lt a):oJ a (fE (.own M C) v q):=by
 intro j x b;rcases j with _|_|_|j;.simp only[aC,ab]at b;subst b;exact .own _ _ d
 .simp only[aG,bY,aC,ab]at b;subst b;exact c
 .simp only[aG,Nat.reduceAdd,bY,aC,ab]at b;subst b;exact e
 simp at b
def Kz{k a b c ga:Nat}(h:yj U k a b c)(q l:V)(w:q.Lt (Y U))(g:l.Lt (Y U))(e:List bO)(B C:Ob)(y:oJ U.length B)(t:oJ U.length C)(x:Let)(A:Y e<2^30)(i:Nat)(s:x.dst=i)(o:bO)(z:e[i]?=S o)(m:bO)(d:Int) (v:∀U,bh κ 116 [.agg o.azR,.agg x.op.azR] U (fm m d)) : PC κ 60 [.ptr k 0,.agg x.azR] (lA U k a b c (fE (.own a ga) q l) (bC ga e) B C) (λr J=>r=.I d/\J=lA U k a b c (fE (.own a ga) q l) (bC ga (if d=0 then e.set i m else e)) B C):=by
 obtain⟨src,H,L⟩:=x;simp only at s v;subst s;refine aW func60 p60.2 λu K=>aq ?_;have j:(e.map bO.azR).getD i []=o.azR:=by simp[aA,z]
 have D:i<Y e:=(ag.1 z).1;have F:=uF e i m;have p:(0:Int)<=(i:Int):=by omega
 have n:(i:Int)<(Y e:Int):=by omega
 simp only[bO.azR]at j;simp only[p60,SS,seval];simp only[Let.azR,gy,qA,fE,bC,h.all,j,p,n,bO.azR,aa,VV,seval];refine al (pK i e.length _) rfl ?_;have E:LK i (Y e)=θ:=by simp[LK];omega
 simp only[E,h.all,j,p,n,bO.azR,aa,VV,seval];intro X;refine al (v _) (by simp only[gy,qA,bO.azR,VV,seval]) ?_;simp only[fm,bO.azR,h.all,j,p,n,aa,VV,seval];refine⟨λf=>⟨D,?_⟩,λf=>?_⟩
 .have f:d=0:=by simpa using f
  rw[F,aQ f];exact lE u (XH h.la w g) trivial y t (.inr rfl) rfl (by simp[LW]) ⟨rfl,rfl⟩
 have f:¬d=0:=by simpa using f
 rw[aw f];exact lE u (XH h.la w g) trivial y t (.inr rfl) rfl (by simp[LW]) ⟨rfl,rfl⟩
def rP(azY:List Let)(a:gh):V:=.agg [.own b g,.sl 15 (azY.map Let.azR),.sl 2 (a.map cF)]
def tF(e:bT (U.set a Q))(d:∀T c,F≠.box T c):bT (U.set a F):=by
 intro id T c b j x f;by_cases h:a=id
 .subst h;rw[jR]at b;split at b
  .split at b;.exact absurd (fO b) (d T c)
   cases b
  contradiction
 have:=e id T c (by rw[bN h]at b |-;exact b) j x f;simpa using this
def IJ(azY:List Let)(f:gh)(i:Nat)(e:i<Y P)(d:bO)(c:Int)(J:aj)(h:b<Y J): PC κ 50 [rP b g azY f,.I i,.agg d.azR,.I c] (J.set b (bC g P)) (λr m=>r=.jg [if c=0 then rP b g azY f else .agg Net.zero.azR,.I c]/\m=J.set b (bC g (if c=0 then P.set i d else P))):=by
 refine aW func50 p50.2 λk p=>aq ?_;have n:(0:Int)<=(i:Int):=by omega
 have l:(i:Int)<(Y P:Int):=by omega
 have o:=uF P i d;have j:(P.map bO.azR).getD i []=(P[i]).azR:=by simp[aA,e]
 simp only[bO.azR]at j;have H:=at1 h;simp only[p50,SS,seval];simp only[rP,bC,bO.azR,H,n,l,j,aa,↓IT,VV,seval];refine⟨λa=>?_,λa=>?_⟩
 .have a:¬c=0:=by simpa using a
  simp only[aw a];refine dS (xs:=[.agg [.nil,.nil,.nil],.I c]) (.inr rfl) (by simp only[RS,H,seval]) ((Wk.fw (.cons (.iV (.cons (.nil 6) (.cons (.nil 15) (.cons (.nil 2) .nil)))) (.cons (.refl _) .nil))).trans (Wk.lS (by simp) k (ed.1 ?_))) rfl ⟨rfl,rfl⟩;simp only[LW]
 have a:c=0:=by simpa using a
 subst a;simp only[aU,o,H,↓IT,VV,seval];refine⟨e,dS (.inr rfl) (by simp only[RS,H,seval];rfl) (Wk.lS (by simp) (tF k (by simp)) (ed.1 ?_)) rfl ⟨rfl,rfl⟩⟩;simp only[LW,fT];exact h
def aen:B.map cF++[[.I p.1,.I p.2]]=(B++[p]).map cF:=by simp[cF]
def acL{K:bL}(t:bT (U++[Q,F]))(l:gh)(a b:Int)(q:Y l<2^30):∀(d i f:gh) (g:Nat),l=i++d->Y f+Y d<=Y l ->(∀g,((fj 4 (fh (.ptr U.length 0) (fj 3 (fh (.ptr (Y U+1) 0) (fj 1 (fh (.own (Y U+2) g) (fj 75 fo))))))) λr=>K (.exit 0) ⟨r,U++[Q,F,fX g (f++d.filter λc=>!(c==gj a b))]⟩)) ->gw (Y U) κ Xi K (Y d+1) ⟨(uu 1 (.I a::.I b::uu 1 (.ptr U.length 0::uu 3 (.ptr (Y U+1) 0::uu 1 (.own (Y U+2) g::uu 11 (.sl 2 (l.map cF)::.I (Y l)::.I (Y i)::uu 61 [])))))),U++[Q,F,fX g f]⟩:=by
 intro d;induction d with
 |nil =>intro i f g k p m;have k:=dL k;subst k;refine az λR n=>?_;simp only[Xi,fX,↓IT,VV,seval];simp only[u7,bI,fX]at m;exact⟨λh=>by simp at h,λ_=>m g ..⟩
 |cons y d ih =>
 intro i f g k p m;have x:=gY k;simp only[ae]at p;have o:=dD i y (by omega);have s:(List.map cF l).getD i.length []=[.I y.1,.I y.2]:=by rw[k];exact dR
 have u:decide ((Y i:Int)<(Y l:Int))=θ:=by simp;omega
 have j:∀g f,bT (U++[Q,F,fX g f]):=λg f=>by have:=cj t (l:=[fX g f]) (by simp[fX]);simpa using this
 refine az λR n=>?_;simp only[Xi,fX,ak,s,u,o,aa,↓IT,VV,seval];refine⟨⟨by omega,by omega⟩,?_⟩;refine al (Ae a b _) rfl ?_;have v:((y.1==(gj a b).1)&&(y.2==(gj a b).2))=(y==gj a b):=rfl;simp only[cF,iF,eQ,o,v,dB,V.pure,aa,maxLen,↓IT,VV,seval];refine⟨λh=>?_,λh=>?_⟩
 .have e:(y::d).filter (λc=>!(c==gj a b))=y::d.filter (λc=>!(c==gj a b)):=qb (by simpa using h);rw[e]at m;refine⟨⟨by omega,by omega⟩,?_⟩;have w:=aen f y;rw[w];refine n _ (cn [Q,F,fX (g+1) (f++[y])] [_] (j _ _) ?_ ?_ (ih (i++[y]) (f++[y]) (g+1) (by rw[k];simp) (by simp;omega) (by simpa using m)));.repeat' constructor
  simp only[LW,ae,ai,aG];omega
 have e:(y::d).filter (λc=>!(c==gj a b))=d.filter (λc=>!(c==gj a b)):=qc (by simpa using h);rw[e]at m;refine n _ (cn [Q,F,fX g f] [_] (j _ _) ?_ ?_ (ih (i++[y]) f g (by rw[k];simp) (by omega) m));.repeat' constructor
 simp only[LW,ae,ai,aG];omega
def acK{J:aj}{K:bL}{x y:V}{j:Ob}(l:gh)(t:bT (J++[.box 29 [x,y,.sl 2 (l.map cF)],j]))(a b:Int)(q:Y l<2^30):∀(d f:gh),l=f++d ->(((fj 1 (fh (.I a) (fh (.I b) (fj 1 (fh (.ptr J.length 0) (fj 3 (fh (.ptr (Y J+1) 0) (fj 4 (fh (.I (Y f+fL d (gj a b):Nat)) (fj 72 fo)))))))))) λs=>K (.exit 2) ⟨s,J++[.box 29 [x,y,.sl 2 (l.map cF)],j]⟩)) ->gw (Y J) κ Xh K (Y d+1) ⟨(uu 1 (.I a::.I b::uu 1 (.ptr J.length 0::uu 3 (.ptr (Y J+1) 0::uu 4 (.I (Y f)::uu 72 []))))),J++[.box 29 [x,y,.sl 2 (l.map cF)],j]⟩:=by
 intro d;induction d with
 |nil =>
  intro f g i;have g:=dL g;subst g;have k:decide ((Y l:Int)<(Y l:Int))=G:=by simp
  rw[show fL [] (gj a b)=0 from rfl,cu]at i;refine az λR r=>?_;simp only[Xh,k,aa,bb,↓IT,VV,seval];refine⟨.u,?_⟩;refine bV (c:=G) (v:=.u) (by simp only[VV,seval]<;>rfl) (λh=>by simp at h) rfl ?_;simp only[bb,↓IT,VV,seval];refine bV (c:=G) (v:=.b G) (by simp only[VV,seval]<;>rfl) (λh=>by simp at h) rfl ?_;simp only[bb,↓IT,VV,seval];exact i ..
 |cons z d ih =>
 intro f g i;have w:=gY g;have n:=dD f z (by omega);have m:(List.map cF l).getD f.length []=[.I z.1,.I z.2]:=by rw[g];exact dR
 have k:decide ((Y f:Int)<(Y l:Int))=θ:=by simp;omega
 have p:(0:Int)<=(Y f:Int):=by omega
 have o:(Y f:Int)<(Y l:Int):=by omega
 refine az λR r=>?_;simp only[Xh,ak,m,k,n,p,o,bt,aa,bb,↓IT,VV,seval];refine⟨_,rfl,?_⟩;refine bV (c:=θ) (by simp only[VV,seval]<;>rfl) (λ_=>Ae a b _) rfl ?_;simp only[ak,m,p,o,bt,aa,bb,↓IT,VV,seval];refine bV (c:=θ) (by simp only[VV,seval]<;>rfl) (λ_=>abL z (gj a b) _) (by simp only[cF,VV,seval]) ?_;simp only[n,bb,↓IT,VV,seval];refine⟨λh=>?_,λh=>?_⟩
 .have e:Y f+fL (z::d) (gj a b)=Y (f++[z])+fL d (gj a b):=by simp only[fL,ft,h,aU,ae,ah,ai];omega
  rw[e]at i;refine r _ (bX ?_ (ih (f++[z]) (by rw[g];simp) i));repeat' constructor
 have e:fL (z::d) (gj a b)=0:=by simp[fL,ft,h]
 rw[e,cu]at i;exact i ..
def ajK:Ti κ 99 2 16:=o8 (by kernel_rfl)
def qS(a:Bool):gh×Int :=if a=θ then(if gj H A∈B then(B.filter λc=>!(c==gj H A),0)else([],6))
 else if H=A then([],1)else if gj H A∈B then([],5)else(B.take (fL B (gj H A))++gj H A::B.drop (fL B (gj H A)),0)
def aiG:(B.any λc=>c==p)=decide (p∈B):=by rw[eD,dF,decide_eq_true_iff];exact⟨λ⟨c,a,b⟩=>beq_iff_eq.1 b▸a,λh=>⟨p,h,ao p⟩⟩
def Oc{a:aB}{b:List Rs}(d:bT U)(e:mS ⟨a,U++Q::s⟩ b=S [.agg [.nil,.nil,.nil],.I f])(c:v=.agg Net.zero.azR): zy κ U.length b (λr g=>r=.jg [v,.I f]/\g=U) .ret ⟨a,U++Q::s⟩:=by subst c;exact gx (ys:=[.agg Net.zero.azR,.I f]) d (.inr rfl) e (.cons (.iV (.cons (.nil 6) (.cons (.nil 15) (.cons (.nil 2) .nil)))) (.cons (.refl _) .nil)) (by simp only[Net.zero,Net.azR,LW]) ⟨rfl,rfl⟩
def afM(n:Net)(d:Y n.cw<2^30)(a b:Int)(m:Bool)(J:aj): bh κ 53 [.agg n.azR,.I a,.I b,.b m] J (.jg [if(qS n.cw a b m).2=0 then .agg (Net.azR ⟨n.an,n.ax,(qS n.cw a b m).1⟩)else .agg Net.zero.azR,.I (qS n.cw a b m).2]):=by
 refine aW func53 p53.2 λi A=>aq ?_;obtain⟨w,azY,l⟩:=n;simp only at d;have t:=λJ=>Bn l (.sl 6 (w.map bO.azR)) (.sl 15 (azY.map Let.azR)) a b (by omega) J rfl rfl (.sl ..) (.sl ..);simp only[aiG]at t;simp only[p53,SS,seval];have o:∀X,oJ (Y J+2) X->bT (J++[.box 29 [.sl 6 (w.map bO.azR),.sl 15 (azY.map Let.azR),.sl 2 (l.map cF)],.box 29 [.nil,.nil,.nil]]):=λX z=>cj i (by simp only[bF,bD,cA,cW,cK,LW]);have o:=o .dead trivial;cases m
 .simp only[Net.azR,↓IT,VV,seval];refine⟨λh=>?_,λh=>?_⟩
  .have e:qS l a b G=([],1):=by simp[qS,beq_iff_eq.1 h]
   rw[e];exact Oc i (by simp only[RS,seval]) rfl
  have h:¬a=b:=by simpa using h
  refine al (t _) rfl ?_;by_cases f:gj a b∈l
  .have e:qS l a b G=([],5):=by simp[qS,f,h]
   simp only[e,De f,↓IT,VV,seval];exact Oc i (by simp only[RS,seval]) rfl
  have e:qS l a b G=(l.take (fL l (gj a b))++gj a b::l.drop (fL l (gj a b)),0):=by simp[qS,f,h]
  simp only[e,rl f,↓IT,VV,seval];refine cB.wk (Wk.fw (ys:=(uu 1 (.I a::.I b::uu 1 (.ptr J.length 0::uu 3 (.ptr (Y J+1) 0::uu 4 (.I (Y ([]:gh):Nat)::uu 72 [])))))) ?_) (cB.kT (Y l+1) (acK l o a b d l [] rfl ?_));.repeat' constructor
  have x:=FA l (gj a b);generalize fL l (gj a b)=k at x |-;simp only[JE];intros;have u:(l.map cF).take k=(l.take k).map cF:=gD.symm;have p:((l.map cF).drop k).take (Y l - k)=(l.drop k).map cF:=by rw[<- List.map_drop];exact cx (by simp)
  have q:Y (l.take k)=k:=by simp;omega
  have s:(0:Int)<=(k:Int):=by omega
  have r:(k:Int)<=(Y l:Int):=by omega
  cases j:((l.take k).map cF).isEmpty with
  |true =>
   have y:l.take k=[]:=by simpa using j
   simp only[ai,aG,u,j,ak,s,r,mi,p,q,aa,gq,aP,bw,V.pure,maxLen,↓IT,VV,seval];refine⟨⟨by omega,by omega⟩,?_⟩;refine al (Ae a b _) rfl ?_;simp only[cF,ak,s,r,mi,p,q,ah,aa,ca,gq,aP,bw,V.pure,maxLen,↓IT,VV,seval];refine⟨⟨by omega,by omega⟩,iw 2 i (.inr rfl) (by simp only[RS,seval];rfl) rfl ?_ ?_⟩;.simp only[aI,ar,Pm.fz,kE,cG,aU,LW]
   simp only[aI,ar,Pm.fz,kE,cG,aU];refine⟨?_,trivial⟩;simp[Pm.one,y,cF]
  |false =>
  simp only[ai,aG,u,j,ak,s,r,mi,p,q,aa,gq,aP,bw,V.pure,maxLen,↓IT,VV,seval];refine⟨⟨by omega,by omega⟩,?_⟩;refine al (Ae a b _) rfl ?_;simp only[cF,ak,s,r,mi,p,q,ah,aa,ca,gq,aP,bw,V.pure,maxLen,↓IT,VV,seval];refine⟨⟨by omega,by omega⟩,⟨by omega,by omega⟩,iw 2 i (.inr rfl) (by simp only[RS,seval];rfl) rfl ?_ ?_⟩;.simp only[aI,ar,Pm.fz,kE,cG,aU,LW]
  simp only[aI,ar,Pm.fz,kE,cG,aU];refine⟨?_,trivial⟩;simp[Pm.one,cF]
 simp only[Net.azR,↓IT,VV,seval];refine al (t _) rfl ?_;by_cases f:gj a b∈l
 .have e:qS l a b θ=(l.filter λc=>!(c==gj a b),0):=by simp[qS,f]
  simp only[e,De f,aa,↓IT,VV,seval];refine cB.wk ((((Wk.fw (ys:=(uu 1 (.I a::.I b::uu 1 (.ptr J.length 0::uu 3 (.ptr (Y J+1) 0::uu 1 (.nil::uu 11 (.sl 2 (l.map cF)::.I (Y l)::.I (Y ([]:gh):Nat)::uu 61 []))))))) (by repeat' constructor)).trans (Wk.k9 (P:=κ) (k:=10) ajK rfl)).trans (Wk.fw (ys:=(uu 1 (.I a::.I b::uu 1 (.ptr J.length 0::uu 3 (.ptr (Y J+1) 0::uu 1 (.own (Y J+2) 0::uu 11 (.sl 2 (l.map cF)::.I (Y l)::.I (Y ([]:gh):Nat)::uu 61 []))))))) ?_))) ?_;.simp only[ah,ae,ai,VV,seval];repeat' constructor
  have v:=λK=>acL (K:=K) o l a b d l [] [] 0 rfl (by simp);simp only[fX,ar,ay]at v;simp only[aO,aF,ay];refine cB.kT (Y l+1) (v _ ?_);intro g;simp only[JE];intros;simp only[↓IT,VV,seval];refine iw 2 i (.inr rfl) (by simp only[RS,seval];rfl) rfl ?_ ?_;.simp only[aI,ar,Pm.fz,kE,cG,aU,LW]
  simp only[aI,ar,Pm.fz,kE,cG,aU];exact⟨rfl,trivial⟩
 have e:qS l a b θ=([],6):=by simp[qS,f]
 simp only[e,rl f,↓IT,VV,seval];exact Oc i (by simp only[RS,seval]) rfl
def ahd{n:Nat}{xs:aB}:Wk κ n xs (U++.box 29 [v,.lit 15 [],q]::s) xs (U++.box 29 [v,.sl 15 [],q]::s):=by have:=Wk.cellS (P:=κ) (n:=n) (xs:=xs) (J:=U++.box 29 [v,.lit 15 [],q]::s) (id:=Y U) (T:=29) (j:=1) (cs:=[v,.lit 15 [],q]) (x:=.lit 15 []) (y:=.sl 15 []) (by simp) rfl (λ_ _ _ _ _ _ h=>(Cv.lit 15 []).ok h);simpa only[s8,cC,cT]using this
def PQ{n m:Nat}{xs:aB}{a:Ob}{g:Nat}{l:List Let}(e:Y U=m)(f:bT (U++[.box 29 [v,.sl 15 (l.map Let.azR),q],Q,F,a]))(i:n<=m)(h:jt (m+4) xs): Wk κ n xs (U++[.box 29 [v,.own (m+4) g,q],Q,F,a,.row 76 15 200 g G (l.map Let.azR)]) xs (U++[.box 29 [v,.sl 15 (l.map Let.azR),q],Q,F,a]):=by
 subst e;have b:=Wk.share (P:=κ) (n:=n) (xs:=xs) (J:=U++[.box 29 [v,.own (Y U+4) g,q],Q,F,a,dm g l]) (id:=Y U+4) (E:=76) (sz:=15) (by':=200) (g:=g) (sh:=G) (rows:=l.map Let.azR) (by simp[dm]);have d:=Wk.HZ (P:=κ) (n:=n) (xs:=xs) (J:=U++[.box 29 [v,.own (Y U+4) g,q],Q,F,a,.row 76 15 200 g θ (l.map Let.azR)]) (id:=Y U) (idr:=Y U+4) (T:=29) (j:=1) (g:=g) (E:=76) (sz:=15) (by':=200) (rows:=l.map Let.azR)
  (cs:=[v,.own (Y U+4) g,q]) (by simp) rfl (by simp);simp only[kf,s8,cC,cT]at b d;have c:=Wk.lS (P:=κ) (n:=n) (xs:=xs) (J:=U++[.box 29 [v,.sl 15 (l.map Let.azR),q],Q,F,a]) (loc:=[.row 76 15 200 g θ (l.map Let.azR)]) (by simp;omega) f (ed.1 (by simpa using h));simp only[aO,aF,ay]at c;exact(b.trans d).trans c
def IK(azY:List Let)(k:gh)(e:Ev)(h:e.azT=6)(i:Nat)(d:e.n=i)(x:Let)(j:azY[i]?=some x)(m:Y azY<2^29)(J:aj)(c:b<Y J): PC κ 57 [.agg [.sl 6 (P.map bO.azR),.own b g,.sl 2 (k.map cF)],.agg e.azR] (J.set b (dm g azY)) (λr f=>if 256<=Y azY then r=.jg [.agg Net.zero.azR,.I 3]/\f=J.set b (dm g azY)else r=.jg [.agg [.sl 6 (P.map bO.azR),.own b (g+1),.sl 2 (k.map cF)],.I 0]/\f=J.set b (dm (g+1) (azY++[x]))):=by
 obtain⟨q,u,A,w,z⟩:=e;simp only at h d;subst h d;refine aW func57 p57.2 λp v=>aq ?_;have l:(azY.map Let.azR).getD i []=mC x:=by simp[aA,j,lh]
 have y:i<Y azY:=(ag.1 j).1;have t:(0:Int)<=(i:Int):=by omega
 have s:(i:Int)<(Y azY:Int):=by omega
 have o:azY.map Let.azR++[mC x]=(azY++[x]).map Let.azR:=by simp[lh]
 have H:=at1 c;simp only[mC]at l o;simp only[p57,SS,seval];simp only[Ev.azR,En.azR,dm,H,l,t,s,ao,aa,↓IT,VV,seval];refine⟨λa=>?_,λa=>?_⟩
 .have a:256<=Y azY:=by simp at a;omega
  simp only[aQ a];refine dS (xs:=[.agg [.nil,.nil,.nil],.I 3]) (.inr rfl) (by simp only[RS,H,seval]) ((Wk.fw (.cons (.iV (.cons (.nil 6) (.cons (.nil 15) (.cons (.nil 2) .nil)))) (.cons (.refl _) .nil))).trans (Wk.lS (by simp) p (ed.1 ?_))) rfl ⟨rfl,rfl⟩;simp only[LW]
 have a:¬256<=Y azY:=by simp at a;omega
 simp only[aw a];simp only[V.pure,maxLen,H,ao,aa,↓IT,VV,seval];refine⟨⟨by omega,by omega⟩,?_⟩;rw[o];refine dS (.inr rfl) (by simp only[RS,H,seval];rfl) (Wk.lS (by simp) (tF p (by simp)) (ed.1 ?_)) rfl ⟨rfl,rfl⟩;simp only[LW,fT];exact c
def Oj(azY:List Let)(a:gh)(ap:Y a<2^30)(e:Ev)(hk:e.azT=4\/e.azT=5)(i:Nat)(hi:e.n=i)(x:Let)(hx:azY[i]?=some x)(af:Y azY<2^29)(j:Nat)(hj:x.dst=j)(o:bO)(ho:P[j]?=some o)(uj:Y P<2^30)(s:bO)(f:Int) (hC:∀J,bh κ 63 [.agg o.azR,.agg x.op.azR] J (fm s f)) (J:aj) (D:b<Y J) : PC κ 57 [rP b g azY a,.agg e.azR] (J.set b (bC g P)) (λr J'=>∃A,J'=J.set b A/\r=.jg [if(ji ⟨P,azY,a⟩ e.azT i x s f).2=0 then rP b g (ji ⟨P,azY,a⟩ e.azT i x s f).1.ax a else .agg Net.zero.azR,.I (ji ⟨P,azY,a⟩ e.azT i x s f).2] /\
   ((ji ⟨P,azY,a⟩ e.azT i x s f).2=0->A=bC g (ji ⟨P,azY,a⟩ e.azT i x s f).1.an)):=by
 obtain⟨d,ea,eb,em,en⟩:=e;simp only at hk hi;subst hi;refine aW func57 p57.2 λz dQ=>?_;have y:(azY.map Let.azR).getD i []=mC x:=by simp[aA,hx,lh]
 have pR:i<Y azY:=(ag.1 hx).1;have Q:(0:Int)<=(i:Int):=by omega
 have O:(i:Int)<(Y azY:Int):=by omega
 have t:(i:Int)<=(Y azY:Int):=by omega
 have L:IntKind.i64.wrap ((i:Int)+1)=((i+1:Nat):Int):=by rw[da (by omega)]
 have m:(0:Int)<=((i+1:Nat):Int):=by omega
 have K:((i+1:Nat):Int)<=(Y azY:Int):=by omega
 have p:(d==6)=G:=by simp;omega
 have H:=at1 D;have E:(azY.map Let.azR).take i=(azY.take i).map Let.azR:=gD.symm;have N:((azY.map Let.azR).drop (i+1)).take (Y azY - (i+1))=(azY.drop (i+1)).map Let.azR:=by rw[<- List.map_drop];exact cx (by simp)
 have BU:Y (azY.take i)=i:=by simp;omega
 have au:Y (azY.drop (i+1))=Y azY - (i+1):=by simp
 simp only[mC]at y;simp only[p57,SS,seval];refine cB.cutAt (.more (.more (.more (.one _ _)))) λR hR=>?_;have u:∀M:List Let,Y M<2^29->M=azY.take i++azY.drop (i+1)->∀F,Wk κ (J.set b (bC g P)).length F.fr F.J (uu 2 (.ptr J.length 0::.ptr (Y J+1) 0::.ptr (Y J+2) 0::uu 1 (.ptr (Y J+3) 0::uu 69 []))) (J.set b (bC g P)++[.box 29 [.own b g,.sl 15 (M.map Let.azR),.sl 2 (a.map cF)],.box 38 (Ev.azR ⟨d,ea,eb,i,en⟩),.box 29 [.nil,.nil,.nil],.box 76 (mC x)])->R F:=by
  intro M am U F mq;refine hR _ (cB.wk mq ?_);refine aq ?_;have ad:ji ⟨P,azY,a⟩ d i x s f=if d=5 then(⟨P,M,a⟩,0)else if mO ⟨P,M,a⟩ x.src x.dst=θ then(Net.zero,8)else if f=0 then(⟨P.set j s,M,a⟩,0)else(Net.zero,f):=by rcases hk with rfl|rfl<;>simp[ji,hj,U,mO]
  have vP:(P.map bO.azR).getD j []=o.azR:=by simp[aA,ho]
  have tY:j<Y P:=(ag.1 ho).1;have W:(0:Int)<=(j:Int):=by omega
  have T:(j:Int)<(Y P:Int):=by omega
  simp only[bO.azR]at vP;rw[ad];simp only[Ev.azR,En.azR,mC,bC,H,ao,↓IT,VV,seval];refine⟨λw=>?_,λw=>?_⟩
  .have w:d=5:=by simpa using w
   simp only[aQ w,aU];refine dS (xs:=[rP b g M a,.I 0]) (.inr rfl) (by simp only[RS,H,seval];rfl) (Wk.lS (by simp) z (ed.1 ?_)) rfl ⟨_,rfl,rfl,λ_=>rfl⟩;simp only[rP,fT,LW];exact D
  have w:¬d=5:=by simpa using w
  simp only[aw w];refine al (Bn a (.own b g) (.sl 15 (M.map Let.azR)) x.src x.dst (by omega) _ ?_ rfl ?_ (.sl ..)) rfl ?_;.simp only[H,ao,VV,seval]
  .simp only[ah,fT,LW];omega
  have ac:(a.any λc=>c==gj x.src x.dst)=mO ⟨P,M,a⟩ x.src x.dst:=rfl;rw[ac];cases BY:mO ⟨P,M,a⟩ x.src x.dst
  .simp only[H,vP,hj,W,T,ao,aa,aP,bw,↓IT,VV,seval];intro X;refine al (hC _) (by simp only[gy,qA,bO.azR,VV,seval]) ?_;simp only[fm,bO.azR,H,hj,ao,aa,↓IT,VV,seval];have hE:∀X l,J.set b X++l=(J++l).set b X:=λX l=>(jm _ _ D).symm;rw[hE];refine al (IJ b g P M a j tY s f (J++_) (by simp;omega)) rfl ?_;simp only[<- hE];by_cases oz:f=0;.subst oz;simp only[rP,aU,bC,H,ao,↓IT,VV,seval];refine dS (xs:=[rP b g M a,.I 0]) (.inr rfl) (by simp only[RS,H,seval];rfl) (Wk.lS (by simp) (tF z (by simp)) (ed.1 ?_)) rfl ⟨_,rfl,rfl,rfl⟩;simp only[rP,fT,LW];exact D
   simp only[aw oz,bC,Net.zero,Net.azR,ar,H,ao,↓IT,VV,seval];refine dS (xs:=[.agg Net.zero.azR,.I f]) (.inr rfl) (by simp only[RS,H,seval];rfl) (Wk.lS (by simp) (tF z (by simp)) (ed.1 ?_)) rfl ⟨_,rfl,rfl,λh=>absurd h oz⟩;simp only[Net.zero,Net.azR,LW]
  simp only[H,aU,↓IT,VV,seval];refine dS (xs:=[.agg [.nil,.nil,.nil],.I 8]) (.inr rfl) (by simp only[RS,H,seval]) ((Wk.fw (.cons (.iV (.cons (.nil 6) (.cons (.nil 15) (.cons (.nil 2) .nil)))) (.cons (.refl _) .nil))).trans (Wk.lS (by simp) z (ed.1 ?_))) rfl ⟨_,rfl,rfl⟩;simp only[LW]
 have k:∀M:List Let,bT (J.set b (bC g P)++[.box 29 [.own b g,.sl 15 (M.map Let.azR),.sl 2 (a.map cF)],.box 38 (Ev.azR ⟨d,ea,eb,i,en⟩),.box 29 [.nil,.nil,.nil],.box 76 (mC x)]):=λM=>cj z (by simp only[Ev.azR,En.azR,mC,fT,bF,bD,cA,cW,cK,LW];simp only[ae,ai];omega);simp only[bC,Ev.azR,En.azR,mC]at k;cases C:(azY.take i).isEmpty with
 |true =>
  have B:azY.take i=[]:=by simpa using C
  cases v:(azY.drop (i+1)).isEmpty with
  |true =>
   have q:azY.drop (i+1)=[]:=by simpa using v
   simp only[rP,bC,Ev.azR,En.azR,mC,H,y,Q,O,t,L,m,K,p,E,N,C,v,ak,mi,ao,aa,HH,V.pure,maxLen,↓IT,VV,seval]at u |-;exact⟨⟨by omega,by omega⟩,⟨by omega,by omega⟩,u [] (by simp) (by rw[B,q];rfl) _ ((Wk.fw (by repeat' constructor)).trans ahd)⟩
  |false =>simp only[rP,bC,Ev.azR,En.azR,mC,H,y,Q,O,t,L,m,K,p,E,N,C,v,ak,mi,ao,aa,HH,V.pure,maxLen,↓IT,VV,seval]at u |-;exact⟨⟨by omega,by omega⟩,⟨by omega,by omega⟩,u (azY.drop (i+1)) (by omega) (by rw[B];rfl) _ ((Wk.fw (by repeat' constructor)).trans (PQ (by simp) (k _) (aM _) (by simp only[LW];omega)))⟩
 |false =>
 cases v:(azY.drop (i+1)).isEmpty with
 |true =>
  have q:azY.drop (i+1)=[]:=by simpa using v
  simp only[rP,bC,Ev.azR,En.azR,mC,H,y,Q,O,t,L,m,K,p,E,N,C,v,ak,mi,ao,aa,HH,V.pure,maxLen,↓IT,VV,seval]at u |-;rw[show(azY.take i).map Let.azR++(azY.drop (i+1)).map Let.azR=(azY.take i).map Let.azR from by rw[q];simp];exact⟨⟨by omega,by omega⟩,⟨by omega,by omega⟩,u (azY.take i) (by omega) (by rw[q,bI]) _ ((Wk.fw (by repeat' constructor)).trans (PQ (by simp) (k _) (aM _) (by simp only[LW];omega)))⟩
 |false =>simp only[rP,bC,Ev.azR,En.azR,mC,H,y,Q,O,t,L,m,K,p,E,N,C,v,ak,mi,ao,aa,HH,V.pure,maxLen,↓IT,VV,seval]at u |-;rw[<- List.map_append];exact⟨⟨by omega,by omega⟩,⟨by omega,by omega⟩,u (azY.take i++azY.drop (i+1)) (by simp;omega) rfl _ ((Wk.fw (by repeat' constructor)).trans (PQ (by simp) (k _) (aM _) (by simp only[LW];omega)))⟩
structure Up (m n:Int) (N:Nat) (arr:List aV) (k:Nat):Prop where
 base:HD n arr
 len:arr.length<=N
 le:k<=arr.length
 far:∀x∈arr,x.aY.bS<m
 syn:∀x∈arr.drop k,x.aY.bS≠n
def Good(N:Nat)(o:bO):Prop :=(∃a k,Up H A N a k/\o=gL A a k) \/(∃a b,Up H A N a (Y a)/\kx b=0/\Y (iA a++b)<=20008*N/\o=sE A a b)
def Up.mono(h:Up f c a l C)(b:a<=M):Up f c M l C :=⟨h.base,cE h.len b,h.le,h.far,h.syn⟩
def Up.own(h:Up f c a l M)(g:c<f)(i:V6 L)(d:L.aY.bS=c)(e:L.aY.azW=su c l+1):Up f c (a+1) (l++[L]) (l.length+1):=by
 have:=h.len;refine⟨h.base.Ip i d e,by simpa using this,by simp,λy b=>?_,by simp⟩;rcases bW.1 b with b|b;.exact h.far y b
 rw[dn.1 b,d];exact g
def Up.Iq(h:Up f c a l M)(g:V6 L)(i:L.aY.bS<f)(e:L.aY.bS≠c)(j:∀y∈l,dH y L≠0):Up f c (a+1) (l++[L]) M:=by
 have:=h.len;have d:=h.le;refine⟨h.base.Iq g e j,by simpa using this,by simp;omega,λy b=>?_,λy b=>?_⟩
 .rcases bW.1 b with b|b;.exact h.far y b
  rw[dn.1 b];exact i
 rw[na d]at b;rcases bW.1 b with b|b;.exact h.syn y b
 rw[dn.1 b];exact e
def Up.all(h:Up f c a l M):Up f c a l (Y l) :=⟨h.base,h.len,aM _,h.far,by simp⟩
def Up.take{m n:Int}(h:Up m n a l M)(j:Nat):Up m n a (l.take j) (Y (l.take j)) :=
 ⟨h.base.take j,by have:=h.len;rw[bj];omega,aM _,λx b=>h.far x (dY b),by rw[tW];simp⟩
def Good.mono(h:Good f c a R)(e:a<=M):Good f c M R:=by
 rcases h with⟨b,k,d,j⟩|⟨b,g,d,i,m,l⟩;.exact .inl ⟨b,k,d.mono e,j⟩
 exact .inr ⟨b,g,d.mono e,i,by omega,l⟩
def Good.azU(h:Good f c a R)(i:a<=180):R.azU:=by
 rcases h with⟨d,k,b,rfl⟩|⟨d,e,b,g,j,rfl⟩;.exact wG b.base (by have:=b.len;omega)
 exact⟨by simp[sE],by simp[sE],by simp only[sE];omega⟩
def xO(h:HD f l)(b:Int)(e:En)(c:Nat->Nat):(nK (gL f l a) (sr (gL f l a)) b e c)=qm f l b e c:=by have:sr (gL f l a)=su f l:=(tf l f).symm;simp only[nK,qm,this];rfl
def akc{n:Int}{arr:List aV}{k:Nat}(h:HD n arr)(r:0<=n/\n<8)(s:Y arr<=180){c:Nat->Nat}(l:s9 (ej arr) c)(d:∀q:Nat,q<8->c q<=128)(a:Int)(e:En)(b:V6 (qm n arr a e c))(o:su n arr<128)(j:kj arr<2^30)(J:aj): bh κ 100 [.agg (gL n arr k).azR,.I a,.agg e.azR] J (gZ (gL n (arr++[qm n arr a e c]) (Y arr+1)) (qm n arr a e c) 0):=by
 have p:sr (gL n arr k)=su n arr:=(tf arr n).symm;have m:=yb h.op;have i:=h.Ip b rfl rfl;have:=UK (gL n arr k) a e (wG h (by omega)) rfl (λy f=>(h.op y (dU.1 f)).azU) c l d
  (by rw[xO h];exact b.azU) (by rw[xO h];exact b.ok) (by rw[xO h];exact cE b.enc (by decide)) (by simp only[gL];omega) (by omega) ⟨(yY λx b=>(h.op x b).ok).1,j⟩
  (by rw[xO h];exact λy f=>(DW.1 i.one).2 y (dU.1 f)) J;rw[xO h]at this;have g:=Jx (n:=n) (arr:=arr) (k:=k) (qm n arr a e c);rw[rR]at this;simp only[gL]at this g |-;rwa [g]at this
def xg(k:Nat):Y (iA (T.take k))<=Y (iA T):=by
 have:iA T=iA (T.take k)++iA (T.drop k):=by rw[<- yc,fC]
 rw[this,ah];omega
def Z9{y:aV}(h:ka l f c=some y):y∈l/\y.aY.bS=f/\y.aY.azW=c:=by have a:=Bc h;simp only[aZ,ez]at a;exact⟨tZ h,a⟩
structure HC (E:eK):Prop where
 cR:∀o,E.o6 o->∀J,bh prog 59 [.agg o.azR] J (fm (E.fR o).1 (E.fR o).2)
 cV:∀o x,E.o6 o->E.ok x->∀J,bh prog 116 [.agg o.azR,.agg x.azR] J (fm (E.fV o x).1 (E.fV o x).2)
 cS:∀o,E.o6 o->∀J,bh prog 62 [.agg o.azR] J (fm (E.fS o).1 (E.fS o).2)
def S6(J:aj)(c b:Ob)(a:Nat)(B C:Ob)(e d:V)(f:List bO):aj:=J++[c,b,bC a f,B,C,fE (.own (Y J+2) a) e d]
def nr{c a:List bO}(p:bO×Int)(h:p.2=0):((c++R::a).map bO.azR).set c.length [.I p.1.azW,.I p.1.az5,.sl 13 (p.1.azS.map aV.azR),.sl 1 (aN p.1.log),.I p.1.aAe,.b p.1.down]=(c++(dv p R::a)).map bO.azR:=by rw[uF,dX _ _ (aM _),iP,dv,aQ h];rfl
def acV{E:eK}(v:HC E){K:bL}(j i B C:Ob)(f:Nat)(l g:V)(y:∀H,bT (S6 U j i f B C l g H))(n:Nat)(J:n<2^30):∀(a b:List bO),n=Y b+Y a->E.jj a ->(((fj 2 (fh (.ptr (Y U+1) 0) (fh (.ptr (Y U+5) 0) (fj 89 fo)))) λu=>K (.exit 0) ⟨u,S6 U j i f B C l g (b++E.up a)⟩)) ->gw (Y U) κ Xv K (Y a+1) ⟨(uu 2 (.ptr (Y U+1) 0::.ptr (Y U+5) 0::uu 17 (.own (Y U+2) f::.I n::.I (Y b)::uu 69 []))),S6 U j i f B C l g (b++a)⟩:=by
 intro a;induction a with
 |nil =>intro b d m k;refine az λR q=>?_;simp only[Xv,VV,seval];refine⟨λh=>by simp at h d<;>omega,λ_=>?_⟩;simp only[eK.up,ar,bI]at k;exact k ..
 |cons o a ih =>
 intro b d m k;have z:=m o (cU ..);have L:n=Y b+(Y a+1):=by rw[d];simp
 have s:IntKind.i64.wrap ((Y b:Int)+1)=((Y (b++[dv (E.fR o) o]):Nat):Int):=by rw[da (by omega)];simp
 have p:((b++o::a).map bO.azR).getD b.length []=o.azR:=dR;have t:(0:Int)<=(Y b:Int):=by omega
 have x:(Y b:Int)<(n:Int):=by omega
 have r:(Y b:Int)<(Y (b++o::a):Int):=by simp<;>omega
 have F:Y b<Y (b++o::a):=by simp
 simp only[bO.azR]at p;refine az λR q=>?_;simp only[Xv,S6,bC,fE,p,t,x,r,s,bt,ao,aa,ak,VV,seval];refine al (v.cR o z _) (by simp only[bO.azR,VV,seval]) ?_;simp only[fm,bO.azR,p,t,r,s,aa,ak,VV,seval];have A:b++E.up (o::a)=(b++[dv (E.fR o) o])++E.up a:=by simp[eK.up]
 rw[A]at k;have e:=ih (b++[dv (E.fR o) o]) (by simp;omega) (λo D=>m o (bJ _ D)) k;have c:=y (b++dv (E.fR o) o::a);simp only[aO,aF,ay,S6,bC,fE]at e c;refine⟨λd=>⟨F,?_⟩,λd=>?_⟩
 .have d:(E.fR o).2=0:=by simpa using d
  rw[nr (E.fR o) d];refine q _ (cn [j,i,bC f (b++dv (E.fR o) o::a),B,C,fE (.own (Y U+2) f) l g] [_,_] c ?_ ?_ e);.repeat' constructor
  simp only[LW,ae,ai,aG];omega
 have d:¬(E.fR o).2=0:=by simpa using d
 have w:dv (E.fR o) o=o:=by rw[dv,aw d]
 rw[w]at e c |-;refine q _ (cn [j,i,bC f (b++o::a),B,C,fE (.own (Y U+2) f) l g] [_,_] c ?_ ?_ e);.repeat' constructor
 simp only[LW,ae,ai,aG];omega
def acR{E:eK}(v:HC E){K:bL}(j i B C:Ob)(f:Nat)(l g:V)(y:∀H,bT (S6 U j i f B C l g H))(n:Nat)(J:n<2^30):∀(a b:List bO),n=Y b+Y a->E.jj a ->(((fj 2 (fh (.ptr (Y U+1) 0) (fh (.ptr (Y U+5) 0) (fj 89 fo)))) λu=>K (.exit 8) ⟨u,S6 U j i f B C l g (b++E.sync a)⟩)) ->gw (Y U) κ Xr K (Y a+1) ⟨(uu 2 (.ptr (Y U+1) 0::.ptr (Y U+5) 0::uu 68 (.own (Y U+2) f::.I n::.I (Y b)::uu 18 []))),S6 U j i f B C l g (b++a)⟩:=by
 intro a;induction a with
 |nil =>intro b d m k;refine az λR q=>?_;simp only[Xr,VV,seval];refine⟨λh=>by simp at h d<;>omega,λ_=>?_⟩;simp only[eK.sync,ar,bI]at k;exact k ..
 |cons o a ih =>
 intro b d m k;have z:=m o (cU ..);have L:n=Y b+(Y a+1):=by rw[d];simp
 have s:IntKind.i64.wrap ((Y b:Int)+1)=((Y (b++[dv (E.fS o) o]):Nat):Int):=by rw[da (by omega)];simp
 have p:((b++o::a).map bO.azR).getD b.length []=o.azR:=dR;have t:(0:Int)<=(Y b:Int):=by omega
 have x:(Y b:Int)<(n:Int):=by omega
 have r:(Y b:Int)<(Y (b++o::a):Int):=by simp<;>omega
 have F:Y b<Y (b++o::a):=by simp
 simp only[bO.azR]at p;refine az λR q=>?_;simp only[Xr,S6,bC,fE,p,t,x,r,s,bt,ao,aa,ak,VV,seval];refine al (v.cS o z _) (by simp only[bO.azR,VV,seval]) ?_;simp only[fm,bO.azR,p,t,r,s,aa,ak,VV,seval];have A:b++E.sync (o::a)=(b++[dv (E.fS o) o])++E.sync a:=by simp[eK.sync]
 rw[A]at k;have e:=ih (b++[dv (E.fS o) o]) (by simp;omega) (λo D=>m o (bJ _ D)) k;have c:=y (b++dv (E.fS o) o::a);simp only[aO,aF,ay,S6,bC,fE]at e c;refine⟨λd=>⟨F,?_⟩,λd=>?_⟩
 .have d:(E.fS o).2=0:=by simpa using d
  rw[nr (E.fS o) d];refine q _ (cn [j,i,bC f (b++dv (E.fS o) o::a),B,C,fE (.own (Y U+2) f) l g] [_,_] c ?_ ?_ e);.repeat' constructor
  simp only[LW,ae,ai,aG];omega
 have d:¬(E.fS o).2=0:=by simpa using d
 have w:dv (E.fS o) o=o:=by rw[dv,aw d]
 rw[w]at e c |-;refine q _ (cn [j,i,bC f (b++o::a),B,C,fE (.own (Y U+2) f) l g] [_,_] c ?_ ?_ e);.repeat' constructor
 simp only[LW,ae,ai,aG];omega
def Ts{E:eK}(m:HC E)(d f B C:Ob)(ga:Nat)(g c:V)(l:aj)(s:g.Lt (Y U+6))(i:c.Lt (Y U+6))(t:∀n,oJ n B)(p:∀n,oJ n C)(a:List bO)(b:Y a<2^30)(x:Let)(h0:0<=x.dst)(y:x.dst<Y a)(v:E.jj a)(q:E.ok x.op): PC κ 60 [.ptr (Y U+5) 0,.agg x.azR] (U++(d::f::bC ga a::B::C::fE (.own (Y U+2) ga) g c::l)) (λr j=>(∃e,r=.I e)/\j=U++(d::f::bC ga (E.nN a x.dst.toNat x.op)::B::C::fE (.own (Y U+2) ga) g c::l)):=by
 have u:x.dst.toNat<Y a:=by omega
 have h:a[x.dst.toNat]?=S a[x.dst.toNat]:=aD u;have o:=v _ (aS h);have w:yj (U++(d::f::.dead::.dead::.dead::.dead::l)) (Y U+5) (Y U+2) (Y U+3) (Y U+4):=by constructor<;>simp<;>omega
 have k:Y U+6<=Y (U++(d::f::.dead::.dead::.dead::.dead::l)):=by simp
 have:=Kz w g c (s.mono k) (i.mono k) a B C (t _) (p _) x b x.dst.toNat (by omega) _ h (E.fV a[x.dst.toNat] x.op).1 (E.fV a[x.dst.toNat] x.op).2 (m.cV _ _ o q) (ga:=ga);rw[ua]at this;simp only[cT,cC]at this;refine this.mono ?_;rintro r j ⟨rfl,rfl⟩;refine⟨⟨_,rfl⟩,?_⟩;have e:E.nN a x.dst.toNat x.op=(if(E.fV a[x.dst.toNat] x.op).2=0 then a.set x.dst.toNat (E.fV a[x.dst.toNat] x.op).1 else a):=by simp only[eK.nN,h]
 rw[ua,e];rfl
def acU{E:eK}(B:HC E){K:bL}(l k C:Ob)(D:∀n,oJ n C)(j d:Nat)(g:V)(s:g.Lt (Y U+6))(azY:List Let)(J:∀c,bT (S6 U l k j (dm d azY) C (.own (Y U+3) d) g c))(n m:Nat)(O:n<2^30)(z:n=Y azY)(N:m<2^30)(L:∀x∈azY,0<=x.dst/\x.dst<m/\E.ok x.op):∀(b a:List Let) (c:List bO),azY=a++b->E.jj c->Y c=m ->(((fj 2 (fh (.ptr (Y U+1) 0) (fh (.ptr (Y U+5) 0) (fj 89 fo)))) λA=>K (.exit 2) ⟨A,S6 U l k j (dm d azY) C (.own (Y U+3) d) g (E.ax b c)⟩)) ->gw (Y U) κ Xu K (Y b+1) ⟨(uu 2 (.ptr (Y U+1) 0::.ptr (Y U+5) 0::uu 38 (.own (Y U+3) d::.I n::.I (Y a)::uu 48 []))),S6 U l k j (dm d azY) C (.own (Y U+3) d) g c⟩:=by
 intro b;induction b with
 |nil =>intro a c i q w t;refine az λR y=>?_;simp only[Xu,VV,seval];refine⟨λh=>by simp[i]at z h<;>omega,λ_=>?_⟩;exact t ..
 |cons x b ih =>
 intro a c i q w t;have p:=L x (by rw[i];simp);have Q:n=Y a+(Y b+1):=by rw[z,i];simp
 have v:=dD a x (by omega);have u:(azY.map Let.azR).getD a.length []=mC x:=by rw[i,dR,lh]
 have M:(0:Int)<=(Y a:Int):=by omega
 have F:(Y a:Int)<(n:Int):=by omega
 have H:(Y a:Int)<(Y azY:Int):=by omega
 simp only[mC]at u;refine az λR y=>?_;simp only[Xu,S6,dm,u,M,F,H,v,bt,ao,aa,ak,VV,seval];refine dZ (Ts B l k (dm d azY) C j (.own (Y U+3) d) g [_] (.own _ _ (by omega)) s (λ_=>trivial) D c (by omega) x p.1 (by omega) q p.2.2) (by simp only[lh,mC,VV,seval]) ?_;rintro r P ⟨⟨e,rfl⟩,rfl⟩;simp only[v,VV,seval];have f:=J (E.nN c x.dst.toNat x.op);have o:=ih (a++[x]) (E.nN c x.dst.toNat x.op) (by rw[i];simp) (eK.re q p.2.2) (eK.Ej.trans w) t;simp only[S6]at o f;refine y _ (cn [l,k,bC j (E.nN c x.dst.toNat x.op),dm d azY,C,fE (.own (Y U+2) j) (.own (Y U+3) d) g] [_] f ?_ ?_ o);.repeat' constructor
 simp only[LW,ae,ai,aG];omega
def acT{E:eK}(A:HC E){K:bL}(l k B C:Ob)(N:∀n,oJ n B)(D:∀n,oJ n C)(j:Nat)(J:∀c,bT (S6 U l k j B C .nil .nil c))(f:List aV)(n m i:Nat)(Q:n<2^30)(y:n=Y f)(P:m<2^30)(O:i<m)(L:∀x∈f,E.ok x):∀(b a:List aV) (c:List bO),f=a++b->E.jj c->Y c=m ->(((fj 2 (fh (.ptr (Y U+1) 0) (fh (.ptr (Y U+5) 0) (fj 50 (fh (.I m) (fh (.I i) (fj 37 fo))))))) λz=>K (.exit 6) ⟨z,S6 U l k j B C .nil .nil (E.mT i b c)⟩)) ->gw (Y U) κ Sl K (Y b+1) ⟨(uu 2 (.ptr (Y U+1) 0::.ptr (Y U+5) 0::uu 6 (.I i::uu 43 (.I m::.I i::uu 3 (.sl 13 (f.map aV.azR)::.I n::.I (Y a)::uu 31 []))))),S6 U l k j B C .nil .nil c⟩:=by
 intro b;induction b with
 |nil =>intro a c g p v q;refine az λR w=>?_;simp only[Sl,VV,seval];refine⟨λh=>by simp[g]at y h<;>omega,λ_=>?_⟩;exact q ..
 |cons x b ih =>
 intro a c g p v q;have s:=L x (by rw[g];simp);have V:n=Y a+(Y b+1):=by rw[y,g];simp
 have u:=dD a x (by omega);have t:(f.map aV.azR).getD a.length []=qA x:=by rw[g,dR,gy]
 have M:(0:Int)<=(Y a:Int):=by omega
 have F:(Y a:Int)<(n:Int):=by omega
 have H:(Y a:Int)<(Y f:Int):=by omega
 simp only[qA]at t;refine az λR w=>?_;simp only[Sl,S6,t,M,F,H,u,bt,ao,aa,ak,VV,seval];refine dZ (Ts A l k B C j .nil .nil [_] (by simp[LW]) (by simp[LW]) N D c (by omega) ⟨0,i,x⟩ (by show(0:Int)<=(i:Int);omega) (by show(i:Int)<_;omega) p s) (by simp only[lh,mC,VV,seval]) ?_;rintro r T ⟨⟨e,rfl⟩,rfl⟩;simp only[u,ak,VV,seval];have d:=J (E.nN c i x);have o:=ih (a++[x]) (E.nN c i x) (by rw[g];simp) (eK.re p s) (eK.Ej.trans v) q;simp only[S6]at o d;refine w _ (cn [l,k,bC j (E.nN c i x),B,C,fE (.own (Y U+2) j) .nil .nil] [_] d ?_ ?_ o);.repeat' constructor
 simp only[LW,ae,ai,aG];omega
def acS{E:eK}(t:HC E){K:bL}(F:bT U)(g f B C:Ob)(D:∀n,oJ n B)(u:∀n,oJ n C)(e:Nat)(w:∀a,bT (S6 U g f e B C .nil .nil a))(m:Nat)(J:m<2^13):∀(k i:Nat) (a:List bO),m=i+k->E.jj a->Y a=m ->(((fj 2 (fh (.ptr (Y U+1) 0) (fh (.ptr (Y U+5) 0) (fj 89 fo)))) λs=>K (.exit 4) ⟨s,S6 U g f e B C .nil .nil (E.all (List.range' i k) a)⟩)) ->gw (Y U) κ Xt K (k+1) ⟨(uu 2 (.ptr (Y U+1) 0::.ptr (Y U+5) 0::uu 50 (.I m::.I i::uu 37 []))),S6 U g f e B C .nil .nil a⟩:=by
 intro k;induction k with
 |zero =>intro i a z b l j;refine az λR r=>?_;simp only[Xt,VV,seval];refine⟨λh=>by simp at h<;>omega,λ_=>?_⟩;exact j ..
 |succ k ih =>
 intro i a z b l j;have y:IntKind.i64.wrap ((i:Int)+1)=((i+1:Nat):Int):=by rw[da (by omega)]
 have A:(0:Int)<=(i:Int):=by omega
 have v:(i:Int)<(m:Int):=by omega
 have H:Y (cI a)<=Y a*2^16:=wa λo p=>E.len o (b o p);have L:=U8 a;refine az λR r=>?_;simp only[Xt,S6,fE,A,v,bt,VV,seval];refine al (Sw a (λo p x c=>E.val x (E.azS o (b o p) x c)) (by omega) (by omega) (Y U+2) e _ (by simp only[VV,seval])) rfl ?_;simp only[aa,VV,seval];have q:=λK=>acT t (K:=K) g f B C D u e w (ff a) (ff a).length m i (by omega) rfl (by omega) (by omega) (λx c=>eK.JN b c) (ff a) [] a rfl b l;simp only[S6,fE]at q;refine cB.wk (Wk.fw ?_) (cB.kT (Y (ff a)+1) (q _ ?_));.repeat' constructor
 simp only[JE];intros;simp only[y,VV,seval];have d:=ih (i+1) (E.mT i (ff a) a) (by omega) (eK.Kh _ b λx c=>eK.JN b c) ((eK.Ng _).trans l) j;simp only[S6,fE]at d;refine r _ (bX ?_ d);repeat' constructor
def xy{E:eK}(b:HC E)(n:Net)(d:n.azU)(i:E.jj n.an)(y:Y n.an<2^13)(u:∀x∈n.ax,0<=x.dst/\x.dst<Y n.an/\E.ok x.op)(J:aj): bh κ 21 [.agg n.azR] J (.agg (Net.azR ⟨E.settle n,[],[]⟩)):=by
 refine aW func21 p21.2 λc A=>aq ?_;simp only[p21,SS,seval];simp only[Net.azR,aa,VV,seval];refine dZ (vV n d _) rfl ?_;rintro r C ⟨rfl,rfl⟩;simp only[bC,dm,fX,ao,bP,Nat.reduceAdd,aa,VV,seval];have j:∀a,bT (S6 J (.box 29 [.sl 6 (n.an.map bO.azR),.sl 15 (n.ax.map Let.azR),.sl 2 (n.cw.map cF)]) (.box 29 [.nil,.nil,.nil]) 0 (dm 0 n.ax) (fX 0 n.cw) (.own (Y J+3) 0) .nil a):=λa=>cj c (by simp only[bC,dm,fX,fE,bF,bD,cA,cW,cK,ah,ae,ai,LW];omega);have m:∀a,bT (S6 J (.box 29 [.sl 6 (n.an.map bO.azR),.sl 15 (n.ax.map Let.azR),.sl 2 (n.cw.map cF)]) (.box 29 [.nil,.nil,.nil]) 0 (dm 0 n.ax) (fX 0 n.cw) .nil .nil a):=λa=>cj c (by simp only[bC,dm,fX,fE,bF,bD,cA,cW,cK,ah,ae,ai,LW];omega);have D:=d.uE;have B:=d.pT;have g:=eK.Dm i;have q:Y (E.up n.an)=Y n.an:=by simp[eK.up]
 have p:=λK=>acV b (K:=K) (.box 29 [.sl 6 (n.an.map bO.azR),.sl 15 (n.ax.map Let.azR),.sl 2 (n.cw.map cF)]) (.box 29 [.nil,.nil,.nil]) (dm 0 n.ax) (fX 0 n.cw) 0 (.own (Y J+3) 0) .nil j n.an.length (by omega) n.an [] (by simp) i;have o:=λK=>acU b (K:=K) (.box 29 [.sl 6 (n.an.map bO.azR),.sl 15 (n.ax.map Let.azR),.sl 2 (n.cw.map cF)]) (.box 29 [.nil,.nil,.nil]) (fX 0 n.cw) (λ_=>trivial) 0 0 .nil (by simp[LW]) n.ax j n.ax.length n.an.length (by omega) rfl (by omega) u n.ax [] (E.up n.an) rfl g q;have k:E.jj (E.ax n.ax (E.up n.an)):=eK.rW _ g λx w=>(u x w).2.2;have f:Y (E.ax n.ax (E.up n.an))=Y n.an:=(eK.nq _).trans q;have h:=λK=>acS b (K:=K) c (.box 29 [.sl 6 (n.an.map bO.azR),.sl 15 (n.ax.map Let.azR),.sl 2 (n.cw.map cF)]) (.box 29 [.nil,.nil,.nil]) (dm 0 n.ax) (fX 0 n.cw) (λ_=>trivial) (λ_=>trivial) 0 m n.an.length y n.an.length 0 (E.ax n.ax (E.up n.an)) (by omega) k f;have z:E.jj (E.all (List.range' 0 (Y n.an)) (E.ax n.ax (E.up n.an))):=eK.aeP _ k;have t:Y (E.all (List.range' 0 (Y n.an)) (E.ax n.ax (E.up n.an)))=Y n.an:=(eK.aiI _).trans f;have s:=λK=>acR b (K:=K) (.box 29 [.sl 6 (n.an.map bO.azR),.sl 15 (n.ax.map Let.azR),.sl 2 (n.cw.map cF)]) (.box 29 [.nil,.nil,.nil]) (dm 0 n.ax) (fX 0 n.cw) 0 .nil .nil m n.an.length (by omega) (E.all (List.range' 0 (Y n.an)) (E.ax n.ax (E.up n.an))) [] (by simp[t]) z;have e:E.settle n=E.sync (E.all (List.range' 0 (Y n.an)) (E.ax n.ax (E.up n.an))):=by rw[eK.settle,ta]
 rw[e];simp only[S6,bC,fE,dm,fX,ay,ai,aa]at p o h s;refine cB.wk (Wk.fw ?_) (cB.kT (Y n.an+1) (p _ ?_));.repeat' constructor
 simp only[JE];intros;simp only[ao,aa,VV,seval];refine cB.wk (Wk.fw ?_) (cB.kT (Y n.ax+1) (o _ ?_));.repeat' constructor
 simp only[JE];intros;simp only[ao,aa,f,VV,seval];refine cB.wk (Wk.fw ?_) (cB.kT (Y n.an+1) (h _ ?_));.repeat' constructor
 simp only[JE];intros;simp only[ao,aa,t,VV,seval];refine cB.wk (Wk.fw ?_) (cB.kT (Y (E.all (List.range' 0 (Y n.an)) (E.ax n.ax (E.up n.an)))+1) (s _ ?_));.repeat' constructor
 simp only[JE];intros;simp only[ao,aa,VV,seval];have v:∀l:List bO,Wk κ J.length [.agg [.own (Y J+2) 0,.nil,.nil]] (J++[.box 29 [.sl 6 (n.an.map bO.azR),.sl 15 (n.ax.map Let.azR),.sl 2 (n.cw.map cF)],.box 29 [.own (Y J+2) 0,.nil,.nil],.row 61 6 80 0 G (l.map bO.azR),.row 76 15 200 0 G (n.ax.map Let.azR),.row 99 2 16 0 G (n.cw.map cF),.box 29 [.own (Y J+2) 0,.nil,.nil]]) [.agg (Net.azR ⟨l,[],[]⟩)] J:=λl=>by refine(Wk.px 2 rfl).trans ((Wk.fw (ys:=[.agg (Net.azR ⟨l,[],[]⟩)]) ?_).trans (Wk.yQ c (by simp only[Net.azR,LW])));simp only[aI,ar,Pm.fz,kE,cG,aU];exact .cons (.iV (.cons (.refl _) (.cons (.nil 15) (.cons (.nil 2) .nil)))) .nil
 exact dS (.inr rfl) (by simp only[RS,seval]) (v _) rfl ⟨rfl,rfl⟩
structure QJ (o:bO):Prop where
 down:o.down=false
 azU:o.azU
 log:o.log.length<=60008*o.azS.length
 who:(o.azW=0/\(o.azS=[nX]\/o.azS=[nX,nY]))\/(o.azW=1/\(o.azS=[nY]\/o.azS=[nX,nY]))
def ZD:Prop:=D=nX\/D=nY
def QJ.len(h:QJ R):R.azS.length<=2:=by rcases h.who with⟨_,e|e⟩|⟨_,e|e⟩<;>rw[e]<;>decide
def QJ.azS(h:QJ R):∀x∈R.azS,ZD x:=by intro x a;rcases h.who with⟨_,e|e⟩|⟨_,e|e⟩<;>rw[e]at a<;>simp only[bd,bD,mZ]at a<;>unfold ZD<;>rcases a with rfl|rfl<;>simp
def Dk(h:ZD L):fc L=0/\L.azU/\Y (dJ L)<=60000:=by
 rcases h with rfl|rfl;.exact⟨afj.2.2.1,JG,FP.2.2.1⟩
 exact⟨afj.2.2.2,JF,FP.2.2.2⟩
def H9(h:QJ R):QJ { R with aAe:=R.log.length }:=⟨h.down,⟨h.azU.azS,h.azU.len,h.azU.log⟩,h.log,h.who⟩
def afr(h:QJ R)(d:ZD L)(e:a<=R.azS.length)(g:(R.azW=0/\R.azS.take a++L::R.azS.drop a=[nX,nY])\/(R.azW=1/\R.azS.take a++L::R.azS.drop a=[nX,nY]))(h1:R.azS.length=1):QJ (ku R L a):=by
 have i:=h.log;have f:=(Dk d).2.2;refine⟨h.down,MP h.azU (Dk d).2.1 (by omega) (by omega) f e,?_,?_⟩;.simp only[ku,ah,kq,bj,ae,ca];omega
 rcases g with⟨c,b⟩|⟨c,b⟩;.exact .inl ⟨c,.inr b⟩
 exact .inr ⟨c,.inr b⟩
def Wq(h:0<=dH L i<->a<=0):∀(k:Nat) (y:aV),[L][k]?=S y->(0<=dH y i<->a<=k):=by
 intro k y b;rcases k with _|k
 .obtain rfl:L=y:=by simpa using b
  exact h
 simp at b
def Wp{x:aV}(h:0<=dH L x<->a<=0)(c:0<=dH i x<->a<=1):∀(k:Nat) (y:aV),[L,i][k]?=S y->(0<=dH y x<->a<=k):=by
 intro k y b;rcases k with _|_|k
 .obtain rfl:L=y:=by simpa using b
  exact h
 .obtain rfl:i=y:=by simpa using b
  exact c
 simp at b
def xB(h:QJ R)(d:ZD L):QJ (cQ R L)/\∀J,bh κ 116 [.agg R.azR,.agg L.azR] J (fm (cQ R L) 0):=by
 have a:=Dk d;have s:=h.log;have i:=h.len;have same:∀m,R.azS[m]?=some L->m<=R.azS.length->(∀(k:Nat) (y:aV),R.azS[k]?=some y->(0<=dH y L<->m<=k))->R.azS.any (λy=>dH y L==0)=θ->QJ (cQ R L)/\∀J,bh κ 116 [.agg R.azR,.agg L.azR] J (fm (cQ R L) 0):=by
  intro m p c f g;have e:cQ R L=R:=by rw[cQ,aQ g]
  rw[e];exact⟨h,λJ=>DE R L m h.azU a.2.1 h.down a.1 c f p J⟩
 have put:∀m,pt R.azS L=m->m<=R.azS.length->(∀(k:Nat) (y:aV),R.azS[k]?=some y->(0<=dH y L<->m<=k))->(∀y,R.azS[m]?=some y->dH y L≠0)->L.aY.bS≠R.azW->R.azS.any (λy=>dH y L==0)=G->R.azS.length=1 ->((R.azW=0/\R.azS.take m++L::R.azS.drop m=[nX,nY])\/(R.azW=1/\R.azS.take m++L::R.azS.drop m=[nX,nY]))->QJ (cQ R L)/\∀J,bh κ 116 [.agg R.azR,.agg L.azR] J (fm (cQ R L) 0):=by
  intro m q c f g n r l j;have e:cQ R L=ku R L m:=by rw[cQ,aw (by rw[r];decide),q]
  rw[e];exact⟨afr h d c j l,λJ=>IE R L m h.azU a.2.1 h.down a.1 a.2.2 (by omega) c f g n J⟩
 rcases h.who with⟨b,e|e⟩|⟨b,e|e⟩<;>rcases d with rfl|rfl;.exact same 0 (by rw[e];rfl) (by rw[e];decide) (by rw[e];exact Wq (by decide)) (by rw[e];decide)
 .exact put 1 (by rw[e];decide) (by rw[e];decide) (by rw[e];exact Wq (by decide)) (by rw[e];simp) (by rw[b];decide) (by rw[e];decide) (by rw[e];rfl) (.inl ⟨b,by rw[e];rfl⟩)
 .exact same 0 (by rw[e];rfl) (by rw[e];decide) (by rw[e];exact Wp (by decide) (by decide)) (by rw[e];decide)
 .exact same 1 (by rw[e];rfl) (by rw[e];decide) (by rw[e];exact Wp (by decide) (by decide)) (by rw[e];decide)
 .exact put 0 (by rw[e];decide) (by rw[e];decide) (by rw[e];exact Wq (by decide)) (by rw[e];intro y o;obtain rfl:nY=y:=(by simpa using o);decide) (by rw[b];decide) (by rw[e];decide) (by rw[e];rfl) (.inr ⟨b,by rw[e];rfl⟩)
 .exact same 0 (by rw[e];rfl) (by rw[e];decide) (by rw[e];exact Wq (by decide)) (by rw[e];decide)
 .exact same 0 (by rw[e];rfl) (by rw[e];decide) (by rw[e];exact Wp (by decide) (by decide)) (by rw[e];decide)
 exact same 1 (by rw[e];rfl) (by rw[e];decide) (by rw[e];exact Wp (by decide) (by decide)) (by rw[e];decide)
def NS:eK where
 o6:=QJ
 ok:=ZD
 fR _:=(bO.zero,8)
 fV o x:=(cQ o x,0)
 fS o:=({ o with aAe:=Y o.log },0)
 azS _ h:=h.azS
 val _ h:=⟨(Dk h).1,(Dk h).2.1⟩
 sml _ h:=h.azU
 len _ h:=cE h.len (by decide)
 gR _ _ h:=absurd h (by decide)
 gV _ _ h hx _:=(xB h hx).1
 gS _ h _:=H9 h
def asX:HC NS:=⟨λo h J=>ID o h.down J,λ_ _ h a J=>(xB h a).2 J,λo h J=>Wo o h.azU h.down J⟩
def aeU:QJ P0:=⟨rfl,KW,by show P0.log.length<=60008*1;exact cE (by decide +kernel:P0.log.length<=1000) (by decide),.inl ⟨rfl,.inl rfl⟩⟩
def aeT:QJ P1:=⟨rfl,TQ,by show P1.log.length<=60008*1;exact cE (by decide +kernel:P1.log.length<=1000) (by decide),.inr ⟨rfl,.inl rfl⟩⟩
def afx:qf [nX,nY]=[nX,nY]:=(yu (λx a=>by simp only[bd,bD,mZ]at a;exact⟨(Dk a).1,(Dk a).2.1⟩) (.refl _) (by decide +kernel)).symm
def abg:qf [nX,nY,nY]=[nX,nY,nY]:=(yu (λx a=>by simp only[bd,bD,mZ,or_self]at a;exact⟨(Dk a).1,(Dk a).2.1⟩) (.refl _) (by decide +kernel)).symm
def Q0:bO:=ku P0 nY 1
def Q1:bO:=ku P1 nX 0
def aj7:(iq nY nX==0)=G/\(iq nY nY==0)=θ:=by decide +kernel
def UB:cQ P0 nX=P0/\cQ P0 nY=Q0:=⟨by rw[cQ,aQ (by decide)],by rw[cQ,aw (by decide),show pt P0.azS nY=1 from by decide];rfl⟩
def UA:cQ P1 nX=Q1/\cQ Q1 nY=Q1:=⟨by rw[cQ,aw (by decide),show pt P1.azS nX=0 from by decide];rfl,by rw[cQ,aQ (by decide)]⟩
def afs:NS.settle ⟨[P0,P1],[],[gj 1 0]⟩=[{ Q0 with aAe:=Q0.log.length },{ Q1 with aAe:=Q1.log.length }]:=by
 have c:ff [P0,P1]=[nX,nY]:=by show ot _ (qf [nX,nY])=_;rw[afx];simp only[ot,jB,aj7.1,aP,bw]
 have a:ff [Q0,P1]=[nX,nY]:=by show ot _ (qf [nX,nY,nY])=_;rw[abg];simp only[ot,jB,aj7.1,aj7.2,aP,bw,aU]
 have d:NS.mT 0 [nX,nY] [P0,P1]=[Q0,P1]:=by show[cQ (cQ P0 nX) nY,P1]=_;rw[UB.1,UB.2]
 have b:NS.mT 1 [nX,nY] [Q0,P1]=[Q0,Q1]:=by show[Q0,cQ (cQ P1 nX) nY]=_;rw[UA.1,UA.2]
 show NS.sync (NS.mT 1 (ff (NS.mT 0 (ff [P0,P1]) [P0,P1])) (NS.mT 0 (ff [P0,P1]) [P0,P1]))=_;rw[c,d,a,b];rfl
def JC:Net:=⟨[{ Q0 with aAe:=Q0.log.length },{ Q1 with aAe:=Q1.log.length }],[],[]⟩
def Sv:∀o∈JC.an,QJ o:=by
 have a:QJ Q0:=UB.2▸(xB aeU (.inr rfl)).1;have c:QJ Q1:=UA.1▸(xB aeT (.inl rfl)).1;intro o b;simp only[JC,bd,bD,mZ]at b;rcases b with rfl|rfl;.exact H9 a
 exact H9 c
def aqt:kU (dw [nX,nY]) [BZ [97] [121]]=θ:=by decide +kernel
def ajQ:FZ [P0,P1]=G:=by decide +kernel
def ajP:FZ JC.an=θ:=by decide +kernel
end Go.Proofs.Tryz

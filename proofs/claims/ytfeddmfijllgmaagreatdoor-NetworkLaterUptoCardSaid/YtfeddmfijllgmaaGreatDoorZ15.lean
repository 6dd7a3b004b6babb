/- Part of a proof. -/
import Derived.Test.YtfeddmfijllgmaaGreatDoorZ14
set_option linter.all false
set_option maxHeartbeats 1000000
open Option renaming some->S
open Bool renaming true->G,false->Z
open List renaming length->X
namespace Go.Bt
open Go Go.Pm
variable(U:List bf)(v:bH)(c:Int)(k:aL)(R:bf)(P:List En)(K:List bX)(J:gf)(i:Nat){Q:Int}{H:List En}{E:List bX}{l:List bf}{L:Nat}{C:aL}{w:bH}{F:bX}{T D:bf}
def mJ(k:aL):List bf->Nat|[]=>0|y::r=>if Op.bytesLess (cF y) k=G then mJ k r+1 else 0
def J8(k:aL):∀l:List bf,mJ k l<=X l|[]=>by simp[mJ]|y::r=>by have:=J8 k r;simp only[mJ,ah];split<;>omega
def P4{o:bf}:∀{l:List bf},(∀y,l[mJ (cF o) l]?=S y->cF y≠cF o)->uJ o l=l.take (mJ (cF o) l)++o::l.drop (mJ (cF o) l)
 |[],_=>by simp[uJ,mJ]
 |y::r,h=>by
  simp only[uJ,mJ,jD,bz]at h |-;by_cases a:iR (cF y) (cF o)<0;.simp only[a,aR,cA,eZ,mi,aF]at h |-;rw[P4 h]
  simp only[a,bo,aG,aa,forall_eq',jM,qg,aw]at h |-;rw[ao h]
def P3{o y:bf}:∀{l:List bf},l[mJ (cF o) l]?=S y->cF y=cF o->uJ o l=if nz o y=G then l.set (mJ (cF o) l) o else l
 |[],h,_=>by simp at h
 |z::r,h,hk=>by
  simp only[uJ,mJ,jD,bz]at h |-;by_cases a:iR (cF z) (cF o)<0;.simp only[a,aR,cA,cH]at h |-;rw[P3 h hk];split<;>rfl
  simp only[a,bo,aG,aa,cu]at h |-;subst h;rw[aO hk]
def Wx:X (sW U R)<=X U+1:=by
 have a:∀l:List bf,X (uJ R l)<=X l+1:=by
  intro l;induction l with
  |nil=>simp[uJ]
  |cons x l ih =>
  simp only[uJ];repeat' split
  all_goals simp only[ah]at ih |-
  all_goals omega
 simp only[sW];split;.omega
 exact a U
def Ww{o z:bf}(h:z∈sW l o):z=o\/z∈l:=by
 simp only[sW]at h;split at h;.exact .inr h
 exact G4 h
def adA(a b:cz):Bool:=a.time==b.time&&(a.bR==b.bR&&(a.ax0==b.ax0&&G))
def Y5{a b:cz}:adA a b=G<->a=b:=by obtain⟨d,e,g⟩:=a;obtain⟨c,f,h⟩:=b;simp[adA]
def MG(b:bf):Bool:=adA R.aZ b.aZ&&R.axW==b.axW&&Eo R.axY b.axY&&R.ax5==b.ax5
def Gt:MG T D=G<->T=D:=by obtain⟨c,d,g,a⟩:=T;obtain⟨b,e,h,f⟩:=D;simp only[MG,aV,Y5,By,dM,bf.mk.injEq,and_assoc]
def qD:List bf->List bf->Bool|[],[]=>G|a::x,b::y=>MG a b&&qD x y|_,_=>Z
def B6:∀{a b:List bf},qD a b=G<->a=b|[],[]=>by simp[qD]|a::x,b::y=>by simp[qD,Gt,B6 (a:=x) (b:=y)]|[],b::y=>by simp[qD]|a::x,[]=>by simp[qD]
def WU:∀{a b:List bf},qD a b=G->X a=X b:=λh=>by rw[B6.1 h]
def KF:∀(x y:aL),iR x y = -1\/iR x y=0\/iR x y=1
 |[],[]=>by simp[iR]
 |[],_::_=>by simp[iR]
 |_::_,[]=>by simp[iR]
 |a::x,b::y=>by
  simp only[iR];split;.simp
  split;.simp
  exact KF x y
def s9:X (parse k).1<2^30/\bA (parse k).1<2^30/\∀x∈(parse k).1,-9223372036854775808<=x.id/\x.id<=9223372036854775807:=by
 by_cases h:(parse k).2.2=0
 .obtain⟨a,_,g,f⟩:=Bu h;have c:cj [] (parse k).1=0:=by
   simp only[cU]at a;split at a;.simp at a
   exact a
  have d:=An (parse k).1 (mR (parse k).1 [] c);exact⟨by omega,by omega,λx b=>by have:=agr c x b;omega⟩
 have e:(parse k).1=[]:=by rw[<- AA]at h |-;exact wD _ _ _ _ _ h
 rw[e];exact⟨by decide,by decide,λx b=>by simp at b⟩
def acL:∀(l:aL),∃m:Nat,gM l=m/\m<256^X l:=by
 have gen:∀(l:aL) (n:Nat),∃m:Nat,l.foldl (λa x=>a*256+(x.toNat:Int)) (n:Int)=m/\m<(n+1)*256^X l:=by
  intro l;induction l with
  |nil=>intro n;exact⟨n,rfl,by simp⟩
  |cons c l ih =>
  intro n;obtain⟨m,b,d⟩:=ih (n*256+c.toNat);refine⟨m,?_,?_⟩;.rw[<- b];simp
  have f:c.toNat<256:=c.toNat_lt;have:(n*256+c.toNat+1)*256^X l<=((n+1)*256)*256^X l:=bS _ (by omega);simp only[ah,Yr];have e:(n+1)*(256^X l*256)=(n+1)*256*256^X l:=by rw[iB (256^X l),Nat.mul_assoc]
  omega
 intro l;obtain⟨m,b,d⟩:=gen l 0;exact⟨m,b,by simpa using d⟩
def vi(r:Rb)(n:Nat)(g:n<=4):0<=(r.ax0 n).1/\(r.ax0 n).1<2^(8*n):=by
 have a:X (r.take n).1<=n:=by simp only[Rb.take];split<;>simp<;>omega
 obtain⟨m,b,c⟩:=acL (r.take n).1;have d:256^X (r.take n).1<=256^n:=wc (by decide) a;have e:(r.ax0 n).1=m:=b;have f:(256:Nat)^n=2^(8*n):=by rw[Nat.pow_mul]
 rw[e];constructor;.omega
 have:m<2^(8*n):=by omega
 exact_mod_cast this
def om(r:Rb)(n:Nat):X (r.ax0 n).2.b<=X r.b:=by simp only[Rb.ax0,Rb.take];split<;>simp
def oM(r:Rb):X r.ax1.2.b<=X r.b/\X r.ax1.1<=X r.b:=by
 have a:=om r 4;have e:r.ax1=if(X (r.ax0 4).2.b:Int)<(r.ax0 4).1 then([],⟨(r.ax0 4).2.b,G⟩)else(r.ax0 4).2.take (r.ax0 4).1.toNat:=rfl;rw[e];split;.exact⟨a,by simp⟩
 rename_i h;have c:¬X (r.ax0 4).2.b<(r.ax0 4).1.toNat:=by omega
 simp only[Rb.take,ao c,aX,bN];omega
def vQ(r:Rb):X r.ayn.2.b<=X r.b:=(oM r).1
def wK:∀(n:Nat) (r:Rb),X (Rb.ax9 n r).2.b<=X r.b/\X (Rb.ax9 n r).1=n|0,r=>⟨aB _,rfl⟩|n+1,r=>by have c:=om r 2;have a:=wK n (r.ax0 2).2;simp only[Rb.ax9,ah,a.2];exact⟨by omega,trivial⟩
def Bw{f:List It}(h:cj [] f=0):X (ayj f).1<=4*bA f+30*X f:=by
 have c:=mR f [] h;have a:∀f:List It,(∀x∈f,cv none x=G)->X (f.flatMap dz)<=4*bA f+30*X f:=by intro f;induction f with|nil=>intro _;simp|cons x f ih =>intro h;have g:=ih λy b=>h y (by simp[b]);have e:=Nt (h x (by simp));have d:=rz x (by omega);simp only[fc,ae,bA,ah];omega
 have:=a f c;simp only[ayj];split;.simp
 exact this
def af7(h:ahz T):X (dx T)<=20000:=by
 have o:=Bw h.src;have i:=h.Rz;have k:=h.K9;have n:=h.Rr;have p:=h.K7;have m:=h.ctx;have F:=qE h.ok;have j:=F.Ld;have f:∀l:bH,X (l.flatMap sN)=2*X l:=by intro l;induction l with|nil=>rfl|cons a r ih=>simp only[fc,ae,gU,ih,ah];omega
 have g:T.axW=1->X (ayj T.axY.ax4).1<=8000:=by
  intro d;have e:ayk T=T.axY:=by simp[ayk,d]
  have c:=F.ayk;rw[e]at c;have b:=(mq c).ax4;simp only[cU]at b;split at b;.simp at b
  have:=Bw b;omega
 simp only[dx,eY,ae,fI,gU,ah,aj,f];split;.have:=g (by assumption);simp only[ae,fI,ah,aj];omega
 simp only[aj];omega
def lL:dS T D<0<->T.aZ.bR<D.aZ.bR\/(T.aZ.bR=D.aZ.bR/\T.aZ.ax0<D.aZ.ax0):=by simp only[dS,sP,gp];(repeat' split)<;>omega
def lq:dS T D=0<->T.aZ.bR=D.aZ.bR/\T.aZ.ax0=D.aZ.ax0:=by simp only[dS,sP,gp];(repeat' split)<;>omega
abbrev ri:Prop:=U.Pairwise λa b=>dS a b<0
def nv:Nat:=X (U.takeWhile λy=>decide (dS y R<0))
def qJ:List bf:=U.take (nv U R)++R::U.drop (nv U R)
def Vr:nv U R<=X U:=H6 (H4 _)
def yr(h:ri l)(x:bf):∀(k:Nat) (y:bf),l[k]?=S y->(0<=dS y x<->nv l x<=k):=by
 induction l with
 |nil=>intro k y h;simp at h
 |cons a l ih =>
 replace h:=cX.1 h;intro k y b;by_cases c:dS a x<0
 .have e:nv (a::l) x=nv l x+1:=by simp[nv,eG,c]
  cases k with|zero=>simp only[aG,aa]at b;subst b;omega|succ k =>have:=ih h.2 k y (by simpa using b);omega
 have e:nv (a::l) x=0:=by simp[nv,eG,c]
 rw[e];refine⟨λ_=>iP _,λ_=>?_⟩;cases k with
 |zero=>simp only[aG,aa]at b;subst b;omega
 |succ k =>
 have d:y∈l:=bn (by simpa using b);have g:=h.1 y d;refine bY λi=>c ?_;have f:dS y x<0:=by omega
 rw[lL]at g f |-;omega
def pn{x y:bf}:y∈qJ l x<->y=x\/y∈l:=by
 have:y∈l<->y∈l.take (nv l x)\/y∈l.drop (nv l x):=by rw[<- List.mem_append,eU]
 simp only[qJ,bJ,bw,this];constructor
 .rintro(h|h|h);.exact .inr (.inl h)
  .exact .inl h
  exact .inr (.inr h)
 rintro(h|h|h);.exact .inr (.inl h)
 .exact .inl h
 exact .inr (.inr h)
def P6:X (qJ U R)=X U+1:=by have:=Vr U R;simp only[qJ,ae,aX,ah,bN];omega
def Ck(h:ri l)(m:∀y∈l,dS y T≠0):ri (qJ l T):=by
 have f:=yr h T;refine gG.2 ?_;rw[cX];refine⟨h.sublist (Ys _ _),⟨λy i=>?_,h.sublist (Yu _ _)⟩,λa n b e=>?_⟩
 .obtain⟨k,c⟩:=df.1 i;rw[dE]at c;have g:=(f _ y c).2 (by omega);have j:=m y (dR i);have d:¬dS y T<0:=by omega
  rw[lL]at d |-;rw[gj,lq]at j;omega
 have g:dS a T<0:=by
  obtain⟨k,c⟩:=df.1 n;rw[ft]at c;split at c;.have:=f k a c;omega
  cases c
 rcases bw.1 e with rfl|e;.exact g
 obtain⟨k,c⟩:=df.1 e;rw[dE]at c;have j:=(f _ b c).2 (by omega);have d:¬dS b T<0:=by omega
 rw[lL]at g d |-;omega
def rL:∀{l m:List bf},ri l->ri m->(∀x,x∈l<->x∈m)->l=m
 |[],[],_,_,_=>rfl
 |[],b::m,_,_,h=>absurd ((h b).2 (by simp)) (by simp)
 |a::l,[],_,_,h=>absurd ((h a).1 (by simp)) (by simp)
 |a::l,b::m,g,c,h=>by
  replace g:=cX.1 g;replace c:=cX.1 c;have i:∀z:bf,¬dS z z<0:=λz o=>by rw[lL]at o;omega
  have e:a=b:=by
   rcases bw.1 ((h a).1 (by simp))with k|k;.exact k
   rcases bw.1 ((h b).2 (by simp))with j|j;.exact j.symm
   have d:=c.1 a k;have n:=g.1 b j;rw[lL]at d n;omega
  subst e;refine congrArg _ (rL g.2 c.2 λx=>?_);constructor
  .intro f;rcases bw.1 ((h x).1 (by simp[f]))with rfl|d;.exact absurd (g.1 x f) (i x)
   exact d
  intro f;rcases bw.1 ((h x).2 (by simp[f]))with rfl|d;.exact absurd (c.1 x f) (i x)
  exact d
def uC{d:Type}:∀{l m:List d},l.Nodup->(∀x∈l,x∈m)->X l<=X m
 |[],_,_,_=>iP _
 |a::l,m,hn,h=>by
  rw[List.nodup_cons]at hn;obtain⟨s,t,rfl⟩:=TE (h a (by simp));have:=uC (m:=s++t) hn.2 λx c=>by
   have b:=h x (by simp[c]);simp only[bJ,bw]at b |-;rcases b with b|b|b;.exact .inl b
   .subst b;exact absurd c hn.1
   exact .inr b
  simp only[ae,ah]at this |-;omega
structure acV (M:List bf):Prop where
 gen:∀x∈M,ahz x
 off:∀x∈M,x.aZ.bR≠0
 one:∀x∈M,∀y∈M,dS x y=0->x=y
 len:M.length<=10
structure Recv (M:List bf) (o:bX):Prop where
 num:o.ax0=0
 down:o.down=false
 sub:∀x∈o.axX,x∈M
 sort:ri o.axX
 top:∀x∈o.axX,x.aZ.time<=o.ax7
 clk:o.ax7=0\/∃x∈o.axX,o.ax7=x.aZ.time
 log:o.log.length<=60008*o.axX.length
def U5(h:eO T=0):1<=T.aZ.time/\0<=T.aZ.bR/\T.aZ.ax0<=128:=by
 simp only[eO]at h;split at h;.simp at h
 rename_i a;simp only[jO,tY,bz]at a;omega
def ow:dS R R=0:=lq.2 ⟨rfl,rfl⟩
def Recv.len(h:Recv l F):F.axX.length<=X l:=by refine uC ?_ h.sub;refine h.sort.imp λ{a b} rf e=>?_;subst e;rw[ow]at rf;omega
def Recv.axZ(a:acV l)(h:Recv l F):F.axZ:=by have d:=h.len;have c:=a.len;have e:=h.log;exact⟨λx b=>(a.gen x (h.sub x b)).axZ,by omega,by omega⟩
def fH(o:bX)(x:bf):bX:=if o.axX.any (λy=>dS y x==0)then o else jn o x (nv o.axX x)
def J6(c:acV l)(h:Recv l F)(a:T∈l):F.axX.any (λy=>dS y T==0)=G<->T∈F.axX:=by
 rw[hZ];constructor;.rintro⟨y,b,d⟩;have:=c.one y (h.sub y b) T a (by simpa using d);exact this▸b
 exact λa=>⟨T,a,by simp[ow]⟩
def Zt(b:acV l)(h:Recv l F){x y:bf}(c:x∈l):y∈(fH F x).axX<->y=x\/y∈F.axX:=by
 by_cases a:F.axX.any (λy=>dS y x==0)=G;.rw[fH,aO a];have:=(J6 b h c).1 a;exact⟨.inr,λh=>h.elim (λe=>e▸this) id⟩
 rw[fH,ao a];exact pn
def Zu(c:acV l)(h:Recv l F)(b:T∈l):Recv l (fH F T):=by
 by_cases d:F.axX.any (λy=>dS y T==0)=G;.rw[fH,aO d];exact h
 rw[fH,ao d];have j:T ∉ F.axX:=λg=>d ((J6 c h b).2 g);have n:=(U5 (c.gen T b).ok).1;refine⟨h.num,h.down,λy a=>?_,Ck h.sort λy a e=>j (c.one y (h.sub y a) T b e▸a),λy a=>?_,?_,?_⟩
 .rcases pn.1 a with rfl|a;.exact b
  exact h.sub y a
 .simp only[jn];rcases pn.1 a with rfl|a;.split<;>omega
  have:=h.top y a;split<;>omega
 .right;simp only[jn];by_cases f:F.ax7<T.aZ.time;.rw[aO f];exact⟨T,pn.2 (.inl rfl),rfl⟩
  rw[ao f];rcases h.clk with m|⟨y,a,e⟩;.omega
  exact⟨y,pn.2 (.inr a),e⟩
 have o:=af7 (c.gen T b);have k:=h.log;have i:=P6 F.axX T;simp only[qJ,ae]at i;simp only[jn,ae,jh];omega
def uk{M:List bf}(b:acV M):∀(a:List bf) {o:bX},Recv M o->(∀x∈a,x∈M)->Recv M (a.foldl fH o)/\∀y,y∈(a.foldl fH o).axX<->y∈a\/y∈o.axX
 |[],o,h,_=>⟨h,λy=>by simp⟩
 |x::a,o,h,hs=>by
  have c:=hs x (by simp);have:=uk b a (Zu b h c) λy d=>hs y (by simp[d]);refine⟨this.1,λy=>?_⟩;rw[bT,this.2,Zt b h c,bw];constructor
  .rintro(h|h|h);.exact .inl (.inr h)
   .exact .inl (.inl h)
   exact .inr h
  rintro((h|h)|h);.exact .inr (.inl h)
  .exact .inl h
  exact .inr (.inr h)
def afs(h:ri l)(i:T∈l):l[nv l T]?=S T:=by
 obtain⟨k,a⟩:=df.1 i;have j:=(yr h T k T a).1 (by rw[ow];exact kX _);have b:=(ag.1 a).1;have e:nv l T=k:=by
  refine bY λn=>?_;have c:nv l T<k:=by omega
  have d:l[nv l T]?=S l[nv l T]:=aA (by omega);have m:=(yr h T _ _ d).2 (aB _);have f:=gD.1 h (nv l T) k (by omega) b c;have g:l[k]=T:=by rw[aA b]at a;simpa using a
  rw[g]at f;omega
 rw[e];exact a
def Gr:kr R R=0:=by
 have h:∀l:aL,iR l l=0:=by intro l;induction l with|nil=>rfl|cons a l ih=>simp[iR,ih]
 simp[kr,sP,gp,h]
def qu:IntKind.u32.wrap c=c % 4294967296:=by simp only[IntKind.wrap,IntKind.bits,IntKind.signed];rfl
def KM:((DQ c).toNat:Int)=c % 256:=by rw[DP];simp only[IntKind.wrap,IntKind.bits,IntKind.signed];rfl
def GA(h:0<=Q/\Q<4294967296):gM (np Q)=Q:=by simp only[gM,np,bT,gZ,KM,ic _ (show(0:Int)<=2^24 by decide),ic _ (show(0:Int)<=2^16 by decide),ic _ (show(0:Int)<=2^8 by decide)];omega
def xN(h:X k<=4):0<=gM k/\gM k<4294967296:=by match k,h with|[],_=>simp[gM]|[a],_=>have:=a.toNat_lt;simp only[gM,bT,gZ];omega|[a,b],_=>have:=a.toNat_lt;have:=b.toNat_lt;simp only[gM,bT,gZ];omega|[a,b,c],_=>have:=a.toNat_lt;have:=b.toNat_lt;have:=c.toNat_lt;simp only[gM,bT,gZ];omega|[a,b,c,d],_=>have:=a.toNat_lt;have:=b.toNat_lt;have:=c.toNat_lt;have:=d.toNat_lt;simp only[gM,bT,gZ];omega|a::b::c::d::e::r,h=>simp at h
def zF:∀(b:aL) (h:Int),0<=h/\h<4294967296->0<=lH h b/\lH h b<4294967296|[],_,hh=>hh|x::b,h,_=>by refine zF b (od h x) ?_;simp only[od,qu];omega
def tF:Int:=2166136261
def jq(log:aL):Nat :=if X log<8 then 0
 else if 65536<gM (log.take 4)\/((X log - 8:Nat):Int)<gM (log.take 4)then 0
 else if lH (lH tF (log.take 4)) ((log.drop 8).take (gM (log.take 4)).toNat)=gM ((log.drop 4).take 4)then 8+(gM (log.take 4)).toNat
 else 0
def AH(hp:X k<4294967296):pd k=np (X k:Int)++(np (lH (lH tF (np (X k:Int))) k)++k):=by
 have e:IntKind.u32.wrap (X k:Int)=(X k:Int):=by rw[qu];omega
 rw[pd,Cz,e,aJ];rfl
def Ks(a:aL)(hp:X k<=65536):jq (pd k++a)=8+X k:=by
 have b:X (pd k++a)=8+X k+X a:=by rw[ae,jh]
 rw[AH k (by omega)]at b |-;have c:=kt (X k:Int);have d:=kt (lH (lH tF (np (X k:Int))) k);have g:(np (X k:Int)++(np (lH (lH tF (np (X k:Int))) k)++k)++a).take 4=np (X k:Int):=by rw[aJ];exact ma c
 have e:(np (X k:Int)++(np (lH (lH tF (np (X k:Int))) k)++k)++a).drop 4=np (lH (lH tF (np (X k:Int))) k)++(k++a):=by rw[aJ,aJ];exact Ib c
 have h:(np (X k:Int)++(np (lH (lH tF (np (X k:Int))) k)++k)++a).drop 8=k++a:=by rw[show(8:Nat)=4+4 from rfl,<- List.drop_drop,e];exact Ib d
 have i:gM (np (X k:Int))=(X k:Int):=GA (by omega);have f:gM (np (lH (lH tF (np (X k:Int))) k))=lH (lH tF (np (X k:Int))) k:=GA (zF _ _ (zF _ _ (by decide)));rw[jq,g,e,h,i,ma d,f,al,ma rfl,b];rw[ao (by omega),ao (by omega),aO rfl]
def XU(d:i<8+X k)(hp:X k<=65536):jq ((pd k).take i)=0:=by
 have c:X ((pd k).take i)=i:=by rw[aX,jh];omega
 rw[jq,c];by_cases a:i<8;.rw[aO a]
 rw[ao a];have b:((pd k).take i).take 4=np (X k:Int):=by rw[mL,fi (by omega),AH k (by omega)];exact ma (kt _)
 rw[b,GA (by omega),aO (by omega)]
def cW:aL:=J.flatMap pd
def Kq:∀(a:gf) (n:Nat),(∀p∈a,X p<=65536)->∃k c,k<=X a/\(cW a).take n=cW (a.take k)++c/\jq c=0/\(∀m,m<=X a->X (cW (a.take m))<=n->m<=k)
 |[],n,_=>⟨0,[],aB _,by simp[cW],rfl,λm b _=>b⟩
 |p::a,n,h=>by
  have hp:=h p (by simp);by_cases j:8+X p<=n
  .obtain⟨k,c,l,e,i,f⟩:=Kq a (n - (8+X p)) λq g=>h q (by simp[g]);refine⟨k+1,c,by simp;omega,?_,i,λm b d=>?_⟩;.simp only[cW,fc,eZ,aJ]at e |-;rw[ac3,cc (by rw[jh];exact j),jh,e]
   cases m with|zero=>omega|succ m =>simp only[cW,eZ,fc,ae,jh]at d f;have:=f m (by simpa using b) (by omega);omega
  refine⟨0,(pd p).take n,by simp,?_,XU p n (by omega) hp,λm b d=>?_⟩;.simp only[cW,fc,jM,lB,aw];rw[ac3,jh,Nat.sub_eq_zero_of_le (by omega),jM,bE]
  cases m with|zero=>omega|succ m =>simp only[cW,eZ,fc,ae,jh]at d;omega
def fJ:List bf:=U.foldl qJ []
def zS:Int:=if c<R.aZ.time then R.aZ.time else c
def jc:Int:=U.foldl zS 0
def gC:aL:=cW (U.map dx)
def fQ(n:Int)(arr:List bf)(k:Nat):bX:=⟨n,jc arr,fJ arr,gC arr,X (gC (arr.take k)),Z⟩
def pR(arr:List bf)(a:aL):bX:=⟨c,0,[],gC arr++a,X (gC arr++a),G⟩
def pZ:fJ (U++[R])=qJ (fJ U) R:=by simp[fJ]
def tC:jc (U++[R])=zS (jc U) R:=by simp[jc]
def MV:c<=zS c R/\R.aZ.time<=zS c R/\(zS c R=c\/zS c R=R.aZ.time):=by unfold zS;split<;>omega
def uQ(b:List bf):gC (U++b)=gC U++gC b:=by simp[gC,cW]
def Cs:gC [R]=pd (dx R):=by simp[gC,cW]
structure Tz (x:bf):Prop where
 ok:eO x=0
 axZ:x.axZ
 enc:(dx x).length<=20000
structure H2 (n:Int) (arr:List bf):Prop where
 op:∀x∈arr,Tz x
 one:arr.Pairwise λa b=>dS a b≠0
 own:∀(j:Nat) (y:bf),(arr.filter λx=>x.aZ.bR==n)[j]?=some y->y.aZ.ax0=j+1
def fq:T∈fJ l<->T∈l:=by
 have c:∀(l b:List bf),T∈l.foldl qJ b<->T∈l\/T∈b:=by intro l;induction l with|nil=>simp|cons a l ih =>intro b;rw[bT,ih,pn,bw];exact⟨λh=>h.elim (λh=>.inl (.inr h)) (λh=>h.elim (λh=>.inl (.inl h)) .inr),λh=>h.elim (λh=>h.elim (λh=>.inr (.inl h)) .inl) (λh=>.inr (.inr h))⟩
 simpa[fJ]using c l []
def Gn(h:dS T D=0):dS D T=0:=by rw[lq]at h |-;exact⟨h.1.symm,h.2.symm⟩
def A2:(l++[T]).Pairwise (λa b=>dS a b≠0)<->l.Pairwise (λa b=>dS a b≠0)/\∀y∈l,dS y T≠0:=by rw[gG];simp
def xZ:X (fJ U)=X U:=by
 have b:∀(U l:List bf),X (U.foldl qJ l)=X U+X l:=by intro U;induction U with|nil=>simp|cons a U ih=>intro l;rw[bT,ih,P6,ah];omega
 simpa[fJ]using b U []
def pY(h:l.Pairwise λa b=>dS a b≠0):ri (fJ l):=by
 have c:∀(r:List bf) (s:List bf),(s++r).Pairwise (λa b=>dS a b≠0)->ri (fJ s)->ri (r.foldl qJ (fJ s)):=by intro r;induction r with|nil=>intro s _ h;exact h|cons x r ih =>intro s d e;have g:(s++[x]).Pairwise λa b=>dS a b≠0:=d.sublist (by simp);rw[bT,<- pZ];refine ih (s++[x]) (by simpa using d) ?_;rw[pZ];exact Ck e λy f=>(A2.1 g).2 y (fq.1 f)
 have:=c l [] (by simpa using h) (by simp[fJ,ri]);simpa[fJ]using this
def vF(h:∀x∈l,eO x=0):0<=jc l/\jc l<=2^30:=by
 have b:∀(l:List bf) (c:Int),(∀x∈l,eO x=0)->0<=c/\c<=2^30->0<=l.foldl zS c/\l.foldl zS c<=2^30:=by
  intro l;induction l with
  |nil=>intro c _ h;exact h
  |cons a l ih =>
  intro c e i;rw[bT];refine ih _ (λx g=>e x (by simp[g])) ?_;have d:=e a (by simp);have:1<=a.aZ.time/\a.aZ.time<=2^30:=by
   simp only[eO]at d;split at d;.simp at d
   rename_i f;simp only[jO,tY,bz]at f;omega
  have:=MV c a;omega
 exact b l 0 h (by decide)
def Yf(h:T∈l):T.aZ.time<=jc l:=by
 have b:∀(l:List bf) (c:Int),c<=l.foldl zS c/\∀T∈l,T.aZ.time<=l.foldl zS c:=by
  intro l;induction l with
  |nil=>intro c;simp
  |cons a l ih =>
  intro c;rw[bT];have e:=ih (zS c a);have f:=MV c a;refine⟨by omega,λT d=>?_⟩;rcases bw.1 d with rfl|d;.omega
  exact e.2 T d
 exact(b l 0).2 T h
def uP(h:∀x∈l,Tz x):X (gC l)<=20008*X l:=by induction l with|nil=>simp[gC,cW]|cons a l ih =>have d:=ih λx b=>h x (by simp[b]);have c:=(h a (by simp)).enc;rw[show a::l=[a]++l from rfl,uQ,Cs,ae,jh];simp only[ae,ah,aj];omega
def H2.take(h:H2 Q l)(k:Nat):H2 Q (l.take k):=by refine⟨λx b=>h.op x (dB b),h.one.sublist (Ys _ _),λj y a=>h.own j y ?_⟩;have e:l=l.take k++l.drop k:=(eU k l).symm;rw[e,je,bc (ag.1 a).1];exact a
def qU(arr:List bf):Nat:=X (arr.filter λx=>x.aZ.bR==c)
def H2.Fc(h:H2 Q l)(m:Tz T)(d:T.aZ.bR=Q)(f:T.aZ.ax0=qU Q l+1):H2 Q (l++[T]):=by
 have n:∀y∈l,dS y T≠0:=λy b g=>by rw[lq]at g;have c:y∈l.filter λT=>T.aZ.bR==Q:=fv.2 ⟨b,by simp[g.1,d]⟩;obtain⟨j,a⟩:=df.1 c;have p:=h.own j y a;have o:=(ag.1 a).1;simp only[qU]at f;omega
 refine⟨λy b=>?_,A2.2 ⟨h.one,n⟩,λj y a=>?_⟩
 .rcases bJ.1 b with b|b;.exact h.op y b
  simp only[cQ]at b;exact b▸m
 rw[je,List.getElem?_append]at a;split at a;.exact h.own j y a
 have e:[T].filter (λT=>T.aZ.bR==Q)=[T]:=by simp[d]
 rw[e]at a;have k:=(ag.1 a).1;simp only[ah,aj]at k;have i:j - X (l.filter λT=>T.aZ.bR==Q)=0:=by omega
 rw[i]at a;simp only[aG,aa]at a;rw[<- a,f,qU];omega
def H2.Fe(h:H2 Q l)(d:Tz T)(c:T.aZ.bR≠Q)(e:∀y∈l,dS y T≠0):H2 Q (l++[T]):=by
 refine⟨λy a=>?_,A2.2 ⟨h.one,e⟩,λj y b=>h.own j y ?_⟩
 .rcases bJ.1 a with a|a;.exact h.op y a
  simp only[cQ]at a;exact a▸d
 rw[je,show[T].filter (λT=>T.aZ.bR==Q)=[]by simp[c],bE]at b;exact b
def agL:H2 c []:=⟨by simp,by simp,by simp⟩
def W1{n:Int}(a:L<=X l)(x:bf):jn (fQ n l L) x (nv (fJ l) x)=fQ n (l++[x]) L:=by simp only[jn,fQ,tC,pZ,qJ,uQ,Cs,dI a];rfl
def Gy{n:Int}{arr:List bf}{k:Nat}:{ jn (fQ n arr k) R (nv (fJ arr) R)with ayi:=X (jn (fQ n arr k) R (nv (fJ arr) R)).log }=fQ n (arr++[R]) (X arr+1):=by have e:(arr++[R]).take (X arr+1)=arr++[R]:=cc (by simp);simp only[jn,fQ,tC,pZ,qJ,uQ,Cs,e];rfl
def ta(h:H2 Q l)(b:X l<=1000):(fQ Q l L).axZ:=by
 have:=uP h.op;refine⟨λx a=>(h.op x (fq.1 a)).axZ,?_,?_⟩;.simp only[fQ,xZ];omega
 simp only[fQ];omega
def adv:mB [] c=0:=by simp only[mB,aj];rw[aO (by omega)]
def GY:(let x:=mB v c;let y:=mB [] c;if x<y then y else x)=mB v c:=by have:=xW v c;simp only[adv];split<;>omega
def Bg:kT v [] i=(List.range i).map λa:Nat=>mB v a:=by simp only[kT];exact eH λa _=>GY v a
def zr(v:bH):∀(n i:Nat),i<n->ig v [] n<=i->mB v i=0
 |0,i,h,_=>by omega
 |n+1,i,h,h2=>by
  simp only[ig,GY]at h2;split at h2;.omega
  rename_i a;rcases Nat.lt_or_eq_of_le (Nat.le_of_lt_succ h)with b|rfl;.exact zr v n i b h2
  simpa using a
def xU:X (jf v)=ig v [] 8:=by have:=nr v [] 8;simp only[jf,rY,aX,mO];omega
def Jm(h:i<ig v [] 8):(jf v)[i]?=S (mB v i):=by have:=nr v [] 8;simp only[jf,rY,Bg];rw[cn h,bP,kQ (by omega)];rfl
def Oh:mB (jf v) c=mB v c:=by
 have a:=nr v [] 8;by_cases h:c<0\/8<=c;.simp only[mB];rw[aO (by omega),aO (by omega)]
 obtain⟨i,rfl⟩:∃i:Nat,c=i:=⟨c.toNat,by omega⟩;have f:=xW v i;by_cases d:i<ig v [] 8
 .have b:=Jm v i d;have e:(jf v).getD i 0=mB v i:=by rw[ax,b];rfl
  rw[mB,ao (by rw[xU];omega),al,e,ao (by omega)]
 rw[mB,aO (by rw[xU];omega)];exact(zr v 8 i (by omega) (by omega)).symm
def xf{v w:bH}(h:∀o:Int,mB v o=mB w o):∀n,ig v [] n=ig w [] n|0=>rfl|n+1=>by simp only[ig,GY,h,xf h n]
def Og{a:bH}(h:∀o:Int,mB w o=mB a o):jf w=jf a:=by simp only[jf,rY,Bg,xf h,h]
def Rl:jf (jf v)=jf v:=Og (Oh v)
def VY(h:Q∈jf w):∃o:Int,Q=mB w o:=by obtain⟨i,a⟩:=df.1 h;have b:=(ag.1 a).1;rw[xU]at b;rw[Jm w i b]at a;exact⟨i,by simpa using a.symm⟩
def H2.Z0(h:H2 Q l)(j:Nat):(∃x∈l,x.aZ.bR=Q/\x.aZ.ax0=(j:Int)+1)<->j<qU Q l:=by
 constructor;.rintro⟨x,e,d,f⟩;have c:x∈l.filter λx=>x.aZ.bR==Q:=fv.2 ⟨e,by simp[d]⟩;obtain⟨i,b⟩:=df.1 c;have k:=h.own i x b;have g:=(ag.1 b).1;simp only[qU];omega
 intro a;refine⟨(l.filter λx=>x.aZ.bR==Q)[j],?_,?_,?_⟩;.exact(fv.1 (dQ a)).1
 .have:=(fv.1 (dQ a)).2;simpa using this
 exact h.own j _ (aA a)
def yS:X (U.filter λx=>x.aZ.bR==c)=X ((fJ U).filter λx=>x.aZ.bR==c):=by
 have b:∀(U l:List bf),X ((U.foldl qJ l).filter λx=>x.aZ.bR==c)=X (U.filter λx=>x.aZ.bR==c)+X (l.filter λx=>x.aZ.bR==c):=by
  intro U;induction U with
  |nil=>simp
  |cons a U ih =>
  intro l;have e:l.filter (λx=>x.aZ.bR==c)=(l.take (nv l a)).filter (λx=>x.aZ.bR==c)++(l.drop (nv l a)).filter (λx=>x.aZ.bR==c):=by rw[<- List.filter_append,eU]
  rw[bT,ih,e];simp only[qJ,je,ae,iN];split<;>simp only[ah]<;>omega
 have:=b U [];simpa[fJ]using this.symm
def zO(x:bf):List bf->Nat|[]=>0|y::r=>if kr y x<0 then zO x r+1 else 0
def Uo(x:bf):∀l:List bf,zO x l<=X l|[]=>aB _|y::r=>by have:=Uo x r;simp only[zO,ah];split<;>omega
def ID:List bf:=U.take (zO R U)++R::U.drop (zO R U)
def Py(h:dS T D≠0):kr T D<0<->dS T D<0:=by
 rw[gj,lq]at h;rw[lL];simp only[kr,sP,gp];by_cases a:T.aZ.bR<D.aZ.bR;.simp[a]
 by_cases c:D.aZ.bR<T.aZ.bR;.simp[a,c];omega
 have e:T.aZ.bR=D.aZ.bR:=by omega
 by_cases b:T.aZ.ax0<D.aZ.ax0;.simp[e,b]
 have d:D.aZ.ax0<T.aZ.ax0:=by omega
 simp[e,b,d]
def Pj{x:bf}:∀{l:List bf},(∀y∈l,dS y x≠0)->zO x l=nv l x
 |[],_=>rfl
 |y::r,h=>by
  have ih:=Pj (l:=r) λz b=>h z (by simp[b]);have e:=Py (h y (by simp));by_cases a:dS y x<0;.simp only[zO,aO (e.2 a),ih,nv,eG,a,cZ,aR,ah]
  simp only[zO,ao (λh=>a (e.1 h)),nv,eG,a,dZ,aI,bo,aj]
def uz(h:∀y∈l,dS y T≠0):ID l T=qJ l T:=by simp only[ID,qJ,Pj h]
def xc(k:aL):Bool :=
 match J.getLast? with|none=>Z|some x=>!Op.bytesLess x k
def lJ:List En->gf->gf×Bool|[],out=>(out,G)|e::r,out=>if cY e≠0 then([],Z)else if xc out (dw e)=G then([],Z)else lJ r (out++[dw e])
def keysOf:gf×Bool:=if 1024<X P then([],Z)else lJ P []
def KA:Prop:=J.Pairwise λa b=>iR a b<0
def agR{c:gf}(h:KA c)(e:xc c C=Z):KA (c++[C]):=by
 simp only[KA,gG,cX,bM,List.Pairwise.nil,bw,mg]at h |-;refine⟨h,⟨λ_ h=>h.elim,trivial⟩,?_⟩;rintro a d b rfl;rcases fN c with rfl|⟨o,x,rfl⟩;.simp at d
 simp only[xc,fk,kj,iZ,nR,Bool.not_eq_eq_eq_not,lK,jD,bz]at e;simp only[fk,bJ,bw,bM,mg]at d;rcases d with d|rfl;.rw[fk,gG]at h;exact lj (h.2.2 a d x (by simp)) e
 exact e
def GV:∀(m:List En) (a:gf),KA a->KA (lJ m a).1
 |[],_,h=>h
 |e::r,a,h=>by
  simp only[lJ];split;.simp[KA]
  split;.simp[KA]
  rename_i b;exact GV r _ (agR h (by simpa using b))
def Sz:KA (keysOf P).1:=by
 simp only[keysOf];split;.simp[KA]
 exact GV P [] (by simp[KA])
def GU:∀(m:List En) (a:gf),X (lJ m a).1<=X a+X m/\((lJ m a).2=G->X (lJ m a).1=X a+X m)
 |[],_=>by simp[lJ]
 |e::r,a=>by
  simp only[lJ];split;.simp
  split;.simp
  have:=GU r (a++[dw e]);simp only[ae,ah,aj]at this |-;exact⟨by omega,λh=>by have:=this.2 h;omega⟩
def Sy:X (keysOf P).1<=1024/\((keysOf P).2=G->X (keysOf P).1=X P):=by
 simp only[keysOf];split;.simp
 have:=GU P [];simp only[aj,aP]at this;exact⟨by omega,this.2⟩
def J7:∀(m:List En) (a:gf),(∀e∈m,cY e=0)->KA (a++m.map dw)->lJ m a=(a++m.map dw,G)
 |[],a,_,_=>by simp[lJ]
 |e::r,a,h,ha=>by
  simp only[lJ];rw[ao (by simp[h e (by simp)]),ao ?_,J7 r _ (λx b=>h x (by simp[b])) (by simpa using ha)];.simp
  simp only[xc];rcases fN a with rfl|⟨o,x,rfl⟩;.simp
  simp only[fk,kj,iZ,nR,jD];simp only[KA,az,fk,gG]at ha;have:=ha.2.2 x (by simp) (dw e) (by simp);simp[this]
def lS:Nat:=J.countP λy=>decide (y<k)
def Th{k:aL}{a b:gf}(h:KA (a++k::b)):lS k (a++k::b)=X a:=by
 simp only[KA,gG,cX]at h;obtain⟨_,⟨d,_⟩,e⟩:=h;simp only[lS,List.countP_append,ac6];have f:a.countP (λy=>decide (y<k))=X a:=List.countP_eq_length.2 λx c=>by simp only[bz,tc];exact e x c k (by simp)
 have i:b.countP (λy=>decide (y<k))=0:=yE.2 λx c=>by simp only[bz,tc];have:=d x c;have:=gw.mA k x;omega
 have g:decide (k<k)=Z:=by simp only[gW,tc,gw.self];omega
 rw[f,i,g];simp
def find(k:aL):Int :=if(keysOf P).2=Z\/lS k (keysOf P).1=X (keysOf P).1\/(keysOf P).1.getD (lS k (keysOf P).1) []≠k then -1 else lS k (keysOf P).1
def HG:lS k J<=X J:=List.countP_le_length
structure xP (m:List En):Prop where
 len:m.length<=1024
 ok:∀e∈m,cY e=0
 asc:KA (m.map dw)
def xP.keys(h:xP H):keysOf H=(H.map dw,G):=by have a:=h.len;simp only[keysOf];rw[ao (by omega),J7 H [] h.ok (by simpa using h.asc)];simp
def agn(h:xP H){e:En}(d:e∈H):0<=find H (dw e)/\find H (dw e)<X H/\H[(find H (dw e)).toNat]?=S e:=by
 obtain⟨a,b,rfl⟩:=TE d;have f:lS (dw e) ((a++e::b).map dw)=X a:=by have:=Th (k:=dw e) (a:=a.map dw) (b:=b.map dw) (by have:=h.asc;simpa using this);simpa using this
 have c:find (a++e::b) (dw e)=X a:=by simp only[find,h.keys,f];rw[ao];simp[ax]
 rw[c];refine⟨by omega,by simp;omega,?_⟩;simp
def ab3(h:xP H)(d:∀e∈H,dw e≠C):find H C = -1:=by
 simp only[find,h.keys];rw[aO];by_cases f:lS C (H.map dw)=X (H.map dw);.exact .inr (.inl f)
 refine .inr (.inr λe=>?_);have b:lS C (H.map dw)<X (H.map dw):=by have:=HG C (H.map dw);omega
 rw[ax,aA b,nS]at e;have c:=dQ b;rw[e,cP]at c;obtain⟨x,g,a⟩:=c;exact d x g a
def BB(h:eO T=0)(b:T.axW=1):cY T.axY=0/\cF T=dw T.axY:=by
 have a:=(qE h).ayk;have e:ayk T=T.axY:=by simp[ayk,b]
 rw[e]at a;refine⟨a,?_⟩;simp[cF,h,e,fZ,a]
def aiR(h:eO T=0):cF T≠[]:=by simp[cF,h,fZ,(qE h).ayk,dw]
def pk(d:∀o∈l,eO o=0):xP (dC l):=by
 have b:∀o∈(current l).filter (λo=>o.axW==1),cY o.axY=0/\cF o=dw o.axY:=λo a=>by rw[fv]at a;exact BB (d o (oV a.1)) (by simpa using a.2)
 refine⟨Bc l,λe c=>?_,?_⟩;.simp only[dC,cP]at c;obtain⟨o,a,rfl⟩:=c;exact(b o a).1
 have f:mQ ((current l).filter λo=>o.axW==1):=NU _ (z8 l);have e:(dC l).map dw=((current l).filter λo=>o.axW==1).map cF:=by simp only[dC,kO];exact eH λo a=>((b o a).2).symm
 rw[e];rw[KA,BN];exact f
def keeps(g:∀o∈l,eO o=0/\o.axZ)(C:X l<=1024)(s:T∈l): (current l).countP (λy=>cF T==cF y)=1/\∀y∈current l,cF T=cF y->nz T y=Z /\(y.axW=1->0<=find (dC l) (cF T)/\find (dC l) (cF T)<X (dC l)/\(dC l)[(find (dC l) (cF T)).toNat]?=S y.axY) /\(y.axW≠1->find (dC l) (cF T) = -1):=by
 have J:∀o∈l,o.axZ:=λo q=>(g o q).2;have I:=aiR (g T s).1;have m:=z8 l;have u:=pk λo q=>(g o q).1;obtain⟨w,p⟩:∃w,l7 (cF T) (current l)=S w:=by
  cases x:Ts (vS (cF T) l)with
  |some v=>exact⟨v,by rw[vw,Am _ I l C,x]⟩
  |none =>
  have e:=KO x;have:T∈vS (cF T) l:=by simp[vS,s]
  rw[e]at this;simp at this
 obtain⟨_,F,K,H⟩:=(QC C J).1 p;have r:w∈current l:=(Hn p).1;have only:∀y∈current l,cF T=cF y->y=w:=λy c k=>by have:=XL m c;rw[<- k,p]at this;exact(kW this).symm
 refine⟨?_,λy c k=>?_⟩
 .obtain⟨a,b,j⟩:=TE r;rw[j,mQ,gG,cX]at m;have D:∀y∈current l,y∈a\/y∈b->(cF T==cF y)=Z:=by
   intro y c t;cases n:cF T==cF y with
   |false=>rfl
   |true =>
   have n:=only y c (by simpa using n);subst n;rcases t with h|h;.have:=m.2.2 y h y (by simp);rw[gw.self]at this;omega
   have:=m.2.1.1 y h;rw[gw.self]at this;omega
  rw[j,List.countP_append,ac6];rw[yE.2 λy c=>by rw[D y (by rw[j];simp[c]) (.inl c)];simp,yE.2 λy c=>by rw[D y (by rw[j];simp[c]) (.inr c)];simp];simp[K]
 obtain rfl:=only y c k;refine⟨H T s rfl,λi=>?_,λi=>?_⟩;.have L:=BB (g y F).1 i;rw[k,L.2];exact agn u (by simp only[dC,cP];exact⟨y,by simp[c,i],rfl⟩)
 refine ab3 u λe f E=>i ?_;simp only[dC,cP,fv]at f;obtain⟨z,⟨B,d⟩,rfl⟩:=f;have d:z.axW=1:=by simpa using d
 have:=BB (g z (oV B)).1 d;rw[<- this.2]at E;rw[<- only z B E.symm];exact d
def VW{x y:bf}(h:y.aZ.time<x.aZ.time):nz x y=G:=by
 have e:jU x.aZ y.aZ=1:=by
  have a:gp x.aZ.time y.aZ.time=1:=by simp only[gp];rw[ao (by omega),aO h]
  simp only[jU,sP,a];rfl
 simp[nz,e]
def aif(j:∀o∈l,eO o=0/\o.axZ)(m:X l<=1024){x:bf}(i:x∈l)(k:x.axW=1)(d:∀y∈l,y=x\/nz x y=G): 0<=find (dC l) (fZ x.axY)/\find (dC l) (fZ x.axY)<X (dC l)/\(dC l)[(find (dC l) (fZ x.axY)).toNat]?=S x.axY:=by
 obtain⟨q,n⟩:=keeps j m i;obtain⟨y,c,f⟩:∃y∈current l,cF x=cF y:=by
  have:0<(current l).countP (λy=>cF x==cF y):=by omega
  obtain⟨y,c,h⟩:=List.countP_pos_iff.1 this;exact⟨y,c,by simpa using h⟩
 obtain⟨g,p,-⟩:=n y c f;have e:cF x=fZ x.axY:=by obtain⟨a,b⟩:=BB (j x i).1 k;rw[b,fZ,ao (by simp[a])]
 rcases d y (oV c)with rfl|d;.rw[<- e];exact p k
 rw[d]at g;cases g
def kF:List bf:=U.filter λx=>!Tg v x.aZ
def Rb.cI(r:Rb)(n:Nat):Int×Rb:=if X r.b<n then(0,⟨r.b,G⟩)else(gM (r.b.take n),⟨r.b.drop n,r.bad⟩)
variable{r:Rb}
def Rb.kR(r:Rb):aL×Rb :=
 let p:=r.cI 4
 if p.2.bad=G\/(X p.2.b:Int)<p.1 then([],⟨p.2.b,G⟩)else(p.2.b.take p.1.toNat,⟨p.2.b.drop p.1.toNat,p.2.bad⟩)
def Rb.jg(r:Rb):List It×Rb :=
 let p:=r.kR;let q:=parse p.1
 (q.1,⟨p.2.b,p.2.bad||q.2.2 != 0⟩)
def Rb.iy:Nat->Rb->bH×Rb|0,r=>([],r)|n+1,r=>if r.bad=G then([],r)else let p:=r.cI 2;let q:=Rb.iy n p.2;(p.1::q.1,q.2)
def o8:bf×Rb :=
 let v:=(Rb.mk k Z).cI 1;let a:=(Rb.mk v.2.b (v.1 != 1)).cI 1;let t:=a.2.cI 4;let f:=t.2.cI 1;let m:=f.2.cI 2;let c:=m.2.cI 1;let s:=Rb.iy c.1.toNat c.2;let src:=s.2.jg;let e:=src.2.kR;let d:=e.2.kR
 if a.1=1 then
  let tg:=d.2.jg;let g:=tg.2.kR;let j:=g.2.kR;let i:=j.2.cI 4;let h:=i.2.cI 1
  (⟨⟨t.1,f.1,m.1⟩,a.1,⟨src.1,tg.1,e.1,d.1,g.1,j.1,i.1,h.1⟩,s.1⟩,h.2)
 else(⟨⟨t.1,f.1,m.1⟩,a.1,⟨src.1,[],e.1,d.1,[],[],0,0⟩,s.1⟩,d.2)
def Ln:bf×Int :=
 let p:=o8 k
 if p.2.bad=G\/0<X p.2.b\/eO p.1≠0 then(zQ,12)else(p.1,0)
def gh(h:(r.ax0 L).2.bad=Z):r.bad=Z/\r.cI L=r.ax0 L/\L<=X r.b:=by
 simp only[Rb.ax0,Rb.take]at h |-;by_cases a:X r.b<L;.rw[aO a]at h;simp at h
 rw[ao a]at h |-;exact⟨h,by simp only[Rb.cI,ao a],by omega⟩
def kb(h:(r.cI L).2.bad=Z):r.bad=Z/\r.cI L=r.ax0 L/\L<=X r.b:=by
 simp only[Rb.cI]at h;by_cases a:X r.b<L;.rw[aO a]at h;simp at h
 rw[ao a]at h;exact⟨h,by simp only[Rb.cI,Rb.ax0,Rb.take,ao a],by omega⟩
def kf(h:(r.ax0 L).2.bad=Z):∃w,X w=L/\(r.ax0 L).1=gM w/\r.b=w++(r.ax0 L).2.b:=by have:=(gh h).2.2;simp only[Rb.ax0,Rb.take];rw[ao (by omega)];exact⟨r.b.take L,by simp;omega,rfl,by simp⟩
def Ov(h:r.bad=G):(r.take L).2.bad=G:=by simp only[Rb.take];split<;>simp[h]
def nA(h:r.ax1.2.bad=Z):r.bad=Z/\r.kR=r.ax1:=by
 simp only[Rb.ax1]at h |-;by_cases c:(X (r.ax0 4).2.b:Int)<(r.ax0 4).1;.rw[aO c]at h;simp at h
 rw[ao c]at h |-;have a:(r.ax0 4).2.bad=Z:=by cases a:(r.ax0 4).2.bad with|false=>rfl|true=>rw[Ov a]at h;simp at h
 obtain⟨e,d,f⟩:=gh a;refine⟨e,?_⟩;simp only[Rb.kR,d,a,aI,nQ];rw[ao c];simp only[Rb.take];rw[ao (by omega)];simp[a]
def r7(h:r.kR.2.bad=Z):r.bad=Z/\r.kR=r.ax1:=by
 have e:=h;simp only[Rb.kR]at h;by_cases a:(r.cI 4).2.bad=G\/(X (r.cI 4).2.b:Int)<(r.cI 4).1;.rw[aO a]at h;simp at h
 rw[ao a]at h;obtain⟨d,c,f⟩:=kb h;refine⟨d,?_⟩;simp only[xQ]at a;simp only[Rb.kR];rw[ao (by simp only[xQ];exact a)];simp only[Rb.ax1];rw[c]at a |-;rw[ao a.2];simp only[Rb.take];rw[ao (by omega)]
def rZ(h:r.ax1.2.bad=Z):r.b=eY r.ax1.1++r.ax1.2.b:=by
 simp only[Rb.ax1]at h |-
 by_cases i:(X (r.ax0 4).2.b:Int)<(r.ax0 4).1
 .rw[aO i]at h;simp at h
 .rw[ao i]at h |-
  have g:(r.ax0 4).2.bad=Z:=by
   cases g:(r.ax0 4).2.bad with
   |false=>rfl
   |true=>rw[Ov g]at h;simp at h
  obtain⟨w,j,f,k⟩:=kf g
  match w,j with
  |[a,b,c,d],_ =>
   have m:0<=(r.ax0 4).1:=by
    rw[f];simp only[gM,bT,gZ];have:=a.toNat_lt;omega
   have l:(r.ax0 4).1.toNat<=X (r.ax0 4).2.b:=by omega
   simp only[Rb.take];rw[ao (by omega)];simp only[eY]
   have e:((X ((r.ax0 4).2.b.take (r.ax0 4).1.toNat):Nat):Int)=(r.ax0 4).1:=by
    rw[aX];omega
   rw[e]
   conv=>rhs;rw[f,Tt]
   conv=>lhs;rw[k]
   rw[<- f];simp
def qp(h:r.ayn.2.bad=Z):r.bad=Z/\r.jg=r.ayn:=by simp only[Rb.ayn,km]at h |-;obtain⟨b,a⟩:=nA h.1;exact⟨b,by simp only[Rb.jg,a]⟩
def wE(h:r.jg.2.bad=Z):r.bad=Z/\r.jg=r.ayn:=by simp only[Rb.jg,km]at h;obtain⟨b,a⟩:=r7 h.1;exact⟨b,by simp only[Rb.jg,Rb.ayn,a]⟩
def xx(h:r.ayn.2.bad=Z):r.b=eY (ayj r.ayn.1).1++r.ayn.2.b:=by simp only[Rb.ayn,km,yD]at h |-;rw[(Bu h.2).2.1];exact rZ h.1
def qG:∀(n:Nat) (r:Rb),(Rb.ax9 n r).2.bad=Z->r.bad=Z:=by intro n;induction n with|zero=>intro r h;exact h|succ n ih=>intro r h;exact(gh (ih _ h)).1
def MK:∀(n:Nat) (r:Rb),(Rb.ax9 n r).2.bad=Z->Rb.iy n r=Rb.ax9 n r:=by intro n;induction n with|zero=>intro r h;rfl|succ n ih =>intro r h;have a:=qG _ _ h;simp only[Rb.ax9]at h;have g:=gh (qG _ _ h);simp only[Rb.iy,Rb.ax9,a,aI,bo,g.2.1,ih _ h]
def u9:∀(n:Nat) (r:Rb),(Rb.iy n r).2.bad=Z->r.bad=Z:=by
 intro n;induction n with
 |zero=>intro r h;exact h
 |succ n ih =>intro r h;cases a:r.bad with|false=>rfl|true=>simp only[Rb.iy,a,aR]at h;simp at h
def Is:∀(n:Nat) (r:Rb),(Rb.iy n r).2.bad=Z->Rb.iy n r=Rb.ax9 n r:=by intro n;induction n with|zero=>intro r h;rfl|succ n ih =>intro r h;have a:=u9 _ _ h;simp only[Rb.iy,a,aI,bo]at h;have g:=kb (u9 _ _ h);have e:=ih _ h;simp only[Rb.iy,Rb.ax9,a,aI,bo];rw[e,g.2.1]
def IG:∀(n:Nat) (r:Rb),(Rb.ax9 n r).2.bad=Z->X (Rb.ax9 n r).1=n/\r.b=(Rb.ax9 n r).1.flatMap sN++(Rb.ax9 n r).2.b:=by
 intro n
 induction n with
 |zero=>intro r h;exact⟨rfl,rfl⟩
 |succ n ih =>
  intro r h;simp only[Rb.ax9]at h |-;obtain⟨f,d⟩:=ih _ h;obtain⟨w,c,g,e⟩:=kf (qG _ _ h)
  match w,c with
  |[a,b],_ =>
   refine⟨by simp[f],?_⟩;simp only[fc]
   conv=>rhs;rw[g,acN]
   conv=>lhs;rw[e,d]
   simp
def TY{b:aL}(h:(o8 b).2.bad=Z\/((jm b).2.2.bad=Z/\(jm b).2.1=1)):o8 b=((jm b).1,(jm b).2.2)/\(jm b).2.1=1/\(jm b).2.2.bad=Z:=by
 rcases h with h|⟨h,g⟩
 .simp only[o8]at h;have j:∀(v k t f m c:Int×Rb) (s:bH×Rb) (src:List It×Rb) (i o:aL×Rb),
    v=(Rb.mk b Z).cI 1->k=(Rb.mk v.2.b (v.1 != 1)).cI 1->t=k.2.cI 4->f=t.2.cI 1->m=f.2.cI 2->c=m.2.cI 1->s=Rb.iy c.1.toNat c.2->src=s.2.jg->i=src.2.kR->o=i.2.kR->o.2.bad=Z ->
    v=(Rb.mk b Z).ax0 1/\v.1=1/\k=v.2.ax0 1/\t=k.2.ax0 4/\f=t.2.ax0 1/\m=f.2.ax0 2/\c=m.2.ax0 1/\s=Rb.ax9 c.1.toNat c.2/\src=s.2.ayn/\i=src.2.ax1/\o=i.2.ax1:=by
   intro v k t f m c s src i o ev u y w z x q a d e hb;obtain⟨K,ac⟩:=r7 (e▸hb);obtain⟨b9,g9⟩:=r7 (d▸K);obtain⟨b8,g8⟩:=wE (a▸b9);have b7:=u9 _ _ (q▸b8);have g7:=Is _ _ (q▸b8);obtain⟨b6,g6,_⟩:=kb (x▸b7);obtain⟨b5,g5,_⟩:=kb (z▸b6);obtain⟨b4,g4,_⟩:=kb (w▸b5);obtain⟨b3,g3,_⟩:=kb (y▸b4);obtain⟨C,g2,_⟩:=kb (u▸b3);simp only[yD]at C;have b1:v.2.bad=Z:=by
    rw[ev]at C |-;simp only[Rb.cI]at C |-;split;.rename_i h;rw[aO h]at C;simp at C
    rfl
   have F:(Rb.mk v.2.b (v.1 != 1))=v.2:=by
    have:(v.1 != 1)=Z:=by simpa using C
    rw[this,<- b1]
   have g1:=(kb (ev▸b1)).2.1;rw[F]at u g2;exact⟨ev.trans g1,C,u.trans g2,y.trans g3,w.trans g4,z.trans g5,x.trans g6,q.trans g7,a.trans g8,d.trans g9,e.trans ac⟩
  simp only[o8,jm];generalize ev:(Rb.mk b Z).cI 1=v at h |-;generalize u:(Rb.mk v.2.b (v.1 != 1)).cI 1=k at h |-;generalize y:k.2.cI 4=t at h |-;generalize w:t.2.cI 1=f at h |-;generalize z:f.2.cI 2=m at h |-;generalize x:m.2.cI 1=c at h |-;generalize q:Rb.iy c.1.toNat c.2=s at h |-;generalize a:s.2.jg=src at h |-;generalize d:src.2.kR=i at h |-;generalize e:i.2.kR=o at h |-;by_cases p:k.1=1;.rw[aO p]at h;simp only at h;obtain⟨U,l,_⟩:=kb h;obtain⟨E,r,_⟩:=kb U;obtain⟨L,B⟩:=r7 E;obtain⟨V,D⟩:=r7 L;obtain⟨I,N⟩:=wE V;obtain⟨R,F,P,T,W,H,O,J,Q,M,n⟩:=j v k t f m c s src i o ev.symm u.symm y.symm w.symm z.symm x.symm q.symm a.symm d.symm e.symm I;rw[<- R,<- P,<- T,<- W,<- H,<- O,<- J,<- Q,<- M,<- n,aO p,aO p];rw[N]at h D B r l |-;rw[D]at h B r l |-;rw[B]at h r l |-;rw[r]at h l |-;rw[l]at h |-;exact⟨by dsimp only,F,by dsimp only;exact h⟩
  rw[ao p]at h;simp only at h;obtain⟨R,F,P,T,W,H,O,J,Q,M,n⟩:=j v k t f m c s src i o ev.symm u.symm y.symm w.symm z.symm x.symm q.symm a.symm d.symm e.symm h;rw[<- R,<- P,<- T,<- W,<- H,<- O,<- J,<- Q,<- M,<- n,ao p,ao p];exact⟨by dsimp only,F,by dsimp only;exact h⟩
 simp only[jm]at h g;simp only[o8,jm];have j:∀(v k t f m c:Int×Rb) (s:bH×Rb) (src:List It×Rb) (i o:aL×Rb),
   v=(Rb.mk b Z).ax0 1->k=v.2.ax0 1->t=k.2.ax0 4->f=t.2.ax0 1->m=f.2.ax0 2->c=m.2.ax0 1->s=Rb.ax9 c.1.toNat c.2->src=s.2.ayn->i=src.2.ax1->o=i.2.ax1->o.2.bad=Z->v.1=1 ->
   (Rb.mk b Z).cI 1=v/\(Rb.mk v.2.b (v.1 != 1)).cI 1=k/\k.2.cI 4=t/\t.2.cI 1=f/\f.2.cI 2=m/\m.2.cI 1=c/\Rb.iy c.1.toNat c.2=s/\s.2.jg=src/\src.2.kR=i/\i.2.kR=o:=by
  intro v k t f m c s src i o ev u y w z x q a d e hb g;obtain⟨K,ac⟩:=nA (e▸hb);obtain⟨b9,g9⟩:=nA (d▸K);obtain⟨b8,g8⟩:=qp (a▸b9);have b7:=qG _ _ (q▸b8);have g7:=MK _ _ (q▸b8);obtain⟨b6,g6,_⟩:=gh (x▸b7);obtain⟨b5,g5,_⟩:=gh (z▸b6);obtain⟨b4,g4,_⟩:=gh (w▸b5);obtain⟨b3,g3,_⟩:=gh (y▸b4);obtain⟨C,g2,_⟩:=gh (u▸b3);have g1:=(gh (ev▸C)).2.1;have F:(Rb.mk v.2.b (v.1 != 1))=v.2:=by
   have:(v.1 != 1)=Z:=by rw[g];rfl
   rw[this,<- C]
  rw[F];exact⟨g1.trans ev.symm,g2.trans u.symm,g3.trans y.symm,g4.trans w.symm,g5.trans z.symm,g6.trans x.symm,g7.trans q.symm,g8.trans a.symm,g9.trans d.symm,ac.trans e.symm⟩
 generalize ev:(Rb.mk b Z).ax0 1=v at h g |-;generalize u:v.2.ax0 1=k at h g |-;generalize y:k.2.ax0 4=t at h g |-;generalize w:t.2.ax0 1=f at h g |-;generalize z:f.2.ax0 2=m at h g |-;generalize x:m.2.ax0 1=c at h g |-;generalize q:Rb.ax9 c.1.toNat c.2=s at h g |-;generalize a:s.2.ayn=src at h g |-;generalize d:src.2.ax1=i at h g |-;generalize e:i.2.ax1=o at h g |-;by_cases p:k.1=1;.rw[aO p]at h g;simp only at h g;obtain⟨U,l,_⟩:=gh h;obtain⟨E,r,_⟩:=gh U;obtain⟨L,B⟩:=nA E;obtain⟨V,D⟩:=nA L;obtain⟨I,N⟩:=qp V;obtain⟨R,P,T,W,H,O,J,Q,M,n⟩:=j v k t f m c s src i o ev.symm u.symm y.symm w.symm z.symm x.symm q.symm a.symm d.symm e.symm I g;rw[R,P,T,W,H,O,J,Q,M,n,aO p,aO p];refine⟨?_,by dsimp only;exact g,by dsimp only;exact h⟩;dsimp only;rw[N,D,B,r,l]
 rw[ao p]at h g;simp only at h g;obtain⟨R,P,T,W,H,O,J,Q,M,n⟩:=j v k t f m c s src i o ev.symm u.symm y.symm w.symm z.symm x.symm q.symm a.symm d.symm e.symm h g;rw[R,P,T,W,H,O,J,Q,M,n,ao p,ao p];exact⟨by dsimp only,by dsimp only;exact g,by dsimp only;exact h⟩
def RW(h:(jm C).2.2.bad=Z)(e:(jm C).2.1=1)(j:(jm C).1.axW=1\/(jm C).1.axW=2):C=dx (jm C).1++(jm C).2.2.b:=by
 simp only[jm]at h e j |-
 have o:∀(v k t f m c:Int×Rb) (s:bH×Rb) (src:List It×Rb) (n l:aL×Rb),
   (Rb.mk C Z).ax0 1=v->v.2.ax0 1=k->k.2.ax0 4=t->t.2.ax0 1=f->f.2.ax0 2=m->m.2.ax0 1=c->Rb.ax9 c.1.toNat c.2=s->s.2.ayn=src->src.2.ax1=n->n.2.ax1=l->l.2.bad=Z->v.1=1 ->
   C=[1,jT k.1]++(DS t.1++([jT f.1]++(sN m.1++([jT (X s.1)]++(s.1.flatMap sN++(eY (ayj src.1).1++(eY n.1++(eY l.1++l.2.b)))))))):=by
  intro v k t f m c s src n l ev y z r w x B d g i hb e;have E:=nA (i▸hb);have b9:=nA (g▸E.1);have b8:=qp (d▸b9.1);have b7:=qG _ _ (B▸b8.1);have b6:=gh (x▸b7);have b5:=gh (w▸b6.1);have b4:=gh (r▸b5.1);have b3:=gh (z▸b4.1);have b2:=gh (y▸b3.1);have J:=rZ (i▸hb);have x9:=rZ (g▸E.1);have x8:=xx (d▸b9.1);have x7:=IG _ _ (B▸b8.1);obtain⟨w6,l6,y6,x6⟩:=kf (x▸b7);obtain⟨w5,l5,y5,x5⟩:=kf (w▸b6.1);obtain⟨w4,l4,y4,x4⟩:=kf (r▸b5.1);obtain⟨w3,l3,y3,x3⟩:=kf (z▸b4.1);obtain⟨w2,l2,y2,x2⟩:=kf (y▸b3.1);obtain⟨w1,l1,y1,V⟩:=kf (ev▸b2.1);rw[i]at J;rw[g]at x9;rw[d]at x8;rw[B]at x7;rw[x]at x6 y6;rw[w]at x5 y5;rw[r]at x4 y4;rw[z]at x3 y3;rw[y]at x2 y2;rw[ev]at V y1
  have e1:w1=[1]:=by
   match w1,l1 with
   |[a],_ =>
    rw[e]at y1;have:(a.toNat:Int)=1:=by simpa[gM]using y1.symm
    have:a=1:=oY.1 (by simp;omega);rw[this]
  have e2:w2=[jT k.1]:=by
   match w2,l2 with
   |[a],_=>rw[y2,NP]
  have e3:w3=DS t.1:=by
   match w3,l3 with
   |[p,q,u,v],_=>rw[y3,Tt]
  have e4:w4=[jT f.1]:=by
   match w4,l4 with
   |[a],_=>rw[y4,NP]
  have e5:w5=sN m.1:=by
   match w5,l5 with
   |[p,q],_=>rw[y5,acN]
  have e6:w6=[jT (X s.1)]:=by
   match w6,l6 with
   |[a],_ =>
    have h0:0<=c.1:=by rw[y6];simp[gM]
    have:((X s.1:Nat):Int)=c.1:=by rw[x7.1];omega
    rw[this,y6,NP]
  simp only at V
  conv=>lhs;rw[V,x2,x3,x4,x5,x6,x7.2,x8,x9,J,e1,e2,e3,e4,e5,e6]
  simp
 generalize ev:(Rb.mk C Z).ax0 1=v at h e j |-;generalize y:v.2.ax0 1=k at h e j |-;generalize z:k.2.ax0 4=t at h e j |-;generalize r:t.2.ax0 1=f at h e j |-;generalize w:f.2.ax0 2=m at h e j |-;generalize x:m.2.ax0 1=c at h e j |-;generalize B:Rb.ax9 c.1.toNat c.2=s at h e j |-;generalize d:s.2.ayn=src at h e j |-;generalize g:src.2.ax1=n at h e j |-;generalize i:n.2.ax1=l at h e j |-
 by_cases M:k.1=1
 .rw[aO M]at h e |-;simp only at h e |-;have K:=gh h;have D:=gh K.1;have F:=nA D.1;have L:=nA F.1;have ac:=qp L.1;have hs:=o v k t f m c s src n l ev y z r w x B d g i ac.1 e;have W:=xx L.1;have ad:=rZ F.1;have U:=rZ D.1;obtain⟨H,Q,af,am⟩:=kf K.1;obtain⟨I,N,T,O⟩:=kf h
  have P:H=DS (l.2.ayn.2.ax1.2.ax1.2.ax0 4).1:=by
   match H,Q with
   |[p,q,u,v],_=>rw[af,Tt]
  have R:I=[jT ((l.2.ayn.2.ax1.2.ax1.2.ax0 4).2.ax0 1).1]:=by
   match I,N with
   |[a],_=>rw[T,NP]
  simp only[dx,aO M]
  conv=>lhs;rw[hs,W,ad,U,am,O,P,R]
  simp only[aJ]
 .rw[ao M]at h e j |-;simp only at h e j |-;have hs:=o v k t f m c s src n l ev y z r w x B d g i h e;simp only[dx,ao M]
  conv=>lhs;rw[hs]
  simp only[aJ,aw,bE]
def RX(b:aL):Ln b=decode b:=by
 simp only[Ln,decode];by_cases a:(o8 b).2.bad=G
 .rw[aO (.inl a)];by_cases h:(jm b).2.2.bad=G\/0<X (jm b).2.2.b\/(jm b).2.1≠1;.rw[aO h]
  simp only[xQ]at h;have:=TY (b:=b) (.inr ⟨by simpa using h.1,by simpa using h.2.2⟩);rw[this.1]at a;exact absurd a h.1
 have a:(o8 b).2.bad=Z:=by simpa using a
 obtain⟨e,g,j⟩:=TY (.inl a);rw[e];simp only[j,g,aI,nQ,gj,fU,mg];by_cases d:0<X (jm b).2.2.b;.rw[aO (.inl d),aO d]
 rw[ao d];by_cases c:eO (jm b).1=0
 .have i:=RW j g (qE c).axW;have k:(jm b).2.2.b=[]:=by simpa using d
  rw[k,bE]at i;have f:aya (jm b).1=(b,0):=by simp only[aya,c,gj,fU,bo];rw[<- i]
  rw[f];simp[c,d]
 have f:(aya (jm b).1).2≠0:=by simp only[aya,gj,c,eP,aR]
 rw[aO (.inr c),aO (.inl f)]
def mf{a:Type}(q:a->a->Bool):a->List a->List a|_,[]=>[]|p,y::r=>if q y p then mf q y r else y::mf q y r
def mu{a:Type}(q:a->a->Bool):List a->List a|[]=>[]|x::r=>x::mf q x r
def acg{a:Type}(q:a->a->Bool)(l:List a):∀p,X (mf q p l)<=X l:=by induction l with|nil=>intro p;simp[mf]|cons y r ih=>intro p;have:=ih y;simp only[mf];split<;>simp<;>omega
def aao{a:Type}(q:a->a->Bool){x:a}(l:List a):∀p,x∈mf q p l->x∈l:=by
 induction l with
 |nil=>intro p h;simp[mf]at h
 |cons y r ih =>
 intro p h;simp only[mf]at h;split at h;.exact cd _ (ih y h)
 rcases bw.1 h with rfl|h;.exact dN ..
 exact cd _ (ih y h)
def MU{a:Type}{q:a->a->Bool}{x:a}{l:List a}(h:x∈mu q l):x∈l:=by
 cases l with
 |nil=>simp[mu]at h
 |cons y r =>
 rcases bw.1 h with rfl|h;.exact dN ..
 exact cd _ (aao q r y h)
def NH{a:Type}(q:a->a->Bool)(l:List a):X (mu q l)<=X l:=by cases l with|nil=>simp[mu]|cons y r=>have:=acg q r y;simp[mu];omega
def We{d:Type}(c a b:List d)(p y:d):(c++(a++p::y::b)).set (X c) y=(c++[y])++((a++[p]).tail++y::b):=by rw[ej _ _ (aB _),gO];cases a<;>simp
def agJ{d:Type}(b a c:List d)(p:d):(b++(a++p::c))[X b+X a]?=S p:=by rw[<- List.append_assoc,bB (by simp)];simp
def agK{d:Type}(b a c:List d)(p y:d):(b++(a++p::y::c))[X b+X a+1]?=S y:=by rw[<- List.append_assoc,bB (by simp)];simp
def Pz{x y:bf}(e:eO x=0)(d:eO y=0)(g:x.axZ)(i:y.axZ)(h:kr x y=0):x=y:=by
 have b:=congrFun (congrFun B7 x) y;rw[h]at b;have f:iR (aya x).1 (aya y).1=0:=by simp only[yH]at b;(repeat' split at b)<;>omega
 have a:=nK.1 f;rw[HC e,HC d]at a;have c:=vC g e;have a:dx x=dx y:=a;rw[a,vC i d]at c;exact(congrArg Prod.fst c).symm
def r5:List bf:=U.mergeSort λa b=>decide (kr a b<=0)
def fE:List bf:=K.flatMap bX.axX
def jJ:List bf:=mu (λa b=>kr a b==0) (r5 (fE K))
def OB:(r5 U).Pairwise λx y=>¬kr y x<0:=by have:=aqD (le:=λa b=>decide (kr a b<=0)) (λa b c i g=>by simp only[bz]at *;have d:=kD.mA a b;have e:=kD.mA b c;have f:=kD.mA a c;have j:=kD.trans c b a (by omega) (by omega);omega) (λa b=>by have d:=kD.mA a b;simp only[iG,bz];omega) U;refine this.imp λ{a b} h=>?_;have d:=kD.mA a b;simp only[bz]at h;omega
def u6{c:List bf}(e:∀x∈l,eO x=0/\x.axZ)(hp:c.Perm l)(j:c.Pairwise λx y=>¬kr y x<0):c=r5 l:=by have i:=OB l;have g:(r5 l).Perm l:=q7 ..;refine List.Perm.eq_of_pairwise (λa b h k x y=>?_) j i (hp.trans g.symm);have f:=e a (hp.mem_iff.1 h);have d:=e b (g.mem_iff.1 k);have m:=kD.mA a b;exact Pz f.1 d.1 f.2 d.2 (by omega)
def Ce:T∈r5 l<->T∈l:=(q7 ..).mem_iff
def Jp:X (r5 U)=X U:=(q7 ..).length_eq
def Sn(h:T∈jJ E):∃o∈E,T∈o.axX:=by have:=Ce.1 (MU h);simpa[fE]using this
def Sw:X (jJ K)<=X (fE K):=by have:=NH (λa b=>kr a b==0) (r5 (fE K));rw[Jp]at this;exact this
def HZ{m:Nat}(h:∀o∈E,X o.axX<=m):X (fE E)<=X E*m:=by induction E with|nil=>simp[fE]|cons o r ih =>have c:=ih λo a=>h o (cd _ a);have b:=h o (dN ..);simp only[fE,fc,ae,ah,du,iQ]at *;omega
structure il where
 rF:bX->Prop
 ok:bf->Prop
 fR:bX->bX×Int
 fV:bX->bf->bX×Int
 fS:bX->bX×Int
 axX:∀o,rF o->∀x∈o.axX,ok x
 val:∀x,ok x->eO x=0/\x.axZ
 sml:∀o,rF o->o.axZ
 len:∀o,rF o->o.axX.length<=2^16
 gR:∀o,rF o->(fR o).2=0->rF (fR o).1
 gV:∀o x,rF o->ok x->(fV o x).2=0->rF (fV o x).1
 gS:∀o,rF o->(fS o).2=0->rF (fS o).1
def gH(p:bX×Int)(o:bX):bX:=if p.2=0 then p.1 else o
namespace il
variable(R:il)(Q:List Let)(L:ed)(J:Nat)(P:List bf)(U:List bX){T:List bX}{i:Nat}{K:bf}{E:il}
def up:List bX:=U.map λo=>gH (R.fR o) o
def sync:List bX:=U.map λo=>gH (R.fS o) o
def sR(i:Nat)(x:bf):List bX :=
 match U[i]? with|some o=>if(R.fV o x).2=0 then U.set i (R.fV o x).1 else U|none=>U
def sv:List bX:=P.foldl (λo x=>R.sR o J x) U
def aW:List bX:=Q.foldl (λo x=>R.sR o x.dst.toNat x.op) U
def all:List bX:=L.foldl (λo i=>R.sv i (jJ o) o) U
def settle(n:Net):List bX:=R.sync (R.all (List.range (X n.aM)) (R.aW n.aW (R.up n.aM)))
def my:Prop:=∀o∈U,R.rF o
def Ch{o:bX}{p:bX×Int}(h:E.rF o)(hp:p.2=0->E.rF p.1):E.rF (gH p o):=by
 unfold gH;split;.exact hp ‹_›
 exact h
def TK(h:E.my T):E.my (E.up T):=by intro o c;obtain⟨a,b,rfl⟩:=cP.1 c;exact Ch (h a b) (E.gR a (h a b))
def uM{i:Nat}(h:E.my T)(d:E.ok K):E.my (E.sR T i K):=by
 unfold sR;split
 .rename_i o b;have c:=h o (bn b);split
  .rename_i e;intro y a;rcases BI a with a|rfl;.exact h y a
   exact E.gV o K c d e
  exact h
 exact h
def Bn:X (E.sR T i K)=X T:=by
 unfold sR;split;.split<;>simp
 rfl
def Hm:∀{a:List bX},E.my a->(∀x∈P,E.ok x)->E.my (E.sv i P a):=by induction P with|nil=>intro a h _;exact h|cons x r ih=>intro a h b;exact ih (uM h (b x (dN ..))) λy c=>b y (cd _ c)
def Ki:∀{a:List bX},X (E.sv i P a)=X a:=by induction P with|nil=>intro a;rfl|cons x r ih=>intro a;exact ih.trans Bn
def GR(h:E.my T)(a:K∈jJ T):E.ok K:=by obtain⟨o,b,a⟩:=Sn a;exact E.axX o (h o b) K a
def Be:∀{a:List bX},E.my a->(∀x∈Q,E.ok x.op)->E.my (E.aW Q a):=by induction Q with|nil=>intro a h _;exact h|cons x r ih=>intro a h b;exact ih (uM h (b x (dN ..))) λy c=>b y (cd _ c)
def xb:∀{a:List bX},X (E.aW Q a)=X a:=by induction Q with|nil=>intro a;rfl|cons x r ih=>intro a;exact ih.trans Bn
def acS:∀{a:List bX},E.my a->E.my (E.all L a):=by induction L with|nil=>intro a h;exact h|cons i r ih=>intro a h;exact ih (Hm _ h λx b=>GR h b)
def agO:∀{a:List bX},X (E.all L a)=X a:=by induction L with|nil=>intro a;rfl|cons i r ih=>intro a;exact ih.trans (Ki _)
end il
variable(i:Int)(P:Net)(K:fF)(U:Int×Int)(l:List bf)(L:bX)(J:Int×Int){c:Int}{p Q:Int×Int}{R:List bf}{T:fF}
def rh:Bool:=decide (U.1<J.1)||(decide (U.1=J.1)&&decide (U.2<J.2))
def Yb:Int:=sP [gp U.1 J.1,gp U.2 J.2]
abbrev sI:Prop:=K.Pairwise λa b=>rh a b=G
def yy:rh p Q=G<->p.1<Q.1\/(p.1=Q.1/\p.2<Q.2):=by simp[rh]
def QF:Yb p Q<0<->rh p Q=G:=by rw[yy];simp only[Yb,sP,gp];(repeat' split)<;>omega
def Ya:Yb p Q=0<->p=Q:=by obtain⟨a,d⟩:=p;obtain⟨b,c⟩:=Q;rw[aY];simp only[Yb,sP,gp];(repeat' split)<;>omega
def Cw:rh U U=Z:=by simp[rh]
def fe:Nat:=X (K.takeWhile λc=>rh c U)
def Ct:fe K U<=X K:=H6 (H4 _)
def tx(h:sI T)(p:Int×Int):∀(k:Nat) (y:Int×Int),T[k]?=S y->(rh y p=G<->k<fe T p):=by
 induction T with
 |nil=>intro k y h;simp at h
 |cons a T ih =>
 replace h:=cX.1 h;intro k y b;by_cases c:rh a p=G
 .have e:fe (a::T) p=fe T p+1:=by simp[fe,eG,c]
  cases k with|zero=>simp only[aG,aa]at b;subst b;rw[e];simp[c]|succ k =>have:=ih h.2 k y (by simpa using b);rw[this,e];omega
 have e:fe (a::T) p=0:=by simp[fe,eG,c]
 rw[e];refine⟨λd=>?_,λh=>by omega⟩;cases k with|zero=>simp only[aG,aa]at b;subst b;exact absurd d c|succ k =>have f:=h.1 y (bn (by simpa using b));rw[yy]at c d f;omega
def Cu(h:sI T){p:Int×Int}:p∈T<->T[fe T p]?=S p:=by
 refine⟨λhp=>?_,bn⟩;obtain⟨k,a⟩:=df.1 hp;have b:=tx h p k p a;rw[Cw]at b;have b:¬k<fe T p:=λh=>by have:=b.2 h;cases this
 have d:=(ag.1 a).1;have e:fe T p=k:=by
  refine bY λj=>?_;have f:T[fe T p]?=S T[fe T p]:=aA (by omega);have i:=tx h p _ _ f;have c:=gD.1 h (fe T p) k (by omega) d (by omega);have g:T[k]=p:=by rw[aA d]at a;simpa using a
  rw[g]at c;have:=i.1 c;omega
 rw[e];exact a
def X2(h:sI T)(hp:p∈T):T=T.take (fe T p)++p::T.drop (fe T p+1):=by
 obtain⟨a,e⟩:=ag.1 ((Cu h).1 hp)
 conv=>lhs;rw[<- List.take_append_drop (fe T p) T,fO a,e]
def agD(h:sI T)(hp:p∈T):T.filter (λc=>!(c==p))=T.take (fe T p)++T.drop (fe T p+1):=by
 have e:=X2 h hp
 have i:∀c∈T.take (fe T p)++T.drop (fe T p+1),(!(c==p))=G:=by
  rw[e]at h;have d:=gG.1 h;have g:=cX.1 d.2.1;intro c a
  have j:c≠p:=by
   rcases bJ.1 a with a|a
   .intro b;have:=d.2.2 c a p (dN ..);rw[b,Cw]at this;cases this
   .intro b;have:=g.1 c a;rw[b,Cw]at this;cases this
  simpa using j
 have f:T.filter (λc=>!(c==p))=(T.take (fe T p)++T.drop (fe T p+1)).filter (λc=>!(c==p)):=by
  conv=>lhs;rw[e]
  rw[je,je,sO (by simp)]
 rw[f,List.filter_eq_self.2 i]
def Nz(h:sI T)(k:Nat):sI (T.take k++T.drop (k+1)):=by
 refine h.sublist ?_
 conv=>rhs;rw[<- List.take_append_drop k T]
 refine List.Sublist.append (List.Sublist.refl _) ?_;rw[<- List.drop_drop];exact Yu _ _
def Ny(h:sI T)(hp:p ∉ T):sI (T.take (fe T p)++p::T.drop (fe T p)):=by
 have i:=tx h p;refine gG.2 ?_;rw[cX];refine⟨h.sublist (Ys _ _),⟨λy j=>?_,h.sublist (Yu _ _)⟩,λa l b g=>?_⟩
 .obtain⟨k,c⟩:=df.1 j;rw[dE]at c;have d:¬rh y p=G:=λd=>by have:=(i _ y c).1 d;omega
  have f:y≠p:=λe=>hp (e▸dR j);rw[yy]at d |-;obtain⟨y1,o⟩:=y;obtain⟨m,n⟩:=p;simp only[gj,aY]at d f |-;omega
 have d:rh a p=G:=by
  obtain⟨k,c⟩:=df.1 l;rw[ft]at c;split at c;.exact(i k a c).2 (by assumption)
  cases c
 rcases bw.1 g with rfl|g;.exact d
 obtain⟨k,c⟩:=df.1 g;rw[dE]at c;have f:¬rh b p=G:=λd=>by have:=(i _ b c).1 d;omega
 rw[yy]at d f |-;omega
def sS(e:Ev):Net×Int :=if e.axW=8 then(if fx e.a e.b∈P.cy then(⟨P.aM,P.aW,P.cy.take (fe P.cy (fx e.a e.b))++P.cy.drop (fe P.cy (fx e.a e.b)+1)⟩,0)else(Net.zero,6))
 else if e.a=e.b then(Net.zero,1)else if fx e.a e.b∈P.cy then(Net.zero,5)
 else(⟨P.aM,P.aW,P.cy.take (fe P.cy (fx e.a e.b))++fx e.a e.b::P.cy.drop (fe P.cy (fx e.a e.b))⟩,0)
def ka(i j:Int)(a b:Bool)(l:List bf):Net×Int :=if i=j then(Net.zero,1)else if(a||b)=G then(Net.zero,15)else if mT P i j=G then(Net.zero,8)
 else if P.aW.length+X l<=256 then(⟨P.aM,P.aW++l.map (λx=>⟨i,j,x⟩),P.cy⟩,0)else(Net.zero,3)
def jS(a:Int)(k:Nat)(x:Let)(c:bX)(b:Int):Net×Int :=if a=6 then(if P.aW.length=256 then(Net.zero,3)else(⟨P.aM,P.aW++[x],P.cy⟩,0))
 else if a=5 then(⟨P.aM,P.aW.take k++P.aW.drop (k+1),P.cy⟩,0)
 else if mT P x.src x.dst=G then(Net.zero,8)else if b=0 then(⟨P.aM.set x.dst.toNat c,P.aW.take k++P.aW.drop (k+1),P.cy⟩,0)else(Net.zero,b)
structure Pl (m:Int) (W:List bf):Prop where
 op:∀x∈W,Tz x
 off:∀x∈W,x.aZ.bR<m
 one:W.Pairwise λa b=>dS a b≠0
 time:∀x∈W,x.aZ.time<=W.length
 len:W.length<=100
structure Kn (W:List bf) (n:Int) (arr:List bf):Prop where
 base:H2 n arr
 sub:∀x∈arr,x∈W
 own:∀x∈W,x.aZ.bR=n->x∈arr
def UpO:Prop:=∃k,k<=X l/\(∀x∈l.drop k,x.aZ.bR≠i)/\L=fQ i l k
def DnO:Prop:=∃a,jq a=0/\X (gC l++a)<=2000800/\L=pR i l a
def GO(W:List bf)(n:Int)(o:bX):Prop:=∃arr,Kn W n arr/\(UpO n arr o\/DnO n arr o)
def adY{W:List bf}(h:W.Pairwise λa b=>dS a b≠0):∀x∈W,∀y∈W,dS x y=0->x=y:=by
 induction W with
 |nil=>intro x d;cases d
 |cons a r ih =>
 replace h:=cX.1 h;intro x d y c e;rcases bw.1 d with rfl|d
 .rcases bw.1 c with rfl|c;.rfl
  exact absurd e (h.1 y c)
 rcases bw.1 c with rfl|c;.exact absurd (Gn e) (h.1 _ ‹_›)
 exact ih h.2 x d y c e
def F0(h:R.Pairwise λa b=>dS a b≠0):R.Nodup:=h.imp λ{a b} rf e=>rf (by subst e;exact ow _)
def Pl.uniq{W:List bf}(h:Pl c W){x y:bf}(d:x∈W)(b:y∈W)(a:dS x y=0):x=y:=adY h.one x d y b a
def Ye(h0:0<=c)(h:∀x∈R,x.aZ.time<=c):jc R<=c:=by
 have b:∀(R:List bf) (d:Int),d<=c->(∀x∈R,x.aZ.time<=c)->R.foldl zS d<=c:=by intro R;induction R with|nil=>intro d e _;exact e|cons a r ih =>intro d e h;have i:=h a (dN ..);have g:=MV d a;exact ih _ (by omega) λx f=>h x (cd _ f)
 exact b R 0 h0 h
namespace Kn
variable {W arr:List bf} {n m:Int} {x:bf}
def len(h:Kn W n arr):X arr<=X W:=uC (F0 h.base.one) h.sub
def clk(h:Kn W n arr)(hp:Pl m W):jc arr<=X W:=Ye (by omega) λx a=>hp.time x (h.sub x a)
def fresh(h:Kn W n arr)(d:x.aZ.bR=n)(e:x.aZ.ax0=qU n arr+1):∀y∈W,dS y x≠0:=λy c a=>by have a:=lq.1 a;have b:=h.own y c (by omega);have:=(h.base.Z0 (qU n arr)).1 ⟨y,b,by omega,by omega⟩;omega
def make(h:Kn W n arr)(c:Tz x)(b:x.aZ.bR=n)(d:x.aZ.ax0=qU n arr+1):Kn (W++[x]) n (arr++[x]):=by
 refine⟨h.base.Fc c b d,λy a=>?_,λy a e=>?_⟩
 .rcases bJ.1 a with a|a;.exact iv _ (h.sub y a)
  exact uY _ a
 rcases bJ.1 a with a|a;.exact iv _ (h.own y a e)
 exact uY _ a
def other(h:Kn W n arr)(b:x.aZ.bR≠n):Kn (W++[x]) n arr:=by
 refine⟨h.base,λy a=>iv _ (h.sub y a),λy a e=>?_⟩;rcases bJ.1 a with a|a;.exact h.own y a e
 rw[cQ.1 a]at e;exact absurd e b
def apJ(h:Kn W n arr)(hp:Pl m W)(b:x∈W)(f:x ∉ arr):x.aZ.bR≠n/\(∀y∈arr,dS y x≠0)/\Kn W n (arr++[x]):=by
 have d:x.aZ.bR≠n:=λe=>f (h.own x b e);have c:∀y∈arr,dS y x≠0:=λy a g=>f (hp.uniq (h.sub y a) b g▸a);refine⟨d,c,h.base.Fe (hp.op x b) d c,λy a=>?_,λy a e=>iv _ (h.own y a e)⟩;rcases bJ.1 a with a|a;.exact h.sub y a
 rw[cQ.1 a];exact b
def take(h:Kn W n arr)(j:Nat)(c:∀x∈arr.drop j,x.aZ.bR≠n):Kn W n (arr.take j):=by
 refine⟨h.base.take j,λy b=>h.sub y (dB b),λy b e=>?_⟩;have a:=h.own y b e;rw[<- List.take_append_drop j arr]at a;rcases bJ.1 a with a|a;.exact a
 exact absurd e (c y a)
end Kn
variable(Q:List bf){T P:Int}{U:bX}{R:bf}
def Pl.snoc{W:List bf}(h:Pl T W)(d:Tz R)(b:R.aZ.bR<T)(e:∀y∈W,dS y R≠0)(c:R.aZ.time<=X W+1)(f:X W<100):Pl T (W++[R]):=by
 refine⟨λy a=>?_,λy a=>?_,A2.2 ⟨h.one,e⟩,λy a=>?_,by simp;omega⟩;all_goals rcases bJ.1 a with a|a
 .exact h.op y a
 .rw[cQ.1 a];exact d
 .exact h.off y a
 .rw[cQ.1 a];exact b
 .have:=h.time y a;simp;omega
 rw[cQ.1 a];simpa using c
def tP(k:Nat):X (gC (Q.take k))<=X (gC Q):=by
 have:gC Q=gC (Q.take k)++gC (Q.drop k):=by rw[<- uQ,eU]
 rw[this,ae];omega
def GO.num{W:List bf}(h:GO W T U):U.ax0=T:=by obtain⟨arr,_,⟨k,_,_,rfl⟩|⟨a,_,_,rfl⟩⟩:=h<;>rfl
def GO.log{W:List bf}(hp:Pl T W)(h:GO W P U):U.log.length<=2000800/\0<=U.ayi/\U.ayi<=U.log.length:=by
 have e:=hp.len;obtain⟨arr,a,⟨k,b,c,rfl⟩|⟨d,b,c,rfl⟩⟩:=h;.have:=uP a.base.op;have:=a.len;have:=tP arr k;simp only[fQ];omega
 simp only[pR];omega
def GO.axZ{W:List bf}(hp:Pl T W)(h:GO W P U):U.axZ:=by
 have e:=hp.len;have f:=h.log hp;obtain⟨arr,a,⟨k,b,c,rfl⟩|⟨d,b,c,rfl⟩⟩:=h;.exact ta a.base (by have:=a.len;omega)
 exact⟨by simp[pR],by simp[pR],by omega⟩
def GO.axX{W:List bf}{n:Int}(h:GO W n U):(∀x∈U.axX,x∈W)/\ri U.axX:=by
 obtain⟨arr,a,⟨k,b,c,rfl⟩|⟨e,b,c,rfl⟩⟩:=h;.exact⟨λx d=>a.sub x (fq.1 d),pY a.base.one⟩
 exact⟨by simp[pR],by simp[pR]⟩
def GO.other{W:List bf}(h:GO W T U)(c:R.aZ.bR≠T):GO (W++[R]) T U:=by obtain⟨arr,a,b⟩:=h;exact⟨arr,a.other c,b⟩
def GO.recv{W:List bf}{m n:Int}(hp:Pl m W)(h:GO W n U)(p:U.down=Z)(g:R∈W): GO W n (fH U R)/\(fH U R).down=Z/\∀y,y∈(fH U R).axX<->y=R\/y∈U.axX:=by
 obtain⟨arr,l,⟨k,f,j,rfl⟩|⟨r,f,j,rfl⟩⟩:=h
 .have o:(fQ n arr k).axX.any (λy=>dS y R==0)=G<->R∈arr:=by
   rw[hZ];constructor;.rintro⟨y,d,q⟩;have d:=fq.1 d;exact hp.uniq (l.sub y d) g (by simpa using q)▸d
   exact λg=>⟨R,fq.2 g,by simp[ow]⟩
  by_cases i:R∈arr;.rw[fH,aO (o.2 i)];exact⟨⟨arr,l,.inl ⟨k,f,j,rfl⟩⟩,rfl,λy=>⟨.inr,λh=>h.elim (λe=>e▸fq.2 i) id⟩⟩
  rw[fH,ao λh=>i (o.1 h)];obtain⟨a,b,c⟩:=l.apJ hp g i;have e:=W1 (n:=n) f R;rw[show(fQ n arr k).axX=fJ arr from rfl,e];refine⟨⟨_,c,.inl ⟨k,by simp;omega,λy d=>?_,rfl⟩⟩,rfl,λy=>?_⟩
  .rw[ot f]at d;rcases bJ.1 d with d|d;.exact j y d
   rw[cQ.1 d];exact a
  show y∈fJ (arr++[R])<->_\/y∈fJ arr;rw[fq,fq,bJ,cQ,or_comm]
 cases p
def GO.sync{W:List bf}(h:GO W T U)(a:U.down=Z):GO W T { U with ayi:=U.log.length }:=by
 obtain⟨arr,c,⟨k,b,d,rfl⟩|⟨e,b,d,rfl⟩⟩:=h;.exact⟨arr,c,.inl ⟨X arr,aB _,by simp,by simp[fQ]⟩⟩
 cases a
end Go.Bt
namespace Go.Bt
open Go Go.Pm
variable(Q:bX){T:Int}{U:List bX}{R:bX}
def acf{W:List bf}(hp:Pl T W):∀(l:List bf) (p:bf),(∀z∈p::l,z∈W)->(p::l).Pairwise (λx y=>¬kr y x<0) ->ri (p::mf (λa b=>kr a b==0) p l)/\∀z,z∈p::mf (λa b=>kr a b==0) p l<->z∈p::l:=by
 intro l;induction l with
 |nil=>intro p _ _;simp[mf]
 |cons y r ih =>
 intro p g f;have h:=g p (by simp);have c:=g y (by simp);replace f:=cX.1 f;obtain⟨i,k⟩:=ih y (λz d=>g z (cd _ d)) f.2;have m:=f.1 y (by simp);by_cases j:y=p
 .subst j;have e:mf (λa b=>kr a b==0) y (y::r)=mf (λa b=>kr a b==0) y r:=by rw[mf,aO (by simp[Gr])]
  rw[e];exact⟨i,λz=>by rw[k];simp⟩
 have n:dS y p≠0:=λe=>j (hp.uniq c h e);have e:mf (λa b=>kr a b==0) p (y::r)=y::mf (λa b=>kr a b==0) y r:=by rw[mf,ao λe=>j (Pz (hp.op y c).ok (hp.op p h).ok (hp.op y c).axZ (hp.op p h).axZ (by simpa using e))]
 rw[e];have o:dS p y<0:=by rw[Py n]at m;rw[lL]at m |-;rw[gj,lq]at n;omega
 refine⟨cX.2 ⟨λz d=>?_,i⟩,λz=>by rw[bw,k,<- List.mem_cons]⟩;rcases bw.1 d with rfl|d;.exact o
 have:=(cX.1 i).1 z d;rw[lL]at this o |-;omega
def oy{W:List bf}(hp:Pl T W)(h:∀o∈U,∀x∈o.axX,x∈W):ri (jJ U)/\∀x,x∈jJ U<->∃o∈U,x∈o.axX:=by
 have a:∀x,x∈r5 (fE U)<->∃o∈U,x∈o.axX:=λx=>by rw[Ce];simp[fE]
 have c:=OB (fE U);unfold jJ;cases b:r5 (fE U)with|nil=>rw[b]at a;exact⟨List.Pairwise.nil,a⟩|cons p r =>rw[b]at c a;obtain⟨f,e⟩:=acf hp r p (λz i=>by obtain⟨o,d,g⟩:=(a z).1 i;exact h o d z g) c;exact⟨f,λx=>(e x).trans (a x)⟩
def Gs(W:List bf)(a:List bX):Prop:=∀(i:Nat) o,a[i]?=S o->GO W i o
def Yo(a:List bX):Prop:=∀o∈a,o.down=Z
def Gs.mem{W:List bf}(h:Gs W U)(a:R∈U):∃n:Int,GO W n R:=by obtain⟨i,b⟩:=df.1 a;exact⟨i,h i R b⟩
def Gs.sub{W:List bf}(h:Gs W U):∀o∈U,∀x∈o.axX,x∈W:=λo a=>by obtain⟨n,b⟩:=h.mem a;exact b.axX.1
def Gs.set{W:List bf}(h:Gs W U){i:Nat}(b:GO W i R):Gs W (U.set i R):=by
 intro j o a;rw[iT]at a;split at a
 .rename_i e;split at a;.simp only[aa]at a;subst a e;exact b
  cases a
 exact h j o a
def Yo.set(h:Yo U){i:Nat}(b:R.down=Z):Yo (U.set i R):=by
 intro o a;rcases BI a with a|rfl;.exact h o a
 exact b
open Classical in
noncomputable def TW (W:List bf) (o:bX):bX×Int:=if h:∃arr,Kn W o.ax0 arr/\DnO o.ax0 arr o then(fQ o.ax0 h.choose (X h.choose),0)else(bX.zero,8)
def Q6(x:bf):bX×Int:=if Q.down then(bX.zero,15)else(fH Q x,0)
def Rv:bX:={ Q with ayi:=Q.log.length }
def NV:bX×Int:=if Q.down then(bX.zero,15)else(Rv Q,0)
def Fl{W:List bf}(h:GO W T R):(R.down=Z/\TW W R=(bX.zero,8))\/(R.down=G/\∃arr,Kn W T arr/\DnO T arr R/\TW W R=(fQ T arr (X arr),0)):=by
 have f:=h.num;obtain⟨arr,e,⟨k,g,i,rfl⟩|c⟩:=h;.refine .inl ⟨rfl,?_⟩;rw[TW,dif_neg];rintro⟨a,_,d,_,_,h⟩;have:=congrArg bX.down h;cases this
 refine .inr ⟨by obtain⟨d,_,_,rfl⟩:=c;rfl,?_⟩;subst f;have b:∃arr,Kn W R.ax0 arr/\DnO R.ax0 arr R:=⟨arr,e,c⟩;exact⟨b.choose,b.choose_spec.1,b.choose_spec.2,by rw[TW,dif_pos b]⟩
def YU(n:Int)(arr:List bf):UpO n arr (fQ n arr (X arr)):=⟨X arr,aB _,by simp,rfl⟩
noncomputable def mS  {W:List bf} (hp:Pl T W):il where
 rF o:=∃n:Int,GO W n o
 ok x:=x∈W
 fR:=TW W
 fV:=Q6
 fS:=NV
 axX:=λo ⟨_,h⟩=>h.axX.1
 val:=λx f=>⟨(hp.op x f).ok,(hp.op x f).axZ⟩
 sml:=λo ⟨_,h⟩=>h.axZ hp
 len:=λo ⟨_,h⟩=>by
  have:=uC (F0 (h.axX.2.imp λ{a b} rf e=>by omega)) h.axX.1;have:=hp.len;omega
 gR:=λo ⟨n,h⟩ c=>by
  rcases Fl h with⟨_,e⟩|⟨_,arr,g,_,e⟩
  .rw[e]at c;cases c
  .rw[e];exact⟨n,arr,g,.inl (YU n arr)⟩
 gV:=λo x ⟨n,h⟩ f c=>by
  cases d:o.down with
  |true=>rw[Q6,d]at c;cases c
  |false=>rw[Q6,d];exact⟨n,(h.recv hp d f).1⟩
 gS:=λo ⟨n,h⟩ c=>by
  cases d:o.down with
  |true=>rw[NV,d]at c;cases c
  |false=>rw[NV,d];exact⟨n,h.sync d⟩
section
variable {m:Int} {W:List bf} (hp:Pl m W)
def M1{n:Int}{o:bX}(h:GO W n o):GO W n (gH (TW W o) o)/\(gH (TW W o) o).down=Z:=by
 rcases Fl h with⟨a,e⟩|⟨_,arr,b,_,e⟩;.rw[e,gH,ao (by decide)];exact⟨h,a⟩
 rw[e,gH,aO rfl];exact⟨⟨arr,b,.inl (YU n arr)⟩,rfl⟩
def ak0{a:List bX}(h:Gs W a):Gs W ((mS hp).up a)/\Yo ((mS hp).up a):=by
 refine⟨λi o b=>?_,λo b=>?_⟩;.obtain⟨d,c,rfl⟩:=bP ..▸b |> aH.1;exact(M1 (h i d c)).1
 obtain⟨d,c,rfl⟩:=cP.1 b;obtain⟨n,e⟩:=h.mem c;exact(M1 e).2
def VH{a:List bX}(d:Yo a)(i:Nat)(x:bf):(mS hp).sR a i x=match a[i]? with|some o=>a.set i (fH o x)|none=>a:=by
 unfold il.sR;split
 .rename_i o b;have c:=d o (bn b);have e:(mS hp).fV o x=(fH o x,0):=by show Q6 o x=_;rw[Q6,c];rfl
  simp only[b,e,aR]
 rename_i b;simp only[b]
def VG{a:List bX}(c:Gs W a)(b:Yo a){i:Nat}{x:bf}(g:x∈W):Gs W ((mS hp).sR a i x)/\Yo ((mS hp).sR a i x):=by
 rw[VH hp b];split;.rename_i o d;obtain⟨f,e,_⟩:=(c i o d).recv hp (b o (bn d)) g;exact⟨c.set f,b.set e⟩
 exact⟨c,b⟩
def Sv(d:List Let):∀{c:List bX},Gs W c->Yo c->(∀x∈d,x.op∈W)->Gs W ((mS hp).aW d c)/\Yo ((mS hp).aW d c):=by induction d with|nil=>intro c f e _;exact⟨f,e⟩|cons x r ih =>intro c f e g;obtain⟨a,b⟩:=VG hp f e (i:=x.dst.toNat) (g x (by simp));exact ih a b λy h=>g y (by simp[h])
include hp in
theorem AF{n:Int}(g:List bf):∀{o:bX},GO W n o->o.down=Z->(∀x∈g,x∈W)->GO W n (g.foldl fH o)/\(g.foldl fH o).down=Z/\∀y,y∈(g.foldl fH o).axX<->y∈g\/y∈o.axX:=by
 induction g with
 |nil=>intro o j i _;exact⟨j,i,by simp⟩
 |cons x r ih =>
 intro o j i k;obtain⟨a,b,c⟩:=j.recv hp i (k x (by simp));obtain⟨d,e,f⟩:=ih a b λy l=>k y (by simp[l]);refine⟨d,e,λy=>?_⟩;rw[bT,f,c,bw];constructor
 .rintro(h|h|h);.exact .inl (.inr h)
  .exact .inl (.inl h)
  exact .inr h
 rintro((h|h)|h);.exact .inr (.inl h)
 .exact .inl h
 exact .inr (.inr h)
theorem abN(i:Nat)(f:List bf):∀{c:List bX},Gs W c->Yo c->(∀x∈f,x∈W)->∀{o:bX},c[i]?=S o->(mS hp).sv i f c=c.set i (f.foldl fH o):=by
 induction f with
 |nil =>intro c _ _ _ o d;obtain⟨j,rfl⟩:=ag.1 d;simp[il.sv]
 |cons x r ih =>intro c l g h o d;obtain⟨a,b⟩:=VG hp l g (i:=i) (h x (by simp));have e:=VH hp g i x;rw[d]at e;have j:=(ag.1 d).1;have m:(mS hp).sv i (x::r) c=(mS hp).sv i r ((mS hp).sR c i x):=rfl;rw[m,ih a b (λy k=>h y (by simp[k])) (o:=fH o x) (by rw[e];simp[j]),e];simp
theorem all_eq{U:List bf}:∀(a b:List bX),Gs W (b.map (λo=>U.foldl fH o)++a)->Yo (b.map (λo=>U.foldl fH o)++a)->jJ (b.map (λo=>U.foldl fH o)++a)=U ->(mS hp).all (List.range' (X b) (X a)) (b.map (λo=>U.foldl fH o)++a)=(b++a).map λo=>U.foldl fH o:=by
 intro a;induction a with
 |nil=>intro b _ _ _;simp[il.all]
 |cons o a ih =>
 intro b e l n;have g:=(oy hp e.sub).2;rw[n]at g;have h:∀x∈U,x∈W:=λx c=>by obtain⟨o,j,c⟩:=(g x).1 c;exact e.sub o j x c
 have j:(b.map (λo=>U.foldl fH o)++o::a)[X b]?=S o:=by rw[bB (by simp)];simp
 have f:o∈b.map (λo=>U.foldl fH o)++o::a:=bn j;obtain⟨s,v,q⟩:=AF hp U (e _ _ j) (l o f) h;have k:(b.map (λo=>U.foldl fH o)++o::a).set (X b) (U.foldl fH o)=(b++[o]).map (λo=>U.foldl fH o)++a:=by rw[ej _ _ (by simp)];simp
 have m:=e.set s;have t:=l.set v (i:=X b);have u:jJ ((b++[o]).map (λo=>U.foldl fH o)++a)=U:=by
  rw[k]at m;have r:=oy hp m.sub;refine rL r.1 (n▸(oy hp e.sub).1) λx=>?_;rw[r.2];constructor
  .rintro⟨p,d,c⟩;rw[gl,aJ]at d;rcases bJ.1 d with d|d;.exact(g x).2 ⟨p,iv _ d,c⟩
   rcases bw.1 d with rfl|d;.exact((q x).1 c).elim id λc=>(g x).2 ⟨o,f,c⟩
   exact(g x).2 ⟨p,uY _ (cd _ d),c⟩
  exact λc=>⟨_,iv _ (cP.2 ⟨o,by simp,rfl⟩),(q x).2 (.inl c)⟩
 have w:(mS hp).all (List.range' (X b) (X (o::a))) (b.map (λo=>U.foldl fH o)++o::a)=(mS hp).all (List.range' (X (b++[o])) (X a)) ((b++[o]).map (λo=>U.foldl fH o)++a):=by rw[ah,List.range'_succ];show(mS hp).all _ ((mS hp).sv (X b) (jJ _) _)=_;rw[n,abN hp (X b) U e l h j,k];simp
 rw[w,ih (b++[o]) (k▸m) (k▸t) u];simp
theorem adz{a:List bX}(h:Yo a):(mS hp).sync a=a.map Rv:=by refine eH λo b=>?_;show gH (NV o) o=Rv o;rw[NV,h o b];rfl
noncomputable def vj (n:Net):List bX:=(mS hp).aW n.aW ((mS hp).up n.aM)
theorem MS{n:Net}(h:Gs W n.aM)(c:∀x∈n.aW,x.op∈W):Gs W (vj hp n)/\Yo (vj hp n):=by obtain⟨a,b⟩:=ak0 hp h;exact Sv hp n.aW a b c
theorem MT(n:Net):X (vj hp n)=X n.aM:=by rw[vj,il.xb];simp[il.up]
theorem Js{n:Net}(h:Gs W n.aM)(k:∀x∈n.aW,x.op∈W):(mS hp).settle n=(vj hp n).map λo=>Rv ((jJ (vj hp n)).foldl fH o):=by
 obtain⟨a,b⟩:=MS hp h k;have e:=all_eq hp (U:=jJ (vj hp n)) (vj hp n) [] a b rfl;simp only[aq,aw,aj,MT]at e;have l:(mS hp).settle n=(mS hp).sync ((mS hp).all (List.range (X n.aM)) (vj hp n)):=rfl;rw[l,List.range_eq_range',e,adz hp,kO];.rfl
 intro o g;obtain⟨f,d,rfl⟩:=cP.1 g;obtain⟨i,m⟩:=df.1 d;exact(AF hp _ (a i f m) (b f d) λx c=>by obtain⟨p,j,c⟩:=((oy hp a.sub).2 x).1 c;exact a.sub p j x c).2.1
theorem aeo{n:Net}(h:Gs W n.aM)(i:∀x∈n.aW,x.op∈W)(q:m=X n.aM):jJ (vj hp n)=fJ W:=by
 obtain⟨a,b⟩:=MS hp h i;have f:=oy hp a.sub;refine rL f.1 (pY hp.one) λx=>?_;rw[f.2,fq];constructor;.rintro⟨o,c,d⟩;exact a.sub o c x d
 intro d;have p:=(U5 (hp.op x d).ok).2.1;have r:=hp.off x d;have j:x.aZ.bR.toNat<X (vj hp n):=by rw[MT];omega
 have c:(vj hp n)[x.aZ.bR.toNat]?=S (vj hp n)[x.aZ.bR.toNat]:=aA j;obtain⟨arr,g,⟨k,_,_,e⟩|⟨l,_,_,e⟩⟩:=a _ _ c;.refine⟨_,bn c,?_⟩;rw[e];exact fq.2 (g.own x d (by omega))
 have:=b _ (bn c);rw[e]at this;cases this
theorem Wd{n:Net}(h:Gs W n.aM)(g:∀x∈n.aW,x.op∈W)(s:m=X n.aM): Gs W ((mS hp).settle n)/\X ((mS hp).settle n)=X n.aM/\∀o∈(mS hp).settle n,o.down=Z/\o.axX=fJ W/\o.ayi=X o.log:=by
 obtain⟨a,b⟩:=MS hp h g;have e:=Js hp h g;rw[aeo hp h g s]at e;have c:∀(i:Nat) o,(vj hp n)[i]?=S o->GO W i (Rv ((fJ W).foldl fH o))/\(Rv ((fJ W).foldl fH o)).down=Z/\(Rv ((fJ W).foldl fH o)).axX=fJ W:=λi o d=>by obtain⟨l,q,r⟩:=AF hp (fJ W) (a i o d) (b o (bn d)) λx j=>fq.1 j;refine⟨l.sync q,q,rL l.axX.2 (pY hp.one) λx=>(r x).trans ?_⟩;exact⟨λh=>h.elim id λj=>fq.2 (a.sub o (bn d) x j),.inl⟩
 rw[e];refine⟨λi o d=>?_,by rw[ab,MT],λo d=>?_⟩;.obtain⟨f,k,rfl⟩:=bP ..▸d |> aH.1;exact(c i f k).1
 obtain⟨f,k,rfl⟩:=cP.1 d;obtain⟨i,p⟩:=df.1 k;exact⟨(c i f p).2.1,(c i f p).2.2,rfl⟩
def FF(l:List bf):List bf:=l.foldl (λa x=>if a.any (λy=>dS y x==0)then a else ID a x) []
include hp in
theorem WB(l:List bf):∀a:List bf,(∀x∈l,x∈W)->(∀x∈a,x∈W)->ri a ->ri (l.foldl (λa x=>if a.any (λy=>dS y x==0)then a else ID a x) a)/\∀x,x∈l.foldl (λa x=>if a.any (λy=>dS y x==0)then a else ID a x) a<->x∈l\/x∈a:=by
 induction l with
 |nil=>intro a _ _ h;exact⟨h,by simp⟩
 |cons x r ih =>
 intro a k d n;have o:=k x (by simp);have m:=λy b=>k y (cd _ b);simp only[bT];by_cases c:a.any (λy=>dS y x==0)=G;.rw[aO c];obtain⟨y,b,j⟩:=hZ.1 c;have g:x∈a:=hp.uniq (d y b) o (by simpa using j)▸b;obtain⟨i,f⟩:=ih a m d n;refine⟨i,λz=>?_⟩;rw[f,bw];exact⟨λh=>h.elim (λh=>.inl (.inr h)) .inr,λh=>h.elim (λh=>h.elim (λe=>.inr (e▸g)) .inl) .inr⟩
 rw[ao c];have p:∀y∈a,dS y x≠0:=λy b j=>c (hZ.2 ⟨y,b,by simpa using j⟩);rw[uz p];obtain⟨i,f⟩:=ih (qJ a x) m (λz q=>(pn.1 q).elim (λe=>e▸o) (d z)) (Ck n p);refine⟨i,λz=>?_⟩;rw[f,pn,bw];constructor
 .rintro(h|h|h);.exact .inl (.inr h)
  .exact .inl (.inl h)
  exact .inr h
 rintro((h|h)|h);.exact .inr (.inl h)
 .exact .inl h
 exact .inr (.inr h)
include hp in
theorem adW{c:List bX}(h:Gs W c):FF (fE c)=jJ c:=by
 have f:=oy hp h.sub;have e:∀x,x∈fE c<->∃o∈c,x∈o.axX:=λx=>by simp[fE]
 obtain⟨a,b⟩:=WB hp (fE c) [] (λx d=>by obtain⟨o,g,d⟩:=(e x).1 d;exact h.sub o g x d) (by simp) List.Pairwise.nil;refine rL a f.1 λx=>?_;rw[f.2,<- e,FF,b];simp
end
def Ze(o:bf):Nat:=X o.axY.ax3+X o.axY.ax4+X o.axY.cJ+X o.axY.next+X o.ax5+bA o.axY.ax3+bA o.axY.ax4
def uE{s:aL}(h:ayc s=G\/s=[]):X s<=24:=by
 rcases h with h|rfl
 .unfold ayc at h;split at h;.simp at h
  simp only[aV,bz]at h;exact h.1.1
 simp
def CL{f:List It}(h:cU f=0):cj [] f=0:=by
 simp only[cU]at h;split at h;.simp at h
 exact h
def Zd{o:bf}(h:eO o=0)(j:Ze o<320):X (dx o)<=20000:=by
 have F:=qE h;have k:=F.Ld;simp only[Ze]at j;have f:∀l:bH,X (l.flatMap sN)=2*X l:=by intro l;induction l with|nil=>rfl|cons a r ih=>simp only[fc,ae,gU,ih,ah];omega
 have d:(ayk o).ax3=o.axY.ax3:=by unfold ayk;split<;>rfl
 have b:=F.ayk;have g:=Bw (CL (mq b).ax3);rw[d]at g;have i:o.axW=1->X (ayj o.axY.ax4).1<=4*bA o.axY.ax4+30*X o.axY.ax4/\X o.axY.dL<=24/\X o.axY.dh<=24:=by
  intro c;have e:ayk o=o.axY:=by simp[ayk,c]
  rw[e]at b;exact⟨Bw (CL (mq b).ax4),uE (mq b).dL,uE (mq b).dh⟩
 simp only[dx,eY,ae,fI,gU,ah,aj,f];split;.have:=i (by assumption);simp only[ae,fI,ah,aj];omega
 simp only[aj];omega
structure GN (m:Int) (W:List bf) (N:Nat) (n:Net):Prop where
 pl:Pl m W
 wl:W.length<=N
 gs:Gs W n.aM
 len:(n.aM.length:Int)=m
 m8:1<=m/\m<=8
 lts:∀x∈n.aW,(0<=x.dst/\x.dst<m)/\x.op∈W
 vZ:n.aW.length<=256
 srt:sI n.cy
 tT:n.cy.length<=N
namespace GN
variable {m:Int} {W:List bf} {N:Nat} {n:Net}
def ne(h:GN m W N n):n.aM≠[]:=λe=>by have:=h.len;have:=h.m8;rw[e]at *;simp at *;omega
def axZ(h:GN m W N n)(b:N<=100):n.axZ where
 bg o ho:=by obtain⟨k,a⟩:=h.gs.mem ho;exact a.axZ h.pl
 D5:=by have:=h.len;have:=h.m8;omega
 axX x hx:=(h.pl.op _ (h.lts x hx).2).axZ
 vZ:=by have:=h.vZ;omega
 tT:=by have:=h.tT;omega
def mono(h:GN m W N n){M:Nat}(a:N<=M):GN m W M n:={ h with wl:=by have:=h.wl;omega,tT:=by have:=h.tT;omega }
def set(h:GN m W N n){i:Nat}{a:bX}(b:GO W i a):GN m W N ⟨n.aM.set i a,n.aW,n.cy⟩ := { h with gs:=h.gs.set b,len:=by simpa using h.len }
def made(h:GN m W N n){i:Nat}{b:bX}{x:bf}(d:x.aZ.bR=i)(hp:Pl m (W++[x]))(c:GO (W++[x]) i b):GN m (W++[x]) (N+1) ⟨n.aM.set i b,n.aW,n.cy⟩ where
 pl:=hp
 wl:=by have:=h.wl;simp;omega
 gs:=by
  intro j o a;rw[iT]at a;split at a
  .rename_i e;split at a
   .simp only[aa]at a;subst a e;exact c
   .cases a
  .rename_i e;exact(h.gs j o a).other (by rw[d];omega)
 len:=by simpa using h.len
 m8:=h.m8
 lts y hy:=⟨(h.lts y hy).1,iv _ (h.lts y hy).2⟩
 vZ:=h.vZ
 srt:=h.srt
 tT:=by have:=h.tT;exact Nat.le_succ_of_le this
def ax2(h:GN m W N n){l:List Let}(a:X l<=256)(b:∀x∈l,x∈n.aW\/((0<=x.dst/\x.dst<m)/\x.op∈W)):GN m W N ⟨n.aM,l,n.cy⟩ := { h with lts:=λx c=>(b x c).elim (h.lts x) id,vZ:=a }
def drop(h:GN m W N n)(k:Nat):GN m W N ⟨n.aM,n.aW.take k++n.aW.drop (k+1),n.cy⟩:=by
 refine h.ax2 ?_ λx a=>.inl ?_;.have:=h.vZ;simp;omega
 rcases bJ.1 a with a|a;.exact dB a
 exact dR a
def cut(h:GN m W N n)(e:Ev)(b:(sS n e).2=0):GN m W (N+1) (sS n e).1:=by
 have a:∀c,sI c->X c<=X n.cy+1->GN m W (N+1) ⟨n.aM,n.aW,c⟩:=λc d f =>
  { h.mono (oq N)with srt:=d,tT:=by have:=h.tT;show X c<=N+1;omega };revert b;unfold sS;split
 .split;.exact λ_=>a _ (Nz h.srt _) (by simp;omega)
  simp
 split;.simp
 split;.simp
 rename_i hp;exact λ_=>a _ (Ny h.srt hp) (by simp;omega)
def post(h:GN m W N n){i j:Nat}{x:Let}(l:x∈n.aW)(f:x.dst=j){c:bX}{b:Int}(k:b=0->GO W j c){d:Int}(g:(jS n d i x c b).2=0):GN m W N (jS n d i x c b).1:=by
 revert g;unfold jS;split
 .split;.simp
  refine λ_=>h.ax2 ?_ λy a=>.inl ?_;.have:=h.vZ;simp;omega
  rcases bJ.1 a with a|a;.exact a
  rw[cQ.1 a];exact l
 split;.exact λ_=>h.drop i
 split;.simp
 split;.rename_i e;intro _;have:=(h.drop i).set (k e);rw[f,al];exact this
 exact λe=>absurd e (by assumption)
def send(h:GN m W N n){i j:Int}{b c:Bool}{l:List bf}(d:0<=j/\j<m)(e:∀x∈l,x∈W)(f:(ka n i j b c l).2=0):GN m W N (ka n i j b c l).1:=by
 revert f;unfold ka;split;.simp
 split;.simp
 split;.simp
 split
 .refine λ_=>h.ax2 (by simpa using ‹_›) λy a=>?_;rcases bJ.1 a with a|a;.exact .inl a
  obtain⟨x,g,rfl⟩:=cP.1 a;exact .inr ⟨d,e x g⟩
 simp
end GN

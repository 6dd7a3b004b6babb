/- A part of a proof; the claim's last text says of what. -/
import Derived.Test.YtfeddmfijllgmaaGreatDoorB19
set_option linter.all false
open Option renaming some->S,none->Z
open Bool renaming true->θ,false->G
open List renaming length->Y

namespace Go.Bt
open Go Go.Pm
variable(v:bU)(l:List aV)(i:Int)(Q:List It)(T:aV)(p:aR)(h:Rb)(L:Int×Int)(J:Nat)(H:List En)(F:UInt8)(E:gW)(C:It)(w:List It){A:Bool}{U:Int}{D:Int×Int}{P:It}{s t:List It}{X:List aV}{r:Nat}{K:Option It}{k q:aR}{R g:aV}{N:bU}
def tg:List It:=Q.filter fp
def jS:tg (Q++w)=tg Q++tg w:=by simp[tg]
def zN(h:fp P=θ):tg [P]=[P]:=by simp[tg,h]
def Bi(h:fp P=G):tg [P]=[]:=by simp[tg,h]
def CX(i:Int):fp ⟨1,p,i⟩=G:=by simp[fp]
def Gz(h:P.azT=1):fp P=G:=by simp[fp,h]
def NY(h1:P.azT=1)(a:P.id=0):(⟨1,P.azX,0⟩:It)=P:=by obtain⟨k,t,i⟩:=P;simp only at h1 a;subst h1;subst a;rfl
def BF(a:P.azT=1)(h:cP K P=θ):P.azX≠[]/\P.id=0/\∀y,K=S y->y.azT≠1:=by simp only[cP,a,aU,aZ,dG,gN,ez]at h;refine⟨h.1.1,h.1.2,λy b=>?_⟩;subst b;simpa using h.2
def uP(h1:k≠[])(a:∀y,K=S y->y.azT≠1):cP K ⟨1,k,0⟩=θ:=by simp only[cP,aU,aZ,dG,gN,ez];refine⟨⟨h1,trivial⟩,?_⟩;cases K with|none=>rfl|some y=>simpa using a y rfl
def vA:cz [] s=0->az9 s=s:=by
 refine HL (p:=λs=>cz [] s=0->az9 s=s) (λ_=>rfl) ?_ s;intro l x ih h;obtain⟨d,b,_⟩:=(gB l [] x).1 h;simp only[ay]at b;rw[lP (ih d)];by_cases a:x.azT=1;.obtain⟨f,c,e⟩:=BF a b;simp only[fg,a,gA,gu,bw,aw f];cases g:l.getLast? with|none=>simp only[NY a c]|some y=>simp only[aw (e y g),NY a c]
 exact tj a
def HV:fits Q C=fits (tg Q) C:=by
 induction Q with
 |nil=>rfl
 |cons y Q ih =>
 by_cases h:fp y=θ;.simp only[fits,tg,jc,h,aU,gF]at ih |-;rw[ih]
 have h:fp y=G:=by simpa using h
 have a:iK C y=G:=by simp[iK,h]
 simp only[fits,tg,jc,h,gF,a,aP,bw,nc,dp]at ih |-;exact ih
def uZ{f:List It}(t:aR)(h:cz [] f=0):cz [] (az9 (f++[⟨1,t,0⟩]))=0/\tg (az9 (f++[⟨1,t,0⟩]))=tg f:=by
 rw[lP (vA h)];by_cases a:t=[]
 .have e:fg f ⟨1,t,0⟩=f:=by simp[fg,a]
  rw[e];exact⟨h,rfl⟩
 revert h;refine HL (p:=λf=>cz [] f=0->cz [] (fg f ⟨1,t,0⟩)=0/\tg (fg f ⟨1,t,0⟩)=tg f) ?_ ?_ f
 .intro _;have e:fg [] ⟨1,t,0⟩=[]++[⟨1,t,0⟩]:=by simp[fg,a]
  rw[e,gB,jS,Bi (CX t 0),bI];exact⟨⟨rfl,uP a (by simp),by simp[fp]⟩,rfl⟩
 intro l y _ h;obtain⟨d,g,j⟩:=(gB l [] y).1 h;by_cases b:y.azT=1
 .have e:fg (l++[y]) ⟨1,t,0⟩=l++[⟨1,y.azX++t,0⟩]:=by simp[fg,a,b]
  obtain⟨_,_,i⟩:=BF b g;rw[e,gB,jS,jS,Bi (CX _ 0),Bi (Gz b)];exact⟨⟨d,uP (by simp[a]) i,by simp[fp]⟩,rfl⟩
 have e:fg (l++[y]) ⟨1,t,0⟩=(l++[y])++[⟨1,t,0⟩]:=by simp[fg,a,b]
 rw[e,gB,jS,Bi (CX _ 0),bI];refine⟨⟨h,uP a λz c=>?_,by simp[fp]⟩,rfl⟩;simp only[ay,lJ,kg,pX,ab]at c;subst c;exact b
def xM{x:It}(h:cz [] s=0)(a:x.azT≠1)(c:cP Z x=θ)(b:fp x=θ->fits s x=θ): az9 (s++[x])=s++[x]/\cz [] (s++[x])=0:=by refine⟨by rw[lP (vA h),tj a],?_⟩;rw[gB];refine⟨h,by rw[mm a];exact c,?_⟩;rw[ay];cases d:fp x with|false=>rfl|true=>rw[b d];rfl
structure G6 (f opn:List It) (n:Int):Prop where
 err:cz [] f=0
 ids:∀z∈tg f,1<=z.id/\z.id<=n
 nd:(opn.map (·.id)).Nodup
 op:∀y∈opn,aAa (fM y.azX)=true/\1<=y.id/\y.id<=n/\∀z∈tg f,z.id=y.id->z.azT=2/\z.azX=y.azX
def G6.nil:G6 [] [] 0:=⟨rfl,by simp[tg],by simp,by simp⟩
def G6.same{a:List It}(h:G6 s a U)(h1:cz [] t=0)(b:tg t=tg s):G6 t a U :=⟨h1,by rw[b];exact h.ids,h.nd,by rw[b];exact h.op⟩
def G6.azX{n:Int}(h:G6 s t n)(a:aR):G6 (az9 (s++[⟨1,a,0⟩])) t n :=h.same (uZ a h.err).1 (uZ a h.err).2
def G6.slot(h:G6 s t U)(a:aAa k=θ):G6 (az9 (s++[⟨5,k,0⟩])) t U:=by obtain⟨e,b⟩:=xM (x:=⟨5,k,0⟩) h.err (by simp) (by simp[cP,a]) (by simp[fp]);rw[e];exact h.same b (by rw[jS,Bi (by simp[fp]),bI])
def Tj(h:∀z∈tg s,z.id≠P.id):fits s P=θ:=by rw[HV];simp only[fits,df];intro z a;have:=h z a;simp[iK,this]
def G6.empty(h:G6 s t U)(g:fB k=θ)(h0:0<=U)(j:U<999):G6 (az9 (s++[⟨4,k,U+1⟩])) t (U+1):=by
 have c:fp ⟨4,k,U+1⟩=θ:=by simp[fp]
 obtain⟨e,d⟩:=xM (x:=⟨4,k,U+1⟩) h.err (by simp) (by simp[cP,g];omega) (λ_=>Tj λz a=>by have:=h.ids z a;simp only;omega);rw[e];refine⟨d,?_,h.nd,?_⟩
 .intro z a;rw[jS,zN c,bW,dn]at a;rcases a with a|rfl;.have:=h.ids z a;omega
  simp only;omega
 intro y i;obtain⟨o1,o2,l,f⟩:=h.op y i;refine⟨o1,o2,by omega,λz a b=>?_⟩;rw[jS,zN c,bW,dn]at a;rcases a with a|rfl;.exact f z a b
 simp only at b;omega
def G6.opens(h:G6 s t U)(m:fB k=θ)(n:aAa (fM k)=θ)(h0:0<=U)(p:U<999): G6 (az9 (s++[⟨2,k,U+1⟩])) (t++[⟨2,k,U+1⟩]) (U+1):=by
 have g:fp ⟨2,k,U+1⟩=θ:=by simp[fp]
 obtain⟨e,o⟩:=xM (x:=⟨2,k,U+1⟩) h.err (by simp) (by simp[cP,m];omega) (λ_=>Tj λz c=>by have:=h.ids z c;simp only;omega);rw[e];refine⟨o,?_,?_,?_⟩
 .intro z c;rw[jS,zN g,bW,dn]at c;rcases c with c|rfl;.have:=h.ids z c;omega
  simp only;omega
 .rw[fQ,xn];refine⟨h.nd,by simp,?_⟩;intro a l b i;obtain⟨y,f,rfl⟩:=cv.1 l;simp only[aI,ar,dn]at i;have:=(h.op y f).2.2.1;omega
 intro y f;rw[bW,dn]at f;rcases f with f|rfl
 .obtain⟨o1,o2,q,j⟩:=h.op y f;refine⟨o1,o2,by omega,λz c d=>?_⟩;rw[jS,zN g,bW,dn]at c;rcases c with c|rfl;.exact j z c d
  simp only at d;omega
 refine⟨n,by simp only;omega,by simp only;omega,λz c d=>?_⟩;rw[jS,zN g,bW,dn]at c;rcases c with c|rfl;.have:=h.ids z c;simp only at d;omega
 exact⟨rfl,rfl⟩
def G6.close{y:It}(h:G6 s (t++[y]) U)(p:U<=999): G6 (s++[⟨3,fM y.azX,y.id⟩]) t U/\az9 (s++[⟨3,fM y.azX,y.id⟩])=s++[⟨3,fM y.azX,y.id⟩]:=by
 have d:fp ⟨3,fM y.azX,y.id⟩=θ:=by simp[fp]
 obtain⟨o1,o2,o,i⟩:=h.op y (by simp);obtain⟨e,j⟩:=xM (x:=⟨3,fM y.azX,y.id⟩) h.err (by simp) (by simp[cP,o1];omega) (λ_=>by
  rw[HV];simp only[fits,df];intro z a;by_cases f:z.id=y.id;.obtain⟨m,k⟩:=i z a f;simp[iK,m,k]
  simp[iK,f]);have c:=h.nd;rw[fQ,xn]at c;refine⟨⟨j,?_,c.1,?_⟩,e⟩
 .intro z a;rw[jS,zN d,bW,dn]at a;rcases a with a|rfl;.exact h.ids z a
  exact⟨o2,o⟩
 intro x g;obtain⟨n,l,p3,p4⟩:=h.op x (by simp[g]);refine⟨n,l,p3,λz a b=>?_⟩;rw[jS,zN d,bW,dn]at a;rcases a with a|rfl;.exact p4 z a b
 have:=c.2.2 x.id (cv.2 ⟨x,g,rfl⟩) y.id (by simp);exact absurd b.symm this
structure V5 (pre f:List It):Prop where
 err:cz [] f=0
 tags:tg f=tg pre
def V5.nil:V5 [] []:=⟨rfl,rfl⟩
def V5.more(h:V5 s t)(a:aR):V5 s (az9 (t++[⟨1,a,0⟩])) :=⟨(uZ a h.err).1,(uZ a h.err).2.trans h.tags⟩
def V5.azX(h:V5 s t)(b:P.azT=1)(a:aR):V5 (s++[P]) (az9 (t++[⟨1,a,0⟩])) :=⟨(uZ a h.err).1,by rw[(uZ a h.err).2,h.tags,jS,Bi (Gz b),bI]⟩
def V5.item{a:List It}{x:It}(h:V5 s t)(c:cz [] (s++x::a)=0)(d:x.azT≠1):V5 (s++[x]) (az9 (t++[x])):=by rw[uh,xc]at c;obtain⟨_,f,b,_⟩:=c;rw[ay]at f b;obtain⟨e,g⟩:=xM (x:=x) h.err d (by rw[<- mm (p:=s.getLast?) d];exact f) (λi=>by rw[i,dp]at b;rw[HV,h.tags,<- HV];simpa using b);rw[e];exact⟨g,by rw[jS,jS,h.tags]⟩
def Q7:∀(l:bU) (k:Int) (x:Int),Lh l ((List.range (Y l)).map λ(i:Nat)=>(i:Int)+k) x=if x∈l then S ((l.idxOf x:Int)+k)else Z
 |[],k,x=>by simp[Lh]
 |a::l,k,x=>by
  have e:(List.range (Y l+1)).map (λ(i:Nat)=>(i:Int)+k)=k::(List.range (Y l)).map λ(i:Nat)=>(i:Int)+(k+1):=by rw[xl,aI,jQ];refine congr (congrArg _ (by omega)) (dA λi _=>?_);simp only[Function.comp];omega
  rw[ae,e];simp only[Lh];by_cases h:x=a;.subst h;simp
  have c:(a==x)=G:=by simpa using λe=>h e.symm
  rw[aw h,Q7 l (k+1) x,K9,c];by_cases b:x∈l;.rw[aQ b,aQ (bJ _ b)];congr 1;simp only[V7];omega
  rw[aw b,aw (by simp[h,b])]
def Yp:Lh v (eH (Y v)) i=if i∈v then S ((v.idxOf i:Int)+1)else Z:=Q7 v 1 i
def zF:It:=if fp C=θ then⟨C.azT,C.azX,(v.idxOf C.id:Int)+1⟩else C
def Sy:(zF v C).azT=C.azT:=by simp only[zF];split<;>rfl
def acz:(zF v C).azX=C.azX:=by simp only[zF];split<;>rfl
def HO:fp (zF v C)=fp C:=by simp only[fp,Sy]
def F3(h:∀x∈tg s,x.id∈N):aAk s N (eH (Y N))=s.map (zF N):=by
 have b:∀x∈s,Wu N (eH (Y N)) x=S (zF N x):=by
  intro x c;simp only[Wu,zF];by_cases a:fp x=θ;.have:=h x (eB.2 ⟨c,a⟩);rw[aQ a,aQ a,Yp,aQ this];rfl
  rw[aw a,aw a]
 simp only[aAk];rw[Ko b];clear b h;induction s with|nil=>rfl|cons x s ih=>simp only[nZ,aI,ih]
def XT{x y:Int}(g:x∈N)(i:y∈N)(h:N.idxOf x=N.idxOf y):x=y:=by
 induction N with
 |nil=>simp at g
 |cons a N ih =>
 simp only[K9]at h;by_cases e:a=x
 .by_cases c:a=y;.rw[<- e,c]
  have f:(a==x)=θ:=by simp[e]
  have d:(a==y)=G:=by simp[c]
  rw[f,d]at h;simp at h
 have f:(a==x)=G:=by simp[e]
 by_cases c:a=y
 .have d:(a==y)=θ:=by simp[c]
  rw[f,d]at h;simp at h
 have d:(a==y)=G:=by simp[c]
 rw[f,d]at h;simp only[V7]at h;refine ih ?_ ?_ (by omega)
 .rcases bd.1 g with b|b;.exact absurd b.symm e
  exact b
 rcases bd.1 i with b|b;.exact absurd b.symm c
 exact b
def acB(f:fp P=θ->P.id∈N)(l:Y N<=999)(h:cP K P=θ):cP (K.map (zF N)) (zF N P)=θ:=by
 by_cases b:fp P=θ
 .have k:N.idxOf P.id<Y N:=ajv (f b);have a:P.azT=2\/P.azT=3\/P.azT=4:=by simp only[fp,iR,ez]at b;omega
  have e:zF N P=⟨P.azT,P.azX,(N.idxOf P.id:Int)+1⟩:=by rw[zF,aQ b]
  rw[e];simp only[cP]at h |-;rcases a with a|a|a;.simp[a]at h |-;exact⟨⟨h.1.1,by omega⟩,by omega⟩
  .simp[a]at h |-;exact⟨⟨h.1.1,by omega⟩,by omega⟩
  simp[a]at h |-;exact⟨⟨h.1.1,by omega⟩,by omega⟩
 have e:zF N P=P:=by rw[zF,aw b]
 rw[e];by_cases a:P.azT=1;.obtain⟨j,d,g⟩:=BF a h;rw[<- NY a d];refine uP j λy i=>?_;obtain⟨z,c,rfl⟩:=aL.1 i;rw[Sy];exact g z c
 rw[mm a]at h |-;exact h
def acA(i:fp P=θ)(o:P.id∈N)(k:∀z∈tg s,z.id∈N)(h:fits s P=θ):fits (s.map (zF N)) (zF N P)=θ:=by
 simp only[fits,df,cv]at h |-;rintro _ ⟨y,f,rfl⟩;have d:=h y f;by_cases a:fp y=θ
 .have c:=k y (eB.2 ⟨f,a⟩);have m:zF N P=⟨P.azT,P.azX,(N.idxOf P.id:Int)+1⟩:=by rw[zF,aQ i]
  have l:zF N y=⟨y.azT,y.azX,(N.idxOf y.id:Int)+1⟩:=by rw[zF,aQ a]
  have g:((N.idxOf y.id:Int)+1 != (N.idxOf P.id:Int)+1)=(y.id != P.id):=by
   by_cases b:y.id=P.id;.rw[b];simp
   have:N.idxOf y.id≠N.idxOf P.id:=λe=>b (XT c o e);have j:(y.id != P.id)=θ:=by simpa using b
   rw[j];simp;omega
  have n:fp (zF N y)=fp y:=HO N y;simp only[iK,n]at d |-;rw[m,l];simp only;rw[g];exact d
 have a:fp y=G:=by simpa using a
 simp[iK,HO,a]
def Bw(j:Y N<=999)(c:∀x∈tg s,x.id∈N)(h:cz [] s=0):cz [] (s.map (zF N))=0:=by
 revert c h;refine HL (p:=λs=>(∀x∈tg s,x.id∈N)->cz [] s=0->cz [] (s.map (zF N))=0) (λ_ _=>rfl) ?_ s;intro s x ih c h;obtain⟨i,f,d⟩:=(gB s [] x).1 h;rw[ay]at f d;have b:∀z∈tg s,z.id∈N:=λz g=>c z (by rw[jS];exact fv _ g);have e:fp x=θ->x.id∈N:=λa=>c x (by rw[jS,zN a];simp);rw[fQ,aI,ar,gB];refine⟨ih b i,?_,?_⟩;.rw[ay,List.getLast?_map];exact acB e j f
 rw[ay,HO];cases a:fp x with|false=>rfl|true =>rw[a,dp]at d;rw[acA a (e a) b (by simpa using d)];rfl
def FU:bo (Q.map (zF v))=bo Q:=by induction Q with|nil=>rfl|cons x Q ih=>simp only[aI,bo,acz,ih]
def yo:bU:=(tg Q).map (·.id)
def Jy:az8 Q=(yo Q).foldl mL []:=by simp only[az8,mB];rfl
def FH:dh Q w=(yo (Q++w)).foldl mL []:=by rw[<- vy,Jy]
def BK:(∀x∈tg Q,x.id∈dh Q w)/\∀x∈tg w,x.id∈dh Q w:=by
 rw[FH];constructor<;>intro x a<;>refine ya _ ?_<;>simp only[yo,jS,fQ,bW,cv];.exact .inl ⟨x,a,rfl⟩
 exact .inr ⟨x,a,rfl⟩
def Vf(h:N.Nodup):(mL N U).Nodup:=by
 simp only[mL];split;.exact h
 rename_i f;rw[xn];refine⟨h,by simp,?_⟩;intro a d b c e;simp only[dn]at c;subst c;subst e;exact f (by simpa using d)
def GP:∀(m:bU) {l:bU},l.Nodup->(m.foldl mL l).Nodup|[],_,h=>h|_::m,_,h=>GP m (Vf h)
def Nn{g:Int->Int}{L:bU}(j:∀x∈L,∀y∈L,g x=g y->x=y):∀(m a:bU),(∀x∈m,x∈L)->(∀x∈a,x∈L)->(m.map g).foldl mL (a.map g)=(m.foldl mL a).map g
 |[],_,_,_=>rfl
 |n::m,a,hm,ha=>by
  have k:=hm n (by simp);have e:mL (a.map g) (g n)=(mL a n).map g:=by
   by_cases h:n∈a
   .have c:a.contains n=θ:=by simpa using h
    have f:(a.map g).contains (g n)=θ:=by simp;exact⟨n,h,rfl⟩
    simp only[mL,c,f,aU]
   have c:a.contains n=G:=by simpa using h
   have f:(a.map g).contains (g n)=G:=by cases i:(a.map g).contains (g n)with|false=>rfl|true =>simp only[List.contains_iff_mem,cv]at i;obtain⟨x,b,d⟩:=i;exact absurd (j x (ha x b) n k d▸b) h
   simp only[mL,c,f,aP,bw,fQ,aI,ar]
  simp only[aI,bH,e];refine Nn j m (mL a n) (λx b=>hm x (by simp[b])) λx b=>?_;simp only[mL]at b;split at b;.exact ha x b
  rw[bW,dn]at b;rcases b with b|rfl;.exact ha x b
  exact k
def M7:∀{L:bU} (_:L.Nodup),L.map (λx=>(L.idxOf x:Int)+1)=eH (Y L):=by
 intro L m;have g:∀(l c:bU),(c++l).Nodup->l.map (λx=>((c++l).idxOf x:Int)+1)=(List.range (Y l)).map λ(i:Nat)=>(i:Int)+((Y c:Int)+1):=by
  intro l;induction l with
  |nil=>intro c _;rfl
  |cons a l ih =>
  intro c h;have e:(List.range (Y l+1)).map (λ(i:Nat)=>(i:Int)+((Y c:Int)+1))=((Y c:Int)+1)::(List.range (Y l)).map λ(i:Nat)=>(i:Int)+((Y (c++[a]):Int)+1):=by rw[xl,aI,jQ];refine congr (congrArg _ (by omega)) (dA λi _=>?_);simp only[Function.comp,ah,ae,ai];omega
  have f:=ih (c++[a]) (by rwa [aO,yk]);rw[aO,yk]at f;rw[ae,e,<- f,aI];congr 1;have d:a ∉ c:=by rw[xn]at h;exact λj=>h.2.2 a j a (by simp) rfl
  have:(c++a::l).idxOf a=Y c:=by
   clear f e ih h;induction c with
   |nil=>simp
   |cons b c ih =>
   have k:(b==a)=G:=by simp only[bd,Bb]at d;simpa using λe=>d.1 e.symm
   rw[aF,K9,k,V7,ih (λj=>d (bJ _ j)),ae]
  rw[this]
 have:=g L [] m;simpa[eH]using this
def Ue:yo (s.map (zF N))=(yo s).map λx=>(N.idxOf x:Int)+1:=by
 induction s with
 |nil=>rfl
 |cons x s ih =>
 simp only[yo,tg,aI,jc,HO]at ih |-;by_cases a:fp x=θ;.rw[aQ a,aQ a,aI,aI,aI,ih];congr 1;rw[zF,aQ a]
 rw[aw a,aw a,ih]
def KP(c:cz [] s=0)(d:cz [] t=0)(b:Y (dh s t)<=999): kc s t=s.map (zF (dh s t))/\k6 s t=t.map (zF (dh s t)):=by
 have a:=BK s t;constructor;.rw[kc,rename,F3 a.1];exact vA (Bw b a.1 c)
 rw[k6,rename,F3 a.2];exact vA (Bw b a.2 d)
def TA{s t:List It}:dh (s.map (zF (dh s t))) (t.map (zF (dh s t)))=eH (Y (dh s t)):=by
 have e:dh s t=(yo (s++t)).foldl mL []:=FH s t;have c:∀x∈yo (s++t),x∈dh s t:=λx a=>by rw[e];exact ya _ a
 rw[FH (s.map _) (t.map _),<- List.map_append,Ue];have b:=Nn (g:=λx=>((dh s t).idxOf x:Int)+1) (L:=dh s t) (λx a y d h=>XT a d (by omega)) (yo (s++t)) [] c (by simp);rw[ar]at b;rw[b,<- e];exact M7 (by rw[e];exact GP _ List.nodup_nil)
def aam(h:U∈eH r):((eH r).idxOf U:Int)+1=U:=by
 have g:(eH r).Nodup:=by simp only[eH];exact(List.nodup_range).map (f:=λ(i:Nat)=>(i:Int)+1) (λa b h=>by have h:a≠b:=h;omega)
 have e:=M7 g;rw[yV]at e;have d:(eH r).idxOf U<Y (eH r):=ajv h;have c:((eH r).map λU=>((eH r).idxOf U:Int)+1)[(eH r).idxOf U]?=(eH r)[(eH r).idxOf U]?:=by rw[e]
 rw[bR,aD d]at c;have j:(eH r)[(eH r).idxOf U]=U:=List.getElem_idxOf d;rw[j]at c;simpa using c
def MV(h:∀x∈tg s,x.id∈eH r):s.map (zF (eH r))=s:=by
 induction s with
 |nil=>rfl
 |cons x s ih =>
 rw[aI];have c:∀z∈tg s,z.id∈eH r:=λz a=>h z (by simp only[tg,jc];split<;>simp[tg]at a |-<;>simp[a]);rw[ih c];congr 1;rw[zF];split;.rename_i b;have:=h x (by simp only[tg,jc,b,aU];simp);rw[aam this]
 rfl
def aez{s t:List It}(f:cz [] s=0)(h:cz [] t=0)(a:Y (dh s t)<=999): kc (kc s t) (k6 s t)=kc s t/\k6 (kc s t) (k6 s t)=k6 s t:=by
 obtain⟨m,l⟩:=KP f h a;have g:=BK s t;have c:=Bw a g.1 f;have d:=Bw a g.2 h;rw[m,l];have k:=TA (s:=s) (t:=t);have e:Y (dh (s.map (zF (dh s t))) (t.map (zF (dh s t))))<=999:=by rw[k,yV];exact a
 obtain⟨i,j⟩:=KP c d e;have b:=BK (s.map (zF (dh s t))) (t.map (zF (dh s t)));rw[k]at b i j;exact⟨by rw[i,MV b.1],by rw[j,MV b.2]⟩
def rS:((ll i).toNat:Int)=i % 256:=by have a:0<=i % 256:=aiN _ (by decide);have b:i % 256<256:=Wd _ (by decide);simp only[ll,qN];omega
def agl:ll (F.toNat:Int)=F:=by have:=F.toNat_lt;apply rm.1;have h:=rS (F.toNat:Int);omega
def NJ(h:0<=U/\U<65536):iL (wm U)=U:=by have a:=rS (U / 256);have b:=rS U;simp only[iL,wm,bH,ja,a,b];omega
def FK(h:0<=U/\U<4294967296):iL (G4 U)=U:=by have d:=rS (U / 65536 / 256);have b:=rS (U / 65536);have a:=rS (U / 256);have c:=rS U;simp only[iL,G4,wm,aF,ay,bH,ja,d,b,a,c];omega
def BO(h:0<=U/\U<256):iL [ll U]=U:=by have a:=rS U;simp only[iL,bH,ja,a];omega
def QB:[ll (iL [F])]=[F]:=by
 have:iL [F]=(F.toNat:Int):=by simp[iL]
 rw[this,agl]
def Bx{x:UInt8}(h:U % 256=x.toNat):ll U=x:=by apply rm.1;have:=rS U;omega
def aeK(b:UInt8):wm (iL [F,b])=[F,b]:=by have a:=F.toNat_lt;have c:=b.toNat_lt;simp only[wm,iL,bH,ja,fF,cK];exact⟨Bx (by omega),Bx (by omega)⟩
def V0(b c d:UInt8):G4 (iL [F,b,c,d])=[F,b,c,d]:=by have g:=F.toNat_lt;have e:=b.toNat_lt;have a:=c.toNat_lt;have f:=d.toNat_lt;simp only[G4,wm,iL,bH,ja,aF,ay,fF,cK];exact⟨Bx (by omega),Bx (by omega),Bx (by omega),Bx (by omega)⟩
def Rc:(Rb.mk (k++q) A).take (Y k)=(k,⟨q,A⟩):=by simp only[Rb.take];rw[aw (by simp)];simp
def nJ{w rest:aR}{bad:Bool}{n:Nat}(h:Y w=n):(Rb.mk (w++rest) bad).azW n=(iL w,⟨rest,bad⟩):=by subst h;simp only[Rb.azW,Rc]
def zO(h:Y k<4294967296):(Rb.mk (fH k++q) A).azX=(k,⟨q,A⟩):=by
 have a:(Rb.mk (fH k++q) A).azW 4=((Y k:Int),⟨k++q,A⟩):=by simp only[fH,aO];rw[nJ (gz _),FK (by omega)]
 simp only[Rb.azX,a];rw[aw (by simp;omega)];simp only[ak,Rc]
def Ep(h:Y k<4294967296)(a:parse k=(s,0,0)):(Rb.mk (fH k++q) A).aAl=(s,⟨q,A⟩):=by simp only[Rb.aAl,zO h,a];simp
def Sr:∀(l:bU) (a:aR) (b:Bool),(∀n∈l,0<=n/\n<65536)->Rb.az8 l.length (Rb.mk (l.flatMap wm++a) b)=(l,⟨a,b⟩):=by intro l;induction l with|nil=>intro a b _;rfl|cons n l ih =>intro a b h;simp only[ae,Rb.az8,fK,aO];rw[nJ (iU n),NJ (h n (by simp))];simp only[ih a b λm c=>h m (by simp[c])]
def Bg:0<=ox v i:=by simp only[ox];(repeat' split)<;>omega
def QW(h:ko N=N):Y N<=8/\∀n∈N,0<=n:=by
 have b:ko N=(mf N [] 8).take (jf N [] 8):=rfl;constructor;.rw[<- h,b];simp[oO];omega
 intro n a;rw[<- h,b]at a;have a:=dY a;simp only[mf,cv]at a;obtain⟨i,_,rfl⟩:=a;have c:=Bg N i;have d:=Bg [] i;split<;>omega
structure af8 (o:aV):Prop where
 time:1<=o.aY.time/\o.aY.time<=1073741824
 bS:0<=o.aY.bS/\o.aY.bS<8
 azW:1<=o.aY.azW/\o.aY.azW<=128
 azT:o.azT=1\/o.azT=2
 N5:o.az1.length<=8
 az1:∀n∈o.az1,0<=n/\n<=128
 bare:o.azT=2->o.azV=⟨o.azV.azZ,[],o.azV.cM,o.azV.next,[],[],0,0⟩
 aAi:dx (aAi o)=0
def tO(h:fc R=0):af8 R:=by
 simp only[fc]at h;split at h;.simp at h
 rename_i m;split at h;.simp at h
 rename_i p;split at h;.simp at h
 rename_i j;split at h;.simp at h
 split at h;.simp at h
 rename_i q;simp only[xo,k8,bE]at m;have b:ko R.az1=R.az1:=by
  by_cases b:ko R.az1=R.az1;.exact b
  exact absurd (.inr b) p
 obtain⟨l,r⟩:=QW b;simp only[Bool.not_eq_true,aaJ,bE]at j;refine⟨⟨by omega,by omega⟩,⟨by omega,by omega⟩,⟨by omega,by omega⟩,by omega,l,λn k=>⟨r n k,by have:=j n k;omega⟩,λo=>?_,h⟩;have a:pz R.azV=θ:=by cases a:pz R.azV with|true=>rfl|false=>exact absurd ⟨o,a⟩ q
 simp only[pz,aZ,ez,nE]at a;obtain⟨f,c,g,i,d⟩:=a;clear h;generalize R.azV=e at f c g i d |-;obtain⟨u,z,x,y,s,w,t,v⟩:=e;simp only at f c g i d;subst f;subst c;subst g;subst i;subst d;rfl
structure ail (e:En):Prop where
 azZ:dq e.azZ=0
 az0:dq e.az0=0
 nonempty:e.azZ≠[]
 eu:aAa e.eu=true\/e.eu=[]
 dC:aAa e.dC=true\/e.dC=[]
 aAb:0<=e.aAb/\e.aAb<=1073741824
 aAc:1<=e.aAc/\e.aAc<=3
def oo{e:En}(h:dx e=0):ail e:=by
 simp only[dx]at h;split at h;.rename_i a;exact absurd h a
 rename_i a;split at h;.rename_i c;exact absurd h c
 rename_i c;split at h;.simp at h
 rename_i d;split at h;.rename_i f;exact absurd h f
 split at h;.rename_i g;exact absurd h g
 split at h;.simp at h
 rename_i b;split at h;.simp at h
 rename_i i;simp only[qx,xo,aZ,dG,gN,gA,nE]at d;simp only[named,xo,aZ,iR,ez]at b;exact⟨by simpa using a,by simpa using c,d.1.1,b.1.symm,b.2.symm,⟨by omega,by omega⟩,⟨by omega,by omega⟩⟩
def yF(h:aAa k=θ\/k=[]):Y k<=24:=by
 rcases h with h|rfl;.cases k with|nil=>simp|cons c r=>simp only[aAa,aZ,bE]at h;exact h.1.1
 simp
def zU(h1:Y s<2^30)(a:bo s<2^30):aAf s<2^63:=by have:=Q5 s;omega
def Dn:∀f:List It,(∀x∈f,cP Z x=θ)->bo f<=aAf f+64*Y f:=by
 intro f;induction f with
 |nil=>intro _;simp[bo]
 |cons x f ih =>
 intro h;have j:=ih λy i=>h y (by simp[i]);have a:=h x (by simp);have g:aAf (x::f)=wid x+aAf f:=by simp[aAf]
 have k:Y x.azX<=wid x+64:=by
  simp only[cP]at a;by_cases b:x.azT=1;.simp[wid,b]
  rw[aw b]at a;by_cases d:x.azT=5;.rw[aQ d]at a;simp only[aZ]at a;have:=yF (.inl a.1);omega
  rw[aw d]at a;by_cases e:x.azT=2\/x.azT=4;.rw[aQ e]at a;simp only[aZ,fB,mz,bE]at a;omega
  rw[aw e]at a;by_cases c:x.azT=3;.rw[aQ c]at a;simp only[aZ]at a;have:=yF (.inl a.1.1);omega
  rw[aw c]at a;simp at a
 simp only[bo,ae,g];omega
def sA(h1:Y s<2^30)(k:bo s<2^30)(h:dq s=0):Y (aAh s).1<4294967296:=by
 have j:=(ry (zU h1 k)).1 h;have d:=oR s [] j.2.2;have b:∀s:List It,(∀x∈s,cP Z x=θ)->Y (s.flatMap dP)<=4*bo s+30*Y s:=by
  intro s;induction s with
  |nil=>intro _;simp
  |cons x s ih =>
  intro h;have n:=ih λy l=>h y (by simp[l]);have a:=h x (by simp);have c : -9223372036854775808<=x.id/\x.id<=9223372036854775807:=by
   simp only[cP]at a;by_cases e:x.azT=1;.rw[aQ e]at a;simp only[aZ,ez]at a;omega
   rw[aw e]at a;by_cases g:x.azT=5;.rw[aQ g]at a;simp only[aZ,ez]at a;omega
   rw[aw g]at a;by_cases i:x.azT=2\/x.azT=4;.rw[aQ i]at a;simp only[aZ,bE]at a;omega
   rw[aw i]at a;by_cases f:x.azT=3;.rw[aQ f]at a;simp only[aZ,bE]at a;omega
   rw[aw f]at a;simp at a
  have m:=uJ x c;simp only[fK,ah,bo,ae];omega
 have:=b s d;have o:=Dn s d;simp only[aAh,h,gA,gu,bw];omega
def z8{o:aV}(a:o.azU)(h:fc o=0):kt (dJ o)=(o,1,⟨[],G⟩):=by
 have F:=tO h;have c:dq o.azV.azZ=0:=by
  have:=(oo F.aAi).azZ;rcases F.azT with k|k;.simpa[aAi,k]using this
  simpa[aAi,k,aAd]using this
 have N:parse (aAh o.azV.azZ).1=(o.azV.azZ,0,0):=DZ (zU a.azV.azZ a.azV.lC) c;have Q:=sA a.azV.azZ a.azV.lC c;have W:=a.azV.cM;have sH:=a.azV.next;have U:=F.N5;have X:=F.time;have V:=F.bS;have p:=F.azW;have C:=F.azT;have H:∀(rest:aR),(Rb.mk ([1,ll o.azT]++rest) G).azW 1=(1,⟨[ll o.azT]++rest,G⟩):=λrest=>by have:=nJ (w:=[1]) (rest:=[ll o.azT]++rest) (bad:=G) (n:=1) rfl;simpa[iL]using this
 have u:∀(rest:aR),(Rb.mk ([ll o.azT]++rest) G).azW 1=(o.azT,⟨rest,G⟩):=λrest=>by rw[nJ (w:=[ll o.azT]) (n:=1) rfl,BO (by omega)]
 have y:∀(rest:aR),(Rb.mk (G4 o.aY.time++rest) G).azW 4=(o.aY.time,⟨rest,G⟩):=λrest=>by rw[nJ (gz _),FK (by omega)]
 have M:∀(rest:aR),(Rb.mk ([ll o.aY.bS]++rest) G).azW 1=(o.aY.bS,⟨rest,G⟩):=λrest=>by rw[nJ (w:=[ll o.aY.bS]) (n:=1) rfl,BO (by omega)]
 have D:∀(rest:aR),(Rb.mk (wm o.aY.azW++rest) G).azW 2=(o.aY.azW,⟨rest,G⟩):=λrest=>by rw[nJ (iU _),NJ (by omega)]
 have P:∀(rest:aR),(Rb.mk ([ll o.az1.length]++rest) G).azW 1=((o.az1.length:Int),⟨rest,G⟩):=λrest=>by rw[nJ (w:=[ll o.az1.length]) (n:=1) rfl,BO (by omega)]
 have A:∀(rest:aR),Rb.az8 o.az1.length (Rb.mk (o.az1.flatMap wm++rest) G)=(o.az1,⟨rest,G⟩):=λrest=>Sr _ _ _ λn p=>by have:=F.az1 n p;omega
 have B:dJ o=[1,ll o.azT]++(G4 o.aY.time++([ll o.aY.bS]++(wm o.aY.azW++([ll o.az1.length]++(o.az1.flatMap wm ++
   (fH (aAh o.azV.azZ).1++(fH o.azV.cM++(fH o.azV.next ++
   (if o.azT=1 then fH (aAh o.azV.az0).1++fH o.azV.eu++fH o.azV.dC++G4 o.azV.aAb++[ll o.azV.aAc]else[]))))))))):=by simp only[dJ,aO]
 rw[B];generalize j:(if o.azT=1 then fH (aAh o.azV.az0).1++fH o.azV.eu++fH o.azV.dC++G4 o.azV.aAb++[ll o.azV.aAc]else[])=R;simp only[kt,H,u,y,M,D,P,ak,A,Ep Q N,zO (show o.azV.cM.length<4294967296 by omega),zO (show o.azV.next.length<4294967296 by omega)];obtain⟨⟨t,f,n⟩,k,⟨K,i,J,z,l,b,g,e⟩,sn⟩:=o;simp only at *;rcases C with rfl|rfl
 .rw[aQ rfl]at j |-;have T:dx ⟨K,i,J,z,l,b,g,e⟩=0:=by simpa[aAi]using F.aAi
  have E:=oo T;have d:parse (aAh i).1=(i,0,0):=DZ (zU a.azV.az0 a.azV.td) E.az0;have q:=sA a.azV.az0 a.azV.td E.az0;have I:=yF E.eu;have r:=yF E.dC;have O:=E.aAb;have L:=E.aAc;simp only at d q I r O L;have s:∀(rest:aR),(Rb.mk (G4 g++rest) G).azW 4=(g,⟨rest,G⟩):=λrest=>by rw[nJ (gz _),FK (by omega)]
  have x:(Rb.mk [ll e] G).azW 1=(e,⟨[],G⟩):=by have:=nJ (w:=[ll e]) (rest:=[]) (bad:=G) (n:=1) rfl;rw[BO (by omega)]at this;simpa using this
  have v:R=fH (aAh i).1++(fH l++(fH b++(G4 g++[ll e]))):=by rw[<- j];simp only[aO]
  rw[v];simp only[Ep q d,zO (show l.length<4294967296 by omega),zO (show b.length<4294967296 by omega),s,x]
 rw[aw (by decide)]at j |-;subst j;have m:=F.bare rfl;simp only[En.mk.injEq,km]at m;obtain⟨rfl,rfl,rfl,rfl,rfl⟩:=m;rfl
def yU(a:R.azU)(h:fc R=0):decode (dJ R)=(R,0):=by
 have b:az6 R=(dJ R,0):=by simp[az6,h]
 simp only[decode,z8 a h,b];simp
def aau:Y (dh Q w)<=Y Q+Y w:=by have b:=zq (az8 w) (az8 Q);have c:=tP Q;have a:=tP w;simp only[dh];omega
def Nk(h:cz [] s=0)(h1:Y s<=100)(a:bo s<=900):dq s=0:=by have:=Q5 s;exact(ry (by omega)).2 ⟨by omega,by omega,h⟩
def Kj:gW:=[[],[83,97,118,101],[114,101,100,32,99,97,114],[120]]
def AS:gW:=[[],[97,110,110],[98,111,98],[112],[113]]
def Qp:∀s∈Kj,(parse s).2.2=0/\Y s<=7:=by decide +kernel
def D8:∀s∈AS,named s=θ/\Y s<=3:=by decide +kernel
structure NN (e:En):Prop where
 ok:dx e=0
 Ui:e.azZ.length<=40
 NZ:bo e.azZ<=400
 Uc:e.az0.length<=100
 NX:bo e.az0<=900
 prev:e.cM.length<=7
 next:e.next.length<=7
 eu:e.eu.length<=3
 dC:e.dC.length<=3
def Qh(h:cP K P=θ):0<=P.id/\P.id<=999:=by
 simp only[cP]at h;split at h;.simp only[aZ,ez]at h;omega
 split at h;.simp only[aZ,ez]at h;omega
 split at h;.simp only[aZ,bE]at h;omega
 split at h;.simp only[aZ,bE]at h;omega
 simp at h
def Mh(h:dq s=0):∀x∈s,0<=x.id/\x.id<=999:=by
 simp only[dq]at h;split at h;.simp at h
 intro x a;exact Qh (oR s [] h x a)
def QC{e:En}(h:dx e=0):dq e.azZ=0/\dq e.az0=0:=⟨(oo h).azZ,(oo h).az0⟩
def Z0{a r:aR}{o:Int}(d:cz [] s=0)(g:cz [] t=0)(H:s≠[])(D:Y s<=40)(I:bo s<=400)(B:Y t<=100)(w:bo t<=900) (u:k∈Kj) (p:q∈Kj) (n:a∈AS) (m:r∈AS) (L:0<=U/\U<=1073741824) (K:1<=o/\o<=3):NN ⟨kc s t,k6 s t,k,q,a,r,U,o⟩:=by
 have c:Y (dh s t)<=999:=by have:=aau s t;omega
 obtain⟨f,e⟩:=KP d g c;have j:=BK s t;have E:cz [] (kc s t)=0:=by rw[f];exact Bw c j.1 d
 have x:cz [] (k6 s t)=0:=by rw[e];exact Bw c j.2 g
 have l:Y (kc s t)=Y s:=by rw[f,aa]
 have z:Y (k6 s t)=Y t:=by rw[e,aa]
 have J:bo (kc s t)=bo s:=by rw[f,FU]
 have A:bo (k6 s t)=bo t:=by rw[e,FU]
 obtain⟨y,F⟩:=aez d g c;have v:dq (kc s t)=0:=Nk E (by omega) (by omega);have C:dq (k6 s t)=0:=Nk x (by omega) (by omega);have b:Y (kc s t)≠0:=by rw[l];exact λh=>H (cd h)
 have i:qx ⟨kc s t,k6 s t,k,q,a,r,U,o⟩=θ:=by simp only[qx,y,F,BA.2 rfl,dB,dG,gN,gA];exact b
 refine⟨?_,by simp only[l];exact D,by simp only[J];exact I,by simp only[z];exact B,by simp only[A];exact w,(Qp k u).2,(Qp q p).2,(D8 a n).2,(D8 r m).2⟩;simp only[dx,v,C,i,(Qp k u).1,(Qp q p).1,(D8 a n).1,(D8 r m).1,gA,gu,bw,ar7,wi];rw[aw (by omega)]
def NN.azU{e:En}(h:NN e):e.azU:=by
 have:=QC h.ok;have d:=h.Ui;have g:=h.NZ;have b:=h.Uc;have c:=h.NX;have i:=h.prev;have f:=h.next;refine⟨by omega,by omega,by omega,by omega,by omega,by omega,λx a=>?_⟩;rcases bW.1 a with a|a;.have:=Mh this.1 x a;omega
 have:=Mh this.2 x a;omega
structure ajt (o:aV):Prop where
 ok:fc o=0
 off:o.aY.bS<3
 src:cz [] o.azV.azZ=0
 Ui:o.azV.azZ.length<=40
 NZ:bo o.azV.azZ<=400
 azU:o.azU
 Uc:o.azV.az0.length<=100
 NX:bo o.azV.az0<=1200
 ctx:o.azV.cM.length<=7/\o.azV.next.length<=7/\o.azV.eu.length<=3/\o.azV.dC.length<=3
def sg(e:En):En:=⟨e.azZ,[],e.cM,e.next,[],[],0,0⟩
def aik(h:cz [] s=0):∀x∈s,0<=x.id/\x.id<=999:=λx a=>Qh (oR s [] h x a)
structure bO where
 azW:Int
 az5:Int
 azS:List aV
 log:aR
 aAe:Int
 down:Bool
variable{B:bO}
def bO.azR(o:bO):aB:=[.i .i64 o.azW,.i .i64 o.az5,.sl 13 (o.azS.map aV.azR),.sl 1 (aN o.log),.i .i64 o.aAe,.b o.down]
def bO.zero:bO:=⟨0,0,[],[],0,G⟩
structure bO.azU (o:bO):Prop where
 azS:∀x∈o.azS,x.azU
 len:o.azS.length<2^30
 log:o.log.length<2^30
def Fh:bO×Int:=if i<0\/8<=i then(.zero,1)else(⟨i,0,[],[],0,G⟩,0)
def dH(b:aV):Int:=wj [gJ T.aY.bS b.aY.bS,gJ T.aY.azW b.aY.azW]
def G2:UInt8:=UInt8.ofNat (IntKind.u8.wrap i).toNat
def G1:((G2 i).toNat:Int)=IntKind.u8.wrap i:=by
 have h:IntKind.u8.wrap i=i % 256:=by simp only[IntKind.wrap,IntKind.bits,IntKind.signed];rfl
 rw[G2,h];have a:(i % 256).toNat<256:=by omega
 simp only[qN];omega
def pk:aR:=[G2 (i.fdiv (2^24)),G2 (i.fdiv (2^16)),G2 (i.fdiv (2^8)),G2 i]
def qq:Int :=IntKind.u32.wrap (IntKind.u32.wrap ((BitVec.ofInt IntKind.u32.bits i ^^^ BitVec.ofInt IntKind.u32.bits (IntKind.u32.wrap (F.toNat:Int))).toNat:Int)*16777619)
def mU:Int:=p.foldl qq i
def FF:aR:=pk (mU (mU 2166136261 (pk (IntKind.u32.wrap (Y p:Int)))) p)
def tx(log p:aR):aR×Int :=if 65536<Y p\/4194304<Y log+8+Y p then([],3)else(log++pk (IntKind.u32.wrap (Y p:Int))++FF p++p,0)
def lO:Y (pk i)=4:=rfl
def BZ(b:aR):En:=⟨[⟨1,p,0⟩],[⟨1,b,0⟩],[],[],[],[],0,1⟩
def rD:aR:=pk (IntKind.u32.wrap (Y p:Int))++FF p++p
def kq:Y (rD p)=8+Y p:=by simp only[rD,FF,ah,lO]
def V2{log p:aR}(h1:Y p<=60000)(a:Y log<=4000000):tx log p=(log++rD p,0):=by rw[tx,aw (by omega),rD];simp
def Ky(h:fc R=0):az6 R=(dJ R,0):=by simp[az6,h]
def ku(o:bO)(x:aV)(m:Nat):bO :=⟨o.azW,if o.az5<x.aY.time then x.aY.time else o.az5,o.azS.take m++x::o.azS.drop m,o.log++rD (dJ x),o.aAe,o.down⟩
def nG:aV:=⟨⟨0,0,0⟩,0,⟨[],[],[],[],[],[],0,0⟩,[]⟩
structure Let where
 src:Int
 dst:Int
 op:aV
def Let.azR(x:Let):aB:=.i .i64 x.src::.i .i64 x.dst::x.op.azR
def cF:aB:=[.i .i64 L.1,.i .i64 L.2]
structure Net where
 an:List bO
 ax:List Let
 cw:gh
def Net.azR(n:Net):aB:=[.sl 6 (n.an.map bO.azR),.sl 15 (n.ax.map Let.azR),.sl 2 (n.cw.map cF)]
def Net.zero:Net:=⟨[],[],[]⟩
structure Net.azU (n:Net):Prop where
 aK:∀o∈n.an,o.azU
 uE:n.an.length<2^30
 azS:∀x∈n.ax,x.op.azU
 pT:n.ax.length<2^30
 um:n.cw.length<2^30
structure Ev where
 azT:Int
 a:Int
 b:Int
 n:Int
 azV:En
def Ev.azR(e:Ev):aB:=.i .i64 e.azT::.i .i64 e.a::.i .i64 e.b::.i .i64 e.n::e.azV.azR
def gj(b:Int):Int×Int:=(if b<i then b else i,if i<b then b else i)
def LK:Bool:=decide (0<=i)&&decide (i<J)
def mO(n:Net)(a b:Int):Bool:=n.cw.any λc=>c==gj a b
def kh(n:Net)(e:Ev):Bool :=if e.azT=1\/e.azT=2\/e.azT=9\/e.azT=10\/e.azT=11 then LK e.a (Y n.an)
 else if e.azT=3\/e.azT=7\/e.azT=8 then LK e.a (Y n.an)&&LK e.b (Y n.an)
 else if e.azT=4\/e.azT=5\/e.azT=6 then LK e.n (Y n.ax)
 else G
def oh:Int×Int:=(T.aY.bS,T.aY.azW)
def HB(a:gh)(k:Int×Int):gh:=if k∈a then a else a++[k]
def kV:V:=.agg [.i .i64 L.1,.i .i64 L.2]
def uk(a:gh):List (V×V):=a.map λk=>(kV k,.agg [])
def aeQ{a:gh}{q:Int×Int}:q∈HB a D<->q=D\/q∈a:=by
 unfold HB;split;.rename_i h;exact⟨.inr,λb=>b.elim (λe=>e▸h) id⟩
 simp[or_comm]
def ac2:∀(b:gh) (q:Int×Int),q∈l.foldl (λb o=>HB b (oh o)) b<->q∈b\/∃o∈l,oh o=q:=by
 induction l with
 |nil=>simp
 |cons o l ih =>
 intro b q;rw[bH,ih,aeQ];constructor
 .rintro((rfl|h)|⟨p,a,c⟩);.exact .inr ⟨o,by simp,rfl⟩
  .exact .inl h
  exact .inr ⟨p,by simp[a],c⟩
 rintro(h|⟨p,a,c⟩);.exact .inl (.inr h)
 rcases bd.1 a with rfl|a;.exact .inl (.inl c.symm)
 exact .inr ⟨p,a,c⟩
def eqK(q:Int×Int):eQ 3 (kV L) (kV q)=S (L.1==q.1&&L.2==q.2):=by simp[eQ,kV,Oy]
def Ku:∀{f:gh} {n:Nat},D ∉ f->kL 3 (kV D) (uk f) n=S Z:=by
 intro f;induction f with
 |nil=>intro n _;rfl
 |cons q f ih =>
 intro n h;simp only[bd,Bb]at h;have e:(D.1==q.1&&D.2==q.2)=G:=by rcases D with⟨a,b⟩;rcases q with⟨c,d⟩;simp only[bm]at h;cases g:(a==c)<;>cases i:(b==d)<;>simp_all
 simp only[uk,aI,kL,eqK,e];exact ih h.2
def Ks:∀{f:gh} {n:Nat},D∈f->∃i,kL 3 (kV D) (uk f) n=S (S (n+i,.agg []))/\(uk f)[i]?=S (kV D,.agg []):=by
 intro f;induction f with
 |nil=>intro n h;simp at h
 |cons q f ih =>
 intro n h;by_cases e:D=q;.subst e;exact⟨0,by simp[uk,kL,eqK],by simp[uk]⟩
 have k:(D.1==q.1&&D.2==q.2)=G:=by rcases D with⟨a,b⟩;rcases q with⟨c,d⟩;simp only[bm]at e;cases g:(a==c)<;>cases j:(b==d)<;>simp_all
 have h:D∈f:=by
  rcases bd.1 h with h|h;.exact absurd h e
  exact h
 obtain⟨i,g,j⟩:=ih (n:=n+1) h;refine⟨i+1,?_,by simpa[uk]using j⟩;simp only[uk,aI,kL,eqK,k];rw[show n+(i+1)=n+1+i by omega];exact g
def aed(a:gh)(k:Int×Int): (k ∉ a/\kL 3 (kV k) (uk a) 0=S Z/\uk a++[(kV k,.agg [])]=uk (HB a k)) \/(k∈a/\∃i,kL 3 (kV k) (uk a) 0=S (S (i,.agg []))/\(uk a).set i (kV k,.agg [])=uk (HB a k)):=by
 by_cases h:k∈a;.obtain⟨i,b,d⟩:=Ks (n:=0) h;rw[aG]at b;refine .inr ⟨h,i,b,?_⟩;rw[HB,aQ h];obtain⟨e,c⟩:=ag.1 d;rw[<- c,yl]
 exact .inl ⟨h,Ku h,by simp[HB,aw h,uk]⟩
structure sI {α:Type} (c:α->α->Int):Prop where
 mY:∀a b,c b a = - c a b
 trans:∀a b d,0<=c a b->0<=c b d->0<=c a d
def sI.self{b:Type}{c:b->b->Int}(h:sI c)(a:b):c a a=0:=by have:=h.mY a a;omega
def sI.gt{e:Type}{c:e->e->Int}(h:sI c){a b d:e}(h1:0<c a b)(k:0<c b d):0<c a d:=by
 have g:=h.trans a b d (by omega) (by omega);rcases(by omega:0<c a d\/c a d=0)with f|f;.exact f
 have l:=h.mY a d;have j:=h.trans d a b (by omega) (by omega);have i:=h.mY d b;omega
def sI.on{e d:Type}{c:d->d->Int}(h:sI c)(f:e->d):sI λa b=>c (f a) (f b) :=⟨λ_ _=>h.mY _ _,λ_ _ _=>h.trans _ _ _⟩
def vL{e:Type}(c d:e->e->Int)(a b:e):Int:=if c a b≠0 then c a b else d a b
def sI.lex{i:Type}{c d:i->i->Int}(h:sI c)(k:sI d):sI (vL c d):=by
 refine⟨λa b=>?_,λa b e f g=>?_⟩;.have f:=h.mY a b;have g:=k.mY a b;simp only[vL];split<;>split<;>omega
 have p:=h.mY a b;have q:=h.mY b e;have m:=h.trans a b e;have s:=h.trans e a b;have r:=h.mY e b;have o:=h.mY a e;have j:=h.trans b e a;have l:=h.mY b a;have n:=k.trans a b e;simp only[vL]at f g |-;split at f<;>split at g<;>split<;>omega
def qo:sI gJ:=by refine⟨λa b=>?_,λa b d=>?_⟩<;>simp only[gJ]<;>(repeat' split)<;>omega
def H8{a b:UInt8}:a<b<->a.toNat<b.toNat:=QK
def iv:sI jN:=by
 have j:∀a b,jN b a = - jN a b:=by
  intro a;induction a with
  |nil=>intro b;cases b<;>simp[jN]
  |cons x a ih =>
  intro b;cases b with
  |nil=>simp[jN]
  |cons y b =>
  simp only[jN,ih];by_cases e:x<y
  .have c:¬y<x:=by rw[H8]at *;omega
   simp[e,c]
  by_cases c:y<x<;>simp[e,c]
 refine⟨j,?_⟩;intro a;induction a with
 |nil =>
  intro b d e c;cases b with
  |nil=>exact c
  |cons y b=>simp[jN]at e
 |cons x a ih =>
 intro b d e c;cases d with
 |nil=>simp[jN]
 |cons z d =>
 cases b with
 |nil=>simp[jN]at c
 |cons y b =>
 simp only[jN]at e c |-;by_cases f:x<y;.simp[f]at e
 by_cases g:y<z;.simp[g]at c
 rw[aw f]at e;rw[aw g]at c;have i:¬x<z:=by rw[H8]at *;omega
 rw[aw i];by_cases h:z<x;.rw[aQ h];decide
 rw[aw h];have k:¬y<x:=by rw[H8]at *;omega
 have l:¬z<y:=by rw[H8]at *;omega
 rw[aw k]at e;rw[aw l]at c;exact ih b d e c
def oS:∀{a b:aR},jN a b=0<->a=b:=by
 intro a;induction a with
 |nil=>intro b;cases b<;>simp[jN]
 |cons x a ih =>
 intro b;cases b with
 |nil=>simp[jN]
 |cons y b =>
 simp only[jN];by_cases c:x<y
 .have:x≠y:=by rintro rfl;rw[H8]at c;omega
  simp[c,this]
 by_cases d:y<x
 .have:x≠y:=by rintro rfl;rw[H8]at d;omega
  simp[c,d,this]
 have:x=y:=by rw[H8]at c d;exact rm.1 (by omega)
 simp[c,d,this,ih]
def Bp:iq=vL (λa b=>gJ a.aY.bS b.aY.bS) (vL (λa b=>gJ a.aY.azW b.aY.azW) (vL (λa b=>gJ a.aY.time b.aY.time) (vL (λa b=>gJ a.azT b.azT) λa b=>jN (az6 a).1 (az6 b).1))):=by funext a b;simp only[iq,wj,vL];(repeat' split)<;>omega
def lu:sI iq:=by rw[Bp];exact(qo.on (λs:aV=>s.aY.bS)).lex ((qo.on (λs:aV=>s.aY.azW)).lex ((qo.on (λs:aV=>s.aY.time)).lex ((qo.on (λs:aV=>s.azT)).lex (iv.on (λo:aV=>(az6 o).1)))))
def kN:∀(x y:aR),Op.bytesLess x y=decide (jN x y<0)
 |[],[]=>rfl
 |[],_::_=>rfl
 |_::_,[]=>rfl
 |a::x,b::y=>by
  simp only[Op.bytesLess,jN];by_cases c:a<b;.simp[c]
  by_cases d:b<a
  .have:a≠b:=by rintro rfl;exact c d
   simp[c,d,this]
  have e:a=b:=UInt8.le_antisymm (aaD.1 d) (aaD.1 c);subst e;simp[c,kN x y]
def wI:∀{x y:aR},x<y<->jN x y<0
 |[],[]=>by simp[jN]
 |[],_::_=>by simp[jN]
 |_::_,[]=>by simp[jN]
 |a::x,b::y=>by
  rw[List.cons_lt_cons_iff,wI (x:=x) (y:=y)];simp only[jN];by_cases c:a<b;.simp[c]
  by_cases d:b<a
  .have:a≠b:=by rintro rfl;exact c d
   simp[c,d,this]
  have e:a=b:=UInt8.le_antisymm (aaD.1 d) (aaD.1 c);subst e;simp[c]
def Eb(x y:aR):leB x y=decide (jN x y<=0):=by have h:(x<=y)<->¬(y<x):=QK;have a:=iv.mY x y;simp only[leB,aeX,h,wI];omega
def mA{x y z:aR}(h1:jN x y<0)(f:jN y z<0):jN x z<0:=by have c:=iv.mY x y;have g:=iv.mY y z;have e:=iv.mY x z;have:=iv.gt (a:=z) (b:=y) (d:=x) (by omega) (by omega);omega
def oQ:Prop:=l.Pairwise λa b=>jN (cX a) (cX b)<0
def nz(k:aR):List aV->Option aV|[]=>Z|x::r=>if cX x=k then S x else nz k r
def u4{k:aR}:∀{l:List aV},(∀x∈l,cX x≠k)->nz k l=Z|[],_=>rfl|x::r,h=>by simp only[nz];rw[aw (h x (by simp))];exact u4 λy a=>h y (by simp[a])
def FM:∀{a b:List aV},oQ a->oQ b->(∀k,nz k a=nz k b)->a=b
 |[],[],_,_,_=>rfl
 |[],y::b,_,_,h=>by have:=h (cX y);simp[nz]at this
 |x::a,[],_,_,h=>by have:=h (cX x);simp[nz]at this
 |x::a,y::b,ha,hb,h=>by
  have n:=ha;have o:=hb;simp only[oQ,cy]at ha hb;have m:cX x=cX y:=by
   rw[<- oS];have p:=iv.mY (cX x) (cX y);by_cases j:jN (cX x) (cX y)<0
   .have d:=h (cX x);have i:nz (cX x) (y::b)=Z:=u4 λz c e=>by
     rcases bd.1 c with rfl|c;.rw[e,iv.self]at j;omega
     have:=mA j (hb.1 z c);rw[e,iv.self]at this;omega
    rw[i]at d;simp[nz]at d
   by_cases l:jN (cX y) (cX x)<0
   .have d:=h (cX y);have i:nz (cX y) (x::a)=Z:=u4 λz c e=>by
     rcases bd.1 c with rfl|c;.rw[e,iv.self]at l;omega
     have:=mA l (ha.1 z c);rw[e,iv.self]at this;omega
    rw[i]at d;simp[nz]at d
   omega
  have g:x=y:=by have d:=h (cX x);simp only[nz,aU,m]at d;exact fO d
  subst g;congr 1;refine FM ha.2 hb.2 λk=>?_;by_cases f:cX x=k
  .subst f;rw[u4 λz c e=>?_,u4 λz c e=>?_];.have:=hb.1 z c;rw[e,iv.self]at this;omega
   have:=ha.1 z c;rw[e,iv.self]at this;omega
  have:=h k;simpa only[nz,aw f]using this
def AP{m:List (aR×aV)}(k:aR):∀(a:gW),(∀k∈a,∃o,jM k m=S o/\cX o=k)->nz k (a.filterMap λk=>jM k m)=if k∈a then jM k m else Z
 |[],_=>by simp[nz]
 |x::a,h=>by
  obtain⟨o,c,d⟩:=h x (by simp);have ih:=AP k a λy f=>h y (by simp[f]);simp only[nZ,c,nz,d];by_cases b:x=k;.subst b;simp[c]
  rw[aw b,ih];have:¬k=x:=λe=>b e.symm;simp[this]
def QP(h:jM k (iE X)=S R):cX R=k:=(zH (Nj h)).1.symm
def FW:∀k∈lZ X,∃o,jM k (iE X)=S o/\cX o=k:=by intro k b;obtain⟨o,a⟩:=zi b;exact⟨o,a,QP a⟩
def uO(l:List aV):nz p (current l)=jM p (iE l):=by
 have e:current l=(lZ l).filterMap λp=>jM p (iE l):=rfl;rw[e,AP p _ FW];by_cases h:p∈lZ l;.rw[aQ h]
 rw[aw h];have:p ∉ (iE l).map (·.1):=λa=>h ((qt l).mem_iff.2 a);exact(Ni.2 this).symm
def Lk:(lZ l).Pairwise λa b=>jN a b<0:=by
 have d:(lZ l).Pairwise λa b=>leB a b=θ:=asS (le:=leB) (λa b c d f=>by
  rw[Eb,bE]at d f |-;have m:=iv.mY a b;have o:=iv.mY b c;have n:=iv.mY a c;by_cases i:jN a b=0;.rw[oS]at i;subst i;exact f
  by_cases g:jN b c=0;.rw[oS]at g;subst g;exact d
  have:=mA (x:=a) (y:=b) (z:=c) (by omega) (by omega);omega) (λa b=>by rw[Eb,Eb,iR,bE,bE];have:=iv.mY a b;omega) _;have f:(lZ l).Nodup:=(qt l).nodup_iff.2 (B6 l);refine(d.and f).imp λ{a b} h=>?_;obtain⟨j,k⟩:=h;rw[Eb,bE]at j;have:jN a b≠0:=λe=>k (oS.1 e);omega
def pairwise_filterMap{m:List (aR×aV)}:∀(c:gW),(∀k∈c,∃o,jM k m=S o/\cX o=k)->c.Pairwise (λa b=>jN a b<0)->oQ (c.filterMap λk=>jM k m)|[],_,_=>by simp[oQ]|x::c,h,hp=>by obtain⟨o,g,i⟩:=h x (by simp);rw[cy]at hp;have f:∀k∈c,∃o,jM k m=S o/\cX o=k:=λy n=>h y (by simp[n]);have ih:=pairwise_filterMap c f hp.2;simp only[nZ,g];simp only[oQ,cy]at ih |-;refine⟨λz d=>?_,ih⟩;obtain⟨k,e,d⟩:=V9.1 d;obtain⟨p,j,l⟩:=f k e;rw[j]at d;simp only[ab]at d;subst d;rw[i,l];exact hp.1 k e
def vU:oQ (current l):=pairwise_filterMap _ FW (Lk l)
def xW(o:aV):List aV->List aV|[]=>[o]|x::r=>if jN (cX x) (cX o)<0 then x::xW o r else if cX x=cX o then(if lp o x=θ then o::r else x::r)else o::x::r
def wx:List aV:=if cX T=[]then l else xW T l
def Aa:List aV:=if 1024<Y l then[]else l.foldl wx []
def JZ{o z:aV}:∀{l:List aV},z∈xW o l->z=o\/z∈l
 |[],h=>by simp[xW]at h;exact .inl h
 |x::r,h=>by
  simp only[xW]at h;split at h
  .rcases bd.1 h with rfl|h;.exact .inr (by simp)
   rcases JZ h with h|h;.exact .inl h
   exact .inr (by simp[h])
  split at h
  .split at h
   .rcases bd.1 h with h|h;.exact .inl h
    exact .inr (by simp[h])
   exact .inr h
  rcases bd.1 h with h|h;.exact .inl h
  exact .inr h
def XQ{o:aV}:∀{l:List aV},oQ l->oQ (xW o l)
 |[],_=>by simp[xW,oQ]
 |x::r,h=>by
  have f:=h;simp only[oQ,cy]at h;have g:=iv.mY (cX x) (cX o);simp only[xW];split
  .rename_i c;have ih:=XQ (o:=o) (l:=r) h.2;simp only[oQ,cy]at ih |-;refine⟨λz a=>?_,ih⟩;rcases JZ a with rfl|a;.exact c
   exact h.1 z a
  rename_i c;split
  .rename_i b;split;.simp only[oQ,cy];exact⟨λz a=>by rw[<- b];exact h.1 z a,h.2⟩
   exact f
  rename_i b;simp only[oQ,cy];have d:jN (cX o) (cX x)<0:=by have:jN (cX x) (cX o)≠0:=λe=>b (oS.1 e);omega
  refine⟨λz a=>?_,h.1,h.2⟩;rcases bd.1 a with rfl|a;.exact d
  exact mA d (h.1 z a)
def better(a:Option aV)(o:aV):Option aV:=match a with|none=>S o|some w=>if lp o w=θ then S o else S w
def SR{o:aV}(k:aR):∀{l:List aV},oQ l->nz k (xW o l)=if cX o=k then better (nz k l) o else nz k l
 |[],_=>by simp only[xW,nz,better]
 |x::r,h=>by
  have j:=h;simp only[oQ,cy]at h;have m:=iv.mY (cX x) (cX o);simp only[xW];split
  .rename_i f;have ih:=SR (o:=o) k h.2;simp only[nz];by_cases b:cX x=k
   .have:¬cX o=k:=λe=>by rw[e,b,iv.self]at f;omega
    rw[aQ b,aw this,aQ b]
   rw[aw b,ih,aw b]
  rename_i f;split
  .rename_i c;by_cases a:cX o=k
   .have b:cX x=k:=c.trans a;simp only[nz,b,aQ a,better,aU];split;.simp only[nz,aQ a]
    simp only[nz,aQ b]
   have b:¬cX x=k:=λe=>a (c.symm.trans e);simp only[nz,aw b,aw a];split;.simp only[nz,aw a]
   simp only[nz,aw b]
  rename_i c;have g:jN (cX o) (cX x)<0:=by have:jN (cX x) (cX o)≠0:=λe=>c (oS.1 e);omega
  by_cases a:cX o=k
  .have i:nz k (x::r)=Z:=u4 λz d e=>by
    rcases bd.1 d with rfl|d;.exact c (e.trans a.symm)
    have:=mA g (h.1 z d);rw[a,e,iv.self]at this;omega
   rw[aQ a,i];simp only[nz,aQ a,better]
  rw[aw a];simp only[nz,aw a]
def tz(m:List (aR×aV))(o:aV)(k:aR):jM k (jO m o)=if cX o=[]then jM k m else if cX o=k then better (jM k m) o else jM k m:=by
 simp only[jO];split;.rfl
 by_cases b:cX o=k
 .subst b;rw[aQ rfl];cases c:jM (cX o) m with
  |none=>simp[xZ,better]
  |some w =>
  simp only[better];split;.simp[xZ]
  exact c
 rw[aw b];have a:¬k=cX o:=λe=>b e.symm;split;.rw[xZ,aw a]
 split;.rw[xZ,aw a]
 rfl
def E8:∀(l:List aV) (a:List aV) (m:List (aR×aV)),oQ a->(∀k,nz k a=jM k m)->oQ (l.foldl wx a)/\∀k,nz k (l.foldl wx a)=jM k (l.foldl jO m)
 |[],_,_,h1,h2=>⟨h1,h2⟩
 |o::l,a,m,h1,h2=>by
  simp only[bH];refine E8 l _ _ ?_ λk=>?_
  .simp only[wx];split;.exact h1
   exact XQ h1
  rw[tz];simp only[wx];split;.exact h2 k
  rw[SR k h1,h2 k]
def Rv:Aa l=current l:=by
 refine FM ?_ (vU l) λk=>?_
 .simp only[Aa];split;.simp[oQ]
  exact(E8 l [] [] (by simp[oQ]) λk=>by simp[nz,r6]).1
 rw[uO];simp only[Aa,iE];split;.simp[nz,r6]
 exact(E8 l [] [] (by simp[oQ]) λk=>by simp[nz,r6]).2 k
def oH(k:aR):List aV->Nat|[]=>0|y::r=>if Op.bytesLess (cX y) k=θ then oH k r+1 else 0
def M3(k:aR):∀l:List aV,oH k l<=Y l|[]=>by simp[oH]|y::r=>by have:=M3 k r;simp only[oH,ae];split<;>omega
def SQ{o:aV}:∀{l:List aV},(∀y,l[oH (cX o) l]?=S y->cX y≠cX o)->xW o l=l.take (oH (cX o) l)++o::l.drop (oH (cX o) l)
 |[],_=>by simp[xW,oH]
 |y::r,h=>by
  simp only[xW,oH,kN,bE]at h |-;by_cases a:jN (cX y) (cX o)<0;.simp only[a,aU,bY,fe,kQ,aF]at h |-;rw[SQ h]
  simp only[a,bw,aC,ab,forall_eq',jE,oL,ay]at h |-;rw[aw h]
def SP{o y:aV}:∀{l:List aV},l[oH (cX o) l]?=S y->cX y=cX o->xW o l=if lp o y=θ then l.set (oH (cX o) l) o else l
 |[],h,_=>by simp at h
 |z::r,h,hk=>by
  simp only[xW,oH,kN,bE]at h |-;by_cases a:jN (cX z) (cX o)<0;.simp only[a,aU,bY,cT]at h |-;rw[SP h hk];split<;>rfl
  simp only[a,bw,aC,ab,cC]at h |-;subst h;rw[aQ hk]
def YO:Y (wx l T)<=Y l+1:=by
 have b:∀a:List aV,Y (xW T a)<=Y a+1:=by
  intro a;induction a with
  |nil=>simp[xW]
  |cons x a ih =>
  simp only[xW];repeat' split
  all_goals simp only[ae]at ih |-
  all_goals omega
 simp only[wx];split;.omega
 exact b l
def YN{o z:aV}(h:z∈wx X o):z=o\/z∈X:=by
 simp only[wx]at h;split at h;.exact .inr h
 exact JZ h
def afu(a b:cL):Bool:=a.time==b.time&&(a.bS==b.bS&&(a.azW==b.azW&&θ))
def abd{a b:cL}:afu a b=θ<->a=b:=by obtain⟨f,e,c⟩:=a;obtain⟨d,g,h⟩:=b;simp[afu]
def Fb(b:aV):Bool:=afu T.aY b.aY&&T.azT==b.azT&&Hv T.azV b.azV&&T.az1==b.az1
def vx:Fb R g=θ<->R=g:=by obtain⟨e,d,a,b⟩:=R;obtain⟨c,f,h,i⟩:=g;simp only[Fb,aZ,abd,Eu,ez,aV.mk.injEq,and_assoc]
def qj:List aV->List aV->Bool|[],[]=>θ|a::x,b::y=>Fb a b&&qj x y|_,_=>G
def pG:∀{a b:List aV},qj a b=θ<->a=b|[],[]=>by simp[qj]|a::x,b::y=>by simp[qj,vx,pG (a:=x) (b:=y)]|[],b::y=>by simp[qj]|a::x,[]=>by simp[qj]
def Y7:∀{a b:List aV},qj a b=θ->Y a=Y b:=λh=>by rw[pG.1 h]
def NB:∀(x y:aR),jN x y = -1\/jN x y=0\/jN x y=1
 |[],[]=>by simp[jN]
 |[],_::_=>by simp[jN]
 |_::_,[]=>by simp[jN]
 |a::x,b::y=>by
  simp only[jN];split;.simp
  split;.simp
  exact NB x y
def wF:Y (parse p).1<2^30/\bo (parse p).1<2^30/\∀x∈(parse p).1,-9223372036854775808<=x.id/\x.id<=9223372036854775807:=by
 by_cases h:(parse p).2.2=0
 .obtain⟨a,_,d,f⟩:=Er h;have c:cz [] (parse p).1=0:=by
   simp only[dq]at a;split at a;.simp at a
   exact a
  have g:=Dn (parse p).1 (oR (parse p).1 [] c);exact⟨by omega,by omega,λx b=>by have:=aik c x b;omega⟩
 have e:(parse p).1=[]:=by rw[<- DA]at h |-;exact zY _ _ _ _ _ h
 rw[e];exact⟨by decide,by decide,λx b=>by simp at b⟩
def aeI:∀(l:aR),∃m:Nat,iL l=m/\m<256^Y l:=by
 have gen:∀(l:aR) (n:Nat),∃m:Nat,l.foldl (λa x=>a*256+(x.toNat:Int)) (n:Int)=m/\m<(n+1)*256^Y l:=by
  intro l;induction l with
  |nil=>intro n;exact⟨n,rfl,by simp⟩
  |cons c l ih =>
  intro n;obtain⟨m,b,d⟩:=ih (n*256+c.toNat);refine⟨m,?_,?_⟩;.rw[<- b];simp
  have f:c.toNat<256:=c.toNat_lt;have:(n*256+c.toNat+1)*256^Y l<=((n+1)*256)*256^Y l:=cg _ (by omega);simp only[ae,aaF];have e:(n+1)*(256^Y l*256)=(n+1)*256*256^Y l:=by rw[ju (256^Y l),Nat.mul_assoc]
  omega
 intro l;obtain⟨m,b,d⟩:=gen l 0;exact⟨m,b,by simpa using d⟩
def yC(d:J<=4):0<=(h.azW J).1/\(h.azW J).1<2^(8*J):=by
 have b:Y (h.take J).1<=J:=by simp only[Rb.take];split<;>simp<;>omega
 obtain⟨m,a,g⟩:=aeI (h.take J).1;have c:256^Y (h.take J).1<=256^J:=zC (by decide) b;have e:(h.azW J).1=m:=a;have f:(256:Nat)^J=2^(8*J):=by rw[Nat.pow_mul]
 rw[e];constructor;.omega
 have:m<2^(8*J):=by omega
 exact_mod_cast this
def qv:Y (h.azW J).2.b<=Y h.b:=by simp only[Rb.azW,Rb.take];split<;>simp
def qT:Y h.azX.2.b<=Y h.b/\Y h.azX.1<=Y h.b:=by
 have d:=qv h 4;have e:h.azX=if(Y (h.azW 4).2.b:Int)<(h.azW 4).1 then([],⟨(h.azW 4).2.b,θ⟩)else(h.azW 4).2.take (h.azW 4).1.toNat:=rfl;rw[e];split;.exact⟨d,by simp⟩
 rename_i a;have c:¬Y (h.azW 4).2.b<(h.azW 4).1.toNat:=by omega
 simp only[Rb.take,aw c,bj,ca];omega
def zk:Y h.aAl.2.b<=Y h.b:=(qT h).1
def Ad:∀(n:Nat) (r:Rb),Y (Rb.az8 n r).2.b<=Y r.b/\Y (Rb.az8 n r).1=n|0,r=>⟨aM _,rfl⟩|n+1,r=>by have c:=qv r 2;have a:=Ad n (r.azW 2).2;simp only[Rb.az8,ae,a.2];exact⟨by omega,trivial⟩
def Es(h:cz [] s=0):Y (aAh s).1<=4*bo s+30*Y s:=by
 have b:=oR s [] h;have a:∀s:List It,(∀x∈s,cP Z x=θ)->Y (s.flatMap dP)<=4*bo s+30*Y s:=by intro s;induction s with|nil=>intro _;simp|cons x s ih =>intro h;have d:=ih λy c=>h y (by simp[c]);have f:=Qh (h x (by simp));have e:=uJ x (by omega);simp only[fK,ah,bo,ae];omega
 have:=a s b;simp only[aAh];split;.simp
 exact this
def ah1(h:ajt R):Y (dJ R)<=20000:=by
 have j:=Es h.src;have k:=h.Ui;have m:=h.NZ;have n:=h.Uc;have p:=h.NX;have o:=h.ctx;have F:=tO h.ok;have i:=F.N5;have g:∀l:bU,Y (l.flatMap wm)=2*Y l:=by intro l;induction l with|nil=>rfl|cons a r ih=>simp only[fK,ah,iU,ih,ae];omega
 have f:R.azT=1->Y (aAh R.azV.az0).1<=8000:=by
  intro d;have e:aAi R=R.azV:=by simp[aAi,d]
  have c:=F.aAi;rw[e]at c;have b:=(oo c).az0;simp only[dq]at b;split at b;.simp at b
  have:=Es b;omega
 simp only[dJ,fH,ah,gz,iU,ae,ai,g];split;.have:=f (by assumption);simp only[ah,gz,ae,ai];omega
 simp only[ai];omega
def jz:dH R g<0<->R.aY.bS<g.aY.bS\/(R.aY.bS=g.aY.bS/\R.aY.azW<g.aY.azW):=by simp only[dH,wj,gJ];(repeat' split)<;>omega
def jr:dH R g=0<->R.aY.bS=g.aY.bS/\R.aY.azW=g.aY.azW:=by simp only[dH,wj,gJ];(repeat' split)<;>omega
abbrev nW:Prop:=l.Pairwise λa b=>dH a b<0
def pt:Nat:=Y (l.takeWhile λy=>decide (dH y T<0))
def qn:List aV:=l.take (pt l T)++T::l.drop (pt l T)
def XU:pt l T<=Y l:=K4 (KY _)
def BB(h:nW X)(x:aV):∀(k:Nat) (y:aV),X[k]?=S y->(0<=dH y x<->pt X x<=k):=by
 induction X with
 |nil=>intro k y h;simp at h
 |cons a X ih =>
 replace h:=cy.1 h;intro k y b;by_cases c:dH a x<0
 .have e:pt (a::X) x=pt X x+1:=by simp[pt,ft,c]
  cases k with|zero=>simp only[aC,ab]at b;subst b;omega|succ k =>have:=ih h.2 k y (by simpa using b);omega
 have e:pt (a::X) x=0:=by simp[pt,ft,c]
 rw[e];refine⟨λ_=>jK _,λ_=>?_⟩;cases k with
 |zero=>simp only[aC,ab]at b;subst b;omega
 |succ k =>
 have g:y∈X:=aS (by simpa using b);have d:=h.1 y g;refine cp λi=>c ?_;have f:dH y x<0:=by omega
 rw[jz]at d f |-;omega
def lj{x y:aV}:y∈qn X x<->y=x\/y∈X:=by
 have:y∈X<->y∈X.take (pt X x)\/y∈X.drop (pt X x):=by rw[<- List.mem_append,fC]
 simp only[qn,bW,bd,this];constructor
 .rintro(h|h|h);.exact .inr (.inl h)
  .exact .inl h
  exact .inr (.inr h)
 rintro(h|h|h);.exact .inr (.inl h)
 .exact .inl h
 exact .inr (.inr h)
def SU:Y (qn l T)=Y l+1:=by have:=XU l T;simp only[qn,ah,bj,ae,ca];omega
def u1(h:nW X)(l:∀y∈X,dH y R≠0):nW (qn X R):=by
 have f:=BB h R;refine iG.2 ?_;rw[cy];refine⟨h.sublist (aaG _ _),⟨λy j=>?_,h.sublist (aaI _ _)⟩,λa m b d=>?_⟩
 .obtain⟨k,c⟩:=cm.1 j;rw[ei]at c;have e:=(f _ y c).2 (by omega);have i:=l y (eO j);have g:¬dH y R<0:=by omega
  rw[jz]at g |-;rw[gA,jr]at i;omega
 have e:dH a R<0:=by
  obtain⟨k,c⟩:=cm.1 m;rw[fZ]at c;split at c;.have:=f k a c;omega
  cases c
 rcases bd.1 d with rfl|d;.exact e
 obtain⟨k,c⟩:=cm.1 d;rw[ei]at c;have i:=(f _ b c).2 (by omega);have g:¬dH b R<0:=by omega
 rw[jz]at e g |-;omega
def jT:∀{l m:List aV},nW l->nW m->(∀x,x∈l<->x∈m)->l=m
 |[],[],_,_,_=>rfl
 |[],b::m,_,_,h=>absurd ((h b).2 (by simp)) (by simp)
 |a::l,[],_,_,h=>absurd ((h a).1 (by simp)) (by simp)
 |a::l,b::m,c,f,h=>by
  replace c:=cy.1 c;replace f:=cy.1 f;have d:∀z:aV,¬dH z z<0:=λz n=>by rw[jz]at n;omega
  have e:a=b:=by
   rcases bd.1 ((h a).1 (by simp))with k|k;.exact k
   rcases bd.1 ((h b).2 (by simp))with j|j;.exact j.symm
   have i:=f.1 a k;have o:=c.1 b j;rw[jz]at i o;omega
  subst e;refine congrArg _ (jT c.2 f.2 λx=>?_);constructor
  .intro g;rcases bd.1 ((h x).1 (by simp[g]))with rfl|i;.exact absurd (c.1 x g) (d x)
   exact i
  intro g;rcases bd.1 ((h x).2 (by simp[g]))with rfl|i;.exact absurd (f.1 x g) (d x)
  exact i
def q8{d:Type}:∀{l m:List d},l.Nodup->(∀x∈l,x∈m)->Y l<=Y m
 |[],_,_,_=>jK _
 |a::l,m,hn,h=>by
  rw[List.nodup_cons]at hn;obtain⟨s,t,rfl⟩:=Wb (h a (by simp));have:=q8 (m:=s++t) hn.2 λx c=>by
   have b:=h x (by simp[c]);simp only[bW,bd]at b |-;rcases b with b|b|b;.exact .inl b
   .subst b;exact absurd c hn.1
   exact .inr b
  simp only[ah,ae]at this |-;omega
structure aeS (M:List aV):Prop where
 gen:∀x∈M,ajt x
 off:∀x∈M,x.aY.bS≠0
 one:∀x∈M,∀y∈M,dH x y=0->x=y
 len:M.length<=10
structure Recv (M:List aV) (o:bO):Prop where
 num:o.azW=0
 down:o.down=false
 sub:∀x∈o.azS,x∈M
 sort:nW o.azS
 top:∀x∈o.azS,x.aY.time<=o.az5
 clk:o.az5=0\/∃x∈o.azS,o.az5=x.aY.time
 log:o.log.length<=60008*o.azS.length
def D2(h:fc R=0):1<=R.aY.time/\0<=R.aY.bS/\R.aY.azW<=128:=by
 simp only[fc]at h;split at h;.simp at h
 rename_i a;simp only[k8,xo,bE]at a;omega
def pj:dH T T=0:=jr.2 ⟨rfl,rfl⟩
def Recv.len(h:Recv X B):B.azS.length<=Y X:=by refine q8 ?_ h.sub;refine h.sort.imp λ{a b} sY e=>?_;subst e;rw[pj]at sY;omega
def Recv.azU(a:aeS X)(h:Recv X B):B.azU:=by have d:=h.len;have e:=a.len;have c:=h.log;exact⟨λx b=>(a.gen x (h.sub x b)).azU,by omega,by omega⟩
def cQ(o:bO)(x:aV):bO:=if o.azS.any (λy=>dH y x==0)then o else ku o x (pt o.azS x)
def M0(c:aeS X)(h:Recv X B)(a:R∈X):B.azS.any (λy=>dH y R==0)=θ<->R∈B.azS:=by
 rw[dF];constructor;.rintro⟨y,b,d⟩;have:=c.one y (h.sub y b) R a (by simpa using d);exact this▸b
 exact λa=>⟨R,a,by simp[pj]⟩
def abB(b:aeS X)(h:Recv X B){x y:aV}(c:x∈X):y∈(cQ B x).azS<->y=x\/y∈B.azS:=by
 by_cases a:B.azS.any (λy=>dH y x==0)=θ;.rw[cQ,aQ a];have:=(M0 b h c).1 a;exact⟨.inr,λh=>h.elim (λe=>e▸this) id⟩
 rw[cQ,aw a];exact lj
def abC(c:aeS X)(h:Recv X B)(b:R∈X):Recv X (cQ B R):=by
 by_cases e:B.azS.any (λy=>dH y R==0)=θ;.rw[cQ,aQ e];exact h
 rw[cQ,aw e];have j:R ∉ B.azS:=λg=>e ((M0 c h b).2 g);have n:=(D2 (c.gen R b).ok).1;refine⟨h.num,h.down,λy a=>?_,u1 h.sort λy a d=>j (c.one y (h.sub y a) R b d▸a),λy a=>?_,?_,?_⟩
 .rcases lj.1 a with rfl|a;.exact b
  exact h.sub y a
 .simp only[ku];rcases lj.1 a with rfl|a;.split<;>omega
  have:=h.top y a;split<;>omega
 .right;simp only[ku];by_cases f:B.az5<R.aY.time;.rw[aQ f];exact⟨R,lj.2 (.inl rfl),rfl⟩
  rw[aw f];rcases h.clk with l|⟨y,a,d⟩;.omega
  exact⟨y,lj.2 (.inr a),d⟩
 have k:=ah1 (c.gen R b);have m:=h.log;have i:=SU B.azS R;simp only[qn,ah]at i;simp only[ku,ah,kq];omega
def xB{M:List aV}(b:aeS M):∀(a:List aV) {o:bO},Recv M o->(∀x∈a,x∈M)->Recv M (a.foldl cQ o)/\∀y,y∈(a.foldl cQ o).azS<->y∈a\/y∈o.azS
 |[],o,h,_=>⟨h,λy=>by simp⟩
 |x::a,o,h,hs=>by
  have c:=hs x (by simp);have:=xB b a (abC b h c) λy d=>hs y (by simp[d]);refine⟨this.1,λy=>?_⟩;rw[bH,this.2,abB b h c,bd];constructor
  .rintro(h|h|h);.exact .inl (.inr h)
   .exact .inl (.inl h)
   exact .inr h
  rintro((h|h)|h);.exact .inr (.inl h)
  .exact .inl h
  exact .inr (.inr h)
def ahn(h:nW X)(g:R∈X):X[pt X R]?=S R:=by
 obtain⟨k,a⟩:=cm.1 g;have l:=(BB h R k R a).1 (by rw[pj];exact mi _);have b:=(ag.1 a).1;have e:pt X R=k:=by
  refine cp λm=>?_;have c:pt X R<k:=by omega
  have f:X[pt X R]?=S X[pt X R]:=aD (by omega);have j:=(BB h R _ _ f).2 (aM _);have d:=iC.1 h (pt X R) k (by omega) b c;have i:X[k]=R:=by rw[aD b]at a;simpa using a
  rw[i]at d;omega
 rw[e];exact a
def vw:iq T T=0:=by
 have h:∀l:aR,jN l l=0:=by intro l;induction l with|nil=>rfl|cons a l ih=>simp[jN,ih]
 simp[iq,wj,gJ,h]
def tC:IntKind.u32.wrap i=i % 4294967296:=by simp only[IntKind.wrap,IntKind.bits,IntKind.signed];rfl
def NI:((G2 i).toNat:Int)=i % 256:=by rw[G1];simp only[IntKind.wrap,IntKind.bits,IntKind.signed];rfl
def Jz(h:0<=U/\U<4294967296):iL (pk U)=U:=by simp only[iL,pk,bH,ja,NI,jd _ (show(0:Int)<=2^24 by decide),jd _ (show(0:Int)<=2^16 by decide),jd _ (show(0:Int)<=2^8 by decide)];omega
def A7(h:Y p<=4):0<=iL p/\iL p<4294967296:=by match p,h with|[],_=>simp[iL]|[a],_=>have:=a.toNat_lt;simp only[iL,bH,ja];omega|[a,b],_=>have:=a.toNat_lt;have:=b.toNat_lt;simp only[iL,bH,ja];omega|[a,b,c],_=>have:=a.toNat_lt;have:=b.toNat_lt;have:=c.toNat_lt;simp only[iL,bH,ja];omega|[a,b,c,d],_=>have:=a.toNat_lt;have:=b.toNat_lt;have:=c.toNat_lt;have:=d.toNat_lt;simp only[iL,bH,ja];omega|a::b::c::d::e::r,h=>simp at h
def CG:∀(b:aR) (h:Int),0<=h/\h<4294967296->0<=mU h b/\mU h b<4294967296|[],_,hh=>hh|x::b,h,_=>by refine CG b (qq h x) ?_;simp only[qq,tC];omega
def wZ:Int:=2166136261
def kx(log:aR):Nat :=if Y log<8 then 0
 else if 65536<iL (log.take 4)\/((Y log - 8:Nat):Int)<iL (log.take 4)then 0
 else if mU (mU wZ (log.take 4)) ((log.drop 8).take (iL (log.take 4)).toNat)=iL ((log.drop 4).take 4)then 8+(iL (log.take 4)).toNat
 else 0
def DF(a:Y p<4294967296):rD p=pk (Y p:Int)++(pk (mU (mU wZ (pk (Y p:Int))) p)++p):=by
 have e:IntKind.u32.wrap (Y p:Int)=(Y p:Int):=by rw[tC];omega
 rw[rD,FF,e,aO];rfl
def Nq(a:aR)(j:Y p<=65536):kx (rD p++a)=8+Y p:=by
 have e:Y (rD p++a)=8+Y p+Y a:=by rw[ah,kq]
 rw[DF p (by omega)]at e |-;have b:=lO (Y p:Int);have d:=lO (mU (mU wZ (pk (Y p:Int))) p);have h:(pk (Y p:Int)++(pk (mU (mU wZ (pk (Y p:Int))) p)++p)++a).take 4=pk (Y p:Int):=by rw[aO];exact nS b
 have c:(pk (Y p:Int)++(pk (mU (mU wZ (pk (Y p:Int))) p)++p)++a).drop 4=pk (mU (mU wZ (pk (Y p:Int))) p)++(p++a):=by rw[aO,aO];exact La b
 have g:(pk (Y p:Int)++(pk (mU (mU wZ (pk (Y p:Int))) p)++p)++a).drop 8=p++a:=by rw[show(8:Nat)=4+4 from rfl,<- List.drop_drop,c];exact La d
 have i:iL (pk (Y p:Int))=(Y p:Int):=Jz (by omega);have f:iL (pk (mU (mU wZ (pk (Y p:Int))) p))=mU (mU wZ (pk (Y p:Int))) p:=Jz (CG _ _ (CG _ _ (by decide)));rw[kx,h,c,g,i,nS d,f,ak,nS rfl,e];rw[aw (by omega),aw (by omega),aQ rfl]
def Z8(e:J<8+Y p)(d:Y p<=65536):kx ((rD p).take J)=0:=by
 have c:Y ((rD p).take J)=J:=by rw[bj,kq];omega
 rw[kx,c];by_cases a:J<8;.rw[aQ a]
 rw[aw a];have b:((rD p).take J).take 4=pk (Y p:Int):=by rw[oK,fP (by omega),DF p (by omega)];exact nS (lO _)
 rw[b,Jz (by omega),aQ (by omega)]
def du:aR:=E.flatMap rD
def No:∀(a:gW) (n:Nat),(∀p∈a,Y p<=65536)->∃k b,k<=Y a/\(du a).take n=du (a.take k)++b/\kx b=0/\(∀m,m<=Y a->Y (du (a.take m))<=n->m<=k)
 |[],n,_=>⟨0,[],aM _,by simp[du],rfl,λm c _=>c⟩
 |p::a,n,h=>by
  have l:=h p (by simp);by_cases j:8+Y p<=n
  .obtain⟨k,b,o,f,g,e⟩:=No a (n - (8+Y p)) λq i=>h q (by simp[i]);refine⟨k+1,b,by simp;omega,?_,g,λm c d=>?_⟩;.simp only[du,fK,fe,aO]at f |-;rw[ae0,cx (by rw[kq];exact j),kq,f]
   cases m with|zero=>omega|succ m =>simp only[du,fe,fK,ah,kq]at d e;have:=e m (by simpa using c) (by omega);omega
  refine⟨0,(rD p).take n,by simp,?_,Z8 p n (by omega) l,λm c d=>?_⟩;.simp only[du,fK,jE,mP,ay];rw[ae0,kq,Nat.sub_eq_zero_of_le (by omega),jE,bI]
  cases m with|zero=>omega|succ m =>simp only[du,fe,fK,ah,kq]at d;omega
def ej:List aV:=l.foldl qn []
def CV:Int:=if i<T.aY.time then T.aY.time else i
def kj:Int:=l.foldl CV 0
def iA:aR:=du (l.map dJ)
def gL(n:Int)(a:List aV)(k:Nat):bO:=⟨n,kj a,ej a,iA a,Y (iA (a.take k)),G⟩
def sE(a:List aV)(b:aR):bO:=⟨i,0,[],iA a++b,Y (iA a++b),θ⟩
def sN:ej (l++[T])=qn (ej l) T:=by simp[ej]
def wW:kj (l++[T])=CV (kj l) T:=by simp[kj]
def PM:i<=CV i T/\T.aY.time<=CV i T/\(CV i T=i\/CV i T=T.aY.time):=by unfold CV;split<;>omega
def yc(b:List aV):iA (l++b)=iA l++iA b:=by simp[iA,du]
def Fz:iA [T]=rD (dJ T):=by simp[iA,du]
structure V6 (x:aV):Prop where
 ok:fc x=0
 azU:x.azU
 enc:(dJ x).length<=20000
structure HD (n:Int) (arr:List aV):Prop where
 op:∀x∈arr,V6 x
 one:arr.Pairwise λa b=>dH a b≠0
 own:∀(j:Nat) (y:aV),(arr.filter λx=>x.aY.bS==n)[j]?=some y->y.aY.azW=j+1
def dU:R∈ej X<->R∈X:=by
 have b:∀(X l:List aV),R∈X.foldl qn l<->R∈X\/R∈l:=by intro X;induction X with|nil=>simp|cons a X ih =>intro l;rw[bH,ih,lj,bd];exact⟨λh=>h.elim (λh=>.inl (.inr h)) (λh=>h.elim (λh=>.inl (.inl h)) .inr),λh=>h.elim (λh=>h.elim (λh=>.inr (.inl h)) .inl) (λh=>.inr (.inr h))⟩
 simpa[ej]using b X []
def Jq(h:dH R g=0):dH g R=0:=by rw[jr]at h |-;exact⟨h.1.symm,h.2.symm⟩
def DW:(X++[R]).Pairwise (λa b=>dH a b≠0)<->X.Pairwise (λa b=>dH a b≠0)/\∀y∈X,dH y R≠0:=by rw[iG];simp
def uU:Y (ej l)=Y l:=by
 have c:∀(l b:List aV),Y (l.foldl qn b)=Y l+Y b:=by intro l;induction l with|nil=>simp|cons a l ih=>intro b;rw[bH,ih,SU,ae];omega
 simpa[ej]using c l []
def lr(h:X.Pairwise λa b=>dH a b≠0):nW (ej X):=by
 have c:∀(r:List aV) (s:List aV),(s++r).Pairwise (λa b=>dH a b≠0)->nW (ej s)->nW (r.foldl qn (ej s)):=by intro r;induction r with|nil=>intro s _ h;exact h|cons x r ih =>intro s d f;have e:(s++[x]).Pairwise λa b=>dH a b≠0:=d.sublist (by simp);rw[bH,<- sN];refine ih (s++[x]) (by simpa using d) ?_;rw[sN];exact u1 f λy g=>(DW.1 e).2 y (dU.1 g)
 have:=c X [] (by simpa using h) (by simp[ej,nW]);simpa[ej]using this
def yY(h:∀x∈X,fc x=0):0<=kj X/\kj X<=2^30:=by
 have d:∀(X:List aV) (c:Int),(∀x∈X,fc x=0)->0<=c/\c<=2^30->0<=X.foldl CV c/\X.foldl CV c<=2^30:=by
  intro X;induction X with
  |nil=>intro c _ h;exact h
  |cons a X ih =>
  intro c e i;rw[bH];refine ih _ (λx g=>e x (by simp[g])) ?_;have b:=e a (by simp);have:1<=a.aY.time/\a.aY.time<=2^30:=by
   simp only[fc]at b;split at b;.simp at b
   rename_i f;simp only[k8,xo,bE]at f;omega
  have:=PM c a;omega
 exact d X 0 h (by decide)
def yb(h:∀x∈X,V6 x):Y (iA X)<=20008*Y X:=by induction X with|nil=>simp[iA,du]|cons a X ih =>have c:=ih λx b=>h x (by simp[b]);have d:=(h a (by simp)).enc;rw[show a::X=[a]++X from rfl,yc,Fz,ah,kq];simp only[ah,ae,ai];omega
def HD.take(h:HD U X)(k:Nat):HD U (X.take k):=by refine⟨λx b=>h.op x (dY b),h.one.sublist (aaG _ _),λj y a=>h.own j y ?_⟩;have e:X=X.take k++X.drop k:=(fC k X).symm;rw[e,jv,bg (ag.1 a).1];exact a
def su(a:List aV):Nat:=(a.filter λx=>x.aY.bS==i).length
def HD.Ip(h:HD U X)(k:V6 R)(f:R.aY.bS=U)(g:R.aY.azW=su U X+1):HD U (X++[R]):=by
 have m:∀y∈X,dH y R≠0:=λy b d=>by rw[jr]at d;have c:y∈X.filter λR=>R.aY.bS==U:=eB.2 ⟨b,by simp[d.1,f]⟩;obtain⟨j,a⟩:=cm.1 c;have n:=h.own j y a;have o:=(ag.1 a).1;simp only[su]at g;omega
 refine⟨λy b=>?_,DW.2 ⟨h.one,m⟩,λj y a=>?_⟩
 .rcases bW.1 b with b|b;.exact h.op y b
  simp only[dn]at b;exact b▸k
 rw[jv,List.getElem?_append]at a;split at a;.exact h.own j y a
 have e:[R].filter (λR=>R.aY.bS==U)=[R]:=by simp[f]
 rw[e]at a;have l:=(ag.1 a).1;simp only[ae,ai]at l;have i:j - (X.filter λR=>R.aY.bS==U).length=0:=by omega
 rw[i]at a;simp only[aC,ab]at a;rw[<- a,g,su];omega
def HD.Iq(h:HD U X)(d:V6 R)(c:R.aY.bS≠U)(e:∀y∈X,dH y R≠0):HD U (X++[R]):=by
 refine⟨λy a=>?_,DW.2 ⟨h.one,e⟩,λj y b=>h.own j y ?_⟩
 .rcases bW.1 a with a|a;.exact h.op y a
  simp only[dn]at a;exact a▸d
 rw[jv,show[R].filter (λR=>R.aY.bS==U)=[]by simp[c],bI]at b;exact b
def aiF:HD i []:=⟨by simp,by simp,by simp⟩
def Zd{n:Int}(a:r<=Y X)(x:aV):ku (gL n X r) x (pt (ej X) x)=gL n (X++[x]) r:=by simp only[ku,gL,wW,sN,qn,yc,Fz,dW a];rfl
def Jx{n:Int}{arr:List aV}{k:Nat}:{ ku (gL n arr k) T (pt (ej arr) T)with aAe:=Y (ku (gL n arr k) T (pt (ej arr) T)).log }=gL n (arr++[T]) (Y arr+1):=by have e:(arr++[T]).take (Y arr+1)=arr++[T]:=cx (by simp);simp only[ku,gL,wW,sN,qn,yc,Fz,e];rfl
def wG(h:HD U X)(b:Y X<=1000):(gL U X r).azU:=by
 have:=yb h.op;refine⟨λx a=>(h.op x (dU.1 a)).azU,?_,?_⟩;.simp only[gL,uU];omega
 simp only[gL];omega
def afq:ox [] i=0:=by simp only[ox,ai];rw[aQ (by omega)]
def JT:(let x:=ox v i;let y:=ox [] i;if x<y then y else x)=ox v i:=by have:=Bg v i;simp only[afq];split<;>omega
def Ec:mf v [] J=(List.range J).map λi:Nat=>ox v i:=by simp only[mf];exact dA λi _=>JT v i
def Cr(v:bU):∀(n i:Nat),i<n->jf v [] n<=i->ox v i=0
 |0,i,h,_=>by omega
 |n+1,i,h,h2=>by
  simp only[jf,JT]at h2;split at h2;.omega
  rename_i a;rcases Nat.lt_or_eq_of_le (Nat.le_of_lt_succ h)with b|rfl;.exact Cr v n i b h2
  simpa using a
def Bf:Y (ko v)=jf v [] 8:=by have:=pq v [] 8;simp only[ko,u9,bj,oO];omega
def Mi(h:J<jf v [] 8):(ko v)[J]?=S (ox v J):=by have:=pq v [] 8;simp only[ko,u9,Ec];rw[cD h,bR,kP (by omega)];rfl
def QY:ox (ko v) i=ox v i:=by
 have d:=pq v [] 8;by_cases h:i<0\/8<=i;.simp only[ox];rw[aQ (by omega),aQ (by omega)]
 obtain⟨a,rfl⟩:∃a:Nat,i=a:=⟨i.toNat,by omega⟩;have f:=Bg v a;by_cases c:a<jf v [] 8
 .have b:=Mi v a c;have e:(ko v).getD a 0=ox v a:=by rw[aA,b];rfl
  rw[ox,aw (by rw[Bf];omega),ak,e,aw (by omega)]
 rw[ox,aQ (by rw[Bf];omega)];exact(Cr v 8 a (by omega) (by omega)).symm
def AE{v w:bU}(h:∀o:Int,ox v o=ox w o):∀n,jf v [] n=jf w [] n|0=>rfl|n+1=>by simp only[jf,JT,h,AE h n]
def QX{w:bU}(h:∀o:Int,ox N o=ox w o):ko N=ko w:=by simp only[ko,u9,Ec,AE h,h]
def T7:ko (ko v)=ko v:=QX (QY v)
def Yi(h:U∈ko N):∃o:Int,U=ox N o:=by obtain⟨i,a⟩:=cm.1 h;have b:=(ag.1 a).1;rw[Bf]at b;rw[Mi N i b]at a;exact⟨i,by simpa using a.symm⟩
def HD.acb(h:HD U X)(j:Nat):(∃x∈X,x.aY.bS=U/\x.aY.azW=(j:Int)+1)<->j<su U X:=by
 constructor;.rintro⟨x,e,c,k⟩;have d:x∈X.filter λx=>x.aY.bS==U:=eB.2 ⟨e,by simp[c]⟩;obtain⟨i,b⟩:=cm.1 d;have f:=h.own i x b;have g:=(ag.1 b).1;simp only[su];omega
 intro a;refine⟨(X.filter λx=>x.aY.bS==U)[j],?_,?_,?_⟩;.exact(eB.1 (eJ a)).1
 .have:=(eB.1 (eJ a)).2;simpa using this
 exact h.own j _ (aD a)
def tf:(l.filter λx=>x.aY.bS==i).length=((ej l).filter λx=>x.aY.bS==i).length:=by
 have c:∀(l b:List aV),((l.foldl qn b).filter λx=>x.aY.bS==i).length=(l.filter λx=>x.aY.bS==i).length+(b.filter λx=>x.aY.bS==i).length:=by
  intro l;induction l with
  |nil=>simp
  |cons a l ih =>
  intro b;have e:b.filter (λx=>x.aY.bS==i)=(b.take (pt b a)).filter (λx=>x.aY.bS==i)++(b.drop (pt b a)).filter (λx=>x.aY.bS==i):=by rw[<- List.filter_append,fC]
  rw[bH,ih,e];simp only[qn,jv,ah,jc];split<;>simp only[ae]<;>omega
 have:=c l [];simpa[ej]using this.symm
def CQ(x:aV):List aV->Nat|[]=>0|y::r=>if iq y x<0 then CQ x r+1 else 0
def WY(x:aV):∀l:List aV,CQ x l<=Y l|[]=>aM _|y::r=>by have:=WY x r;simp only[CQ,ae];split<;>omega
def ud:List aV:=l.take (CQ T l)++T::l.drop (CQ T l)
def As(h:dH R g≠0):iq R g<0<->dH R g<0:=by
 rw[gA,jr]at h;rw[jz];simp only[iq,wj,gJ];by_cases b:R.aY.bS<g.aY.bS;.simp[b]
 by_cases d:g.aY.bS<R.aY.bS;.simp[b,d];omega
 have e:R.aY.bS=g.aY.bS:=by omega
 by_cases a:R.aY.azW<g.aY.azW;.simp[e,a]
 have c:g.aY.azW<R.aY.azW:=by omega
 simp[e,a,c]
def R9{x:aV}:∀{l:List aV},(∀y∈l,dH y x≠0)->CQ x l=pt l x
 |[],_=>rfl
 |y::r,h=>by
  have ih:=R9 (l:=r) λz b=>h z (by simp[b]);have e:=As (h y (by simp));by_cases a:dH y x<0;.simp only[CQ,aQ (e.2 a),ih,pt,ft,a,bt,aU,ae]
  simp only[CQ,aw (λh=>a (e.1 h)),pt,ft,a,bZ,aP,bw,ai]
def mJ(h:∀y∈X,dH y R≠0):ud X R=qn X R:=by simp only[ud,qn,R9 h]
def AB(k:aR):Bool :=
 match E.getLast? with|none=>G|some x=>!Op.bytesLess x k
def mW:List En->gW->gW×Bool|[],out=>(out,θ)|e::r,out=>if dx e≠0 then([],G)else if AB out (dO e)=θ then([],G)else mW r (out++[dO e])
def keysOf:gW×Bool:=if 1024<Y H then([],G)else mW H []
def KA:Prop:=E.Pairwise λa b=>jN a b<0
def aiK{c:gW}(h:KA c)(e:AB c k=G):KA (c++[k]):=by
 simp only[KA,iG,cy,bD,List.Pairwise.nil,bd,mZ]at h |-;refine⟨h,⟨λ_ h=>h.elim,trivial⟩,?_⟩;rintro a d b rfl;rcases gE c with rfl|⟨o,x,rfl⟩;.simp at d
 simp only[AB,fU,lJ,kg,pX,Bool.not_eq_eq_eq_not,nc,kN,bE]at e;simp only[fU,bW,bd,bD,mZ]at d;rcases d with d|rfl;.rw[fU,iG]at h;exact mA (h.2.2 a d x (by simp)) e
 exact e
def JP:∀(m:List En) (a:gW),KA a->KA (mW m a).1
 |[],_,h=>h
 |e::r,a,h=>by
  simp only[mW];split;.simp[KA]
  split;.simp[KA]
  rename_i b;exact JP r _ (aiK h (by simpa using b))
def Vb:KA (keysOf H).1:=by
 simp only[keysOf];split;.simp[KA]
 exact JP H [] (by simp[KA])
def JO:∀(m:List En) (a:gW),Y (mW m a).1<=Y a+Y m/\((mW m a).2=θ->Y (mW m a).1=Y a+Y m)
 |[],_=>by simp[mW]
 |e::r,a=>by
  simp only[mW];split;.simp
  split;.simp
  have:=JO r (a++[dO e]);simp only[ah,ae,ai]at this |-;exact⟨by omega,λh=>by have:=this.2 h;omega⟩
def Va:Y (keysOf H).1<=1024/\((keysOf H).2=θ->Y (keysOf H).1=Y H):=by
 simp only[keysOf];split;.simp
 have:=JO H [];simp only[ai,aG]at this;exact⟨by omega,this.2⟩
def M1:∀(m:List En) (a:gW),(∀e∈m,dx e=0)->KA (a++m.map dO)->mW m a=(a++m.map dO,θ)
 |[],a,_,_=>by simp[mW]
 |e::r,a,h,ha=>by
  simp only[mW];rw[aw (by simp[h e (by simp)]),aw ?_,M1 r _ (λx b=>h x (by simp[b])) (by simpa using ha)];.simp
  simp only[AB];rcases gE a with rfl|⟨o,x,rfl⟩;.simp
  simp only[fU,lJ,kg,pX,kN];simp only[KA,aI,fU,iG]at ha;have:=ha.2.2 x (by simp) (dO e) (by simp);simp[this]
def nB:Nat:=E.countP λy=>decide (y<p)
def find(k:aR):Int :=if(keysOf H).2=G\/nB k (keysOf H).1=Y (keysOf H).1\/(keysOf H).1.getD (nB k (keysOf H).1) []≠k then -1 else nB k (keysOf H).1
def KD:nB p E<=Y E:=List.countP_le_length
structure Ba (m:List En):Prop where
 len:m.length<=1024
 ok:∀e∈m,dx e=0
 asc:KA (m.map dO)
def Ba.keys{m:List En}(h:Ba m):keysOf m=(m.map dO,θ):=by have a:=h.len;simp only[keysOf];rw[aw (by omega),M1 m [] h.ok (by simpa using h.asc)];simp
def Ey(h:fc R=0)(b:R.azT=1):dx R.azV=0/\cX R=dO R.azV:=by
 have a:=(tO h).aAi;have e:aAi R=R.azV:=by simp[aAi,b]
 rw[e]at a;refine⟨a,?_⟩;simp[cX,h,e,gT,a]
def rQ(f:∀o∈X,fc o=0):Ba (dw X):=by
 have c:∀o∈(current X).filter (λo=>o.azT==1),dx o.azV=0/\cX o=dO o.azV:=λo a=>by rw[eB]at a;exact Ey (f o (rh a.1)) (by simpa using a.2)
 refine⟨D9 X,λe b=>?_,?_⟩;.simp only[dw,cv]at b;obtain⟨o,a,rfl⟩:=b;exact(c o a).1
 have d:oQ ((current X).filter λo=>o.azT==1):=zD _ (vU X);have e:(dw X).map dO=((current X).filter λo=>o.azT==1).map cX:=by simp only[dw,jQ];exact dA λo a=>((c o a).2).symm
 rw[e];rw[KA,EN];exact d
def lW(v:bU):List aV:=l.filter λx=>!VN v x.aY
end Go.Bt

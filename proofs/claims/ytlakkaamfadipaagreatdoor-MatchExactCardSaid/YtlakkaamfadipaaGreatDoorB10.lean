/- A part of a proof; the claim's last text says of what. -/
import Derived.IntWalk
import Derived.Test.YtlakkaamfadipaaGreatDoorB9
set_option linter.all false

namespace Go.Pm
open Go Go.RowKit
def fm(n:Nat)(P:bo)(c:bK)(K:bl):Nat->ca
 |0,_=>False
 |N+1,st=>bZ n P c (λe=>match e with
  |.normal=>fm n P c K N
  |e=>K e) st
def bZ.uh{n:Nat}{P:bo}{c:bK}{K:bl}{v:St}(N:Nat)(h:fm n P c K N v):bZ n P (.loop c) K v:=by
 intro r q;cases r
 case loop c' =>
  simp only[jI,aF,bK.loop.injEq]at q;obtain⟨C,G,rfl⟩:=q;intro B z w y a F D;refine zV N (λk x u=>∃d j,fm n P C K k d/\lj P B z u d.J j/\FR u d.J j d.fr x/\jO n w v.J y u d.J j) ⟨v,y,h,F,D,jO.refl _ _ _ _⟩ ?_;rintro k x u ⟨d,j,s,A,H,m⟩;cases k with
  |zero=>exact s.elim
  |succ k =>
   refine wp_mono (s c' G B z u j x A H) ?_;rintro e L I ⟨i,g,p,b,f,o⟩;cases e with
   |normal=>exact⟨k,Nat.lt_succ_self k,i,g,p,b,f,m.trans o⟩
   |exit id=>exact⟨i,g,p,b,f,m.trans o⟩
   |goto l=>exact⟨i,g,p,b,f,m.trans o⟩
   |ret=>exact⟨i,g,p,b,f,m.trans o⟩
   |panic c=>exact⟨i,g,p,b,f,m.trans o⟩
   |outgrown=>exact⟨i,g,p,b,f,m.trans o⟩
 all_goals first|(exfalso;revert q;simp only[jI];try ((repeat' split)<;>simp);done)|(rename_i _ E t;exfalso;cases t<;>simp only[jI]at q<;>first|(obtain⟨_,_,_,h⟩:=mF q;simp at h;done)|(rcases lx q with⟨_,_,_,_,h,_⟩|⟨_,_,h,_⟩|⟨_,_,_,_,_,_,h,_⟩<;>simp at h;done))
def B8(id:Nat)(K:bl):bl
 |.exit id'=>if id'=id then K .normal else K (.exit id')
 |e=>K e
def akb(n:Nat)(P:bo)(c:bK)(K:bl)(N:Nat):bl
 |.normal=>fm n P c K N
 |e=>K e
def Lh(k:ca)(K:bl):bl
 |.normal=>k
 |e=>K e
def V2(P:bo):bK->(ca)->ca
 |.jH ds last gs tail,k,st=>Aa P ds last (oQ P gs tail k) st
 |_,_,_=>False
def RW{P:bo}{c:bK}{k:ca}{d:St}(h:V2 P c k d):∃b last gs a,c=.jH b last gs a/\Aa P b last (oQ P gs a k) d:=by
 cases c with
 |jH b last gs a=>exact⟨b,last,gs,a,rfl,h⟩
 |_=>exact h.elim
def Fm(n:Nat)(P:bo):bK->(bl)->ca
 |.skip,K,st=>K .normal st
 |.dv gs is,K,st=>oQ P gs is (K .normal) st
 |.jH ds last gs tail,K,st=>Aa P ds last (oQ P gs tail (K .normal)) st
 |.seq a b,K,st=>Fm n P a (Lh (Fm n P b K) K) st
 |.ite c a b,K,st=>match ev st.fr c with
  |.b x=>(x=true->Fm n P a K st)/\(x=false->Fm n P b K st)
  |_=>False
 |.block id c,K,st=>Fm n P c (B8 id K) st
 |.loop c,K,st=>bZ n P (.loop c) K st
 |.exit id,K,st=>K (.exit id) st
 |.ret,K,st=>K .ret st
 |.both a b,K,st=>V2 P a (K .normal) st/\V2 P b (K .normal) st
 |.YZ fls ds1 ds2 last gs tail,K,st=>Fz P (Se fls) ds1 ds2 last (oQ P gs tail (K .normal)) (Dz st.J.length fls st.fr) st.J []
def au{n:Nat}{P:bo}:∀{c:bK} {K:bl} {f:St},Fm n P c K f->bZ n P c K f
 |.skip,_,_,h=>bZ.skip h
 |.dv _ _,_,_,h=>bZ.dv h
 |.jH _ _ _ _,_,_,h=>bZ.jH h
 |.seq a b,K,f,h=>bZ.seq ((au (c:=a) h).mono λe g d=>by
   cases e with
   |normal=>exact au (c:=b) d
   |_=>exact d)
 |.ite c a b,K,f,h=>by
  simp only[Fm]at h;split at h
  .rename_i x l;exact bZ.ite l (λi=>au (h.1 i)) λi=>au (h.2 i)
  .exact h.elim
 |.block id c,K,f,h=>bZ.block ((au (c:=c) h).mono λe g d=>by
   cases e with
   |exit k =>
    simp only[B8]at d;simp only[Gm];split at d<;>rename_i j<;>simp only[j,aT,aS]<;>exact d
   |_=>exact d)
 |.loop _,_,_,h=>h
 |.exit _,_,_,h=>bZ.exit h
 |.ret,_,_,h=>bZ.ret h
 |.both _ _,_,_,h=>bZ.both (RW h.1) (RW h.2)
 |.YZ ..,_,_,h=>bZ.YZ h
def ace:Se []=[]:=rfl
def Ys(d T:Nat)(zs:aB)(r:List (Nat×Nat×aB)):Se ((d,T,zs)::r)=.box T zs::Se r:=rfl
def Ym:nH []=[]:=rfl
def Up(o:Ob)(r:List Ob):nH (o::r)=.dead::nH r:=rfl
def Zv(n:Nat)(fr:aB):Dz n [] fr=fr:=rfl
def WE(n d T:Nat)(zs:aB)(r:List (Nat×Nat×aB))(fr:aB):Dz n ((d,T,zs)::r) fr=Dz (n+1) r (fr.set d (.ptr n 0)):=rfl
def ZE{n:Nat}{P:bo}{c:bK}{K:bl}{N:Nat}{a:St}(h:Fm n P c (akb n P c K N) a):fm n P c K (N+1) a:=by
 simp only[fm];exact(au h).mono λe d b=>by cases e<;>exact b
def Si{id:Nat}{K:bl}:B8 id K .normal=K .normal:=rfl
def aci{id:Nat}{K:bl}:B8 id K .ret=K .ret:=rfl
def Yt{id:Nat}{K:bl}:B8 id K (.exit id)=K .normal:=by simp only[B8,aT]
def Yu{id a:Nat}{K:bl}:B8 id K (.exit a)=if a=id then K .normal else K (.exit a):=rfl
def P2{k:ca}{K:bl}:Lh k K .normal=k:=rfl
def Zx{k:ca}{K:bl}:Lh k K .ret=K .ret:=rfl
def WG{k:ca}{K:bl}{id:Nat}:Lh k K (.exit id)=K (.exit id):=rfl
def pI(r:Option (Prop×V))(d:cU)(K:ca)(fr:aB)(J:ak):Prop :=
 match r with
 |some (a,v)=>a/\K ⟨fX fr d v,J⟩
 |none=>False
def xI(r:Option (Prop×V×ak))(d:cU)(K:ca)(fr:aB):Prop :=
 match r with
 |some (a,v,b)=>a/\K ⟨fX fr d v,b⟩
 |none=>False
def qI(r:Option (Prop×V))(c:Bool)(d:cU)(K:ca)(fr:aB)(J:ak):Prop :=
 match r with
 |some (a,v)=>(c=true->a)/\K ⟨fX fr d v,J⟩
 |none=>False
def adp{a:Prop}{v:V}{d:cU}{K:ca}{fr:aB}{J:ak}:pI (some (a,v)) d K fr J=(a/\K ⟨fX fr d v,J⟩):=rfl
def ac0{a:Prop}{v:V}{d:cU}{K:ca}{fr:aB}{J':ak}:xI (some (a,v,J')) d K fr=(a/\K ⟨fX fr d v,J'⟩):=rfl
def adh{a:Prop}{v:V}{c:Bool}{d:cU}{K:ca}{fr:aB}{J:ak}:qI (some (a,v)) c d K fr J=((c=true->a)/\K ⟨fX fr d v,J⟩):=rfl
def ma{P:bo}{d:cU}{i:I}{K:ca}{fr:aB}{J:ak}(a:i.fa=true):gI P ⟨d,[],i⟩ K ⟨fr,J⟩=pI (bT fr J i) d K fr J:=by
 have b:=Di (fr:=fr) (J:=J) a;simp only[gI];cases i<;>first|(simp[I.fa]at a;done)|skip
 all_goals
  simp only[nQ,pI,b];generalize bT fr J _=r;cases r<;>rfl
def uW{P:bo}{d:cU}{i:I}{K:ca}{fr:aB}{J:ak}(a:i.fa=false)(g:∀f args,i≠.call f args)(c:∀x args,i≠.uD x args)(e:∀x,i≠.next x:=by simp):gI P ⟨d,[],i⟩ K ⟨fr,J⟩=xI (dE fr J i) d K fr:=by
 have b:bT fr J i=none:=by
  cases h:bT fr J i with
  |none=>rfl
  |some r=>rw[DS h]at a;simp at a
 simp only[gI];cases i<;>first|(simp[I.fa]at a;done)|exact absurd rfl (g _ _)|exact absurd rfl (c _ _)|exact absurd rfl (e _)|skip
 all_goals
  simp only[nQ,xI,b];generalize dE fr J _=r;cases r<;>rfl
def aiE{P:bo}{d:cU}{K:ca}{fr:aB}{J:ak}{x:O}:gI P ⟨d,[],.gm x⟩ K ⟨fr,J⟩=pI (bT fr J (.gm x)) d K fr J:=ma rfl
def ae2{P:bo}{d:cU}{K:ca}{fr:aB}{J:ak}{c a b:O}:gI P ⟨d,[],.pick c a b⟩ K ⟨fr,J⟩=pI (bT fr J (.pick c a b)) d K fr J:=ma rfl
def abF{P:bo}{d:cU}{K:ca}{fr:aB}{J:ak}{zs:aB}{a:List (Nat×Nat×O)}:gI P ⟨d,[],.build zs a⟩ K ⟨fr,J⟩=pI (bT fr J (.build zs a)) d K fr J:=ma rfl
def Yc{P:bo}{d:cU}{K:ca}{fr:aB}{J:ak}{sz:Nat}{a:List (cU)}{xs:List O}:gI P ⟨d,[],.dH sz a xs⟩ K ⟨fr,J⟩=pI (bT fr J (.dH sz a xs)) d K fr J:=ma rfl
def afc{P:bo}{d:cU}{K:ca}{fr:aB}{J:ak}{k:cU}{a:O}:gI P ⟨d,[],.load k a⟩ K ⟨fr,J⟩=pI (bT fr J (.load k a)) d K fr J:=ma rfl
def abD{P:bo}{d:cU}{K:ca}{fr:aB}{J:ak}{x:O}:gI P ⟨d,[],.gU x⟩ K ⟨fr,J⟩=pI (bT fr J (.gU x)) d K fr J:=ma rfl
def aiP{P:bo}{d:cU}{K:ca}{fr:aB}{J:ak}{a:BinOp}{x y:O}:gI P ⟨d,[],.bin a x y⟩ K ⟨fr,J⟩=pI (bT fr J (.bin a x y)) d K fr J:=ma rfl
def aiQ{P:bo}{d:cU}{K:ca}{fr:aB}{J:ak}{a:Bool}{b:dK}{x y:O}:gI P ⟨d,[],.beq a b x y⟩ K ⟨fr,J⟩=pI (bT fr J (.beq a b x y)) d K fr J:=ma rfl
def aiR{P:bo}{d:cU}{K:ca}{fr:aB}{J:ak}{a:Bool}{x y:O}:gI P ⟨d,[],.bbq a x y⟩ K ⟨fr,J⟩=pI (bT fr J (.bbq a x y)) d K fr J:=ma rfl
def an2{P:bo}{d:cU}{K:ca}{fr:aB}{J:ak}{a:UnOp}{x:O}:gI P ⟨d,[],.un a x⟩ K ⟨fr,J⟩=pI (bT fr J (.un a x)) d K fr J:=ma rfl
def aiL{P:bo}{d:cU}{K:ca}{fr:aB}{J:ak}{k:IntKind}{x:O}:gI P ⟨d,[],.cvi k x⟩ K ⟨fr,J⟩=pI (bT fr J (.cvi k x)) d K fr J:=ma rfl
def aiS{P:bo}{d:cU}{K:ca}{fr:aB}{J:ak}{x:O}:gI P ⟨d,[],.b2s x⟩ K ⟨fr,J⟩=pI (bT fr J (.b2s x)) d K fr J:=ma rfl
def abB{P:bo}{d:cU}{K:ca}{fr:aB}{J:ak}{sz:Nat}{x:O}{a hi:Option O}:gI P ⟨d,[],.slice sz x a hi⟩ K ⟨fr,J⟩=pI (bT fr J (.slice sz x a hi)) d K fr J:=ma rfl
def Ya{P:bo}{d:cU}{K:ca}{fr:aB}{J:ak}{x:O}{a hi:Option O}:gI P ⟨d,[],.za x a hi⟩ K ⟨fr,J⟩=pI (bT fr J (.za x a hi)) d K fr J:=ma rfl
def aiI{P:bo}{d:cU}{K:ca}{fr:aB}{J:ak}{off:Nat}{x:O}:gI P ⟨d,[],.pq off x⟩ K ⟨fr,J⟩=pI (bT fr J (.pq off x)) d K fr J:=ma rfl
def aiH{P:bo}{d:cU}{K:ca}{fr:aB}{J:ak}{sz:Nat}{x i:O}:gI P ⟨d,[],.idx sz x i⟩ K ⟨fr,J⟩=pI (bT fr J (.idx sz x i)) d K fr J:=ma rfl
def ae1{P:bo}{d:cU}{K:ca}{fr:aB}{J:ak}{x i:O}:gI P ⟨d,[],.Dy x i⟩ K ⟨fr,J⟩=pI (bT fr J (.Dy x i)) d K fr J:=ma rfl
def aiJ{P:bo}{d:cU}{K:ca}{fr:aB}{J:ak}{k:Nat}{x:O}:gI P ⟨d,[],.ext k x⟩ K ⟨fr,J⟩=pI (bT fr J (.ext k x)) d K fr J:=ma rfl
def aiG{P:bo}{d:cU}{K:ca}{fr:aB}{J:ak}{a:Bool}{x:O}:gI P ⟨d,[],.len a x⟩ K ⟨fr,J⟩=pI (bT fr J (.len a x)) d K fr J:=ma rfl
def afa{P:bo}{d:cU}{K:ca}{fr:aB}{J:ak}{x y:O}:gI P ⟨d,[],.max2 x y⟩ K ⟨fr,J⟩=pI (bT fr J (.max2 x y)) d K fr J:=ma rfl
def ae6{P:bo}{d:cU}{K:ca}{fr:aB}{J:ak}{x y:O}:gI P ⟨d,[],.min2 x y⟩ K ⟨fr,J⟩=pI (bT fr J (.min2 x y)) d K fr J:=ma rfl
def afb{P:bo}{d:cU}{K:ca}{fr:aB}{J:ak}{a:Nat}{z:V}{ok:Bool}{m k:O}:gI P ⟨d,[],.look a z ok m k⟩ K ⟨fr,J⟩=pI (bT fr J (.look a z ok m k)) d K fr J:=ma rfl
def ae5{P:bo}{d:cU}{K:ca}{fr:aB}{J:ak}{x:O}:gI P ⟨d,[],.Jj x⟩ K ⟨fr,J⟩=pI (bT fr J (.Jj x)) d K fr J:=ma rfl
def aiO{P:bo}{d:cU}{K:ca}{fr:aB}{J:ak}{T:Nat}{x:O}:gI P ⟨d,[],.box T x⟩ K ⟨fr,J⟩=xI (dE fr J (.box T x)) d K fr:=uW rfl (by simp) (by simp)
def abG{P:bo}{d:cU}{K:ca}{fr:aB}{J:ak}{T:Nat}{zs:aB}:gI P ⟨d,[],.alloc T zs⟩ K ⟨fr,J⟩=xI (dE fr J (.alloc T zs)) d K fr:=uW rfl (by simp) (by simp)
def abA{P:bo}{d:cU}{K:ca}{fr:aB}{J:ak}{k:Nat}{b:List (cU)}{a x:O}:gI P ⟨d,[],.store k b a x⟩ K ⟨fr,J⟩=xI (dE fr J (.store k b a x)) d K fr:=uW rfl (by simp) (by simp)
def aiU{P:bo}{d:cU}{K:ca}{fr:aB}{J:ak}{E sz by':Nat}{x y:O}:gI P ⟨d,[],.app E sz by' x y⟩ K ⟨fr,J⟩=xI (dE fr J (.app E sz by' x y)) d K fr:=uW rfl (by simp) (by simp)
def aff{P:bo}{d:cU}{K:ca}{fr:aB}{J:ak}{E:Nat}{x y:O}:gI P ⟨d,[],.apps E x y⟩ K ⟨fr,J⟩=xI (dE fr J (.apps E x y)) d K fr:=uW rfl (by simp) (by simp)
def an3{P:bo}{d:cU}{K:ca}{fr:aB}{J:ak}{E sz by':Nat}{zs:aB}{l c:O}:gI P ⟨d,[],.mk E sz by' zs l c⟩ K ⟨fr,J⟩=xI (dE fr J (.mk E sz by' zs l c)) d K fr:=uW rfl (by simp) (by simp)
def afe{P:bo}{d:cU}{K:ca}{fr:aB}{J:ak}{E sz by':Nat}{a:List (cU)}{xs:List O}:gI P ⟨d,[],.Sg E sz by' a xs⟩ K ⟨fr,J⟩=xI (dE fr J (.Sg E sz by' a xs)) d K fr:=uW rfl (by simp) (by simp)
def abE{P:bo}{d:cU}{K:ca}{fr:aB}{J:ak}{T E:Nat}:gI P ⟨d,[],.GP T E⟩ K ⟨fr,J⟩=xI (dE fr J (.GP T E)) d K fr:=uW rfl (by simp) (by simp)
def ae4{P:bo}{d:cU}{K:ca}{fr:aB}{J:ak}{b:Nat}{a:List (cU)}{m k x:O}:gI P ⟨d,[],.FK b a m k x⟩ K ⟨fr,J⟩=xI (dE fr J (.FK b a m k x)) d K fr:=uW rfl (by simp) (by simp)
def afg{P:bo}{d:cU}{K:ca}{fr:aB}{J:ak}{n sz:Nat}{x i:O}:gI P ⟨d,[],.Sl n sz x i⟩ K ⟨fr,J⟩=pI (bT fr J (.Sl n sz x i)) d K fr J:=ma rfl
def aiT{P:bo}{d:cU}{K:ca}{fr:aB}{J:ak}{n:Nat}{x:O}:gI P ⟨d,[],.asl n x⟩ K ⟨fr,J⟩=pI (bT fr J (.asl n x)) d K fr J:=ma rfl
def aiN{P:bo}{d:cU}{K:ca}{fr:aB}{J:ak}{f:Nat}{xs:List O}:gI P ⟨d,[],.clo f xs⟩ K ⟨fr,J⟩=pI (bT fr J (.clo f xs)) d K fr J:=ma rfl
def aiM{P:bo}{d:cU}{K:ca}{fr:aB}{J:ak}{sz:Nat}{zs:aB}{x:O}:gI P ⟨d,[],.RZ sz zs x⟩ K ⟨fr,J⟩=xI (dE fr J (.RZ sz zs x)) d K fr:=uW rfl (by simp) (by simp)
section
variable {P:bo} {d:cU} {K:ca} {fr:aB} {J:ak}
def aiK{x:O}:gI P ⟨d,[],.ent x⟩ K ⟨fr,J⟩=pI (bT fr J (.ent x)) d K fr J:=ma rfl
def ae0{off:Nat}{x:O}:gI P ⟨d,[],.Wn off x⟩ K ⟨fr,J⟩=pI (bT fr J (.Wn off x)) d K fr J:=ma rfl
def aeZ{n:Nat}{x i:O}:gI P ⟨d,[],.SJ n x i⟩ K ⟨fr,J⟩=pI (bT fr J (.SJ n x i)) d K fr J:=ma rfl
def aiF{E by':Nat}{l c:O}:gI P ⟨d,[],.mkb E by' l c⟩ K ⟨fr,J⟩=xI (dE fr J (.mkb E by' l c)) d K fr:=uW rfl (by simp) (by simp)
def abz{x y:O}:gI P ⟨d,[],.PT x y⟩ K ⟨fr,J⟩=pI (bT fr J (.PT x y)) d K fr J:=ma rfl
def afd{sz:Nat}{x h m:O}:gI P ⟨d,[],.clip sz x h m⟩ K ⟨fr,J⟩=pI (bT fr J (.clip sz x h m)) d K fr J:=ma rfl
def ae9{a:Nat}{m k:O}:gI P ⟨d,[],.Lx a m k⟩ K ⟨fr,J⟩=xI (dE fr J (.Lx a m k)) d K fr:=uW rfl (by simp) (by simp)
def ae8{a:Nat}{z:V}{m k:O}:gI P ⟨d,[],.Oi a z m k⟩ K ⟨fr,J⟩=xI (dE fr J (.Oi a z m k)) d K fr:=uW rfl (by simp) (by simp)
def ae7{a:List (cU)}{m s x:O}:gI P ⟨d,[],.Oh a m s x⟩ K ⟨fr,J⟩=xI (dE fr J (.Oh a m s x)) d K fr:=uW rfl (by simp) (by simp)
def abC{x:O}:gI P ⟨d,[],.range x⟩ K ⟨fr,J⟩=xI (dE fr J (.range x)) d K fr:=uW rfl (by simp) (by simp)
def nI(r:Option (Nat×Nat×Nat×Nat×dK))(d:cU)(K:ca)(fr:aB)(J:ak):Prop :=
 match r with
 |some (j,m,E,n,a)=>(a=[]->K ⟨fX fr d (.iQ [.b false]),J⟩)/\∀q∈a,K ⟨fX fr d (.iQ [.b true,.u,.u]),J.set j (.iter false m E n (a.filter λi=>i != q) (some q))⟩
 |none=>False
def adx{j m E n:Nat}{a:dK}:nI (some (j,m,E,n,a)) d K fr J=((a=[]->K ⟨fX fr d (.iQ [.b false]),J⟩)/\∀q∈a,K ⟨fX fr d (.iQ [.b true,.u,.u]),J.set j (.iter false m E n (a.filter λi=>i != q) (some q))⟩):=rfl
def ae3{x:O}:gI P ⟨d,[],.next x⟩ K ⟨fr,J⟩=nI (Jh J (ev fr x)) d K fr J:=by
 simp only[gI,nQ,nI];generalize Jh J (ev fr x)=r;cases r<;>rfl
end
def gX(p:Pi)(r:Option Bool)(K:ca)(fr:aB)(J:ak):Prop :=
 match r with
 |none=>False
 |some c=>match p.i with
  |.load k a=>match ev fr a with
   |.ptr _ _=>qI (bT fr J (.load k a)) c p.d K fr J
   |_=>∃v,(c=true->∃b,bT fr J (.load k a)=some (b,v)/\b)/\K ⟨fX fr p.d v,J⟩
  |i=>qI (bT fr J i) c p.d K fr J
def oI{P:bo}{p:Pi}{K:ca}{fr:aB}{J:ak}(e:p.g≠[])(a:(∀f args,p.i≠.call f args)/\∀x args,p.i≠.uD x args):gI P p K ⟨fr,J⟩=gX p (chainB fr p.g) K fr J:=by
 obtain⟨d,g,i⟩:=p;cases g with
 |nil=>exact absurd rfl e
 |cons q b =>
  simp only[gI,gX];cases chainB fr (q::b)with
  |none=>rfl
  |some c =>
   simp only[ED];cases i<;>first|rfl|exact absurd rfl (a.1 _ _)|exact absurd rfl (a.2 _ _)
def air{P:bo}{d:cU}{q:Nat×Bool}{a:fJ}{K:ca}{fr:aB}{J:ak}{x:O}:gI P ⟨d,q::a,.gm x⟩ K ⟨fr,J⟩=gX ⟨d,q::a,.gm x⟩ (chainB fr (q::a)) K fr J:=oI (by simp) (by simp)
def aeR{P:bo}{d:cU}{q:Nat×Bool}{e:fJ}{K:ca}{fr:aB}{J:ak}{c a b:O}:gI P ⟨d,q::e,.pick c a b⟩ K ⟨fr,J⟩=gX ⟨d,q::e,.pick c a b⟩ (chainB fr (q::e)) K fr J:=oI (by simp) (by simp)
def abw{P:bo}{d:cU}{q:Nat×Bool}{a:fJ}{K:ca}{fr:aB}{J:ak}{zs:aB}{b:List (Nat×Nat×O)}:gI P ⟨d,q::a,.build zs b⟩ K ⟨fr,J⟩=gX ⟨d,q::a,.build zs b⟩ (chainB fr (q::a)) K fr J:=oI (by simp) (by simp)
def X8{P:bo}{d:cU}{q:Nat×Bool}{b:fJ}{K:ca}{fr:aB}{J:ak}{sz:Nat}{a:List (cU)}{xs:List O}:gI P ⟨d,q::b,.dH sz a xs⟩ K ⟨fr,J⟩=gX ⟨d,q::b,.dH sz a xs⟩ (chainB fr (q::b)) K fr J:=oI (by simp) (by simp)
def aeW{P:bo}{d:cU}{q:Nat×Bool}{b:fJ}{K:ca}{fr:aB}{J:ak}{k:cU}{a:O}:gI P ⟨d,q::b,.load k a⟩ K ⟨fr,J⟩=gX ⟨d,q::b,.load k a⟩ (chainB fr (q::b)) K fr J:=oI (by simp) (by simp)
def abv{P:bo}{d:cU}{q:Nat×Bool}{a:fJ}{K:ca}{fr:aB}{J:ak}{x:O}:gI P ⟨d,q::a,.gU x⟩ K ⟨fr,J⟩=gX ⟨d,q::a,.gU x⟩ (chainB fr (q::a)) K fr J:=oI (by simp) (by simp)
def aix{P:bo}{d:cU}{q:Nat×Bool}{a:fJ}{K:ca}{fr:aB}{J:ak}{b:BinOp}{x y:O}:gI P ⟨d,q::a,.bin b x y⟩ K ⟨fr,J⟩=gX ⟨d,q::a,.bin b x y⟩ (chainB fr (q::a)) K fr J:=oI (by simp) (by simp)
def aiy{P:bo}{d:cU}{q:Nat×Bool}{b:fJ}{K:ca}{fr:aB}{J:ak}{a:Bool}{c:dK}{x y:O}:gI P ⟨d,q::b,.beq a c x y⟩ K ⟨fr,J⟩=gX ⟨d,q::b,.beq a c x y⟩ (chainB fr (q::b)) K fr J:=oI (by simp) (by simp)
def aiz{P:bo}{d:cU}{q:Nat×Bool}{b:fJ}{K:ca}{fr:aB}{J:ak}{a:Bool}{x y:O}:gI P ⟨d,q::b,.bbq a x y⟩ K ⟨fr,J⟩=gX ⟨d,q::b,.bbq a x y⟩ (chainB fr (q::b)) K fr J:=oI (by simp) (by simp)
def an1{P:bo}{d:cU}{q:Nat×Bool}{a:fJ}{K:ca}{fr:aB}{J:ak}{b:UnOp}{x:O}:gI P ⟨d,q::a,.un b x⟩ K ⟨fr,J⟩=gX ⟨d,q::a,.un b x⟩ (chainB fr (q::a)) K fr J:=oI (by simp) (by simp)
def aiw{P:bo}{d:cU}{q:Nat×Bool}{a:fJ}{K:ca}{fr:aB}{J:ak}{k:IntKind}{x:O}:gI P ⟨d,q::a,.cvi k x⟩ K ⟨fr,J⟩=gX ⟨d,q::a,.cvi k x⟩ (chainB fr (q::a)) K fr J:=oI (by simp) (by simp)
def aiA{P:bo}{d:cU}{q:Nat×Bool}{a:fJ}{K:ca}{fr:aB}{J:ak}{x:O}:gI P ⟨d,q::a,.b2s x⟩ K ⟨fr,J⟩=gX ⟨d,q::a,.b2s x⟩ (chainB fr (q::a)) K fr J:=oI (by simp) (by simp)
def abu{P:bo}{d:cU}{q:Nat×Bool}{a:fJ}{K:ca}{fr:aB}{J:ak}{sz:Nat}{x:O}{b hi:Option O}:gI P ⟨d,q::a,.slice sz x b hi⟩ K ⟨fr,J⟩=gX ⟨d,q::a,.slice sz x b hi⟩ (chainB fr (q::a)) K fr J:=oI (by simp) (by simp)
def X7{P:bo}{d:cU}{q:Nat×Bool}{a:fJ}{K:ca}{fr:aB}{J:ak}{x:O}{b hi:Option O}:gI P ⟨d,q::a,.za x b hi⟩ K ⟨fr,J⟩=gX ⟨d,q::a,.za x b hi⟩ (chainB fr (q::a)) K fr J:=oI (by simp) (by simp)
def aiu{P:bo}{d:cU}{q:Nat×Bool}{a:fJ}{K:ca}{fr:aB}{J:ak}{off:Nat}{x:O}:gI P ⟨d,q::a,.pq off x⟩ K ⟨fr,J⟩=gX ⟨d,q::a,.pq off x⟩ (chainB fr (q::a)) K fr J:=oI (by simp) (by simp)
def ait{P:bo}{d:cU}{q:Nat×Bool}{a:fJ}{K:ca}{fr:aB}{J:ak}{sz:Nat}{x i:O}:gI P ⟨d,q::a,.idx sz x i⟩ K ⟨fr,J⟩=gX ⟨d,q::a,.idx sz x i⟩ (chainB fr (q::a)) K fr J:=oI (by simp) (by simp)
def aeQ{P:bo}{d:cU}{q:Nat×Bool}{a:fJ}{K:ca}{fr:aB}{J:ak}{x i:O}:gI P ⟨d,q::a,.Dy x i⟩ K ⟨fr,J⟩=gX ⟨d,q::a,.Dy x i⟩ (chainB fr (q::a)) K fr J:=oI (by simp) (by simp)
def aiv{P:bo}{d:cU}{q:Nat×Bool}{a:fJ}{K:ca}{fr:aB}{J:ak}{k:Nat}{x:O}:gI P ⟨d,q::a,.ext k x⟩ K ⟨fr,J⟩=gX ⟨d,q::a,.ext k x⟩ (chainB fr (q::a)) K fr J:=oI (by simp) (by simp)
def ais{P:bo}{d:cU}{q:Nat×Bool}{b:fJ}{K:ca}{fr:aB}{J:ak}{a:Bool}{x:O}:gI P ⟨d,q::b,.len a x⟩ K ⟨fr,J⟩=gX ⟨d,q::b,.len a x⟩ (chainB fr (q::b)) K fr J:=oI (by simp) (by simp)
def aeU{P:bo}{d:cU}{q:Nat×Bool}{a:fJ}{K:ca}{fr:aB}{J:ak}{x y:O}:gI P ⟨d,q::a,.max2 x y⟩ K ⟨fr,J⟩=gX ⟨d,q::a,.max2 x y⟩ (chainB fr (q::a)) K fr J:=oI (by simp) (by simp)
def aeT{P:bo}{d:cU}{q:Nat×Bool}{a:fJ}{K:ca}{fr:aB}{J:ak}{x y:O}:gI P ⟨d,q::a,.min2 x y⟩ K ⟨fr,J⟩=gX ⟨d,q::a,.min2 x y⟩ (chainB fr (q::a)) K fr J:=oI (by simp) (by simp)
def aeV{P:bo}{d:cU}{q:Nat×Bool}{a:fJ}{K:ca}{fr:aB}{J:ak}{b:Nat}{z:V}{ok:Bool}{m k:O}:gI P ⟨d,q::a,.look b z ok m k⟩ K ⟨fr,J⟩=gX ⟨d,q::a,.look b z ok m k⟩ (chainB fr (q::a)) K fr J:=oI (by simp) (by simp)
def aeX{P:bo}{d:cU}{q:Nat×Bool}{a:fJ}{K:ca}{fr:aB}{J:ak}{n sz:Nat}{x i:O}:gI P ⟨d,q::a,.Sl n sz x i⟩ K ⟨fr,J⟩=gX ⟨d,q::a,.Sl n sz x i⟩ (chainB fr (q::a)) K fr J:=oI (by simp) (by simp)
def aeS{P:bo}{d:cU}{q:Nat×Bool}{a:fJ}{K:ca}{fr:aB}{J:ak}{x:O}:gI P ⟨d,q::a,.Jj x⟩ K ⟨fr,J⟩=gX ⟨d,q::a,.Jj x⟩ (chainB fr (q::a)) K fr J:=oI (by simp) (by simp)
def aw{P:bo}{d:cU}{f:Nat}{args:List O}{K:ca}{fr:aB}{J σ1:ak}{a:aB}{v:V}(h:PC P f a J (λr J'=>r=v/\J'=σ1))(c:args.map (ev fr)=a)(e:K ⟨fX fr d v,σ1⟩):
  gI P ⟨d,[],.call f args⟩ K ⟨fr,J⟩:=by
 subst c;exact h.mono λr J' ⟨b,g⟩=>by subst b;subst g;exact e
def E6{P:bo}{d:cU}{f:Nat}{x:O}{args:List O}{K:ca}{fr a:aB}{J σ1:ak}{b:aB}{v:V}(e:ev fr x=.fn f a)(c:QZ P f=true)(h:PC P f b J (λr J'=>r=v/\J'=σ1))(i:args.map (ev fr)++a=b)(j:K ⟨fX fr d v,σ1⟩):
  gI P ⟨d,[],.uD x args⟩ K ⟨fr,J⟩:=by
 subst i;simp only[gI,nQ,e];exact⟨c,h.mono λr J' ⟨g,k⟩=>by subst g;subst k;exact j⟩
def cD{P:bo}{d:cU}{f:Nat}{args:List O}{K:ca}{fr:aB}{J:ak}{a:aB}{Q:V->ak->Prop}(h:PC P f a J Q)(b:args.map (ev fr)=a)(c:∀r J',Q r J'->K ⟨fX fr d r,J'⟩):
  gI P ⟨d,[],.call f args⟩ K ⟨fr,J⟩:=by
 subst b;exact h.mono c
def bB{P:bo}{d:cU}{q:Nat×Bool}{b:fJ}{f:Nat}{args:List O}{K:ca}{fr:aB}{J:ak}{e:aB}{v:V}{c:Bool}(a:chainB fr (q::b)=some c)(h:c=true->PC P f e J (λr J'=>r=v/\J'=J))(j:args.map (ev fr)=e)(g:K ⟨fX fr d v,J⟩):
  gI P ⟨d,q::b,.call f args⟩ K ⟨fr,J⟩:=by
 subst j;simp only[gI,a,ED];exact⟨λa=>(h a).mono λl J' ⟨i,k⟩=>by subst i;subst k;exact g,λ_=>⟨v,g⟩⟩
def BO{P:bo}{d:cU}{q:Nat×Bool}{e:fJ}{x:O}{args:List O}{K:ca}{fr:aB}{J:ak}{v:V}{c:Bool}(b:chainB fr (q::e)=some c)
  (h:c=true->∃f a,ev fr x=.fn f a/\QZ P f=true/\PC P f (args.map (ev fr)++a) J (λr J'=>r=v/\J'=J)) (g:K ⟨fX fr d v,J⟩):gI P ⟨d,q::e,.uD x args⟩ K ⟨fr,J⟩:=by
 simp only[gI,b,ED];refine⟨λb=>?_,λ_=>⟨v,g⟩⟩;obtain⟨f,a,l,i,j⟩:=h b;rw[l];exact⟨i,j.mono λn J' ⟨k,m⟩=>by subst k;subst m;exact g⟩
def ua{P:bo}{d:cU}{q:Nat×Bool}{b:fJ}{f:Nat}{args:List O}{K:ca}{fr:aB}{J:ak}{e:aB}{Q:V->ak->Prop}{c:Bool}(a:chainB fr (q::b)=some c)(h:c=true->PC P f e J Q)(g:args.map (ev fr)=e)
  (i:c=true->∀r J',Q r J'->K ⟨fX fr d r,J'⟩) (j:c=false->∃v,K ⟨fX fr d v,J⟩):gI P ⟨d,q::b,.call f args⟩ K ⟨fr,J⟩:=by
 subst g;simp only[gI,a,ED];exact⟨λa=>(h a).mono (i a),j⟩
def ajc(P:bo)(chk:List Pi)(b:List (List Pi×Pi×List Pi))(last:List Pi)(K:ca)(a:St):Prop:=(∀p∈chk,KB p a)/\Aa P b last K a
def pS:ak->List Ob->List Ob->List Ob->(ak->ak->Prop)->Prop
 |τ,[],[],s,K=>K τ s
 |τ,[],X::Xs,Y::s,K=>X=Y/\pS τ [] Xs s K
 |τ,_::a,Xs,y::s,K=>pS (τ++[y]) a Xs s K
 |_,_,_,_,_=>False
def CX:∀{a:List Ob} {τ:ak} {Xs s:List Ob} {K:ak->ak->Prop},pS τ a Xs s K<->∃c ε,c.length=a.length/\s=c++(Xs++ε)/\K (τ++c) ε
 |[],τ,[],s,K=>by
  simp only[pS];constructor
  .intro h;exact⟨[],s,rfl,rfl,by simpa using h⟩
  .rintro⟨c,ε,d,rfl,b⟩;obtain rfl:=aW d;simpa using b
 |[],τ,X::Xs,[],K=>by
  simp only[pS,acr];rintro⟨c,ε,d,b,_⟩;simp at b
 |[],τ,X::Xs,Y::s,K=>by
  simp only[pS,CX (a:=[]) (Xs:=Xs)];constructor
  .rintro⟨rfl,c,ε,d,rfl,b⟩;obtain rfl:=aW d;exact⟨[],ε,rfl,rfl,b⟩
  .rintro⟨c,ε,d,b,e⟩;obtain rfl:=aW d;simp only[bc,bJ,jU]at b;exact⟨b.1.symm,[],ε,rfl,b.2,e⟩
 |x::a,τ,Xs,[],K=>by
  simp only[pS,acr];rintro⟨c,ε,d,b,_⟩;cases c with
  |nil=>simp at d
  |cons y c=>simp at b
 |x::a,τ,Xs,y::s,K=>by
  simp only[pS,CX (a:=a) (Xs:=Xs)];constructor
  .rintro⟨c,ε,d,rfl,b⟩;exact⟨y::c,ε,by simp[d],rfl,by simpa using b⟩
  .rintro⟨c,ε,d,b,e⟩;cases c with
   |nil=>simp at d
   |cons z c =>
    simp only[bJ,jU]at b;obtain⟨rfl,rfl⟩:=b;exact⟨c,ε,by simpa using d,rfl,by simpa using e⟩
def grown_of{J J':ak}{a Xs b:List Ob}{K:ak->ak->Prop}(f:J'.length=J.length):grown (J++a) Xs (J'++b) K=pS J' a Xs b K:=by
 rw[KS,CX,grown];constructor
 .rintro⟨j,ε,d,g,h⟩;have e:=List.append_eq_append_iff.1 g;rcases e with⟨c,rfl,rfl⟩|⟨c,rfl,i⟩
  .exact⟨c,ε,by simp[f]at d;exact d,rfl,h⟩
  .have m:c=[]:=aW (by simp at d f;omega);subst m;simp only[bL,bc]at d i f h;have k:a.length=0:=by simp at d;omega
   exact⟨[],ε,by simp[k],i.symm,by simpa using h⟩
 .rintro⟨l,ε,d,rfl,g⟩;exact⟨J'++l,ε,by simp[d,f],by simp,g⟩
def abr{J:ak}{a Xs b:List Ob}{K:ak->ak->Prop}:grown (J++a) Xs (J++b) K=pS J a Xs b K:=grown_of rfl
def X0{J:ak}{Xs b:List Ob}{K:ak->ak->Prop}:grown J Xs (J++b) K=pS J [] Xs b K:=by
 have:=grown_of (J:=J) (J':=J) (a:=[]) (Xs:=Xs) (b:=b) (K:=K) rfl
 rwa [bL]at this
def T9{τ:ak}{s:List Ob}{K:ak->ak->Prop}:pS τ [] [] s K=K τ s:=by cases s<;>rfl
def Ua{τ:ak}{X Y:Ob}{Xs s:List Ob}{K:ak->ak->Prop}:pS τ [] (X::Xs) (Y::s) K=(X=Y/\pS τ [] Xs s K):=rfl
def T8{τ:ak}{x y:Ob}{a Xs s:List Ob}{K:ak->ak->Prop}:pS τ (x::a) Xs (y::s) K=pS (τ++[y]) a Xs s K:=by cases Xs<;>rfl
def aj9(P:bo)(bx:List Ob)(chk:List Pi)(ds1 ds2:List (List Pi×Pi×List Pi))(last:List Pi)(K:ca)(τ:ak)(Xs:List Ob)(a:St):Prop:=(∀p∈chk,KB p a)/\grown τ Xs a.J (Fz P bx ds1 ds2 last K a.fr)
def aj7(P:bo)(bx:List Ob)(L:Pi)(chk:List Pi)(ds1 ds2:List (List Pi×Pi×List Pi))(last:List Pi)(K:ca)(τ ε:ak)(b:St):Prop:=Ux bx λa=>gI P L (aj9 P bx chk ds1 ds2 last K τ a) ⟨b.fr,τ++(a++ε)⟩
def aj6(P:bo)(L:Pi)(chk:List Pi)(a:List (List Pi×Pi×List Pi))(last:List Pi)(K:ca)(τ:ak)(b:St):Prop:=gI P L (ajc P chk a last K) ⟨b.fr,τ⟩
def agf(K:ca)(τ:ak)(a:St):Prop:=K ⟨a.fr,τ⟩
section
variable {P:bo} {bx:List Ob} {Pf last:List Pi} {L:Pi} {chk:List Pi} {ds1 ds2:List (List Pi×Pi×List Pi)} {K:ca} {fr:aB} {τ ε:ak}
def ZA:Fz P bx [] [] last K fr τ ε=oQ P [] last (agf K (τ++(bx++ε))) ⟨fr,τ++(nH bx++ε)⟩:=rfl
def WL:Fz P bx [] ((Pf,L,chk)::ds2) last K fr τ ε=oQ P [] Pf (aj6 P L chk ds2 last K (τ++(bx++ε))) ⟨fr,τ++(nH bx++ε)⟩:=rfl
def WM:Fz P bx ((Pf,L,chk)::ds1) ds2 last K fr τ ε=oQ P [] Pf (aj7 P bx L chk ds1 ds2 last K τ ε) ⟨fr,τ++(nH bx++ε)⟩:=by cases ds2<;>rfl
end
def ZB{P:bo}{last:List Pi}{K:ca}{a:St}:Aa P [] last K a=oQ P [] last K a:=rfl
def WN{P:bo}{Pf:List Pi}{L:Pi}{chk:List Pi}{a:List (List Pi×Pi×List Pi)}{last:List Pi}{K:ca}{b:St}:
  Aa P ((Pf,L,chk)::a) last K b=oQ P [] Pf (gI P L (ajc P chk a last K)) b:=rfl
def ZC{P:bo}{gs:dK}{K:ca}{fr:aB}{J:ak}:oQ P gs [] K ⟨fr,J⟩=K ⟨RZ gs fr,J⟩:=rfl
def WO{P:bo}{gs:dK}{p:Pi}{a:List Pi}{K:ca}{fr:aB}{J:ak}:oQ P gs (p::a) K ⟨fr,J⟩=gI P p (oQ P gs a K) ⟨fr,J⟩:=rfl
def jX{J l:ak}:(J++l)[J.length]?=l[0]?:=by rw[aU (aD _),jm]
def qv{J l:ak}{k:Nat}:(J++l)[J.length+k]?=l[k]?:=by rw[aU (acv _ _),fF]
def yM{J l:ak}{x:Ob}:(J++l).set J.length x=J++l.set 0 x:=by rw[dA _ _ (aD _),jm]
def ub{J l:ak}{k:Nat}{x:Ob}:(J++l).set (J.length+k) x=J++l.set k x:=by
 rw[dA _ _ (acv _ _),fF]
def acm{J l:ak}:(J++l).length=J.length+l.length:=aj
def oa(id g sz:Nat)(rows:dF):V->V
 |.own id' g'=>if id'=id/\g'=g then .sl sz rows else .own id' g'
 |.sub id' g' lo hi=>if id'=id/\g'=g then .sl sz ((rows.drop lo).take (hi - lo))else .sub id' g' lo hi
 |x=>x
def fz(id g sz:Nat)(rows:dF):V->V
 |.agg xs=>.agg (xs.map (oa id g sz rows))
 |x=>oa id g sz rows x
def abH{P:bo}{B:Nat}{w0 w:bD}{J:ak}{μ:Mem}(b:lj P B w0 w J μ){id E sz by' g:Nat}{rows:dF}(a:J[id]?=some (.row E sz by' g true rows)){x:V}{v:Value}(h:VR w J μ x v):
  VR w J μ (oa id g sz rows x) v:=by
 unfold oa;split
 .split
  .rename_i e;obtain⟨rfl,rfl⟩:=e;rw[h.mK a];have:=VR.D7 b a 0 rows.length (by omega) (aD _);rw[PS b a]at this;simpa using this
  .exact h
 .split
  .rename_i e;obtain⟨rfl,rfl⟩:=e;obtain⟨f,c,d⟩:=h.wX a;rw[d];exact VR.D7 b a _ _ f c
  .exact h
 .exact h
def an5{P:bo}{B:Nat}{w0 w:bD}{J:ak}{μ:Mem}(c:lj P B w0 w J μ){id E sz by' g:Nat}{rows:dF}(a:J[id]?=some (.row E sz by' g true rows)){x:V}{v:Value}(h:VR w J μ x v):
  VR w J μ (fz id g sz rows x) v:=by
 unfold fz;split
 .rename_i j;obtain⟨k,rfl,e,d⟩:=h.mi;refine .agg _ _ (by simpa using e) λi y b=>?_;rw[ck,aF]at b;obtain⟨z,f,rfl⟩:=b;exact abH c a (d i z f)
 .exact abH c a h
def Wk.fz{P:bo}{n:Nat}{xs:aB}{J:ak}(id:Nat){E sz by' g:Nat}{sh:Bool}{rows:dF}(c:J[id]?=some (.row E sz by' g sh rows)):
  Wk P n xs J (xs.map (Pm.fz id g sz rows)) (J.set id (.row E sz by' g true rows)):=by
 refine Wk.trans (Wk.share c) ?_;have e:id<J.length:=(ah.1 c).1;intro B j w f k d a;refine⟨f,d,⟨by simp[a.1],λi y b=>?_⟩,jO.refl _ _ _ _⟩;rw[ck,aF]at b;obtain⟨z,h,rfl⟩:=b;exact an5 d (by rw[aL e]) (a.2 i z h)
def Wk.one{P:bo}{n:Nat}{xs xs':aB}{J J':ak}(h:Wk P n xs J xs' J')(j:xs'.length=xs.length):Wk P n [Pm.one xs] J [Pm.one xs'] J':=by
 intro B p w o u q g;have k:=g.2 0 _ rfl
 have m:∀{l:bD} {c:aB} {f:Array Value} {b:Mem},CR l J' b c f->c.length≠1->VR l J' b (Pm.one c) (.tuple f):=by
  intro l c f b a d
  match c,a,d with
  |[],a,_=>exact .iQ _ _ a.1 a.2
  |x::y::c,a,_=>exact .iQ _ _ a.1 a.2
  |[x],_,d=>exact absurd rfl d
 by_cases a:xs.length=1
 .match xs,a,h,j,k with
  |[x],_,h,j,k =>
   match xs',j,h with
   |[x'],_,h =>
    exact h B p w o u q ⟨g.1,λi y e=>g.2 i y e⟩
 .have s:Pm.one xs=.iQ xs:=by
   match xs,a with
   |[],_=>rfl
   |x::y::xs,_=>rfl
   |[x],a=>exact absurd rfl a
  rw[s]at k;obtain⟨f,v,d,r⟩:=k.Oy;obtain⟨b,z,A,t⟩:=h B p w o f q ⟨d,r⟩;refine⟨b,z,⟨g.1,λi y e=>?_⟩,t⟩;cases i with
  |zero =>
   simp only[aM,ae]at e;subst e;rw[v];exact m A (by rw[j];exact a)
  |succ i=>simp at e
def fH{P:bo}{n:Nat}{b:List Rs}{Q:V->ak->Prop}{e:Exit}{a:St}{xs xs':aB}{J':ak}(d:e=.normal\/e=.ret)(h:ni a b=some xs)(c:Wk P n xs a.J xs' J')(f:xs'.length=xs.length)(g:Q (one xs') J'):
  rG P n b Q e a:=⟨d,xs,h,_,_,c.one f,g⟩
def jP(m:Nat):aB->Prop
 |[]=>True
 |x::xs=>x.Lt m/\jP m xs
def gZ{m:Nat}:∀{xs:aB},jP m xs<->∀(i:Nat) (x:V),xs[i]?=some x->x.Lt m
 |[]=>by simp[jP]
 |y::xs=>by
  rw[jP,gZ];constructor
  .rintro⟨c,b⟩ i x a;cases i with
   |zero=>simp only[aM,ae]at a;subst a;exact c
   |succ i=>exact b i x (by simpa using a)
  .intro h;exact⟨h 0 y rfl,λi x a=>h (i+1) x (by simpa using a)⟩
section
variable {m:Nat}
def apa:V.u.Lt m<->True:=⟨λ_=>trivial,λ_=>.u⟩
def apb{x}:(V.b x).Lt m<->True:=⟨λ_=>trivial,λ_=>.b _⟩
def adB{k a}:(V.i k a).Lt m<->True:=⟨λ_=>trivial,λ_=>.i _ _⟩
def ahm{l}:(V.s l).Lt m<->True:=⟨λ_=>trivial,λ_=>.s _⟩
def ahp:V.nil.Lt m<->True:=⟨λ_=>trivial,λ_=>.nil⟩
def ahq{sz xs}:(V.lit sz xs).Lt m<->True:=⟨λ_=>trivial,λ_=>.lit _ _⟩
def GS{sz xs}:(V.sl sz xs).Lt m<->True:=⟨λ_=>trivial,λ_=>.sl _ _⟩
def amD{sz xs i o}:(V.ep sz xs i o).Lt m<->True:=⟨λ_=>trivial,λ_=>.ep _ _ _ _⟩
def Xj:V.jG.Lt m<->True:=⟨λ_=>trivial,λ_=>.jG⟩
def Xi:V.mu.Lt m<->True:=⟨λ_=>trivial,λ_=>.mu⟩
def aho{id g}:(V.own id g).Lt m<->id<m:=⟨λh=>by cases h;assumption,λh=>.own _ _ h⟩
def ahl{id g lo hi}:(V.sub id g lo hi).Lt m<->id<m:=⟨λh=>by cases h;assumption,λh=>.sub _ _ _ _ h⟩
def ahn{id o}:(V.ptr id o).Lt m<->id<m:=⟨λh=>by cases h;assumption,λh=>.ptr _ _ h⟩
def amA{id g i o}:(V.rp id g i o).Lt m<->id<m:=⟨λh=>by cases h;assumption,λh=>.rp _ _ _ _ h⟩
def amB{id}:(V.mp id).Lt m<->id<m:=⟨λh=>by cases h;assumption,λh=>.mp _ h⟩
def amC{id}:(V.it id).Lt m<->id<m:=⟨λh=>by cases h;assumption,λh=>.it _ h⟩
def aai{xs}:(V.agg xs).Lt m<->jP m xs:=by
 rw[gZ];exact⟨λh=>by cases h;assumption,λh=>.agg _ h⟩
def ahk{xs}:(V.iQ xs).Lt m<->jP m xs:=by
 rw[gZ];exact⟨λh=>by cases h;assumption,λh=>.iQ _ h⟩
end
def Wk.vN{P:bo}{xs:aB}{J loc:ak}(a:cn J)(b:jP J.length xs):Wk P J.length xs (J++loc) xs J:=Wk.A2 (aD _) a (gZ.1 b)
def bg{P:bo}{a:List Rs}{Q:V->ak->Prop}{e:Exit}{fr:aB}{J loc:ak}{xs:aB}(c:cn J)(b:e=.normal\/e=.ret)(g:ni ⟨fr,J++loc⟩ a=some xs)(d:jP J.length xs)(f:Q (one xs) J):
  rG P J.length a Q e ⟨fr,J++loc⟩:=fH b g (Wk.vN c d) rfl f
def gq{P:bo}{a:List Rs}{fr:aB}{J loc:ak}{y:V}(b:cn J)(d:ni ⟨fr,J++loc⟩ a=some [y])(c:jP J.length [y]):rG P J.length a (λr J'=>r=y/\J'=J) .ret ⟨fr,J++loc⟩:=bg b (.inr rfl) d c ⟨rfl,rfl⟩
def kb{P:bo}{a:List Rs}{Q:V->ak->Prop}{e:Exit}{fr:aB}{J loc:ak}{xs ys:aB}(d:cn J)(c:e=.normal\/e=.ret)(h:ni ⟨fr,J++loc⟩ a=some xs)(b:oJ xs ys)(f:jP J.length ys)(g:Q (one ys) J):
  rG P J.length a Q e ⟨fr,J++loc⟩:=fH c h ((Wk.fg b).trans (Wk.vN d f)) b.at.1 g
def uu:Nat->aB->aB
 |0,l=>l
 |n+1,l=>.u::uu n l
def fj:Nat->((aB->Prop)->Prop)->(aB->Prop)->Prop
 |0,c,p=>c p
 |n+1,c,p=>∀j,fj n c λl=>p (j::l)
def fh(x:V)(c:(aB->Prop)->Prop)(p:aB->Prop):Prop:=c λl=>p (x::l)
def fo(p:aB->Prop):Prop:=p []
def Lj(R:ca)(K:bl):bl
 |.normal=>R
 |e=>K e
def P7{R:ca}{K:bl}:Lj R K .normal=R:=rfl
def ZF{R:ca}{K:bl}:Lj R K .ret=K .ret:=rfl
def WT{R:ca}{K:bl}{id:Nat}:Lj R K (.exit id)=K (.exit id):=rfl
def ar{n:Nat}{P:bo}{c:bK}{K:bl}{N:Nat}{b:St}(h:∀R:ca,(∀a,fm n P c K N a->R a)->Fm n P c (Lj R K) b):fm n P c K (N+1) b:=by
 refine ZE ?_;have:=h (fm n P c K N) λ_ h=>h;have e:Lj (fm n P c K N) K=akb n P c K N:=by funext e;cases e<;>rfl
 rw[<- e];exact this
def rF{n:Nat}{P:bo}{c:bK}{K:bl}{N:Nat}{fr fr':aB}{J J':ak}(h:Wk P n fr J fr' J')(k:fm n P c K N ⟨fr',J'⟩):fm n P c K N ⟨fr,J⟩:=by
 cases N with
 |zero=>exact k.elim
 |succ N=>exact bZ.wk h k
def ny{n:Nat}{P:bo}{c:bK}{K:bl}{N:Nat}{fr fr':aB}{J loc:ak}(d:n<=J.length)(a:cn J)(e:oJ fr fr')(b:jP J.length fr')(k:fm n P c K N ⟨fr',J⟩):fm n P c K N ⟨fr,J++loc⟩ :=
 rF ((Wk.fg e).trans (Wk.A2 d a (gZ.1 b))) k
def aK{n:Nat}{P:bo}{c:bK}{K:bl}{N:Nat}{fr fr':aB}{J:ak}(a:oJ fr fr')(k:fm n P c K N ⟨fr',J⟩):fm n P c K N ⟨fr,J⟩ :=
 rF (Wk.fg a) k
def Ic{n:Nat}(h:n<2^63):IntKind.i64.wrap (n:Int)=n:=IntWalk.i64_in _ (by omega)
def cm{n:Nat}(h:n+1<2^63):IntKind.i64.wrap ((n:Int)+1)=((n+1:Nat):Int):=by rw[IntWalk.i64_in _ (by omega)];omega
def dh{α:Type _}(a:List α)(b:α)(h:a.length+1<2^63):IntKind.i64.wrap ((a.length:Int)+1)=(((a++[b]).length:Nat):Int):=by rw[cm h];simp
def cN{α:Type _}{a b:List α}(h:a=b++[]):a=b:=by simpa using h
def mT{α:Type _}{a b r:List α}{x:α}(h:a=b++x::r):a.length=b.length+(r.length+1):=by rw[h];simp
def um{α:Type}{f:α->aB}{pre rest:List α}{x:α}{d:aB}:(List.map f (pre++x::rest)).getD pre.length d=f x:=by
 simp[aq]
def qR{α:Type}{f:α->aB}{pre rest:List α}{x:α}{j:Nat}:gj (List.map f (pre++x::rest)) pre.length j=(f x)[j]?:=by
 simp[gj]
def aO{P:bo}{a:List Rs}{Q:V->ak->Prop}{e:Exit}{fr:aB}{J:ak}{xs:aB}(b:e=.normal\/e=.ret)(d:ni ⟨fr,J⟩ a=some xs)(c:Q (one xs) J):
  rG P J.length a Q e ⟨fr,J⟩:=fH b d (Wk.refl _ _) rfl c
def mG{sz:Nat}{xs:dF}(h:(V.sl sz xs).Wf):xs.length<2^63:=by
 cases h with
 |sl _ _ h=>simp only[maxLen]at h;omega
def Dj{l:aG}(h:(V.s l).Wf):l.length<2^63:=by
 cases h with
 |s _ h=>simp only[maxLen]at h;omega
def bZ.aK{n:Nat}{P:bo}{c:bK}{K:bl}{fr fr':aB}{J:ak}(a:oJ fr fr')(N:Nat)(h:fm n P c K N ⟨fr',J⟩):bZ n P (.loop c) K ⟨fr,J⟩ :=
 bZ.wk (Wk.fg a) (bZ.uh N h)
def afy{a b:Bool}:(bif a then true else b)=(a||b):=by cases a<;>rfl
def ab0{a b:Bool}:(bif a then b else false)=(a&&b):=by cases a<;>rfl
def WJ{pre rest:aG}{x:UInt8}{d:UInt8}:(pre++x::rest).getD pre.length d=x:=by
 simp[aq]
def V8{P:bo}{d:cU}{f:Nat}{args:List O}{K:ca}{fr:aB}{J σ1 a:ak}{zs:aB}{v:V}(b:Wk P J.length (args.map (ev fr)) J zs σ1)(h:PC P f zs σ1 (λr J'=>r=v/\J'=a))(c:K ⟨fX fr d v,a⟩):
  gI P ⟨d,[],.call f args⟩ K ⟨fr,J⟩ :=
 aw (PC.wk b h) rfl c
def ml{P:bo}{d:cU}{f:Nat}{args:List O}{K:ca}{fr:aB}{J a:ak}{zs:aB}{v:V}(b:oJ (args.map (ev fr)) zs)(h:PC P f zs J (λr J'=>r=v/\J'=a))(c:K ⟨fX fr d v,a⟩):
  gI P ⟨d,[],.call f args⟩ K ⟨fr,J⟩ :=
 aw (PC.wk (Wk.fg b) h) rfl c
def bV(n:Int):aB:=[.i .i64 n]
def ab6{p:Prop}{v w:V}:(∃c,some (p,v)=some (c,w)/\c)=(v=w/\p):=by
 simp only[ae,aQ,KS];exact⟨λ⟨_,⟨b,a⟩,d⟩=>⟨a,b.2 d⟩,λ⟨b,a⟩=>⟨p,⟨Fk,b⟩,a⟩⟩
def ab7{p:Prop}{v:V}:(∃a r,some (p,v)=some (a,r)/\a)=p:=by
 simp only[ae,aQ,KS];exact⟨λ⟨_,_,⟨b,_⟩,c⟩=>b.2 c,λh=>⟨p,v,⟨Fk,rfl⟩,h⟩⟩
def Be{l:bH}{i:Nat}(h:i<l.length):gj (l.map bV) i 0=some (.i .i64 (l.getD i 0)):=by
 simp[gj,bV,h]
def mW{P:bo}{a:List Rs}{Q:V->ak->Prop}{e:Exit}{fr:aB}{J loc:ak}{xs:aB}(k:Nat){E sz by' g:Nat}{sh:Bool}{rows:dF}(f:cn J)(i:e=.normal\/e=.ret)(d:ni ⟨fr,J++loc⟩ a=some xs)
  (h:loc[k]?=some (.row E sz by' g sh rows)) (b:jP J.length (xs.map (fz (J.length+k) g sz rows))) (c:Q (one (xs.map (fz (J.length+k) g sz rows))) J):rG P J.length a Q e ⟨fr,J++loc⟩:=by
 refine fH i d ((Wk.fz (J.length+k) (by rw[qv];exact h)).trans ?_) (by simp) c;rw[ub];exact Wk.vN f b
def tiB(P:bo)(E sz by':Nat):Bool :=
 match P.info? E with
 |some t=>match t.zero with
  |some z=>decide (0<sz)&&(t.size==sz&&(t.bytes==by'&&z.cells.size==sz))
  |none=>false
 |none=>false
def qJ{P:bo}{E sz by':Nat}(h:tiB P E sz by'=true):Ti P E sz by':=by
 unfold tiB at h;split at h
 .rename_i t a;split at h
  .rename_i z b;simp only[aJ,aV,cE]at h;exact⟨h.1,t,z,a,b,h.2.1,h.2.2.1,h.2.2.2⟩
  .simp at h
 .simp at h
def PC.Oc{P:bo}{f:Nat}{args:aB}{J:ak}{v:V}(h:∀(w:bD) (μ:Mem) (a:Array Value),VRs w J μ args a->∃u,Calls P f a w (λe w'=>e=.returned u/\w'=w)/\VR w J μ v u):
  PC P f args J (λr J'=>r=v/\J'=J):=by
 intro B i w μ a d c;obtain⟨u,g,b⟩:=h w μ a c;refine g.mono ?_;rintro e w' ⟨rfl,rfl⟩;exact⟨v,u,J,μ,rfl,⟨rfl,rfl⟩,d,b,uc.refl _ _ _⟩
def vs1{a:Array Value}(h:a.size=1):a=#[a.getD 0 undef]:=by
 apply Array.ext
 .simpa using h
 .intro i b c;have:i=0:=by omega
  subst this;simp[b]
def vs2{a:Array Value}(h:a.size=2):a=#[a.getD 0 undef,a.getD 1 undef]:=by
 apply Array.ext
 .simpa using h
 .intro i b c;have:i=0\/i=1:=by omega
  rcases this with rfl|rfl<;>simp[b]
def UY{o:Ob}{n:Nat}(h:match o with|.box _ cs=>jP n cs|.map _ _ b=>jP n (b.map (·.2))|.iter _ m _ _ _ _=>m<n|_=>True):∀(j:Nat) (x:V),o.refs[j]?=some x->x.Lt n:=by
 cases o with
 |box T cs=>exact gZ.1 h
 |map K E b=>exact gZ.1 h
 |iter d m E k e c =>
  intro j x a;cases j with
  |zero=>simp only[Ob.refs,aM,ae]at a;subst a;exact .mp _ h
  |succ j=>simp[Ob.refs]at a
 |_=>intro j x a;simp[Ob.refs]at a
def OL(n:Nat):Ob->Prop
 |.box _ cs=>jP n cs
 |.map _ _ es=>jP n (es.map (·.2))
 |.iter _ m _ _ _ _=>m<n
 |_=>True
def Yr{J:ak}(e:cn J){id n:Nat}{o:Ob}(h:J[id]?=some o)(d:J.length<=n):OL n o:=by
 have a:=e id o h;cases o with
 |box T l=>exact gZ.2 λj x b=>(a j x b).mono d
 |map K E f=>exact gZ.2 λj x b=>(a j x b).mono d
 |iter g m E k i c =>
  have:=a 0 (.mp m) rfl;cases this;show m<n;omega
 |_=>trivial
def OL.mono{n m:Nat}{o:Ob}(h:OL n o)(a:n<=m):OL m o:=by
 cases o with
 |box T g=>exact gZ.2 λj x b=>(gZ.1 h j x b).mono a
 |map K E d=>exact gZ.2 λj x b=>(gZ.1 h j x b).mono a
 |iter e k E l f c=>exact fv h a
 |_=>trivial
def vX{n:Nat}{b:List (V×V)}(h:∀x∈b,x.2.Lt n):jP n (b.map (·.2)):=gZ.2 λj x a=>by
 rw[ck,aF]at a;obtain⟨c,d,rfl⟩:=a;exact h c (bE d)
def cC{J l:ak}(h:cn J)(e:∀o∈l,match o with|.box _ cs=>jP (J.length+l.length) cs|.map _ _ es=>jP (J.length+l.length) (es.map (·.2))|.iter _ m _ _ _ _=>m<J.length+l.length|_=>True):cn (J++l):=by
 intro id o a j x b;rw[aj];rcases kE id J.length with c|d
 .rw[ay c]at a;exact(h id o a j x b).mono (acv _ _)
 .rw[aU d]at a;exact UY (e _ (bE a)) j x b
def cG{P:bo}{c:bK}{K:bl}{N:Nat}{fr fr':aB}{J:ak}(l loc:ak)(a:cn (J++l))(d:oJ fr fr')(b:jP (J.length+l.length) fr')(k:fm J.length P c K N ⟨fr',J++l⟩):fm J.length P c K N ⟨fr,J++(l++loc)⟩:=by
 rw[<- List.append_assoc];exact rF ((Wk.fg d).trans (Wk.A2 (by simp) a (by rw[aj];exact gZ.1 b))) k
def Wk.jA{P:bo}{n:Nat}{xs:aB}{J:ak}(loc:ak){k E sz by':Nat}(hT:Ti P E sz by')(a:xs[k]?=some .nil):Wk P n xs (J++loc) (xs.set k (.own (J.length+loc.length) 0)) (J++(loc++[.row E sz by' 0 false []])):=by
 have:=Wk.ij (P:=P) (n:=n) (J:=J++loc) hT a
 rwa [aj,bk]at this
def sf:∀(l:aG),bytesOf (gp l)=some l
 |[]=>rfl
 |c::l=>by
  have ih:=sf l;simp only[gp,aH,bytesOf,yK]at ih |-;rw[ih];simp
def nc{a b:aG}:gp a++gp b=gp (a++b):=by simp[gp]
def il{a:aG}:(gp a).length=a.length:=by simp[gp]
end Go.Pm
namespace Go.Pm
open Go
def wW:bK->List bK
  |.seq a b=>wW a++wW b
  |.ite _ a b=>wW a++wW b
  |.block _ c=>wW c
  |.loop c=>wW c++[c]
  |_=>[]
def Kb:bK->List bK->bK×List bK
  |.seq a b,d=>let p:=Kb a d;let q:=Kb b p.2;(.seq p.1 q.1,q.2)
  |.ite c a b,d=>let p:=Kb a d;let q:=Kb b p.2;(.ite c p.1 q.1,q.2)
  |.block i c,d=>let p:=Kb c d;(.block i p.1,p.2)
  |.loop c,d=>let n:=(wW c).length;(.loop (d.getD n .skip),d.drop (n+1))
  |c,d=>(c,d)
def eL(o:Option ux)(b:List bK):ux:=match o with
  |some a=>⟨a.nt,a.rs,(Kb a.c b).1⟩
  |none=>⟨0,[],.skip⟩
def dV(o:Option ux)(n:Nat)(b:List bK):bK:=match o with
  |some a=>(Kb ((wW a.c).getD n .skip) b).1
  |none=>.skip
abbrev Nf{α:Type}(a:α):Type:={x // a=x}
abbrev bj(P:Program)(f:Func):Type:={x//dY P f=some x}
def sub:Code->dK->Code
  |.seq a _,0::r=>sub a r
  |.seq _ b,_::r=>sub b r
  |.cond _ a _,0::r=>sub a r
  |.cond _ _ b,_::r=>sub b r
  |.block _ c,_::r=>sub c r
  |.loop c,_::r=>sub c r
  |c,_=>c
def sc(P:bo)(a:Func)(r:dK):bK:=match a.body with
  |some c=>match jI P (sub c r)with
    |some p=>p
    |none=>.skip
  |none=>.skip
end Go.Pm

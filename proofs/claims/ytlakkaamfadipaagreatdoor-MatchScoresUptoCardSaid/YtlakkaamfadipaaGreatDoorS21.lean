/- A part of a proof; the claim's last text says of what. -/
import Derived.Test.YtlakkaamfadipaaGreatDoorS20
set_option linter.all false

namespace Go.Bt
open Go Go.Pm
inductive Al:List It→List It→Int→Prop
 | nil:Al [] [] 0
 | del (x:It) {a b:List It} {c:Int} (h:Al a b c):Al (x::a) b (single x+c)
 | ins (u:It) {a b:List It} {c:Int} (h:Al a b c):Al a (u::b) (single u+c)
 | pair (x u:It) {p:Int} (hp:dj x u=some p) {a b:List It} {c:Int} (h:Al a b c):Al (x::a) (u::b) (p+c)
theorem Al.cast{a b:List It}{c d:Int}(h:Al a b c)(e:c=d):Al a b d:=e▸h
theorem zQ(o:Option Int)(v1 v2:Int):kj o v1 v2≤v1∧kj o v1 v2≤v2∧∀ v,o=some v→kj o v1 v2≤v:=by
 cases o with
 | none =>
  unfold kj;simp only;refine⟨by split<;>omega,by split<;>omega,fun v h=>by simp at h⟩
 | some w =>
  unfold kj;simp only;refine⟨by(repeat' split)<;>omega,by(repeat' split)<;>omega,fun v h=>?_⟩;simp only[aa]at h;subst h
  (repeat' split)<;>omega
theorem Pq(o:Option Int)(v1 v2:Int):kj o v1 v2=v1∨kj o v1 v2=v2∨o=some (kj o v1 v2):=by
 cases o with
 | none =>
  unfold kj;simp only;split<;>simp
 | some w =>
  unfold kj;simp only
  (repeat' split)<;>simp
theorem rR:∀ (a b:List It),Al a b (tv a b)
 | [],[]=>by simp only[tv];exact .nil
 | [],u::b=>by simp only[tv];exact .ins u (rR [] b)
 | x::a,[]=>by simp only[tv];exact .del x (rR a [])
 | x::a,u::b=>by
  have h1:=rR a b;have h2:=rR a (u::b);have h3:=rR (x::a) b;simp only[tv];rcases Pq ((dj x u).map (·+tv a b)) (single x+tv a (u::b)) (single u+tv (x::a) b)with h | h | h
  ·rw[h];exact .del x h2
  ·rw[h];exact .ins u h3
  ·obtain⟨p,hp,he⟩:=aj.1 h;rw[← he];exact .pair x u hp h1
theorem uE{a b:List It}{c:Int}(h:Al a b c):tv a b≤c:=by
 induction h with
 | nil=>simp[tv]
 | del x h ih =>
  rename_i a b c;cases b with
  | nil=>simp only[tv];omega
  | cons u b=>have:=(zQ ((dj x u).map (·+tv a b)) (single x+tv a (u::b)) (single u+tv (x::a) b)).1;simp only[tv];omega
 | ins u h ih =>
  rename_i a b c;cases a with
  | nil=>simp only[tv];omega
  | cons x a=>have:=(zQ ((dj x u).map (·+tv a b)) (single x+tv a (u::b)) (single u+tv (x::a) b)).2.1;simp only[tv];omega
 | pair x u hp h ih =>
  rename_i p a b c;have:=(zQ ((dj x u).map (·+tv a b)) (single x+tv a (u::b)) (single u+tv (x::a) b)).2.2 (p+tv a b) (by rw[hp];rfl);simp only[tv];omega
inductive pt:List It→List It→Int→Prop
 | nil:pt [] [] 0
 | del (x:It) {a b:List It} {c:Int} (h:pt a b c):pt (a++[x]) b (c+single x)
 | ins (u:It) {a b:List It} {c:Int} (h:pt a b c):pt a (b++[u]) (c+single u)
 | pair (x u:It) {p:Int} (hp:dj x u=some p) {a b:List It} {c:Int} (h:pt a b c):pt (a++[x]) (b++[u]) (c+p)
theorem pt.cast{a b:List It}{c d:Int}(h:pt a b c)(e:c=d):pt a b d:=e▸h
theorem pt.acr(x:It){a b:List It}{c:Int}(h:pt a b c):pt (x::a) b (single x+c):=by
 induction h with
 | nil=>exact(pt.del x .nil).cast (by omega)
 | del y h ih=>exact(pt.del y ih).cast (by omega)
 | ins u h ih=>exact(pt.ins u ih).cast (by omega)
 | pair y u hp h ih=>exact(pt.pair y u hp ih).cast (by omega)
theorem pt.acq(u:It){a b:List It}{c:Int}(h:pt a b c):pt a (u::b) (single u+c):=by
 induction h with
 | nil=>exact(pt.ins u .nil).cast (by omega)
 | del y h ih=>exact(pt.del y ih).cast (by omega)
 | ins v h ih=>exact(pt.ins v ih).cast (by omega)
 | pair y v hp h ih=>exact(pt.pair y v hp ih).cast (by omega)
theorem pt.Zz(x u:It){p:Int}(hq:dj x u=some p){a b:List It}{c:Int}(h:pt a b c):pt (x::a) (u::b) (p+c):=by
 induction h with
 | nil=>exact(pt.pair x u hq .nil).cast (by omega)
 | del y h ih=>exact(pt.del y ih).cast (by omega)
 | ins v h ih=>exact(pt.ins v ih).cast (by omega)
 | pair y v hp h ih=>exact(pt.pair y v hp ih).cast (by omega)
theorem Al.toR{a b:List It}{c:Int}(h:Al a b c):pt a b c:=by
 induction h with
 | nil=>exact .nil
 | del x h ih=>exact ih.acr x
 | ins u h ih=>exact ih.acq u
 | pair x u hp h ih=>exact ih.Zz x u hp
theorem Al.WC(x:It){a b:List It}{c:Int}(h:Al a b c):Al (a++[x]) b (c+single x):=by
 induction h with
 | nil=>exact(Al.del x .nil).cast (by omega)
 | del y h ih=>exact(Al.del y ih).cast (by omega)
 | ins u h ih=>exact(Al.ins u ih).cast (by omega)
 | pair y u hp h ih=>exact(Al.pair y u hp ih).cast (by omega)
theorem Al.Wz(u:It){a b:List It}{c:Int}(h:Al a b c):Al a (b++[u]) (c+single u):=by
 induction h with
 | nil=>exact(Al.ins u .nil).cast (by omega)
 | del y h ih=>exact(Al.del y ih).cast (by omega)
 | ins v h ih=>exact(Al.ins v ih).cast (by omega)
 | pair y v hp h ih=>exact(Al.pair y v hp ih).cast (by omega)
theorem Al.SE(x u:It){p:Int}(hq:dj x u=some p){a b:List It}{c:Int}(h:Al a b c):Al (a++[x]) (b++[u]) (c+p):=by
 induction h with
 | nil=>exact(Al.pair x u hq .nil).cast (by omega)
 | del y h ih=>exact(Al.del y ih).cast (by omega)
 | ins v h ih=>exact(Al.ins v ih).cast (by omega)
 | pair y v hp h ih=>exact(Al.pair y v hp ih).cast (by omega)
theorem pt.Ab{a b:List It}{c:Int}(h:pt a b c):Al a b c:=by
 induction h with
 | nil=>exact .nil
 | del x h ih=>exact ih.WC x
 | ins u h ih=>exact ih.Wz u
 | pair x u hp h ih=>exact ih.SE x u hp
theorem pt.last{A B:List It}{c:Int}(h:pt A B c):(A=[]∧B=[]∧c=0)∨(∃ a x d,A=a++[x]∧c=d+single x∧pt a B d)∨(∃ b u d,B=b++[u]∧c=d+single u∧pt A b d) ∨
  ∃ a x b u p d,A=a++[x]∧B=b++[u]∧dj x u=some p∧c=d+p∧pt a b d:=by
 cases h with
 | nil=>exact .inl ⟨rfl,rfl,rfl⟩
 | del x h=>exact .inr (.inl ⟨_,x,_,rfl,rfl,h⟩)
 | ins u h=>exact .inr (.inr (.inl ⟨_,u,_,rfl,rfl,h⟩))
 | pair x u hp h=>exact .inr (.inr (.inr ⟨_,x,_,u,_,_,rfl,rfl,hp,rfl,h⟩))
theorem tc{α:Type}{a b:List α}{x y:α}(h:a++[x]=b++[y]):a=b∧x=y:=by
 have:=List.append_inj' h rfl;exact⟨this.1,by simpa using this.2⟩
theorem P2(a b:List It)(t u:It):tv (a++[t]) (b++[u])=mN t u (tv a b) (tv (a++[t]) b) (tv a (b++[u])):=by
 refine Int.le_antisymm ?_ ?_
 ·have h1:=uE ((rR a (b++[u])).WC t);have h2:=uE ((rR (a++[t]) b).Wz u);unfold mN mn;split
  ·rename_i c hc;have h3:=uE ((rR a b).SE t u hc)
   (repeat' split)<;>omega
  ·split<;>omega
 ·have hR:=(rR (a++[t]) (b++[u])).toR;generalize tv (a++[t]) (b++[u])=c at hR;rcases hR.last with⟨h,_⟩ | ⟨a',x,d,h1,h2,h3⟩ | ⟨b',v,d,h1,h2,h3⟩ | ⟨a',x,b',v,p,d,h1,h2,h3,h4,h5⟩
  ·simp at h
  ·obtain⟨rfl,rfl⟩:=tc h1;have:=uE h3.Ab;unfold mN mn
   (repeat' split)<;>omega
  ·obtain⟨rfl,rfl⟩:=tc h1;have:=uE h3.Ab;unfold mN mn
   (repeat' split)<;>omega
  ·obtain⟨rfl,rfl⟩:=tc h1;obtain⟨rfl,rfl⟩:=tc h2;have:=uE h5.Ab;unfold mN mn;rw[h3];simp only
   (repeat' split)<;>omega
theorem A5:∀ (a:List It) (t:It),tv (a++[t]) []=tv a []+single t
 | [],t=>by simp[tv]
 | x::a,t=>by
  have:=A5 a t;simp only[bn,tv]at this ⊢;omega
theorem A4:∀ (b:List It) (u:It),tv [] (b++[u])=tv [] b+single u
 | [],u=>by simp[tv]
 | v::b,u=>by
  have:=A4 b u;simp only[bn,tv]at this ⊢;omega
def rowP(a:List It):List It→List It→List Int
 | _,[]=>[]
 | pre,u::r=>tv a (pre++[u])::rowP a (pre++[u]) r
theorem yd(a:List It)(t:It):∀ (r pre:List It),gT t (tv a pre) (tv (a++[t]) pre) r (rowP a pre r)=rowP (a++[t]) pre r
 | [],pre=>by simp[rowP,gT]
 | u::r,pre=>by
  simp only[rowP,gT];rw[← P2,yd a t r (pre++[u])]
theorem Hc(a b:List It)(t:It):fZ t b (tv a []::rowP a [] b)=tv (a++[t]) []::rowP (a++[t]) [] b:=by
 simp only[fZ,← A5,yd]
theorem yq:∀ (r pre:List It),jM (tv [] pre) r=rowP [] pre r
 | [],_=>rfl
 | u::r,pre=>by simp only[jM,rowP,← A4,yq r (pre++[u])]
theorem zp(b:List It):∀ (rest pre:List It),rest.foldl (fun row t=>fZ t b row) (tv pre []::rowP pre [] b)=tv (pre++rest) []::rowP (pre++rest) [] b
 | [],pre=>by simp
 | t::r,pre=>by
  rw[c8,Hc,zp b r (pre++[t])];simp
theorem Bj(a:List It):∀ (r pre:List It),(tv a pre::rowP a pre r).getD r.length 0=tv a (pre++r)
 | [],pre=>by simp
 | u::r,pre=>by
  have:=Bj a r (pre++[u]);simpa[rowP]using this
theorem zz(a b:List It):gi a b=tv a b+2*mY a b:=by
 unfold gi yl tn
 have e:(0:Int)::jM 0 b=tv [] []::rowP [] [] b:=by
  rw[← yq];simp[tv]
 rw[e,zp,bk,so];have:=Bj a b [];rw[bk]at this;rw[this]
theorem Gg{C:List (TK×Int)}(k:TK)(d:Int)(hd : -1≤d∧d≤1):iC (bump C k d)≤iC C+1:=by
 unfold bump
 induction C with
 | nil=>simp[eO,bS,dH,iC];omega
 | cons p C ih =>
  by_cases h:k=p.1
  ·simp only[eO,bS,dH,bf h,iC,ay,bN,bK,ft];omega
  ·have e:bS k (p::C)=bS k C:=by
    unfold bS;rw[dH,aI h];exact jf k C 1
   rw[e];simp only[eO,aI h,iC,ay,bN]at ih ⊢;omega
theorem pq(d:Int)(hd : -1≤d∧d≤1):∀ (l:List It) (C:List (TK×Int)),iC (eE d C l)≤iC C+l.length
 | [],C=>by simp[eE]
 | t::r,C=>by
  have h:=pq d hd r (if bW t then bump C (dv t) d else C);have h2:=Gg (C:=C) (dv t) d hd;simp only[eE,ai];split at h<;>simp only[*,aL,aK,aF]at*<;> omega
theorem Is(a b:List It):0≤mY a b∧mY a b≤(a.length:Int)+b.length:=by
 have h1:=pq 1 (by omega) a [];have h2:=pq (-1) (by omega) b (eE 1 [] a);have h3:iw a b=2*mY a b:=so a b;have h4:=xx a b a [];have h5:=xw a b b [];have e0:iC ([]:List (TK×Int))=0:=rfl;rw[e0]at h1;unfold iw oS at h3;unfold mY at *;omega
theorem FQ(a b:List It):0≤gi a b∧gi a b≤6*a.length+6*b.length:=by
 rw[zz];have:=vK a b;have:=Is a b;omega
end Go.Bt
namespace Go.Bt
open Go.Pm
structure Sw where
 number:Int
 aic:Int
 ah8:List z6
 log:List UInt8
 synced:Int
 down:Bool
def Sw.ah7(o:Sw):List V:=[.i .i64 o.number,.i .i64 o.aic,.sl 13 (o.ah8.map z6.ah7),.sl 1 (de o.log),.i .i64 o.synced,.b o.down]
def Sw.zero:Sw:=⟨0,0,[],[],0,false⟩
structure Sw.aik (o:Sw):Prop where
 ah8:∀ x∈o.ah8,x.aik
 len:o.ah8.length<2^30
 log:o.log.length<2^30
def Br(a b:z6):Int:=xA [l5 a.gw.jT b.gw.jT,l5 a.gw.number b.gw.number]
end Go.Bt
namespace Go.Bt
open Go Go.Pm
theorem G4{a b:z6}:Br a b=0↔a.gw.jT=b.gw.jT∧a.gw.number=b.gw.number:=by
 simp only[Br,xA,l5]
 (repeat' split)<;>omega
abbrev ZE(l:List z6):Prop:=l.Pairwise fun a b=>Br a b<0
theorem Bs{α:Type}:∀ {l m:List α},l.Nodup→(∀ x∈l,x∈m)→l.length≤m.length
 | [],_,_,_=>dT _
 | a::l,m,hn,h=>by
  rw[eG]at hn;obtain⟨s,t,rfl⟩:=List.append_of_mem (h a (by simp))
  have:=Bs (m:=s++t) hn.2 fun x hx=>by
   have h1:=h x (by simp[hx]);simp only[bL,bJ]at h1 ⊢;rcases h1 with h1 | h1 | h1
   ·exact .inl h1
   ·subst h1;exact absurd hx hn.1
   ·exact .inr h1
  simp only[al,ai]at this ⊢;omega
structure adV (M:List z6):Prop where
 gen:∀ x∈M,ZF x
 off:∀ x∈M,x.gw.jT≠0
 one:∀ x∈M,∀ y∈M,Br x y=0→x=y
 len:M.length≤10
structure Recv (M:List z6) (o:Sw):Prop where
 num:o.number=0
 down:o.down=false
 sub:∀ x∈o.ah8,x∈M
 sort:ZE o.ah8
 top:∀ x∈o.ah8,x.gw.time≤o.aic
 clk:o.aic=0∨∃ x∈o.ah8,o.aic=x.gw.time
 log:o.log.length≤60008*o.ah8.length
theorem G5(x:z6):Br x x=0:=G4.2 ⟨rfl,rfl⟩
theorem Recv.len{M:List z6}{o:Sw}(h:Recv M o):o.ah8.length≤M.length:=by
 refine Bs ?_ h.sub;refine h.sort.imp fun {a b} Ow e=>?_;subst e;rw[G5]at Ow;omega
theorem Recv.aik{M:List z6}{o:Sw}(hM:adV M)(h:Recv M o):o.aik:=by
 have h1:=h.len;have h2:=hM.len;have h3:=h.log;exact⟨fun x hx=>(hM.gen x (h.sub x hx)).aik,by omega,by omega⟩
structure OpG (x:z6):Prop where
 ok:SK x=0
 aik:x.aik
 enc:(Sa x).length≤20000
structure Arr (n:Int) (arr:List z6):Prop where
 op:∀ x∈arr,OpG x
 one:arr.Pairwise fun a b=>Br a b≠0
 own:∀ (j:Nat) (y:z6),(arr.filter fun x=>x.gw.jT==n)[j]?=some y→y.gw.number=j+1
theorem Arr.take{n:Int}{arr:List z6}(h:Arr n arr)(k:Nat):Arr n (arr.take k):=by
 refine⟨fun x hx=>h.op x (fu hx),h.one.sublist (List.take_sublist _ _),fun j y hj=>h.own j y ?_⟩;have e:arr=arr.take k++arr.drop k:=(AX k arr).symm;rw[e,jW,ah (ab.1 hj).1];exact hj
structure jj {α:Type} (c:α→α→Int):Prop where
 lH:∀ a b,c b a = - c a b
 trans:∀ a b d,0≤c a b→0≤c b d→0≤c a d
theorem jj.self{α:Type}{c:α→α→Int}(h:jj c)(a:α):c a a=0:=by have:=h.lH a a;omega
theorem jj.gt{α:Type}{c:α→α→Int}(h:jj c){a b d:α}(h1:0<c a b)(h2:0<c b d):0<c a d:=by
 have h3:=h.trans a b d (by omega) (by omega);rcases(by omega:0<c a d∨c a d=0)with h4 | h4
 ·exact h4
 ·have h5:=h.lH a d;have h6:=h.trans d a b (by omega) (by omega);have h7:=h.lH d b;omega
theorem jj.on{α β:Type}{c:β→β→Int}(h:jj c)(f:α→β):jj fun a b=>c (f a) (f b) :=
 ⟨fun _ _=>h.lH _ _,fun _ _ _=>h.trans _ _ _⟩
def C6{α:Type}(c d:α→α→Int)(a b:α):Int:=if c a b≠0 then c a b else d a b
theorem jj.lex{α:Type}{c d:α→α→Int}(h:jj c)(k:jj d):jj (C6 c d):=by
 refine⟨fun a b=>?_,fun a b e h1 h2=>?_⟩
 ·have h1:=h.lH a b;have h2:=k.lH a b;simp only[C6];split<;>split<;>omega
 ·have g1:=h.lH a b;have g2:=h.lH b e;have g3:=h.trans a b e;have g4:=h.trans e a b;have g5:=h.lH e b;have g6:=h.lH a e;have g7:=h.trans b e a;have g8:=h.lH b a;have k3:=k.trans a b e;simp only[C6]at h1 h2 ⊢;split at h1<;>split at h2<;>split<;>omega
theorem ug:jj l5:=by
 refine⟨fun a b=>?_,fun a b d=>?_⟩<;>simp only[l5]<;>(repeat' split)<;>omega
theorem xS{a b:UInt8}:a<b↔a.toNat<b.toNat:=DM
theorem mL:jj fW:=by
 have lH:∀ a b,fW b a = - fW a b:=by
  intro a
  induction a with
  | nil=>intro b;cases b<;>simp[fW]
  | cons x a ih =>
   intro b;cases b with
   | nil=>simp[fW]
   | cons y b =>
    simp only[fW,ih]
    by_cases h1:x<y
    ·have h2:¬ y<x:=by rw[xS]at *;omega
     simp[h1,h2]
    ·by_cases h2:y<x<;>simp[h1,h2]
 refine⟨lH,?_⟩;intro a
 induction a with
 | nil =>
  intro b d h1 h2;cases b with
  | nil=>exact h2
  | cons y b=>simp[fW]at h1
 | cons x a ih =>
  intro b d h1 h2;cases d with
  | nil=>simp[fW]
  | cons z d =>
   cases b with
   | nil=>simp[fW]at h2
   | cons y b =>
    simp only[fW]at h1 h2 ⊢
    by_cases hxy:x<y
    ·simp[hxy]at h1
    ·by_cases hyz:y<z
     ·simp[hyz]at h2
     ·rw[aI hxy]at h1;rw[aI hyz]at h2;have hxz:¬ x<z:=by rw[xS]at *;omega
      rw[aI hxz]
      by_cases hzx:z<x
      ·rw[bf hzx];decide
      ·rw[aI hzx];have h3:¬ y<x:=by rw[xS]at *;omega
       have h4:¬ z<y:=by rw[xS]at *;omega
       rw[aI h3]at h1;rw[aI h4]at h2;exact ih b d h1 h2
theorem oI:∀ {a b:List UInt8},fW a b=0↔a=b:=by
 intro a
 induction a with
 | nil=>intro b;cases b<;>simp[fW]
 | cons x a ih =>
  intro b;cases b with
  | nil=>simp[fW]
  | cons y b =>
   simp only[fW]
   by_cases h1:x<y
   ·have:x≠y:=by rintro rfl;rw[xS]at h1;omega
    simp[h1,this]
   ·by_cases h2:y<x
    ·have:x≠y:=by rintro rfl;rw[xS]at h2;omega
     simp[h1,h2,this]
    ·have:x=y:=by
      rw[xS]at h1 h2;exact Sy.1 (by omega)
     simp[h1,h2,this,ih]
theorem qL:∀ (x y:List UInt8),Op.bytesLess x y=decide (fW x y<0)
 | [],[]=>rfl
 | [],_::_=>rfl
 | _::_,[]=>rfl
 | a::x,b::y=>by
  simp only[Op.bytesLess,fW]
  by_cases h1:a<b
  ·simp[h1]
  ·by_cases h2:b<a
   ·have:a≠b:=by rintro rfl;exact h1 h2
    simp[h1,h2,this]
   ·have h3:a=b:=UInt8.le_antisymm (UInt8.not_lt.1 h2) (UInt8.not_lt.1 h1);subst h3;simp[h1,qL x y]
theorem sg{x y z:List UInt8}(h1:fW x y<0)(h2:fW y z<0):fW x z<0:=by
 have a1:=mL.lH x y;have a2:=mL.lH y z;have a3:=mL.lH x z;have:=mL.gt (a:=z) (b:=y) (d:=x) (by omega) (by omega);omega
theorem JA:∀ (x y:List UInt8),fW x y = -1∨fW x y=0∨fW x y=1
 | [],[]=>by simp[fW]
 | [],_::_=>by simp[fW]
 | _::_,[]=>by simp[fW]
 | a::x,b::y=>by
  have:=JA x y;simp only[fW]
  (repeat' split)<;>omega
def Ap(s:List UInt8):List V:=[.s s]
def aP(l:List It):List (List UInt8):=(l.filter fun t=>t.ah9==6).map dB
abbrev GK:=List UInt8×List UInt8
def oC(k:GK):V:=.agg [.s k.1,.s k.2]
theorem Dl(a b:GK):bY 4 (oC a) (oC b)=some (decide (a=b)):=by
 obtain⟨k,t⟩:=a;obtain⟨l,s⟩:=b;simp only[bY,oC,yc,aa];rw[gP];simp
def dZ(C:List (GK×Int))(last:List UInt8):List (List UInt8)→List (GK×Int)
 | []=>bump C (last,[]) 1
 | w::r=>dZ (bump C (last,w) 1) w r
abbrev Gr:=GK×Int
def pF(g:Gr):List V:=[.s g.1.1,.s g.1.2,.i .i64 g.2]
def zn(a b:GK):Int:=xA [fW a.1 b.1,fW a.2 b.2]
def wA(a b:Gr):Int:=zn a.1 b.1
def cg(ws:List (List UInt8)):List Gr:=(dZ [] [] ws).mergeSort fun a b=>decide (wA a b≤0)
def bZ(t:It):It×Bool:=if t.ah9=6∨t.ah9=7∨t.ah9=8∨t.ah9=9∨t.ah9=5 then(⟨t.ah9,dB t,0⟩,true)else(⟨t.ah9,t.aib,0⟩,bW t)
def CN{α:Type}[DecidableEq α](n:Nat)(C:List (α×Int)):Prop:=C.length≤n∧iN C∧∀ k v,bS k C=some v→0<v∧v≤n
theorem CN.nil{α:Type}[DecidableEq α]:CN 0 ([]:List (α×Int)):=⟨aq _,by simp[iN],fun k v h=>by simp[bS,dH]at h⟩
theorem CN.getD{α:Type}[DecidableEq α]{n:Nat}{C:List (α×Int)}(h:CN n C)(k:α):0≤(bS k C).getD 0∧(bS k C).getD 0≤n:=by
 cases hg:bS k C with
 | none=>simp
 | some v=>have:=h.2.2 k v hg;simp;omega
theorem CN.bump{α:Type}[DecidableEq α]{n:Nat}{C:List (α×Int)}(h:CN n C)(a:α):CN (n+1) (Bt.bump C a 1):=by
 refine⟨aQ (DS _ _ _) (by have:=h.1;omega),h.2.1.pT _ _,fun k v hv=>?_⟩;unfold Bt.bump at hv;rw[gG]at hv;have h1:=h.getD a;split at hv
 ·simp only[aa]at hv;omega
 ·have:=h.2.2 k v hv;omega
theorem js:∀ (ws:List (List UInt8)) (C:List (GK×Int)) (last:List UInt8) (n:Nat),CN n C→CN (n+ws.length+1) (dZ C last ws)
 | [],C,last,n,h=>h.bump _
 | w::r,C,last,n,h=>by
  have:=js r (bump C (last,w) 1) w (n+1) (h.bump _);simp only[dZ,ai];have e:n+(r.length+1)+1=n+1+r.length+1:=by omega
  rw[e];exact this
theorem nC{ps:List Nat}(nz:ps.Nodup){q:Nat}(hq:q∈ps):ps.Perm (q::ps.filter fun i=>i != q):=by
 refine(sX nz (eG.2 ⟨by simp,nz.filter _⟩)).2 fun x=>?_;simp only[bJ,cW,lg,gm]
 by_cases h:x=q
 ·subst h;simp[hq]
 ·simp[h]
theorem mz{α:Type}(C:List α)(d:α):((List.range C.length).map fun i=>C.getD i d)=C:=by
 apply gK;intro i;rw[a8]
 by_cases h:i<C.length
 ·simp[gS h,an,ak h]
 ·rw[bl (by simpa using Py h),bl (by omega)];rfl
theorem Lv:jj zn:=by
 have h:=(mL.on (fun k:GK=>k.1)).lex (mL.on (fun k:GK=>k.2))
 have e:zn=C6 (fun a b:GK=>fW a.1 b.1) (fun a b=>fW a.2 b.2):=by
  funext a b;simp only[zn,xA,C6];split
  ·rfl
  ·split<;>omega
 rw[e];exact h
theorem HH{a b:GK}(h:zn a b=0):a=b:=by
 simp only[zn,xA]at h;have h1:fW a.1 b.1=0:=by split at h<;>omega
 have h2:fW a.2 b.2=0:=by rw[aI (by omega)]at h;split at h<;>omega
 exact Prod.ext (oI.1 h1) (oI.1 h2)
theorem kg:jj wA:=Lv.on (fun g:Gr=>g.1)
theorem Lu(ws:List (List UInt8)):(cg ws).Pairwise fun x y=>¬ wA y x<0:=by
 have:=aar (le:=fun a b=>decide (wA a b≤0)) (fun a b c h1 h2=>by
  simp only[aY]at *;have k1:=kg.lH a b;have k2:=kg.lH b c;have k3:=kg.lH a c;have k4:=kg.trans c b a (by omega) (by omega);omega) (fun a b=>by
  have k1:=kg.lH a b;simp only[da,aY];omega) (dZ [] [] ws)
 refine this.imp fun {a b} h=>?_;have k1:=kg.lH a b;simp only[aY]at h;omega
theorem iv(ws:List (List UInt8)):(cg ws).Perm (dZ [] [] ws):=List.mergeSort_perm ..
theorem Fa{C:List Gr}(h:iN C){a b:Gr}(ha:a∈C)(hb:b∈C)(e:a.1=b.1):a=b:=by
 have h1:=kh h ha;have h2:=kh h hb;rw[e,h2]at h1;exact Prod.ext e (fX h1).symm
theorem AM{ws:List (List UInt8)}{l:List Gr}(hp:l.Perm (dZ [] [] ws))(hs:l.Pairwise fun x y=>¬ wA y x<0):l=cg ws:=by
 have hK:iN (dZ [] [] ws):=(js ws [] [] 0 CN.nil).2.1;refine List.Perm.eq_of_pairwise (fun a b ha hb x y=>?_) hs (Lu ws) (hp.trans (iv ws).symm);have k1:=kg.lH a b;exact Fa hK (hp.mem_iff.1 ha) ((iv ws).mem_iff.1 hb) (HH (show zn a.1 b.1=0 from(by unfold wA at *;omega)))
def jH(C:List (TK×Int)):List It→List (TK×Int)
 | []=>C
 | t::r=>jH (if(bZ t).2 then bump C (dv (bZ t).1) 1 else C) r
def Cn(n:Int)(gs:List Gr):Int:=gs.foldl (fun a g=>a+g.2) n
def A2(n:Int):List It→Int
 | []=>n
 | t::r=>A2 (if(bZ t).2&&!bW (bZ t).1 then n+weight (bZ t).1 else n) r
def A6(n:Int):List It→Int
 | []=>n
 | t::r=>A6 (if(bZ t).2&&bW (bZ t).1 then n+1 else n) r
structure Sm where
 dW:Int
 weight:Int
 tags:Int
def gQ(l:List It):Sm:=⟨Cn 0 (cg (aP l)),A2 0 l,A6 0 l⟩
theorem zJ:∀ (l:List It) (C:List (TK×Int)) (n:Nat),CN n C→CN (n+l.length) (jH C l)
 | [],C,n,h=>h
 | t::r,C,n,h=>by
  simp only[jH,ai];have e:n+(r.length+1)=n+1+r.length:=by omega
  rw[e];refine zJ r _ (n+1) ?_;split
  ·exact h.bump _
  ·exact⟨by have:=h.1;omega,h.2.1,fun k v hv=>by have:=h.2.2 k v hv;omega⟩
theorem mm(l:List It):(aP l).length≤l.length:=by
 unfold aP;rw[ag];exact eU _ _
theorem sL(ws:List (List UInt8)):(cg ws).length≤ws.length+1:=by
 rw[(iv ws).length_eq];have:=(js ws [] [] 0 CN.nil).1;omega
theorem zi(ws:List (List UInt8)):∀ g∈cg ws,0≤g.2∧g.2≤(ws.length:Int)+1:=fun g hg=>by
 have hC:=js ws [] [] 0 CN.nil;have h1:=kh hC.2.1 ((iv ws).mem_iff.1 hg);have:=hC.2.2 _ _ h1;omega
section
variable {α β:Type} [DecidableEq α] {kd:Nat} {ke:α→V} {ve:β→V}
theorem vo(hk:∀ a b,bY kd (ke a) (ke b)=some (decide (a=b)))(C:List (α×β))(a:α):
  (bS a C=none∧dM kd (ke a) (emap ke ve C) 0=some none∧(∀ z,dM kd (ke a) (emap ke ve C++[(ke a,z)]) 0=some (some ((emap ke ve C).length,z))) ∧
    (∀ z,(emap ke ve C++[(ke a,z)])[(emap ke ve C).length]?=some (ke a,z))∧∀ z v,(emap ke ve C++[(ke a,z)]).set (emap ke ve C).length (ke a,ve v)=emap ke ve (eO C a v)) ∨
  (∃ i b,bS a C=some b∧dM kd (ke a) (emap ke ve C) 0=some (some (i,ve b))∧(emap ke ve C)[i]?=some (ke a,ve b)∧∀ v,(emap ke ve C).set i (ke a,ve v)=emap ke ve (eO C a v)):=by
 rcases iB (ve:=ve) hk C a with⟨h1,h2,h3⟩ | ⟨i,b,h1,h2,h3⟩
 ·refine .inl ⟨h1,h2,fun z=>?_,fun z=>by simp,fun z v=>?_⟩
  ·have key:∀ (es:List (V×V)) (n:Nat),dM kd (ke a) es n=some none→dM kd (ke a) (es++[(ke a,z)]) n=some (some (n+es.length,z)):=by
    intro es
    induction es with
    | nil=>intro n _;simp[dM,hk]
    | cons e es ih =>
     intro n h;simp only[dM,bn]at h ⊢;split at h
     ·simp at h
     ·rw[ih _ h];simp;omega
     ·simp at h
   simpa using key _ 0 h2
  ·rw[← h3 v,cd _ _ (aq _)];simp
 ·refine .inr ⟨i,b,h1,h2,?_,h3⟩
  have key:∀ (es:List (V×V)) (n:Nat) (r:Nat) (y:V),dM kd (ke a) es n=some (some (r,y))→∃ j k,r=n+j∧es[j]?=some (k,y)∧bY kd (ke a) k=some true:=by
   intro es
   induction es with
   | nil=>intro n r y h;simp[dM]at h
   | cons e es ih =>
    intro n r y h;obtain⟨k,x⟩:=e;simp only[dM]at h;split at h
    ·rename_i hs;simp only[aa,ao]at h;exact⟨0,k,by omega,by simp[h.2],hs⟩
    ·obtain⟨j,k2,h4,h5,h6⟩:=ih _ _ _ h;exact⟨j+1,k2,by omega,by simpa using h5,h6⟩
    ·simp at h
  obtain⟨j,k,h4,h5,h6⟩:=key _ 0 i _ h2;have:i=j:=by omega
  subst this;rw[h5,p9 h6]
end
def Co(p:Int×Int):List V:=[.i .i64 p.1,.i .i64 p.2]
def nK(p:Nat×Nat):V:=.own p.1 p.2
def gU(E g:Nat)(ps:List (Int×Int)):Ob:=.row E 2 16 g false (ps.map Co)
structure jJ {α:Type} [DecidableEq α] (E n:Nat) (T:ae) (G:List (α×(Nat×Nat))) (f:α→List (Int×Int)):Prop where
 nodup:(G.map (·.1)).Nodup
 row:∀ k r g,bS k G=some (r,g)→∃ j,r=n+j∧T[j]?=some (gU E g (f k))
 EX:∀ k,bS k G=none→f k=[]
 inj:∀ k k' r g g',bS k G=some (r,g)→bS k' G=some (r,g')→k=k'
def still:Ob→Bool
 | .box _ _=>true
 | .map _ _ _=>true
 | .row _ sz _ _ _ _=>decide (2<sz)
 | _=>false
def pG(T T':ae):Prop:=T.length≤T'.length∧∀ (j:Nat) (o:Ob),T[j]?=some o→still o=true→T'[j]?=some o
theorem pG.refl(T:ae):pG T T:=⟨aq _,fun _ _ h _=>h⟩
theorem pG.trans{a b c:ae}(h:pG a b)(k:pG b c):pG a c:=⟨aQ h.1 k.1,fun j o h1 h2=>k.2 j o (h.2 j o h1 h2) h2⟩
theorem pG.app(T l:ae):pG T (T++l):=⟨by simp,fun j o h _=>by rw[ah (ab.1 h).1];exact h⟩
theorem pG.set{T:ae}{j:Nat}{o0:Ob}(h:T[j]?=some o0)(hs:still o0=false)(o:Ob):pG T (T.set j o) :=
 ⟨by simp,fun i o' h1 h2=>by
  have:j≠i:=fun e=>by subst e;rw[h]at h1;rw[fX h1,h2]at hs;cases hs
  rw[aJ this];exact h1⟩
theorem pG.setRow{T:ae}{j:Nat}{E b g:Nat}{sh:Bool}{xs:List (List V)}(h:T[j]?=some (.row E 2 b g sh xs))(o:Ob):pG T (T.set j o):=pG.set h rfl o
section
variable {α:Type} [DecidableEq α] {E n:Nat} {T:ae} {G:List (α×(Nat×Nat))} {f:α→List (Int×Int)}
theorem jJ.app(h:jJ E n T G f)(l:ae):jJ E n (T++l) G f :=
 ⟨h.nodup,fun k r g hk=>by
  obtain⟨j,h1,h2⟩:=h.row k r g hk;exact⟨j,h1,by rw[ah (ab.1 h2).1];exact h2⟩,h.EX,h.inj⟩
theorem jJ.other(h:jJ E n T G f){j:Nat}(o:Ob)(hj:∀ k r g,bS k G=some (r,g)→r≠n+j):jJ E n (T.set j o) G f :=
 ⟨h.nodup,fun k r g hk=>by
  obtain⟨i,h1,h2⟩:=h.row k r g hk;have:=hj k r g hk;exact⟨i,h1,by rw[aJ (by omega)];exact h2⟩,h.EX,h.inj⟩
def po(f:α→List (Int×Int))(k:α)(p:Int×Int):α→List (Int×Int):=fun x=>if x=k then f x++[p]else f x
theorem Yn(G:List (α×(Nat×Nat)))(a:α)(b:Nat×Nat):(eO G a b).map (·.1)=if a∈G.map (·.1)then G.map (·.1)else G.map (·.1)++[a]:=by
 induction G with
 | nil=>simp[eO]
 | cons p C ih =>
  simp only[eO];split
  ·rename_i h;subst h;simp
  ·rename_i h;simp only[ay,ih]
   by_cases h2:a∈C.map (·.1)
   ·rw[bf h2,bf (dh _ h2)]
   ·rw[aI h2,aI (by simp only[bJ];rintro(h3 | h3);exact h h3;exact h2 h3)];rfl
theorem Nl{G:List (α×(Nat×Nat))}(h:(G.map (·.1)).Nodup)(a:α)(b:Nat×Nat):((eO G a b).map (·.1)).Nodup:=by
 rw[Yn];split
 ·exact h
 ·rename_i hn;rw[fP];exact⟨h,by simp,fun x hx y hy e=>by simp at hy;subst hy;subst e;exact hn hx⟩
theorem jJ.add(h:jJ E n T G f){k:α}{j g:Nat}(hk:bS k G=some (n+j,g))(p:Int×Int):jJ E n (T.set j (gU E (g+1) (f k++[p]))) (eO G k (n+j,g+1)) (po f k p):=by
 obtain⟨j',h1,h2⟩:=h.row k _ _ hk;have:j'=j:=by omega
 subst this;refine⟨Nl h.nodup _ _,fun x r g' hx=>?_,fun x hx=>?_,fun x x' r g1 g2 hx hx'=>?_⟩
 ·rw[gG]at hx;split at hx
  ·rename_i e;subst e;simp only[aa,ao]at hx;obtain⟨rfl,rfl⟩:=hx;exact⟨j',rfl,by rw[ar (ab.1 h2).1];simp[po]⟩
  ·rename_i e;obtain⟨i,h3,h4⟩:=h.row x r g' hx;have gv:j'≠i:=fun e2=>by subst e2;exact e (h.inj x k r g' g hx (by rw[hk,h3]))
   exact⟨i,h3,by rw[aJ gv,h4];simp[po,e]⟩
 ·rw[gG]at hx;split at hx
  ·simp at hx
  ·rename_i e;simp[po,e,h.EX x hx]
 ·rw[gG]at hx hx';split at hx<;>split at hx'
  ·rename_i e1 e2;rw[e1,e2]
  ·rename_i e1 e2;simp only[aa,ao]at hx;rw[← hx.1]at hx';exact absurd (h.inj x' k _ g2 g hx' hk) e2
  ·rename_i e1 e2;simp only[aa,ao]at hx';rw[← hx'.1]at hx;exact absurd (h.inj x k _ g1 g hx hk) e1
  ·exact h.inj x x' r g1 g2 hx hx'
theorem jJ.new(h:jJ E n T G f){k:α}(hk:bS k G=none)(p:Int×Int):jJ E n (T++[gU E 0 [p]]) (eO G k (n+T.length,0)) (po f k p):=by
 have dc:∀ x r g,bS x G=some (r,g)→r<n+T.length:=fun x r g hx=>by
  obtain⟨i,h3,h4⟩:=h.row x r g hx;have:=(ab.1 h4).1;omega
 refine⟨Nl h.nodup _ _,fun x r g' hx=>?_,fun x hx=>?_,fun x x' r g1 g2 hx hx'=>?_⟩
 ·rw[gG]at hx;split at hx
  ·rename_i e;subst e;simp only[aa,ao]at hx;obtain⟨rfl,rfl⟩:=hx;exact⟨T.length,rfl,by simp[po,h.EX _ hk]⟩
  ·rename_i e;obtain⟨i,h3,h4⟩:=h.row x r g' hx;exact⟨i,h3,by rw[ah (ab.1 h4).1,h4];simp[po,e]⟩
 ·rw[gG]at hx;split at hx
  ·simp at hx
  ·rename_i e;simp[po,e,h.EX x hx]
 ·rw[gG]at hx hx';split at hx<;>split at hx'
  ·rename_i e1 e2;rw[e1,e2]
  ·simp only[aa,ao]at hx;have:=dc _ _ _ hx';omega
  ·simp only[aa,ao]at hx';have:=dc _ _ _ hx;omega
  ·exact h.inj x x' r g1 g2 hx hx'
end
theorem nP{α β:Type}[DecidableEq α](k:α):∀ (C:List (α×β)),k∈C.map (·.1)↔(bS k C).isSome
 | []=>by simp[bS,dH]
 | p::C=>by
  have ih:=nP k C
  by_cases e:k=p.1
  ·subst e;simp[bS,dH]
  ·have e2:bS k (p::C)=bS k C:=by
    unfold bS;rw[dH,aI e];exact jf k C 1
   rw[e2,← ih];simp[e]
theorem BM{α β:Type}[DecidableEq α]{C D:List (α×β)}(hC:(C.map (·.1)).Nodup)(h:D.Perm C)(k:α):bS k D=bS k C:=by
 have hD:(D.map (·.1)).Nodup:=(h.map _).nodup_iff.2 hC
 have key:∀ {L:List (α×β)},(L.map (·.1)).Nodup→∀ v,bS k L=some v↔(k,v)∈L:=by
  intro L
  induction L with
  | nil=>intro _ v;simp[bS,dH]
  | cons p L ih =>
   intro hn v;have Fq:=eG.1 hn
   by_cases e:k=p.1
   ·subst e;have:bS p.1 (p::L)=some p.2:=by simp[bS,dH]
    rw[this];simp only[aa,bJ];constructor
    ·rintro rfl;exact .inl rfl
    ·rintro(h1 | h1)
     ·rw[← h1]
     ·exact absurd (bH.2 ⟨_,h1,rfl⟩) Fq.1
   ·have e2:bS k (p::L)=bS k L:=by
     unfold bS;rw[dH,aI e];exact jf k L 1
    rw[e2,ih Fq.2 v,bJ];constructor
    ·exact .inr
    ·rintro(h1 | h1)
     ·rw[← h1]at e;exact absurd rfl e
     ·exact h1
 cases hg:bS k C with
 | none =>
  cases V5:bS k D with
  | none=>rfl
  | some v=>exact absurd ((key hC v).2 (h.mem_iff.1 ((key hD v).1 V5))) (by rw[hg];simp)
 | some v=>exact(key hD v).2 (h.mem_iff.2 ((key hC v).1 hg))
def iK{α:Type}[DecidableEq α](f:α→List (Int×Int))(id:Int):List (α×Int)→α→List (Int×Int)
 | []=>f
 | g::r=>iK (po f g.1 (id,g.2)) id r
def H7{α β:Type}[DecidableEq α][DecidableEq β](G:List (α×(Nat×Nat)))(H:List (β×(Nat×Nat))):Prop:=∀ k r g k' r' g',bS k G=some (r,g)→bS k' H=some (r',g')→r≠r'
section
variable {α β:Type} [DecidableEq α] [DecidableEq β] {G:List (α×(Nat×Nat))} {H:List (β×(Nat×Nat))}
theorem H7.symm(h:H7 G H):H7 H G:=fun k r g k' r' g' h1 h2 e=>h k' r' g' k r g h2 h1 e.symm
theorem H7.add(h:H7 G H){k:α}{r g:Nat}(hk:bS k G=some (r,g))(g':Nat):H7 (eO G k (r,g')) H:=fun x r1 g1 y r2 g2 h1 h2=>by
 rw[gG]at h1;split at h1
 ·simp only[aa,ao]at h1;rw[← h1.1];exact h _ _ _ _ _ _ hk h2
 ·exact h _ _ _ _ _ _ h1 h2
theorem H7.new{E n:Nat}{T:ae}{f:β→List (Int×Int)}(h:H7 G H)(hH:jJ E n T H f)(k:α)(m:Nat)(hm:T.length≤m):H7 (eO G k (n+m,0)) H:=fun x r1 g1 y r2 g2 h1 h2=>by
 rw[gG]at h1;split at h1
 ·simp only[aa,ao]at h1;obtain⟨j,e1,e2⟩:=hH.row _ _ _ h2;have:=(ab.1 e2).1;omega
 ·exact h _ _ _ _ _ _ h1 h2
end
theorem zV{α:Type}[DecidableEq α](id:Int)(k:α):∀ (D:List (α×Int)) (f:α→List (Int×Int)),iN D→iK f id D k=f k++((bS k D).toList.map fun c=>(id,c))
 | [],f,_=>by simp[iK,bS,dH]
 | g::r,f,h=>by
  have hr:iN r:=by unfold iN at *;exact(eG.1 h).2
  have hn:g.1 ∉ r.map (·.1):=by unfold iN at h;exact(eG.1 h).1
  have ih:=zV id k r (po f g.1 (id,g.2)) hr;simp only[iK];rw[ih]
  by_cases e:k=g.1
  ·subst e
   have e1:bS g.1 r=none:=by
    cases hg:bS g.1 r with
    | none=>rfl
    | some v =>
     exfalso;refine hn ?_;have:=(nP g.1 r).2 (by rw[hg];rfl);exact this
   have e2:bS g.1 (g::r)=some g.2:=by simp[bS,dH]
   simp[e1,e2,po]
  ·have e2:bS k (g::r)=bS k r:=by
    unfold bS;rw[dH,aI e];exact jf k r 1
   rw[e2];simp[po,e]
theorem H5{α:Type}[DecidableEq α](f:α→List (Int×Int))(id:Int)(D:List (α×Int))(g:α×Int):iK f id (D++[g])=po (iK f id D) g.1 (id,g.2):=by
 induction D generalizing f with
 | nil=>rfl
 | cons x D ih=>simp only[bn,iK,ih]
theorem BY{α:Type}[DecidableEq α](id:Int)(k:α):∀ (D:List (α×Int)) (f:α→List (Int×Int)),(iK f id D k).length≤(f k).length+D.length
 | [],f=>by simp[iK]
 | g::r,f=>by
  have ih:=BY id k r (po f g.1 (id,g.2));have:(po f g.1 (id,g.2) k).length≤(f k).length+1:=by unfold po;split<;>simp
  simp only[iK,ai];omega
def Bf(s:Sm):List V:=[.i .i64 s.dW,.i .i64 s.weight,.i .i64 s.tags]
structure Sm.ok (s:Sm) (m:Int):Prop where
 p:0≤s.dW∧s.dW≤m
 w:0≤s.weight∧s.weight≤m
 t:0≤s.tags∧s.tags≤m
def qM(a b c:Sm):Int:=mx (mx a.weight b.weight - c.weight+3*(a.tags+b.tags - 2*c.tags)) (4*(mx a.dW b.dW - c.dW+1).tdiv 2)
def kA(air pct:Int):Int:=if 100<pct then -1 else if pct<1∨air<1 then 1073741824 else((if 1073741824<air then 1073741824 else air)*(100 - pct)).tdiv 100
theorem Ir(x m:Int)(k:Int)(hk:0<k)(h : -m≤x∧x≤m): -m≤x.tdiv k∧x.tdiv k≤m:=by
 by_cases hx:0≤x
 ·rw[dN hx];have h1:=qR hx (Int.le_of_lt hk);have h2:=xr k hx;omega
 ·have e:x = -(-x):=by omega
  rw[e,Int.neg_tdiv,dN (by omega)];have h1:=qR (a := -x) (b:=k) (by omega) (Int.le_of_lt hk);have h2:=xr (a := -x) k (by omega);omega
def rP:Sm:=⟨0,0,0⟩
def Sm.add(a b:Sm):Sm:=⟨a.dW+b.dW,a.weight+b.weight,a.tags+b.tags⟩
def mh(s:Sm):V:=.agg (Bf s)
def Sm.size(s:Sm):Int:=s.dW+s.weight+s.tags
def Sm.nn(s:Sm):Prop:=0≤s.dW∧0≤s.weight∧0≤s.tags
abbrev mU:=Int×Sm
def rL(O:List mU)(i:mU):List mU:=eO O i.1 (((bS i.1 O).getD rP).add i.2)
def cZ(O:List mU)(I:List mU):List mU:=I.foldl rL O
def iq(I:List mU):Int:=(I.map fun i=>i.2.size).sum
def Mb(I:List mU):Prop:=∀ i∈I,i.2.nn
def OB(m:Int)(O:List mU):Prop:=0≤m∧∀ id s,bS id O=some s→s.ok m
theorem Sm.nn.size{s:Sm}(h:s.nn):0≤s.size:=by unfold Sm.size;obtain⟨a,b,c⟩:=h;omega
theorem OB.nil:OB 0 []:=⟨cy _,fun id s h=>by simp[bS,dH]at h⟩
theorem OB.getD{m:Int}{O:List mU}(h:OB m O)(id:Int):((bS id O).getD rP).ok m:=by
 cases hg:bS id O with
 | none=>exact⟨⟨cy _,h.1⟩,⟨cy _,h.1⟩,⟨cy _,h.1⟩⟩
 | some s=>exact h.2 id s hg
theorem OB.add{m:Int}{O:List mU}(h:OB m O){i:mU}(hi:i.2.nn):OB (m+i.2.size) (rL O i):=by
 have hs:=hi.size;refine⟨by have:=h.1;omega,fun id s hg=>?_⟩;unfold rL at hg;rw[gG]at hg;have h1:=h.getD i.1;obtain⟨n1,n2,n3⟩:=hi;split at hg
 ·simp only[aa]at hg;subst hg;obtain⟨a,b,c⟩:=h1;unfold Sm.size at *;exact⟨by simp only[Sm.add];omega,by simp only[Sm.add];omega,by simp only[Sm.add];omega⟩
 ·obtain⟨a,b,c⟩:=h.2 id s hg;exact⟨by omega,by omega,by omega⟩
theorem re{I:List mU}(h:Mb I):0≤iq I:=by
 induction I with
 | nil=>exact cy _
 | cons i I ih =>
  have h1:=(h i (by simp)).size;have h2:=ih fun j hj=>h j (by simp[hj]);simp only[iq,ay,bN]at h2 ⊢;omega
theorem uI(i:mU)(I:List mU):iq (i::I)=i.2.size+iq I:=by simp[iq]
theorem od(I Jj:List mU):iq (I++Jj)=iq I+iq Jj:=by simp[iq]
theorem OB.mono{m m':Int}{O:List mU}(h:OB m O)(hm:m≤m'):OB m' O:=⟨by have:=h.1;omega,fun id s hg=>by
 obtain⟨a,b,c⟩:=h.2 id s hg;exact⟨by omega,by omega,by omega⟩⟩
theorem OB.apply{m:Int}:∀ (I:List mU) {O:List mU},OB m O→Mb I→OB (m+iq I) (cZ O I)
 | [],O,h,_=>by simpa[iq,cZ]using h
 | i::I,O,h,hn=>by
  have h1:=h.add (hn i (by simp));have h2:=OB.apply I h1 (fun j hj=>hn j (by simp[hj]));rw[uI,← Int.add_assoc];exact h2
def iU(c:Int)(ps:List (Int×Int)):List mU:=ps.map fun p=>(p.1,⟨mn p.2 c,0,0⟩)
def l3(k:TK)(c:Int)(ps:List (Int×Int)):List mU:=ps.map fun p=>(p.1,if jS k then⟨0,0,mn p.2 c⟩else⟨0,mn p.2 c*weight ⟨k.1,k.2,0⟩,0⟩)
theorem pZ{α:Type}(F:α→List mU){a b:List α}(h:a.Perm b):iq (a.flatMap F)=iq (b.flatMap F):=by
 induction h with
 | nil=>rfl
 | cons x _ ih=>simp only[dD,od,ih]
 | swap x y l=>simp only[dD,od];omega
 | trans _ _ h1 h2=>exact h1.trans h2
theorem H2(O I Jj:List mU):cZ O (I++Jj)=cZ (cZ O I) Jj:=by simp[cZ]
theorem uB(x:It):0≤weight x∧weight x≤4:=by
 unfold weight
 repeat' split
 all_goals omega
theorem xD{k:TK}{c:Int}(hc:0≤c){ps:List (Int×Int)}(h:∀ p∈ps,0≤p.2):Mb (l3 k c ps):=fun i hi=>by
 simp only[l3,bH]at hi;obtain⟨q,hq,rfl⟩:=hi;have:=h q hq;have h0:0≤mn q.2 c:=by unfold mn;split<;>omega
 simp only;split
 ·exact⟨cy _,cy _,h0⟩
 ·exact⟨cy _,s3 h0 (uB _).1,cy _⟩
theorem Jd{c:Int}(hc:0≤c){ps:List (Int×Int)}(h:∀ p∈ps,0≤p.2):Mb (iU c ps):=fun i hi=>by
 simp only[iU,bH]at hi;obtain⟨q,hq,rfl⟩:=hi;have:=h q hq;exact⟨by simp only[mn];split<;>omega,cy _,cy _⟩
def gJ(id:Int)(s:Sm)(I:List mU):Sm:=I.foldl (fun s i=>if i.1=id then s.add i.2 else s) s
theorem sM(id:Int):∀ (I O:List mU),(bS id (cZ O I)).getD rP=gJ id ((bS id O).getD rP) I
 | [],O=>rfl
 | i::I,O=>by
  have h:=sM id I (rL O i)
  have e:(bS id (rL O i)).getD rP=if i.1=id then((bS id O).getD rP).add i.2 else(bS id O).getD rP:=by
   unfold rL;rw[gG]
   by_cases hk:i.1=id
   ·subst hk;simp
   ·rw[aI (fun e=>hk e.symm),aI hk]
  rw[e]at h;exact h
theorem rD(id:Int)(s:Sm)(I Jj:List mU):gJ id s (I++Jj)=gJ id (gJ id s I) Jj:=by simp[gJ]
theorem Sm.add_assoc(a b c:Sm):(a.add b).add c=a.add (b.add c):=by simp only[Sm.add,Gt]
theorem Sm.L1(a b c:Sm):(a.add b).add c=(a.add c).add b:=by
 simp only[Sm.add,Sm.mk.injEq];omega
theorem Sm.ZC(a:Sm):a.add rP=a:=by simp[Sm.add,rP]
theorem vF(id:Int)(t:Sm):∀ (I:List mU) (s:Sm),gJ id (s.add t) I=(gJ id s I).add t
 | [],s=>rfl
 | i::I,s=>by
  show gJ id (if i.1=id then(s.add t).add i.2 else s.add t) I=(gJ id (if i.1=id then s.add i.2 else s) I).add t
  by_cases h:i.1=id
  ·rw[bf h,bf h,Sm.L1,vF id t I]
  ·rw[aI h,aI h,vF id t I]
theorem zW(id:Int)(Jj:List mU):∀ (I:List mU) (s:Sm),gJ id (gJ id s I) Jj=gJ id (gJ id s Jj) I
 | [],s=>rfl
 | i::I,s=>by
  have e:∀ s:Sm,gJ id s (i::I)=gJ id (if i.1=id then s.add i.2 else s) I:=fun _=>rfl;rw[e,e,zW id Jj I]
  by_cases h:i.1=id
  ·rw[bf h,bf h,vF]
  ·rw[aI h,aI h]
theorem zX{α:Type}(id:Int)(F:α→List mU){a b:List α}(h:a.Perm b):∀ s,gJ id s (a.flatMap F)=gJ id s (b.flatMap F):=by
 induction h with
 | nil=>intro s;rfl
 | cons x _ ih=>intro s;simp only[dD,rD,ih]
 | swap x y l=>intro s;simp only[dD,rD];rw[zW id (F x) (F y) s]
 | trans _ _ h1 h2=>intro s;exact(h1 s).trans (h2 s)
def pos(d:Int):Int:=if 0<d then d else 0
theorem ta{α:Type}{f g:α→Int}{K:List α}(h:∀ k∈K,g k≤f k):cE g K≤cE f K:=by
 induction K with
 | nil=>exact cy _
 | cons k K ih =>
  have h1:=h k (by simp);have h2:=ih fun y hy=>h y (by simp[hy]);simp only[cE,ay,bN]at h2 ⊢;omega
theorem qZ{α:Type}{f g:α→Int}{K:List α}(hK:K.Nodup)(k0:α){d:Int}(hd:0≤d)(h0:g k0≤f k0+d)(h:∀ k,k≠k0→g k≤f k):cE g K≤cE f K+d:=by
 induction K with
 | nil=>simpa[cE]using hd
 | cons k K ih =>
  simp only[eG]at hK
  by_cases e:k=k0
  ·subst e;have h1:cE g K≤cE f K:=ta fun x hx=>h x (by rintro rfl;exact hK.1 hx);simp only[cE,ay,bN]at h1 ⊢;omega
  ·have h1:=ih hK.2;have h2:=h k e;simp only[cE,ay,bN]at h1 ⊢;omega
def sj(t:It):Option TK:=if(bZ t).2 then some (dv (bZ t).1)else none
def dz(k:TK):List It→Int
 | []=>0
 | x::l=>(if sj x=some k then 1 else 0)+dz k l
def wK(k:TK):Int:=weight ⟨k.1,k.2,0⟩
theorem FW(t:It):(bZ t).1.ah9=t.ah9:=by unfold bZ;split<;>rfl
theorem pR{a b:It}(h:a.ah9=b.ah9):weight a=weight b:=by unfold weight;rw[h]
theorem xL{x:It}{k:TK}(h:sj x=some k):k.1=x.ah9∧jS k=bW x∧wK k=weight x:=by
 unfold sj at h;split at h
 ·simp only[aa]at h;subst h;have e:(dv (bZ x).1).1=x.ah9:=FW x;refine⟨e,?_,pR e⟩;unfold jS bW;rw[e]
 ·cases h
theorem zI{x:It}{k:TK}(h:sj x=some k):single x=if jS k then 1 else wK k:=by
 obtain⟨_,h2,h3⟩:=xL h;unfold single;rw[h2,h3]
def gf(a b:List It)(k:TK):Int:=if jS k then kB (dz k a - dz k b)else wK k*pos (dz k a - dz k b)
theorem SC(k:TK):0≤wK k:=(kM _).1
theorem E7{K:List TK}(hK:K.Nodup)(x:It)(a b:List It):cE (gf (x::a) b) K≤cE (gf a b) K+single x:=by
 cases hc:sj x with
 | none =>
  have h1:cE (gf (x::a) b) K=cE (gf a b) K:=dw fun k _=>by simp[gf,dz,hc]
  have h2:=(dE x).1;omega
 | some k0 =>
  refine qZ hK k0 (dE x).1 ?_ fun k hk=>?_
  ·rw[zI hc];simp only[gf,dz,hc,aL];split
   ·unfold kB;(repeat' split)<;>omega
   ·have h1:pos (1+dz k0 a - dz k0 b)≤pos (dz k0 a - dz k0 b)+1:=by unfold pos;(repeat' split)<;>omega
    have h2:=jQ h1 (SC k0);rw[il,Int.mul_one]at h2;exact h2
  ·have h1:¬ k0=k:=fun e=>hk e.symm;simp[gf,dz,hc,h1]
theorem Bz{K:List TK}{u:It}(hu:bW u=false)(a b:List It):cE (gf a (u::b)) K≤cE (gf a b) K:=by
 refine ta fun k _=>?_
 by_cases hc:sj u=some k
 ·have ht:jS k=false:=by rw[(xL hc).2.1];exact hu
  simp only[gf,dz,hc,aL,ht,aF,aK];refine jQ ?_ (SC k);unfold pos;(repeat' split)<;>omega
 ·simp[gf,dz,hc]
theorem NO{K:List TK}(hK:K.Nodup)(u:It)(a b:List It):cE (gf a (u::b)) K≤cE (gf a b) K+single u:=by
 cases hu:bW u with
 | false=>have:=Bz (K:=K) hu a b;have:=(dE u).1;omega
 | true =>
  cases hc:sj u with
  | none =>
   have h1:cE (gf a (u::b)) K=cE (gf a b) K:=dw fun k _=>by simp[gf,dz,hc]
   have h2:=(dE u).1;omega
  | some k0 =>
   have ht:jS k0=true:=by rw[(xL hc).2.1];exact hu
   refine qZ hK k0 (dE u).1 ?_ fun k hk=>?_
   ·rw[zI hc];simp only[gf,dz,hc,aL,ht];unfold kB;(repeat' split)<;>omega
   ·have h1:¬ k0=k:=fun e=>hk e.symm;simp[gf,dz,hc,h1]
theorem Gz{x u:It}(h:dv x=dv u):sj x=sj u:=by
 simp only[dv,ao]at h;obtain⟨h1,h2⟩:=h;unfold sj bZ dB bW;rw[h1,h2]
theorem wI{x u:It}{p:Int}(hp:dj x u=some p)(hc:sj x≠sj u):p=single x∧bW x=false∧bW u=false:=by
 unfold dj at hp;split at hp
 ·rename_i h;exact absurd (Gz ((qa x u).1 h)) hc
 split at hp
 ·cases hp
 rename_i hk;have hk:x.ah9=u.ah9:=by simpa using hk
 split at hp
 ·rename_i h6;have hx:bW x=false:=by simp[bW,h6]
  have hu:bW u=false:=by simp[bW,← hk,h6]
  split at hp
  ·rename_i he;refine absurd ?_ hc;have he:dB x=dB u:=by simpa using he
   have h6u:u.ah9=6:=by rw[← hk];exact h6
   unfold sj bZ;simp only[h6,h6u,Tp,aL,he,dv]
  ·simp only[aa]at hp;exact⟨by rw[← hp];simp[single,hx],hx,hu⟩
 ·rename_i h6;split at hp
  ·rename_i h7;have hx:bW x=false:=by unfold bW;rcases h7 with h | h | h | h<;>rw[h]<;>rfl
   have hu:bW u=false:=by unfold bW;rw[← hk];rcases h7 with h | h | h | h<;>rw[h]<;>rfl
   simp only[aa]at hp;exact⟨by rw[← hp];simp[single,hx],hx,hu⟩
  ·cases hp
theorem K6{K:List TK}(hK:K.Nodup){x u:It}{p:Int}(hp:dj x u=some p)(a b:List It):cE (gf (x::a) (u::b)) K≤cE (gf a b) K+p:=by
 by_cases hc:sj x=sj u
 ·have h1:cE (gf (x::a) (u::b)) K=cE (gf a b) K:=dw fun k _=>by
   have e:dz k (x::a) - dz k (u::b)=dz k a - dz k b:=by simp only[dz,hc];omega
   simp only[gf,e]
  have h2:=(oH hp).1;omega
 ·obtain⟨h1,_,h3⟩:=wI hp hc;have h4:=E7 hK x a (u::b);have h5:=Bz (K:=K) h3 a b;omega
theorem I7{K:List TK}(hK:K.Nodup){a b:List It}{c:Int}(h:Al a b c):cE (gf a b) K≤c:=by
 induction h with
 | nil =>
  have:cE (gf [] []) K≤cE (fun _=>0) K:=ta fun k _=>by simp[gf,dz,kB,pos]
  have e:cE (fun _:TK=>(0:Int)) K=0:=by
   clear this hK
   induction K with
   | nil=>rfl
   | cons k K ih=>simp only[cE,ay,bN]at ih ⊢;omega
  omega
 | del x h ih=>rename_i A B C;exact dq (E7 hK x A B) (by omega)
 | ins u h ih=>rename_i A B C;exact dq (NO hK u A B) (by omega)
 | pair x u hp h ih=>rename_i A B C;exact dq (K6 hK hp A B) (by omega)
theorem HV{x u:It}{p:Int}(h:dj x u=some p):dj u x=some p:=by
 have hs:jK u x=jK x u:=by simp only[jK,ZL (a:=u.ah9),ZL (a:=u.aib)]
 unfold dj at h ⊢;rw[hs];split at h
 ·rename_i h1;rw[bf h1];exact h
 rename_i h1;rw[aI h1];split at h
 ·cases h
 rename_i h2;have h2:x.ah9=u.ah9:=by simpa using h2
 rw[aI (by simp[h2]),← h2,pR (a:=u) (b:=x) h2.symm];have hk:(dB u==dB x)=(dB x==dB u):=ZL;rw[hk];exact h
theorem Al.symm{a b:List It}{c:Int}(h:Al a b c):Al b a c:=by
 induction h with
 | nil=>exact .nil
 | del x h ih=>exact .ins x ih
 | ins u h ih=>exact .del u ih
 | pair x u hp h ih=>exact .pair u x (HV hp) ih
def iI(g:GK)(last:List UInt8):List (List UInt8)→Int
 | []=>if(last,([]:List UInt8))=g then 1 else 0
 | w::r=>(if(last,w)=g then 1 else 0)+iI g w r
def ja(la:List UInt8)(wa:List (List UInt8))(lb:List UInt8)(wb:List (List UInt8))(g:GK):Int:=pos (iI g la wa - iI g lb wb)
theorem oa{α:Type}(K:List α):cE (fun _=>0) K=0:=by
 induction K with
 | nil=>rfl
 | cons k K ih=>simp only[cE,ay,bN]at ih ⊢;omega
section
variable {K:List GK} (hK:K.Nodup)
include hK
theorem K7(la lb:List UInt8):cE (ja la [] lb []) K≤if la=lb then 0 else 1:=by
 split
 ·rename_i h;subst h;have:cE (ja la [] la []) K=cE (fun _=>0) K:=dw fun k _=>by simp[ja,pos]
  rw[this,oa];exact cy _
 ·have:=qZ (f:=fun _=>0) (g:=ja la [] lb []) hK (la,[]) (d:=1) (by decide) (by simp only[ja,iI,pos];(repeat' split)<;>omega)
   (fun k hk=>by simp only[ja,iI,pos,aI (fun e=>hk e.symm:¬ (la,([]:List UInt8))=k)];(repeat' split)<;>omega)
  rw[oa]at this;omega
theorem u3(la w:List UInt8)(ra:List (List UInt8))(lb:List UInt8)(wb:List (List UInt8)):cE (ja la (w::ra) lb wb) K≤cE (ja w ra lb wb) K+1 :=
 qZ hK (la,w) (by decide) (by simp only[ja,iI,pos];(repeat' split)<;>omega)
  (fun k hk=>by simp only[ja,iI,pos,aI (fun e=>hk e.symm:¬ (la,w)=k)];(repeat' split)<;>omega)
omit hK in
theorem u0(la:List UInt8)(wa:List (List UInt8))(lb v:List UInt8)(rb:List (List UInt8)):cE (ja la wa lb (v::rb)) K≤cE (ja la wa v rb) K :=
 ta fun k _=>by simp only[ja,iI,pos];(repeat' split)<;>omega
omit hK in
theorem Hi(l w:List UInt8)(ra rb:List (List UInt8)):cE (ja l (w::ra) l (w::rb)) K=cE (ja w ra w rb) K :=
 dw fun k _=>by
  have e:iI k l (w::ra) - iI k l (w::rb)=iI k w ra - iI k w rb:=by simp only[iI];omega
  simp only[ja,e]
omit hK in
theorem gL(x:It)(l:List It):aP (x::l)=if x.ah9=6 then dB x::aP l else aP l:=by
 unfold aP
 by_cases h:x.ah9=6
 ·simp[h]
 ·simp[h]
theorem E8{a b:List It}{c:Int}(h:Al a b c):∃ k:Int,0≤k∧4*k≤c∧∀ la lb,cE (ja la (aP a) lb (aP b)) K≤2*k+if la=lb then 0 else 1:=by
 induction h with
 | nil=>exact⟨0,by decide,by decide,fun la lb=>by have:=K7 hK la lb;simpa[aP]using this⟩
 | del x h ih =>
  rename_i A B C;obtain⟨k,h1,h2,h3⟩:=ih;have hs:=dE x
  by_cases hx:x.ah9=6
  ·have e:single x=4:=by simp[single,bW,weight,hx]
   refine⟨k+1,by omega,by omega,fun la lb=>?_⟩;rw[gL,bf hx];have h4:=dq (u3 hK la (dB x) (aP A) lb (aP B)) (DG (h3 (dB x) lb) 1);refine dq h4 ?_
   (repeat' split)<;>omega
  ·refine⟨k,h1,by omega,fun la lb=>?_⟩;rw[gL,aI hx];exact h3 la lb
 | ins u h ih =>
  rename_i A B C;obtain⟨k,h1,h2,h3⟩:=ih;have hs:=dE u
  by_cases hu:u.ah9=6
  ·have e:single u=4:=by simp[single,bW,weight,hu]
   refine⟨k+1,by omega,by omega,fun la lb=>?_⟩;rw[gL,bf hu];refine dq (u0 la (aP A) lb (dB u) (aP B)) (dq (h3 la (dB u)) ?_)
   (repeat' split)<;>omega
  ·refine⟨k,h1,by omega,fun la lb=>?_⟩;rw[gL,aI hu];exact h3 la lb
 | pair x u hp h ih =>
  rename_i A B C;obtain⟨k,h1,h2,h3⟩:=ih;have Gn:=(oH hp).1
  have S4:x.ah9=u.ah9:=by
   unfold dj at hp;split at hp
   ·rename_i h;simp only[jK,aO,bT]at h;exact h.1
   split at hp
   ·cases hp
   ·rename_i h;simpa using h
  by_cases hx:x.ah9=6
  ·have hu:u.ah9=6:=by rw[← S4];exact hx
   by_cases hw:dB x=dB u
   ·refine⟨k,h1,by omega,fun la lb=>?_⟩;rw[gL,gL,bf hx,bf hu,← hw];have h5:=h3 (dB x) (dB x);rw[bf rfl]at h5
    by_cases hl:la=lb
    ·subst hl;rw[Hi,bf rfl];exact h5
    ·rw[aI hl];have h4:=dq (u3 hK la (dB x) (aP A) lb (dB x::aP B)) (DG (u0 (K:=K) (dB x) (aP A) lb (dB x) (aP B)) 1);exact dq h4 (by omega)
   ·have hc:sj x≠sj u:=by
     unfold sj bZ;simp only[hx,hu,Tp,aL,dv,gm,aa,ao,gk];exact hw
    have YM:=(wI hp hc).1;have e:single x=4:=by simp[single,bW,weight,hx]
    refine⟨k+1,by omega,by omega,fun la lb=>?_⟩;rw[gL,gL,bf hx,bf hu];have h4:=dq (u3 hK la (dB x) (aP A) lb (dB u::aP B)) (DG (dq (u0 (K:=K) (dB x) (aP A) lb (dB u) (aP B)) (h3 (dB x) (dB u))) 1);refine dq h4 ?_
    (repeat' split)<;>omega
  ·have hu:¬ u.ah9=6:=by rw[← S4];exact hx
   refine⟨k,h1,by omega,fun la lb=>?_⟩;rw[gL,gL,aI hx,aI hu];exact h3 la lb
end
theorem ko{α:Type}(f g:α→Int)(K:List α):cE (fun k=>f k+g k) K=cE f K+cE g K:=by
 induction K with
 | nil=>rfl
 | cons k K ih=>simp only[cE,ay,bN]at ih ⊢;omega
theorem oc{α:Type}(f:α→Int){K L:List α}(hK:K.Nodup)(hL:L.Nodup)(h:∀ k,f k≠0→k∈K∧k∈L):cE f K=cE f L:=by
 have key:∀ M:List α,cE f M=cE f (M.filter fun k=>f k != 0):=fun M=>by
  induction M with
  | nil=>rfl
  | cons k M ih =>
   simp only[cE,ay,bN,eM]at ih ⊢
   by_cases h0:f k=0
   ·simp only[h0,bne_self_eq_false,aF,aK];omega
   ·have:(f k != 0)=true:=by simpa using h0
    rw[bf this];simp only[ay,bN];omega
 rw[key K,key L];refine uH f ((sX (hK.filter _) (hL.filter _)).2 fun k=>?_);simp only[cW,lg,gm];exact⟨fun⟨_,h2⟩=>⟨(h k h2).2,h2⟩,fun⟨_,h2⟩=>⟨(h k h2).1,h2⟩⟩
theorem kW(k:GK):∀ (ws:List (List UInt8)) (C:List (GK×Int)) (last:List UInt8),(bS k (dZ C last ws)).getD 0=(bS k C).getD 0+iI k last ws
 | [],C,last=>by
  simp only[dZ,iI,oD]
  by_cases h:k=(last,[])<;>simp[h,eq_comm]
 | w::r,C,last=>by
  simp only[dZ,iI];rw[kW k r,oD]
  by_cases h:k=(last,w)
  ·simp[h];omega
  ·rw[aI h,aI (fun e=>h e.symm)];omega
theorem xM(k:TK):∀ (l:List It) (C:List (TK×Int)),(bS k (jH C l)).getD 0=(bS k C).getD 0+dz k l
 | [],C=>by simp[jH,dz]
 | t::r,C=>by
  simp only[jH,dz];rw[xM k r];unfold sj
  by_cases h:(bZ t).2=true
  ·rw[bf h,bf h,oD]
   by_cases h2:k=dv (bZ t).1
   ·subst h2;simp;omega
   ·rw[aI h2,aI (by simpa using fun e=>h2 e.symm)];omega
  ·rw[aI h,aI h];simp
theorem pj(k:GK):∀ (ws:List (List UInt8)) (last:List UInt8),0≤iI k last ws
 | [],last=>by simp only[iI];split<;>omega
 | w::r,last=>by have:=pj k r w;simp only[iI];split<;>omega
theorem nE(k:TK)(l:List It):0≤dz k l:=by
 induction l with
 | nil=>exact cy _
 | cons x l ih=>simp only[dz];split<;>omega
theorem FT(k:TK)(l m:List It):dz k (l++m)=dz k l+dz k m:=by
 induction l with
 | nil=>simp[dz]
 | cons x l ih=>simp only[bn,dz,ih];omega
def Vd(ws:List (List UInt8)):List GK:=(dZ [] [] ws).map (·.1)
def Tl(l:List It):List TK:=(jH [] l).map (·.1)
theorem vj(ws:List (List UInt8)):(Vd ws).Nodup:=(js ws [] [] 0 CN.nil).2.1
theorem vv(l:List It):(Tl l).Nodup:=(zJ l [] 0 CN.nil).2.1
theorem nq{α:Type}[DecidableEq α]{C:List (α×Int)}{k:α}(h:(bS k C).getD 0≠0):k∈C.map (·.1):=by
 induction C with
 | nil=>simp[bS,dH]at h
 | cons p C ih =>
  rw[kX]at h
  by_cases e:k=p.1
  ·subst e;simp
  ·rw[aI e]at h;exact dh _ (ih h)
theorem Jt{k:GK}{ws:List (List UInt8)}(h:iI k [] ws≠0):k∈Vd ws:=nq (by rw[kW];simpa[bS,dH]using h)
theorem Dy{k:TK}{l:List It}(h:dz k l≠0):k∈Tl l:=nq (by rw[xM];simpa[bS,dH]using h)
theorem HJ{ws:List (List UInt8)}{g:Gr}(h:g∈dZ [] [] ws):g.2=iI g.1 [] ws:=by
 have h1:=kh (vj ws) h;have h2:=kW g.1 ws [] [];rw[h1]at h2;simpa[bS,dH]using h2
theorem Dv{l:List It}{p:TK×Int}(h:p∈jH [] l):p.2=dz p.1 l:=by
 have h1:=kh (vv l) h;have h2:=xM p.1 l [];rw[h1]at h2;simpa[bS,dH]using h2
theorem Cm:∀ (gs:List Gr) (n:Int),Cn n gs=n+(gs.map (·.2)).sum
 | [],n=>by simp[Cn]
 | g::gs,n=>by
  have:=Cm gs (n+g.2);simp only[Cn,c8,ay,bN]at this ⊢;rw[this];omega
theorem D7{l l':List Int}(h:l.Perm l'):l.sum=l'.sum:=by
 have:=uH (fun x:Int=>x) h;simpa[cE]using this
theorem Bq(ws:List (List UInt8)){K:List GK}(hK:K.Nodup)(hm:∀ k,iI k [] ws≠0→k∈K):Cn 0 (cg ws)=cE (fun k=>iI k [] ws) K:=by
 rw[Cm,dL,D7 ((iv ws).map (·.2))]
 have e:(dZ [] [] ws).map (·.2)=(Vd ws).map fun k=>iI k [] ws:=by
  unfold Vd;rw[ig];exact cS fun g hg=>HJ hg
 rw[e];exact oc _ (vj ws) hK fun k h=>⟨Jt h,hm k h⟩
theorem yb(h:TK→Int){K:List TK}(hK:K.Nodup):∀ (l:List It),(∀ x∈l,∀ k,sj x=some k→k∈K)→cE (fun k=>h k*dz k l) K=(l.map fun x=>match sj x with | some k=>h k | none=>0).sum
 | [],_=>by
  have:cE (fun k=>h k*dz k []) K=cE (fun _=>0) K:=dw fun k _=>by simp[dz]
  rw[this,oa];rfl
 | x::l,hm=>by
  have ih:=yb h hK l fun y hy=>hm y (by simp[hy]);simp only[ay,bN];rw[← ih];cases hc:sj x with
  | none =>
   simp only[dz,hc];rw[dL];exact dw fun k _=>by simp
  | some k0 =>
   have Ml:=hm x (by simp) k0 hc
   have e:cE (fun k=>h k*dz k (x::l)) K=cE (fun k=>(if k0=k then h k else 0)+h k*dz k l) K:=dw fun k _=>by
    simp only[dz,hc,aa];split
    ·rw[il,Int.mul_one]
    ·rw[dL,dL]
   rw[e,ko];congr 1;clear e ih hm
   induction K with
   | nil=>simp at Ml
   | cons k K ih =>
    simp only[eG]at hK;simp only[cE,ay,bN]
    by_cases e:k0=k
    ·subst e
     have:cE (fun k=>if k0=k then h k else 0) K=cE (fun _=>0) K:=dw fun k hk=>by
      rw[aI];rintro rfl;exact hK.1 hk
     rw[oa]at this;simp only[cE]at this;simp[this]
    ·have:=ih hK.2 (by rcases bJ.1 Ml with rfl | h;exact absurd rfl e;exact h);simp only[cE]at this;simp[this,e]
def hW(k:TK):Int:=if jS k then 0 else wK k
def hT(k:TK):Int:=if jS k then 1 else 0
theorem O8(t:It)(h:(bZ t).2=true):sj t=some (dv (bZ t).1):=by unfold sj;rw[bf h]
theorem O7(t:It)(h:¬ (bZ t).2=true):sj t=none:=by unfold sj;rw[aI h]
theorem Ig:∀ (l:List It) (n:Int),A2 n l=n+(l.map fun x=>match sj x with | some k=>hW k | none=>0).sum
 | [],n=>by simp[A2]
 | t::r,n=>by
  have ih:=Ig r;simp only[A2,ay,bN];rw[ih]
  by_cases h:(bZ t).2=true
  ·rw[O8 t h];have e:jS (dv (bZ t).1)=bW (bZ t).1:=rfl;have e2:wK (dv (bZ t).1)=weight (bZ t).1:=pR rfl;simp only[h,dP,hW,e,e2];cases bW (bZ t).1<;>simp<;>omega
  ·rw[O7 t h];simp only[h,eY,aF,aK];omega
theorem Ip:∀ (l:List It) (n:Int),A6 n l=n+(l.map fun x=>match sj x with | some k=>hT k | none=>0).sum
 | [],n=>by simp[A6]
 | t::r,n=>by
  have ih:=Ip r;simp only[A6,ay,bN];rw[ih]
  by_cases h:(bZ t).2=true
  ·rw[O8 t h];have e:jS (dv (bZ t).1)=bW (bZ t).1:=rfl;simp only[h,dP,hT,e];cases bW (bZ t).1<;>simp<;>omega
  ·rw[O7 t h];simp only[h,eY,aF,aK];omega
theorem JB{x:It}{l:List It}(hx:x∈l){k:TK}(hk:sj x=some k):dz k l≠0:=by
 induction l with
 | nil=>simp at hx
 | cons y l ih =>
  have:=nE k l;simp only[dz];rcases bJ.1 hx with rfl | h
  ·rw[bf hk];omega
  ·have:=ih h;split<;>omega
theorem Ih{l:List It}{K:List TK}(hK:K.Nodup)(hm:∀ k,dz k l≠0→k∈K):A2 0 l=cE (fun k=>hW k*dz k l) K:=by
 rw[Ig,dL,yb hW hK l fun x hx k hk=>hm k (JB hx hk)]
theorem Iq{l:List It}{K:List TK}(hK:K.Nodup)(hm:∀ k,dz k l≠0→k∈K):A6 0 l=cE (fun k=>hT k*dz k l) K:=by
 rw[Ip,dL,yb hT hK l fun x hx k hk=>hm k (JB hx hk)]
theorem Ge{β:Type}(id:Int):∀ (L:List (Int×β)) (F:Int×β→Option Sm) (s:Sm),(∀ e∈L,e.1≠id)→gJ id s (L.filterMap fun e=>(F e).map fun t=>(e.1,t))=s
 | [],F,s,_=>rfl
 | e::L,F,s,h=>by
  have h1:=h e (by simp);have ih:=Ge id L F s fun x hx=>h x (by simp[hx]);rw[fR];cases F e with
  | none=>exact ih
  | some t =>
   show gJ id (if e.1=id then s.add t else s) _=s;rw[aI h1];exact ih
theorem zY{β:Type}:∀ (L:List (Int×β)) (F:Int×β→Option Sm),(L.map (·.1)).Nodup→∀ {e:Int×β},e∈L→∀ s:Sm,gJ e.1 s (L.filterMap fun e=>(F e).map fun t=>(e.1,t))=s.add ((F e).getD rP)
 | [],F,_,e,he,s=>by simp at he
 | x::L,F,hn,e,he,s=>by
  simp only[ay,eG]at hn;rw[fR];rcases bJ.1 he with rfl | he
  ·have BG:∀ s,gJ e.1 s (L.filterMap fun e=>(F e).map fun t=>(e.1,t))=s:=fun s=>Ge e.1 L F s fun y hy h=>hn.1 (h▸bH.2 ⟨y,hy,rfl⟩);cases hF:F e with
   | none=>simp only[fY,xm,Sm.ZC];exact BG s
   | some t =>
    show gJ e.1 (if e.1=e.1 then s.add t else s) _=_;rw[bf rfl,BG];rfl
  ·have gv:x.1≠e.1:=fun h=>hn.1 (h▸bH.2 ⟨e,he,rfl⟩);have ih:=zY L F hn.2 he s;cases hF:F x with
   | none=>exact ih
   | some t =>
    show gJ e.1 (if x.1=e.1 then s.add t else s) _=_;rw[aI gv];exact ih
theorem I1{n:Int}(h:0≤n):mn 0 n=0:=by unfold mn;split<;>omega
abbrev Mq:=Int×(List It×Nat)
def EA(L:List Mq)(k:GK):List (Int×Int):=L.filterMap fun e=>(bS k (dZ [] [] (aP e.2.1))).map fun c=>(e.1,c)
def EB(L:List Mq)(k:TK):List (Int×Int):=L.filterMap fun e=>(bS k (jH [] e.2.1)).map fun c=>(e.1,c)
theorem Q7{L:List Mq}(hn:(L.map (·.1)).Nodup){e:Mq}(he:e∈L)(k:GK){c:Int}(hc:0≤c)(s:Sm):gJ e.1 s (iU c (EA L k))=s.add ⟨mn (iI k [] (aP e.2.1)) c,0,0⟩:=by
 have h:=zY L (fun e=>(bS k (dZ [] [] (aP e.2.1))).map fun v=>(⟨mn v c,0,0⟩:Sm)) hn he s
 have e1:iU c (EA L k)=L.filterMap fun e=>((bS k (dZ [] [] (aP e.2.1))).map fun v=>(⟨mn v c,0,0⟩:Sm)).map fun t=>(e.1,t):=by
  unfold iU EA;rw[List.map_filterMap];congr 1;funext e;cases bS k (dZ [] [] (aP e.2.1))<;>rfl
 rw[e1,h];congr 1;have h2:=kW k (aP e.2.1) [] [];cases hg:bS k (dZ [] [] (aP e.2.1))with
 | none=>rw[hg]at h2;simp[bS,dH]at h2;rw[← h2];simp[rP,I1 hc]
 | some v=>rw[hg]at h2;simp[bS,dH]at h2;rw[← h2];rfl
def tO(k:TK)(m:Int):Sm:=if jS k then⟨0,0,m⟩else⟨0,m*wK k,0⟩
theorem Q5{L:List Mq}(hn:(L.map (·.1)).Nodup){e:Mq}(he:e∈L)(k:TK){c:Int}(hc:0≤c)(s:Sm):gJ e.1 s (l3 k c (EB L k))=s.add (tO k (mn (dz k e.2.1) c)):=by
 have h:=zY L (fun e=>(bS k (jH [] e.2.1)).map fun v=>tO k (mn v c)) hn he s
 have e1:l3 k c (EB L k)=L.filterMap fun e=>((bS k (jH [] e.2.1)).map fun v=>tO k (mn v c)).map fun t=>(e.1,t):=by
  unfold l3 EB;rw[List.map_filterMap];congr 1;funext e;cases bS k (jH [] e.2.1)<;>rfl
 rw[e1,h];congr 1;have h2:=xM k e.2.1 [];cases hg:bS k (jH [] e.2.1)with
 | none=>rw[hg]at h2;simp[bS,dH]at h2;rw[← h2];simp[rP,tO,I1 hc]
 | some v=>rw[hg]at h2;simp[bS,dH]at h2;rw[← h2];rfl
theorem Jb{L:List Mq}(hn:(L.map (·.1)).Nodup){e:Mq}(he:e∈L):∀ (gs:List Gr),(∀ g∈gs,0≤g.2)→∀ s:Sm,gJ e.1 s (gs.flatMap fun g=>iU g.2 (EA L g.1))=s.add ⟨(gs.map fun g=>mn (iI g.1 [] (aP e.2.1)) g.2).sum,0,0⟩
 | [],_,s=>by simp[gJ,Sm.add]
 | g::gs,h,s=>by
  rw[dD,rD,Q7 hn he g.1 (h g (by simp)),Jb hn he gs (fun x hx=>h x (by simp[hx])),Sm.add_assoc];simp only[Sm.add,ay,bN,rO]
theorem Jc{L:List Mq}(hn:(L.map (·.1)).Nodup){e:Mq}(he:e∈L):∀ (D:List (TK×Int)),(∀ p∈D,0≤p.2)→∀ s:Sm,gJ e.1 s (D.flatMap fun p=>l3 p.1 p.2 (EB L p.1)) =
   s.add ⟨0,(D.map fun p=>hW p.1*mn (dz p.1 e.2.1) p.2).sum,(D.map fun p=>hT p.1*mn (dz p.1 e.2.1) p.2).sum⟩
 | [],_,s=>by simp[gJ,Sm.add]
 | p::D,h,s=>by
  rw[dD,rD,Q5 hn he p.1 (h p (by simp)),Jc hn he D (fun x hx=>h x (by simp[hx])),Sm.add_assoc];simp only[Sm.add,ay,bN,tO,hW,hT];split<;>simp[Int.mul_comm]
def pL(q s:List It):Sm :=
 ⟨cE (fun k=>mn (iI k [] (aP s)) (iI k [] (aP q))) (Vd (aP q)),cE (fun k=>hW k*mn (dz k s) (dz k q)) (Tl q),cE (fun k=>hT k*mn (dz k s) (dz k q)) (Tl q)⟩
theorem VE{L:List Mq}(hn:(L.map (·.1)).Nodup){e:Mq}(he:e∈L)(q:List It){D:List (TK×Int)}(hD:D.Perm (jH [] q)):
  (bS e.1 (cZ (cZ [] ((cg (aP q)).flatMap fun g=>iU g.2 (EA L g.1))) (D.flatMap fun p=>l3 p.1 p.2 (EB L p.1)))).getD rP=pL q e.2.1:=by
 rw[sM,sM];have e0:(bS e.1 ([]:List mU)).getD rP=rP:=rfl;rw[e0,zX e.1 _ (iv _),zX e.1 _ hD];have hg:∀ g∈dZ [] [] (aP q),0≤g.2:=fun g h=>by rw[HJ h];exact pj _ _ _
 have hc:∀ p∈jH [] q,0≤p.2:=fun p h=>by rw[Dv h];exact nE _ _
 rw[Jb hn he _ hg,Jc hn he _ hc]
 have e1:(dZ [] [] (aP q)).map (fun g=>mn (iI g.1 [] (aP e.2.1)) g.2)=(Vd (aP q)).map fun k=>mn (iI k [] (aP e.2.1)) (iI k [] (aP q)):=by
  unfold Vd;rw[ig];exact cS fun g hg=>by rw[HJ hg];rfl
 have e2:∀ h:TK→Int,(jH [] q).map (fun p=>h p.1*mn (dz p.1 e.2.1) p.2)=(Tl q).map fun k=>h k*mn (dz k e.2.1) (dz k q):=fun h=>by
  unfold Tl;rw[ig];exact cS fun p hp=>by rw[Dv hp];rfl
 rw[e1,e2,e2];simp[pL,Sm.add,rP,cE]
def AE(q s:List It)(k:TK):Int:=hW k*pos (dz k q - dz k s)
def oG(q s:List It)(k:TK):Int:=hT k*kB (dz k q - dz k s)
theorem wq(q s:List It)(k:TK):gf q s k=AE q s k+oG q s k:=by
 unfold gf AE oG hW hT;split<;>simp
theorem Ns(a b:Int):b=mn a b+pos (b - a):=by unfold mn pos;(repeat' split)<;>omega
theorem I2(a b:Int):a=mn a b+pos (a - b):=by unfold mn pos;(repeat' split)<;>omega
theorem T0(a b:Int):b+a=2*mn a b+kB (b - a):=by unfold mn kB;(repeat' split)<;>omega
theorem B0(a b:Int):kB (a - b)=kB (b - a):=by unfold kB;(repeat' split)<;>omega
theorem Bw{a:Int}(h:0≤a):mn a 0=0:=by unfold mn;split<;>omega
def mb(q s:List It):List TK:=Tl (q++s)
theorem jh(q s:List It):(mb q s).Nodup:=vv _
theorem vE{q s:List It}{k:TK}(h:dz k q≠0):k∈mb q s:=Dy (by rw[FT];have:=nE k q;have:=nE k s;omega)
theorem zU{q s:List It}{k:TK}(h:dz k s≠0):k∈mb q s:=Dy (by rw[FT];have:=nE k q;have:=nE k s;omega)
theorem Ds(h:TK→Int)(q s:List It):cE (fun k=>h k*mn (dz k s) (dz k q)) (Tl q)=cE (fun k=>h k*mn (dz k s) (dz k q)) (mb q s) :=
 oc _ (vv q) (jh q s) fun k hk=>by
  have h0:dz k q≠0:=fun e=>hk (by simp only[e];rw[Bw (nE k s),Int.mul_zero]);exact⟨Dy h0,vE h0⟩
theorem MF(q s:List It):A2 0 q=(pL q s).weight+cE (AE q s) (mb q s):=by
 rw[Ih (jh q s) fun k h=>vE h];simp only[pL];rw[Ds,← ko];refine dw fun k _=>?_;simp only[AE];rw[← Int.mul_add,← Ns]
theorem ME(q s:List It):A2 0 s=(pL q s).weight+cE (AE s q) (mb q s):=by
 rw[Ih (jh q s) fun k h=>zU h];simp only[pL];rw[Ds,← ko];refine dw fun k _=>?_;simp only[AE];rw[← Int.mul_add,← I2]
theorem MN{α:Type}(c:Int)(f:α→Int)(K:List α):cE (fun k=>c*f k) K=c*cE f K:=by
 induction K with
 | nil=>simp[cE]
 | cons k K ih=>simp only[cE,ay,bN]at ih ⊢;rw[ih,il]
theorem P5(q s:List It):A6 0 q+A6 0 s=2*(pL q s).tags+cE (oG q s) (mb q s):=by
 rw[Iq (jh q s) fun k h=>vE h,Iq (jh q s) fun k h=>zU h];simp only[pL];rw[Ds,← ko,← MN,← ko];refine dw fun k _=>?_;simp only[oG];have h:=T0 (dz k s) (dz k q);have e:hT k*dz k q+hT k*dz k s=hT k*(dz k q+dz k s):=(il ..).symm;rw[e,h,il,Int.mul_left_comm]
theorem xK{k:TK}(hk:jS k=true)(l:List It):ga k l=dz k l:=by
 induction l with
 | nil=>rfl
 | cons x l ih =>
  simp only[ga,dz,ih];congr 1
  have e:dv x=k↔sj x=some k:=by
   constructor
   ·rintro rfl;have ht:bW x=true:=hk
    have hc:bZ x=(⟨x.ah9,x.aib,0⟩,bW x):=by
     unfold bZ;rw[aI];simp only[bW,da,bT]at ht;omega
    unfold sj;rw[hc];simp only[ht,aL];rfl
   ·intro h;have h1:=xL h;have ht:bW x=true:=by rw[← h1.2.1];exact hk
    have hc:bZ x=(⟨x.ah9,x.aib,0⟩,bW x):=by
     unfold bZ;rw[aI];simp only[bW,da,bT]at ht;omega
    unfold sj at h;rw[hc]at h;simp only[ht,aL,aa]at h;exact h
  by_cases h:dv x=k
  ·rw[bf h,bf (e.1 h)]
  ·rw[aI h,aI (fun h2=>h (e.2 h2))]
theorem x8(q s:List It):mY q s=cE (oG q s) (mb q s):=by
 rw[Ba]
 have nz:(Gp [] q++Gq q [] s).Nodup:=by
  rw[fP];refine⟨uU _ _,uV _ _ _,fun x hx y hy=>?_⟩;rintro rfl;exact((nr _ _ _).1 hx).2.2 ((lX _ _ _ _).1 hy).2.2.1
 have e:cE (fun k=>kB (ga k q - ga k s)) (Gp [] q++Gq q [] s)=cE (oG q s) (Gp [] q++Gq q [] s):=dw fun k hk=>by
  have ht:jS k=true:=by
   rcases bL.1 hk with h | h
   ·exact((nr _ _ _).1 h).1
   ·exact((lX _ _ _ _).1 h).1
  simp only[oG,hT,ht,aL,Int.one_mul,xK ht]
 rw[e];refine oc _ nz (jh q s) fun k hk=>?_
 have ht:jS k=true:=by
  cases h:jS k with
  | true=>rfl
  | false=>exact absurd (by simp[oG,hT,h]) hk
 by_cases h1:dz k q=0
 ·have h2:dz k s≠0:=fun h2=>hk (by simp[oG,h1,h2,kB]);refine⟨List.mem_append_right _ ((lX _ _ _ _).2 ⟨ht,rfl,?_,?_⟩),zU h2⟩
  ·rw[xK ht];exact h1
  ·rw[xK ht];exact h2
 ·exact⟨List.mem_append_left _ ((nr _ _ _).2 ⟨ht,rfl,by rw[xK ht];exact h1⟩),vE h1⟩
def Dz(a b:List (List UInt8)):List GK:=(dZ (dZ [] [] a) [] b).map (·.1)
theorem mP(a b:List (List UInt8)):(Dz a b).Nodup:=(js b _ [] _ (js a [] [] 0 CN.nil)).2.1
theorem Gc(a b:List (List UInt8))(k:GK):(bS k (dZ (dZ [] [] a) [] b)).getD 0=iI k [] a+iI k [] b:=by
 rw[kW,kW];simp[bS,dH]
theorem Pv{a b:List (List UInt8)}{k:GK}(h:iI k [] a≠0):k∈Dz a b:=nq (by rw[Gc];have:=pj k a [];have:=pj k b [];omega)
theorem VN{a b:List (List UInt8)}{k:GK}(h:iI k [] b≠0):k∈Dz a b:=nq (by rw[Gc];have:=pj k a [];have:=pj k b [];omega)
theorem ZA(q s:List It):(pL q s).dW=cE (fun k=>mn (iI k [] (aP s)) (iI k [] (aP q))) (Dz (aP q) (aP s)) :=
 oc _ (vj _) (mP _ _) fun k hk=>by
  have h0:iI k [] (aP q)≠0:=fun e=>hk (by simp only[e];rw[Bw (pj k _ _)]);exact⟨Jt h0,Pv h0⟩
theorem Qi(q s:List It):Cn 0 (cg (aP q))=(pL q s).dW+cE (ja [] (aP q) [] (aP s)) (Dz (aP q) (aP s)):=by
 rw[Bq _ (mP (aP q) (aP s)) fun k h=>Pv h,ZA,← ko];exact dw fun k _=>Ns _ _
theorem Qh(q s:List It):Cn 0 (cg (aP s))=(pL q s).dW+cE (ja [] (aP s) [] (aP q)) (Dz (aP q) (aP s)):=by
 rw[Bq _ (mP (aP q) (aP s)) fun k h=>VN h,ZA,← ko];exact dw fun k _=>I2 _ _
theorem Pj(q s:List It):qM (gQ q) (gQ s) (pL q s)≤gi s q:=by
 have hA:=rR s q;have hK:=jh q s;have h1:=I7 hK hA.symm;have h2:=I7 hK hA
 have e1:cE (gf q s) (mb q s)=cE (AE q s) (mb q s)+cE (oG q s) (mb q s):=by
  rw[← ko];exact dw fun k _=>wq q s k
 have e2:cE (gf s q) (mb q s)=cE (AE s q) (mb q s)+cE (oG q s) (mb q s):=by
  rw[← ko];refine dw fun k _=>?_;rw[wq s q k];simp only[oG,B0 (dz k s)]
 have e3:mY s q=cE (oG q s) (mb q s):=by
  have h:mY s q=mY q s:=by
   have a:=so s q
   have hh:cE (oG s q) (mb s q)=cE (oG q s) (mb q s):=by
    have:cE (oG s q) (mb s q)=cE (oG q s) (mb s q):=dw fun k _=>by simp only[oG,B0 (dz k s)]
    rw[this];refine oc _ (jh s q) hK fun k hk=>?_
    by_cases h1:dz k q=0
    ·have h2:dz k s≠0:=fun h2=>hk (by simp[oG,h1,h2,kB]);exact⟨vE h2,zU h2⟩
    ·exact⟨zU h1,vE h1⟩
   rw[x8,x8,hh]
  rw[h,x8]
 obtain⟨k1,_,g1,g2⟩:=E8 (mP (aP q) (aP s)) hA.symm;obtain⟨k2,_,g3,g4⟩:=E8 (mP (aP q) (aP s)) hA;have g2:=g2 [] [];have g4:=g4 [] [];rw[bf rfl]at g2 g4;have w1:=MF q s;have w2:=ME q s;have t1:=P5 q s;have p1:=Qi q s;have p2:=Qh q s;have hs:=(Is s q).1;rw[zz]
 have PI:∀ f:GK→Int,(∀ k,0≤f k)→∀ K:List GK,0≤cE f K:=fun f hf K=>by
  have:=ta (f:=f) (g:=fun _=>0) (K:=K) fun k _=>hf k;rw[oa]at this;exact this
 have n1:=PI (ja [] (aP q) [] (aP s)) (fun k=>by unfold ja pos;split<;>omega) (Dz (aP q) (aP s));generalize cE (gf q s) (mb q s)=x1 at *;generalize cE (gf s q) (mb q s)=x2 at *;generalize cE (AE q s) (mb q s)=y1 at *;generalize cE (AE s q) (mb q s)=y2 at *;generalize cE (oG q s) (mb q s)=z at *;generalize cE (ja [] (aP q) [] (aP s)) (Dz (aP q) (aP s))=u1 at *;generalize cE (ja [] (aP s) [] (aP q)) (Dz (aP q) (aP s))=u2 at *;simp only[qM,gQ];generalize (pL q s).weight=cw at *;generalize (pL q s).tags=ct at *;generalize (pL q s).dW=cp at *;generalize tv s q=d at *;generalize mY s q=r at *
 have m1:mx (Cn 0 (cg (aP q))) (Cn 0 (cg (aP s))) - cp+1≤d.ediv 4*2+1∧0≤mx (Cn 0 (cg (aP q))) (Cn 0 (cg (aP s))) - cp+1:=by
  unfold mx;have:d.ediv 4=d / 4:=rfl;rw[this];split<;>omega
 rw[dN m1.2]
 have m2:(mx (Cn 0 (cg (aP q))) (Cn 0 (cg (aP s))) - cp+1) / 2≤d / 4:=by
  have:d.ediv 4=d / 4:=rfl;rw[this]at m1;omega
 generalize (mx (Cn 0 (cg (aP q))) (Cn 0 (cg (aP s))) - cp+1) / 2=m at *
 have m3:mx (A2 0 q) (A2 0 s) - cw+3*(A6 0 q+A6 0 s - 2*ct)≤d+2*r:=by
  unfold mx;split<;>omega
 unfold mx at m3 ⊢;split<;>omega
theorem Qq(a b:Int):mx a b=mx b a:=by unfold mx;(repeat' split)<;>omega
theorem C4(q s:List It)(p:Int)(hp:1≤p∧p≤100)(h:p≤cL s q)(hq:q.length≤2^20)(hs:s.length≤2^20):qM (gQ q) (gQ s) (pL q s)≤kA (mx (fI q) (fI s)) p:=by
 have hb:=Pj q s;have hd:=FQ s q;have ht:=um s q;have e:mx (fI q) (fI s)=fE s q:=Qq _ _;rw[e];generalize qM (gQ q) (gQ s) (pL q s)=B at *;unfold cL at h;generalize fE s q=T at *;generalize gi s q=d at *;unfold kA;rw[aI (by omega)];split
 ·omega
 ·rename_i hc;have hT:1≤T:=by omega
  rw[aI (by omega)]at h;rw[aI (by omega:¬ (1073741824:Int)<T)];have h0:0≤mx (T - d) 0:=by unfold mx;split<;>omega
  rw[dN (by omega)]at h;rw[dN (s3 (by omega) (by omega))]
  have h1:p*T≤100*mx (T - d) 0:=by
   have:=Int.mul_le_of_le_ediv (by omega:(0:Int)<T) h;exact this
  refine(Int.le_ediv_iff_mul_le (by decide)).2 ?_;have h2:1*T≤p*T:=pv hp.1 (by omega);have h3:mx (T - d) 0=T - d:=by unfold mx at h1 ⊢;split<;>simp_all<;>omega
  rw[h3]at h1;rw[Int.mul_sub,Int.mul_comm T p];omega
structure kn where
 id:Int
 key:List UInt8
 en:En
 cR:List It
def kn.ah7(s:kn):List V:=[.i .i64 s.id,.s s.key,.sl 3 (s.en.aia.map It.ah7),.sl 3 (s.en.aii.map It.ah7),.s s.en.bQ,.s s.en.next,.s s.en.cJ,.s s.en.b8,.i .i64 s.en.aif,.i .i64 s.en.ail,.sl 3 (s.cR.map It.ah7)]
def pJ{α:Type}(p:α→Bool)(l:List α):Nat:=(l.takeWhile p).length
theorem Iy{α:Type}(p:α→Bool)(l:List α):pJ p l≤l.length:=List.Sublist.length_le (List.takeWhile_sublist _)
theorem rh{α:Type}{p:α→Bool}{l:List α}(h:l.Pairwise fun a b=>p b=true→p a=true):∀ (k:Nat) (y:α),l[k]?=some y→(p y=true↔k<pJ p l):=by
 induction l with
 | nil=>intro k y h;simp at h
 | cons a l ih =>
  replace h:=sY.1 h
  intro k y hk
  by_cases ha:p a=true
  ·have e:pJ p (a::l)=pJ p l+1:=by simp[pJ,Gj,ha]
   cases k with
   | zero=>simp only[aw,aa]at hk;subst hk;rw[e];simp[ha]
   | succ k =>
    have:=ih h.2 k y (by simpa using hk);rw[this,e];omega
  ·have e:pJ p (a::l)=0:=by simp[pJ,Gj,ha]
   rw[e];refine⟨fun hy=>?_,fun h=>by omega⟩;cases k with
   | zero=>simp only[aw,aa]at hk;subst hk;exact absurd hy ha
   | succ k=>exact absurd (h.1 y (aT (by simpa using hk)) hy) ha
theorem EH{β:Type}{lt:β→β→Prop}[DecidableRel lt](irr:∀ x,¬ lt x x)(tr:∀ x y z,lt x y→lt y z→lt x z){l:List β}(h:l.Pairwise lt){t:β}:t∈l↔l[pJ (fun x=>decide (lt x t)) l]?=some t:=by
 have hp:l.Pairwise fun a b=>decide (lt b t)=true→decide (lt a t)=true:=h.imp fun {a b} Ow hb=>by
  simp only[aY]at hb ⊢;exact tr _ _ _ Ow hb
 refine⟨fun hm=>?_,aT⟩;obtain⟨k,hk⟩:=eT.1 hm;have h1:=rh hp k t hk;have h1:¬ k<pJ (fun x=>decide (lt x t)) l:=fun h=>irr t (by simpa using h1.2 h);have uy:=(ab.1 hk).1
 have e:pJ (fun x=>decide (lt x t)) l=k:=by
  refine bB fun gv=>?_;have h2:l[pJ (fun x=>decide (lt x t)) l]?=some l[pJ (fun x=>decide (lt x t)) l]:=ak (by omega);have h3:=rh hp _ _ h2;have h4:=Wd.1 h _ k (by omega:pJ (fun x=>decide (lt x t)) l<l.length) uy (by omega);have h5:l[k]=t:=by rw[ak uy]at hk;simpa using hk
  rw[h5]at h4;have:=h3.1 (by simpa using h4);omega
 rw[e];exact hk
abbrev zZ(M:List kn):Prop:=(M.map kn.key).Pairwise fun a b=>fW a b<0
def lY(M:List kn)(k:List UInt8):Nat:=pJ (fun s=>decide (fW s.key k<0)) M
theorem QY(M:List kn)(k:List UInt8):lY M k≤M.length:=Iy _ _
theorem K9{M:List kn}(h:zZ M)(k:List UInt8)(i:Nat)(x:kn)(hx:M[i]?=some x):fW x.key k<0↔i<lY M k:=by
 have hp:M.Pairwise fun a b=>decide (fW b.key k<0)=true→decide (fW a.key k<0)=true:=(L7.1 h).imp fun {a b} Ow hb=>by
  simp only[aY]at hb ⊢;exact sg Ow hb
 have:=rh hp i x hx;simpa[lY]using this
theorem Ng{α β:Type}(f:α→β)(p:β→Bool)(l:List α):pJ p (l.map f)=pJ (fun x=>p (f x)) l:=by
 induction l with
 | nil=>rfl
 | cons a l ih =>
  simp only[pJ,ay,Gj]at ih ⊢;split
  ·simp[ih]
  ·rfl
theorem QZ{M:List kn}(h:zZ M)(k:List UInt8):k∈M.map kn.key↔∃ x,M[lY M k]?=some x∧x.key=k:=by
 have:=EH (lt:=fun a b=>fW a b<0) (fun x hx=>by rw[mL.self]at hx;omega) (fun x y z=>sg) h (t:=k);rw[this,Ng,a8,aj];exact DM
def tP(l:List Int)(t:Int):Nat:=pJ (fun x=>decide (x<t)) l
theorem Lg{l:List Int}(h:l.Pairwise fun a b=>a<b)(t:Int)(i:Nat)(x:Int)(hx:l[i]?=some x):x<t↔i<tP l t:=by
 have hp:l.Pairwise fun a b=>decide (b<t)=true→decide (a<t)=true:=h.imp fun {a b} Ow hb=>by
  simp only[aY]at hb ⊢;omega
 have:=rh hp i x hx;simpa[tP]using this
theorem Q8{l:List Int}(h:l.Pairwise fun a b=>a<b)(t:Int):t∈l↔l[tP l t]?=some t :=
 EH (lt:=fun a b:Int=>a<b) (fun x hx=>by omega) (fun x y z h1 h2=>by omega) h
theorem D6{α:Type}[DecidableEq α](a:α)(v:Int):∀ C:List (α×Int),((eO C a v).map (·.2)).sum=(C.map (·.2)).sum - (bS a C).getD 0+v
 | []=>by simp[eO,bS,dH]
 | p::C=>by
  have ih:=D6 a v C;rw[kX]
  by_cases h:a=p.1
  ·simp only[eO,bf h,ay,bN,ft];omega
  ·simp only[eO,aI h,ay,bN,ih];omega
theorem ya{α:Type}[DecidableEq α](C:List (α×Int))(a:α)(d:Int):((bump C a d).map (·.2)).sum=(C.map (·.2)).sum+d:=by
 unfold bump;rw[D6];omega
theorem zk:∀ (ws:List (List UInt8)) (C:List (GK×Int)) (last:List UInt8),((dZ C last ws).map (·.2)).sum=(C.map (·.2)).sum+ws.length+1
 | [],C,last=>by simp only[dZ,ya];simp
 | w::r,C,last=>by simp only[dZ,zk r,ya,ai];omega
theorem JC:∀ (l:List It) (C:List (TK×Int)),((jH C l).map (·.2)).sum≤(C.map (·.2)).sum+l.length
 | [],C=>by simp[jH]
 | t::r,C=>by
  have h:=JC r (if(bZ t).2 then bump C (dv (bZ t).1) 1 else C);simp only[jH,ai];split at h
  ·rename_i hc;rw[ya]at h;rw[bf hc];omega
  ·rename_i hc;rw[aI hc];omega
theorem zj(ws:List (List UInt8)):((cg ws).map (·.2)).sum=(ws.length:Int)+1:=by
 rw[D7 ((iv ws).map (·.2)),zk];simp
theorem Q6(c:Int)(hc:0≤c)(N:Nat):∀ ps:List (Int×Int),ps.length≤N→iq (iU c ps)≤N*c:=by
 have key:∀ ps:List (Int×Int),iq (iU c ps)≤ps.length*c:=by
  intro ps
  induction ps with
  | nil=>simp[iq,iU]
  | cons p ps ih =>
   have h:mn p.2 c≤c:=by unfold mn;split<;>omega
   have e:(((p::ps).length:Nat):Int)*c=ps.length*c+c:=by simp only[ai,qQ,PT];omega
   rw[e];simp only[iq,iU,ay,bN,Sm.size]at ih ⊢;omega
 intro ps hp;refine dq (key ps) (pv (by omega) hc)
theorem Q4(k:TK)(c:Int)(hc:0≤c)(N:Nat):∀ ps:List (Int×Int),(∀ p∈ps,0≤p.2)→ps.length≤N→iq (l3 k c ps)≤N*(4*c):=by
 have key:∀ ps:List (Int×Int),(∀ p∈ps,0≤p.2)→iq (l3 k c ps)≤ps.length*(4*c):=by
  intro ps
  induction ps with
  | nil=>intro _;simp[iq,l3]
  | cons p ps ih =>
   intro hp;have ih:=ih fun x hx=>hp x (by simp[hx]);have h0:=hp p (by simp);have h:0≤mn p.2 c∧mn p.2 c≤c:=by unfold mn;split<;>omega
   have hw:=uB ⟨k.1,k.2,0⟩;have hm:mn p.2 c*weight ⟨k.1,k.2,0⟩≤mn p.2 c*4:=jQ hw.2 h.1;have e:(((p::ps).length:Nat):Int)*(4*c)=ps.length*(4*c)+4*c:=by simp only[ai,qQ,PT];omega
   rw[e];simp only[iq,l3,ay,bN,Sm.size]at ih ⊢
   by_cases ht:jS k=true
   ·simp only[ht,aL]at ih ⊢;omega
   ·simp only[ht,aF,aK]at ih ⊢;omega
 intro ps h0 hp;refine dq (key ps h0) (pv (by omega) (by omega))
theorem Fk(N:Nat)(f:GK→List (Int×Int))(hf:∀ k,(f k).length≤N):∀ gs:List Gr,(∀ g∈gs,0≤g.2)→iq (gs.flatMap fun g=>iU g.2 (f g.1))≤N*(gs.map (·.2)).sum
 | [],_=>by simp[iq]
 | g::gs,h=>by
  have h1:=Q6 g.2 (h g (by simp)) N (f g.1) (hf _);have h2:=Fk N f hf gs fun x hx=>h x (by simp[hx]);rw[dD,od,ay,bN,il];omega
theorem Fj(N:Nat)(f:TK→List (Int×Int))(hf:∀ k,(f k).length≤N)(h0:∀ k,∀ p∈f k,0≤p.2):∀ D:List (TK×Int),(∀ p∈D,0≤p.2)→iq (D.flatMap fun p=>l3 p.1 p.2 (f p.1))≤N*(4*(D.map (·.2)).sum)
 | [],_=>by simp[iq]
 | p::D,h=>by
  have h1:=Q4 p.1 p.2 (h p (by simp)) N (f p.1) (h0 _) (hf _);have h2:=Fj N f hf h0 D fun x hx=>h x (by simp[hx]);rw[dD,od,ay,bN,il 4,il];omega
theorem MC:∀ (l:List It) (n:Int),n≤A2 n l∧A2 n l≤n+4*l.length
 | [],n=>by simp[A2]
 | t::r,n=>by
  have h:=MC r (if(bZ t).2&&!bW (bZ t).1 then n+weight (bZ t).1 else n);have hw:=uB (bZ t).1;simp only[A2,ai];split at h
  ·rename_i hc;rw[bf hc];omega
  ·rename_i hc;rw[aI hc];omega
theorem MK:∀ (l:List It) (n:Int),n≤A6 n l∧A6 n l≤n+l.length
 | [],n=>by simp[A6]
 | t::r,n=>by
  have h:=MK r (if(bZ t).2&&bW (bZ t).1 then n+1 else n);simp only[A6,ai];split at h
  ·rename_i hc;rw[bf hc];omega
  ·rename_i hc;rw[aI hc];omega
theorem D5(l:List It)(h:l.length<2^27):(gQ l).ok (2^40)∧0≤fI l∧fI l≤2^40:=by
 have h1:=MC l 0;have h2:=MK l 0;have h3:=s9 l;have h4:=mm l;have h5:Cn 0 (cg (aP l))=((aP l).length:Int)+1:=by rw[Cm,zj];omega
 refine⟨⟨?_,?_,?_⟩,by omega,by omega⟩
 ·simp only[gQ,h5];omega
 ·simp only[gQ];omega
 ·simp only[gQ];omega
theorem FA{k:TK}{l:List It}{v:Int}(h:bS k (jH [] l)=some v):0≤v:=by
 have:=(zJ l [] 0 CN.nil).2.2 k v h;omega
theorem HI{k:GK}{ws:List (List UInt8)}{v:Int}(h:bS k (dZ [] [] ws)=some v):0≤v:=by
 have:=(js ws [] [] 0 CN.nil).2.2 k v h;omega
def lE:List It:=[⟨1,[83,97,118,101],0⟩]
def Md:En:=⟨lE,[⟨1,[83,105,99,104,101,114,110],0⟩],[97],[98],[],[],0,3⟩
def Mc:Qr:=⟨lE,[97],[98],0,50,5⟩
def kPn:Pn:=⟨3,[],[],0,10⟩
theorem Yq:eB Md=0:=by decide +kernel
theorem Uv:ef Mc=0:=by decide +kernel
theorem aaC:qj []=0:=by decide +kernel
theorem sF:cR lE=[⟨6,[83,97,118,101],0⟩]:=by rfl
theorem QX:(sr Md [kPn] Mc).ah7=[.i .i64 0,.i .i64 100,.i .i64 2,.i .i64 10,.i .i64 92]:=by rfl
end Go.Bt

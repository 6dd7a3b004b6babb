/- A part of a proof; the claim's last text says of what. -/
import Derived.Test.YtlakkaamfadipaaGreatDoorV20
set_option linter.all false

namespace Go.Bt
open Go Go.Pm
def wT(b:UInt8):Bool:=dD b==4||dD b==3
def Og(b:UInt8):Bool:=dD b==3
def L8(b:UInt8):Bool:=dD b==2
def iw(inner:UInt8→Bool)(j0 j1:UInt8):List UInt8→Nat
 | []=>0
 | [c]=>if inner c then 1 else 0
 | c::d::r=>if inner c then 1+iw inner j0 j1 (d::r)else if((c==j0)||(c==j1))&&inner d then 2+iw inner j0 j1 r else 0
theorem Kg{inner:UInt8→Bool}{j0 j1 c:UInt8}(h:inner c=true)(r:List UInt8):iw inner j0 j1 (c::r)=1+iw inner j0 j1 r:=by
 cases r<;>simp[iw,h]
theorem Ki{inner:UInt8→Bool}{j0 j1 c:UInt8}(h:inner c=false):iw inner j0 j1 [c]=0:=by simp[iw,h]
theorem Kh{inner:UInt8→Bool}{j0 j1 c d:UInt8}(h:inner c=false)(hj:((c==j0||c==j1)&&inner d)=true)(r:List UInt8):iw inner j0 j1 (c::d::r)=2+iw inner j0 j1 r:=by
 simp only[iw,h,hj,aO,aA,aJ]
theorem Na{inner:UInt8→Bool}{j0 j1 c d:UInt8}(h:inner c=false)(hj:((c==j0||c==j1)&&inner d)=false)(r:List UInt8):iw inner j0 j1 (c::d::r)=0:=by
 simp only[iw,h,hj,aA,aJ]
theorem s5(inner:UInt8→Bool)(j0 j1:UInt8):∀ (l:List UInt8),iw inner j0 j1 l≤l.length
 | []=>au _
 | [c]=>by simp only[iw];split<;>simp
 | c::d::r=>by
  have h1:=s5 inner j0 j1 (d::r);have h2:=s5 inner j0 j1 r;simp only[iw,ag]at *
  (repeat' split)<;>omega
def mL:List UInt8→Nat
 | []=>0
 | c::r=>if L8 c then 1+mL r else 0
theorem Bh:∀ (l:List UInt8),mL l≤l.length
 | []=>au _
 | c::r=>by
  have:=Bh r;simp only[mL,ag];split<;>omega
def eS:List UInt8→Int×Nat
 | []=>(9,1)
 | c::r=>if dD c=4 then(6,1+iw wT 39 45 r)else if dD c=3 then(7,1+iw Og 46 44 r)else if dD c=2 then(8,1+mL r)else(9,1)
theorem nf(l:List UInt8):1≤(eS l).2:=by
 cases l with
 | nil=>simp[eS]
 | cons c r=>simp only[eS];(repeat' split)<;>simp
theorem Gb{l:List UInt8}(h:l≠[]):(eS l).2≤l.length:=by
 cases l with
 | nil=>exact absurd rfl h
 | cons c r =>
  have h1:=s5 wT 39 45 r;have h2:=s5 Og 46 44 r;have h3:=Bh r;simp only[eS,ag]
  (repeat' split)<;>simp only<;>omega
def Aa:Nat→List UInt8→List It
 | 0,_=>[]
 | _+1,[]=>[]
 | n+1,c::r=>⟨(eS (c::r)).1,(c::r).take (eS (c::r)).2,0⟩::Aa n ((c::r).drop (eS (c::r)).2)
def oQ(s:List UInt8):List It:=Aa s.length s
theorem Bd:∀ (n m:Nat) (s:List UInt8),s.length≤n→s.length≤m→Aa n s=Aa m s
 | n,m,[],_,_=>by cases n<;>cases m<;>rfl
 | 0,_,c::r,h,_=>by simp at h
 | _,0,c::r,_,h=>by simp at h
 | n+1,m+1,c::r,h1,h2=>by
  have hp:=nf (c::r);simp only[Aa];rw[Bd n m _ (by simp only[cy,ag]at *;omega) (by simp only[cy,ag]at *;omega)]
theorem EO{s:List UInt8}(h:s≠[]):oQ s=⟨(eS s).1,s.take (eS s).2,0⟩::oQ (s.drop (eS s).2):=by
 cases s with
 | nil=>exact absurd rfl h
 | cons c r =>
  have hp:=nf (c::r);simp only[oQ,ag,Aa];rw[Bd r.length _ _ (by simp only[cy,ag];omega) (au _)]
theorem yC:∀ (n:Nat) (s:List UInt8),(Aa n s).length≤s.length
 | 0,s=>by simp[Aa]
 | n+1,[]=>by simp[Aa]
 | n+1,c::r=>by
  have hp:=nf (c::r);have:=yC n ((c::r).drop (eS (c::r)).2);simp only[Aa,ag,cy]at *;omega
def pd(x:It):List It:=if x.ahr=2∨x.ahr=3∨x.ahr=4∨x.ahr=5 then[x]else if x.ahr=1 then oQ x.aht else[]
def dR(f:List It):List It:=f.flatMap pd
theorem wZ(pre rest:List It):aN rest≤aN (pre++rest):=by
 induction pre with
 | nil=>exact au _
 | cons y pre ih=>simp only[bg,aN];omega
theorem I1(x:It):(pd x).length≤1+x.aht.length:=by
 unfold pd;have:=yC x.aht.length x.aht;simp only[oQ]at *
 (repeat' split)<;>simp<;>omega
def weight(t:It):Int:=if t.ahr=6∨t.ahr=5 then 4 else if t.ahr=7∨t.ahr=2∨t.ahr=3∨t.ahr=4 then 3 else if t.ahr=9 then 2 else if t.ahr=8 then 1 else 0
def gH(l:List It):Int:=(l.map weight).sum
def lk(a b:It):Bool:=a.ahr==b.ahr&&a.aht==b.aht
def dW(t:It):List UInt8:=if t.ahr=6 then lower t.aht else t.aht
theorem me(t:It):0≤weight t∧weight t≤4:=by
 unfold weight
 (repeat' split)<;>omega
theorem wv(l:List It):0≤gH l∧gH l≤4*l.length:=by
 induction l with
 | nil=>simp[gH]
 | cons x l ih =>
  have:=me x;simp only[gH,az,bN,ag]at *;omega
def single(t:It):Int:=if bG t then 1 else weight t
def eP(a b:It):Option Int :=
 if lk a b then some 0 else if a.ahr≠b.ahr then none
 else if a.ahr=6 then(if dW a==dW b then some 1 else some (weight a))
 else if a.ahr=7∨a.ahr=8∨a.ahr=9∨a.ahr=5 then some (weight a)else none
theorem ef(t:It):0≤single t∧single t≤4:=by
 have:=me t;unfold single;split<;>omega
theorem ql{a b:It}{c:Int}(h:eP a b=some c):0≤c∧c≤4:=by
 have:=me a;unfold eP at h
 (repeat' split at h)<;>simp at h<;>omega
def ee(n:Int):V:=.i .i64 n
section
variable {α:Type} [DecidableEq α] {kd:Nat} {ke:α→V}
theorem qm(hk:∀ a b,bX kd (ke a) (ke b)=some (decide (a=b)))(C:List (α×Int))(a:α):
  (bS a C=none∧dM kd (ke a) (emap ke ee C) 0=some none∧(∀ z,dM kd (ke a) (emap ke ee C++[(ke a,z)]) 0=some (some ((emap ke ee C).length,z))) ∧
    (∀ z,(emap ke ee C++[(ke a,z)])[(emap ke ee C).length]?=some (ke a,z))∧∀ z v,(emap ke ee C++[(ke a,z)]).set (emap ke ee C).length (ke a,.i .i64 v)=emap ke ee (eW C a v)) ∨
  (∃ i b,bS a C=some b∧dM kd (ke a) (emap ke ee C) 0=some (some (i,.i .i64 b))∧(emap ke ee C)[i]?=some (ke a,.i .i64 b)∧∀ v,(emap ke ee C).set i (ke a,.i .i64 v)=emap ke ee (eW C a v)):=by
 rcases iF (ve:=ee) hk C a with⟨h1,h2,h3⟩ | ⟨i,b,h1,h2,h3⟩
 ·refine .inl ⟨h1,h2,fun z=>?_,fun z=>by simp,fun z v=>?_⟩
  ·have key:∀ (es:List (V×V)) (n:Nat),dM kd (ke a) es n=some none→dM kd (ke a) (es++[(ke a,z)]) n=some (some (n+es.length,z)):=by
    intro es
    induction es with
    | nil=>intro n _;simp[dM,hk]
    | cons e es ih =>
     intro n h;simp only[dM,bg]at h ⊢;split at h
     ·simp at h
     ·rw[ih _ h];simp;omega
     ·simp at h
   simpa using key _ 0 h2
  ·rw[← h3 v,cI _ _ (au _)];simp[ee]
 ·refine .inr ⟨i,b,h1,h2,?_,h3⟩
  have key:∀ (es:List (V×V)) (n:Nat) (r:Nat) (y:V),dM kd (ke a) es n=some (some (r,y))→∃ j k,r=n+j∧es[j]?=some (k,y)∧bX kd (ke a) k=some true:=by
   intro es
   induction es with
   | nil=>intro n r y h;simp[dM]at h
   | cons e es ih =>
    intro n r y h;obtain⟨k,x⟩:=e;simp only[dM]at h;split at h
    ·rename_i hs;simp only[aa,an]at h;exact⟨0,k,by omega,by simp[h.2],hs⟩
    ·obtain⟨j,k2,h4,h5,h6⟩:=ih _ _ _ h;exact⟨j+1,k2,by omega,by simpa using h5,h6⟩
    ·simp at h
  obtain⟨j,k,h4,h5,h6⟩:=key _ 0 i _ h2;have:i=j:=by omega
  subst this;rw[h5,pL h6];rfl
def bump(C:List (α×Int))(a:α)(d:Int):List (α×Int):=eW C a ((bS a C).getD 0+d)
theorem om(C:List (α×Int))(a:α)(d:Int)(x:α):(bS x (bump C a d)).getD 0=(bS x C).getD 0+if x=a then d else 0:=by
 unfold bump;rw[gr];split
 ·rename_i h;subst h;rfl
 ·simp
def iG(C:List (α×Int)):Int:=(C.map fun p=>max p.2 (-p.2)).sum
end
abbrev TK:=Int×List UInt8
def ie(k:TK):V:=.agg [.i .i64 k.1,.s k.2,.i .i64 0]
def dq(t:It):TK:=(t.ahr,t.aht)
theorem wY(a b:TK):bX 5 (ie a) (ie b)=some (decide (a=b)):=by
 obtain⟨k,t⟩:=a;obtain⟨l,s⟩:=b;simp only[bX,ie,Dd,kY,aO,aa];rw[df];simp
def eL(d:Int)(C:List (TK×Int)):List It→List (TK×Int)
 | []=>C
 | t::r=>eL d (if bG t then bump C (dq t) d else C) r
def oC(a b:List It):List (TK×Int):=eL (-1) (eL 1 [] a) b
def iA(a b:List It):Int:=2*iG (oC a b)
def CB(n:Nat)(C:List (TK×Int)):Prop:=C.length≤n∧∀ k v,bS k C=some v → -(n:Int)≤v∧v≤n
theorem CB.nil:CB 0 []:=⟨au _,fun k v h=>by simp[bS,dJ]at h⟩
theorem CB.mono{n m:Nat}{C:List (TK×Int)}(h:CB n C)(hm:n≤m):CB m C:=⟨br h.1 hm,fun k v hv=>by have:=h.2 k v hv;omega⟩
theorem CB.getD{n:Nat}{C:List (TK×Int)}(h:CB n C)(k:TK): -(n:Int)≤(bS k C).getD 0∧(bS k C).getD 0≤n:=by
 cases hg:bS k C with
 | none=>simp
 | some v=>exact h.2 k v hg
theorem CB.bump{n:Nat}{C:List (TK×Int)}(h:CB n C)(a:TK)(d:Int)(hd : -1≤d∧d≤1):CB (n+1) (Bt.bump C a d):=by
 refine⟨br (C9 _ _ _) (by have:=h.1;omega),fun k v hv=>?_⟩;unfold Bt.bump at hv;rw[gr]at hv;have h1:=h.getD a;split at hv
 ·simp only[aa]at hv;omega
 ·have:=h.2 k v hv;omega
def iU{α:Type}(C:List (α×Int)):Prop:=(C.map (·.1)).Nodup
theorem Ed{α:Type}[DecidableEq α](C:List (α×Int))(a:α)(b:Int):(eW C a b).map (·.1)=if a∈C.map (·.1)then C.map (·.1)else C.map (·.1)++[a]:=by
 induction C with
 | nil=>simp[eW]
 | cons p C ih =>
  simp only[eW];split
  ·rename_i h;subst h;simp
  ·rename_i h;simp only[az,ih]
   by_cases h2:a∈C.map (·.1)
   ·rw[aI h2,aI (de _ h2)]
   ·rw[aw h2,aw (by simp only[bA];rintro(h3 | h3);exact h h3;exact h2 h3)];rfl
theorem iU.pD{α:Type}[DecidableEq α]{C:List (α×Int)}(h:iU C)(a:α)(b:Int):iU (eW C a b):=by
 unfold iU at *;rw[Ed];split
 ·exact h
 ·rename_i hn;rw[fR];exact⟨h,by simp,by simp;intro x y hx;rintro rfl;exact hn (bI.2 ⟨_,hx,rfl⟩)⟩
theorem kh{α:Type}[DecidableEq α]{C:List (α×Int)}(h:iU C){p:α×Int}(hp:p∈C):bS p.1 C=some p.2:=by
 induction C with
 | nil=>simp at hp
 | cons q C ih =>
  unfold iU at h;simp only[az,eM]at h;rw[kT];rcases bA.1 hp with rfl | hp
  ·simp
  ·have:p.1≠q.1:=fun e=>h.1 (e▸bI.2 ⟨p,hp,rfl⟩);rw[aw this];exact ih h.2 hp
theorem iU.count(d:Int):∀ (l:List It) {C:List (TK×Int)},iU C→iU (eL d C l)
 | [],_,h=>h
 | t::r,C,h=>by
  simp only[eL];split
  ·exact iU.count d r (h.pD _ _)
  ·exact iU.count d r h
theorem CB.count(d:Int)(hd : -1≤d∧d≤1):∀ (l:List It) {n:Nat} {C:List (TK×Int)},CB n C→CB (n+l.length) (eL d C l)
 | [],_,_,h=>h
 | t::r,n,C,h=>by
  simp only[eL,ag];split
  ·have:=CB.count d hd r (h.bump (dq t) d hd);exact this.mono (by omega)
  ·have:=CB.count d hd r h;exact this.mono (by omega)
def pe(f:Nat→Int)(ps:List Nat):Int:=(ps.map f).sum
theorem Bs(f:Nat→Int){ps:List Nat}(nq:ps.Nodup){q:Nat}(hq:q∈ps):pe f ps=f q+pe f (ps.filter fun i=>i != q):=by
 induction ps with
 | nil=>simp at hq
 | cons p ps ih =>
  simp only[eM]at nq
  by_cases h:p=q
  ·subst h
   have:(p::ps).filter (fun i=>i != p)=ps:=by
    simp only[eU,K8,aA,aJ];rw[List.filter_eq_self];intro x hx;simp only[mQ,eX];rintro rfl;exact nq.1 hx
   rw[this];simp[pe]
  ·have Lq:q∈ps:=by rcases bA.1 hq with rfl | h2;exact absurd rfl h;exact h2
   have:=ih nq.2 Lq
   have e:(p::ps).filter (fun i=>i != q)=p::ps.filter (fun i=>i != q):=by
    rw[List.filter_cons_of_pos (by simpa using h)]
   rw[e];simp only[pe,az,bN]at this ⊢;omega
theorem Dp{β:Type}(g:β→Int)(l:List β)(dflt:β):pe (fun i=>g (l.getD i dflt)) (List.range l.length)=(l.map g).sum:=by
 have:(List.range l.length).map (fun i=>g (l.getD i dflt))=l.map g:=by
  apply List.ext_getElem
  ·simp
  ·intro i h1 h2;simp at h1;simp[ar,h1]
 rw[pe,this]
theorem Br(f:Nat→Int)(hf:∀ i,0≤f i)(ps:List Nat):0≤pe f ps:=by
 induction ps with
 | nil=>simp[pe]
 | cons p ps ih =>
  have:=hf p;simp only[pe,az,bN]at ih ⊢;omega
theorem tz{α β:Type}{ke:α→V}{ve:β→V}(C:List (α×β))(d:α×β){q:Nat}(h:q<C.length):(emap ke ve C)[q]?=some (ke (C.getD q d).1,ve (C.getD q d).2):=by
 simp[emap,ar,h]
theorem tm{β:Type}{C:List β}{d:β}{q:Nat}(h:q<C.length):C.getD q d∈C:=by
 rw[ar,al h];exact cF h
theorem Bj{n:Nat}{C:List (TK×Int)}(hC:CB n C)(hK:iU C):0≤iG C∧iG C≤(n:Int)*C.length:=by
 have key:∀ D:List (TK×Int),(∀ p∈D,-(n:Int)≤p.2∧p.2≤n)→0≤iG D∧iG D≤(n:Int)*D.length:=by
  intro D
  induction D with
  | nil=>intro _;simp[iG]
  | cons p D ih =>
   intro h;have h1:=ih fun q hq=>h q (de _ hq);have h2:=h p (by simp);have e:(n:Int)*((D.length+1:Nat):Int)=(n:Int)*(D.length:Int)+n:=by rw[qx,il];simp
   simp only[iG,az,bN,ag]at h1 ⊢;rw[e];omega
 exact key C fun p hp=>hC.2 p.1 p.2 (kh hK hp)
theorem Di{α:Type}(C:List (α×Int)):(C.map fun p=>2*max p.2 (-p.2)).sum=2*iG C:=by
 induction C with
 | nil=>rfl
 | cons p C ih =>
  simp only[iG,az,bN]at ih ⊢;rw[ih];omega
theorem mI{ps:List Nat}{q:Nat}(hq:q∈ps):(ps.filter fun i=>i != q).length<ps.length :=
 List.length_filter_lt_length_iff_exists.2 ⟨q,hq,by simp⟩
def mn(a b:Int):Int:=if b<a then b else a
def mM(t u:It)(diag left up:Int):Int:=match eP t u with
 | some c=>mn (mn (up+single t) (left+single u)) (diag+c)
 | none=>mn (up+single t) (left+single u)
def gT(t:It):Int→Int→List It→List Int→List Int
 | diag,left,u::b,up::old=>mM t u diag left up::gT t up (mM t u diag left up) b old
 | _,_,_,old=>old
def gd(t:It)(b:List It):List Int→List Int
 | x::old=>(x+single t)::gT t x (x+single t) b old
 | []=>[]
def jQ(a:Int):List It→List Int
 | []=>[]
 | t::r=>(a+single t)::jQ (a+single t) r
def sL(b:List It):List Int:=0::jQ 0 b
def xw(a b:List It):List Int:=a.foldl (fun row t=>gd t b row) (sL b)
def iN(a b:List It):Int:=(xw a b).getD b.length 0+iA a b
def BR(M:Int)(xs:List Int):Prop:=∀ x∈xs,0≤x∧x≤M
theorem u5(t:It):∀ (b:List It) (old:List Int) (d l:Int),(gT t d l b old).length=old.length
 | [],old,_,_=>by simp[gT]
 | u::b,[],_,_=>by simp[gT]
 | u::b,up::old,d,l=>by simp[gT,u5 t b old]
theorem vl(t:It)(b:List It)(xs:List Int):(gd t b xs).length=xs.length:=by
 cases xs<;>simp[gd,u5]
theorem vg:∀ (b:List It) (a:Int),(jQ a b).length=b.length
 | [],_=>rfl
 | t::r,a=>by simp[jQ,vg r]
theorem DA(b:List It):(sL b).length=b.length+1:=by simp[sL,vg]
theorem vJ{t u:It}{d l up M:Int}(hd:0≤d∧d≤M)(hl:0≤l∧l≤M+4)(hu:0≤up∧up≤M):0≤mM t u d l up∧mM t u d l up≤M+4:=by
 have h1:=ef t;have h2:=ef u;unfold mM mn;split
 ·rename_i c hc;have:=ql hc
  (repeat' split)<;>omega
 ·split<;>omega
theorem BR.step{t:It}{M:Int}:∀ (b:List It) (old:List Int) (d l:Int),BR M old→0≤d∧d≤M→0≤l∧l≤M+4→BR (M+4) (gT t d l b old)
 | [],old,d,l,ho,_,_=>fun x hx=>by have:=ho x (by simpa[gT]using hx);omega
 | u::b,[],d,l,ho,_,_=>fun x hx=>by simp[gT]at hx
 | u::b,up::old,d,l,ho,hd,hl=>fun x hx=>by
  have hu:=ho up (by simp);have hb:=vJ (t:=t) (u:=u) hd hl hu;simp only[gT,bA]at hx;rcases hx with rfl | hx
  ·exact hb
  ·exact BR.step b old up _ (fun y hy=>ho y (by simp[hy])) hu hb x hx
theorem BR.new{t:It}{M:Int}{xs:List Int}(b:List It)(h:BR M xs):BR (M+4) (gd t b xs):=by
 cases xs with
 | nil=>intro x hx;simp[gd]at hx
 | cons y old =>
  have hy:=h y (by simp);have ht:=ef t;intro x hx;simp only[gd,bA]at hx;rcases hx with rfl | hx
  ·omega
  ·exact BR.step b old y _ (fun z hz=>h z (by simp[hz])) hy (by omega) x hx
theorem BR.pre:∀ (b:List It) (a:Int),0≤a→BR (a+4*b.length) (jQ a b)
 | [],a,_=>fun x hx=>by simp[jQ]at hx
 | t::r,a,ha=>fun x hx=>by
  have ht:=ef t;simp only[jQ,bA,ag]at hx ⊢;rcases hx with rfl | hx
  ·omega
  ·have:=BR.pre r (a+single t) (by omega) x hx;omega
theorem BR.sL(b:List It):BR (4*b.length) (sL b):=fun x hx=>by
 simp only[Bt.sL,bA]at hx;rcases hx with rfl | hx
 ·omega
 ·have:=BR.pre b 0 (by omega) x hx;omega
theorem rB(b:List It):∀ (a:List It) (row:List Int) (M:Int),BR M row→BR (M+4*a.length) (a.foldl (fun row t=>gd t b row) row)∧(a.foldl (fun row t=>gd t b row) row).length=row.length
 | [],row,M,h=>⟨by simpa using h,rfl⟩
 | t::a,row,M,h=>by
  have:=rB b a (gd t b row) (M+4) (h.new b);simp only[cV,ag];refine⟨fun x hx=>?_,by rw[this.2,vl]⟩;have:=this.1 x hx;omega
theorem Dz(a b:List It):BR (4*b.length+4*a.length) (xw a b)∧(xw a b).length=b.length+1:=by
 have:=rB b a (sL b) _ (BR.sL b);exact⟨this.1,by rw[xw,this.2,DA]⟩
theorem x9(xs ys:List Int)(x v:Int):((xs++x::ys).map b5).set xs.length [.i .i64 v]=(xs++v::ys).map b5:=by
 rw[eN,cI _ _ (by simp)];simp[b5]
theorem wF(xs ys:List Int)(x:Int):fw ((xs++x::ys).map b5) xs.length 0=some (.i .i64 x):=by
 simp[fw,b5]
theorem uF(xs ys:List Int)(x:Int):((xs++x::ys).map b5).getD xs.length []=[.i .i64 x]:=by
 simp[ar,b5]
structure Qr where
 ahu:List It
 bM:List UInt8
 next:List UInt8
 now:Int
 threshold:Int
 jX:Int
def Qr.ahq(q:Qr):List V:=[.sl 3 (q.ahu.map It.ahq),.s q.bM,.s q.next,.i .i64 q.now,.i .i64 q.threshold,.i .i64 q.jX]
structure Pn where
 ahI:Int
 cY:List UInt8
 cE:List UInt8
 iK:Int
 points:Int
def Pn.ahq(p:Pn):List V:=[.i .i64 p.ahI,.s p.cY,.s p.cE,.i .i64 p.iK,.i .i64 p.points]
structure Mt where
 ahA:Int
 nc:Int
 context:Int
 points:Int
 score:Int
def Mt.ahq(m:Mt):List V:=[.i .i64 m.ahA,.i .i64 m.nc,.i .i64 m.context,.i .i64 m.points,.i .i64 m.score]
def mx(a b:Int):Int:=if a<b then b else a
def jn(a b:List It):Int:=mx (gH a) (gH b)
def dF(a b:List It):Int:=if jn a b=0 then 100 else(100*mx (jn a b - iN a b) 0).tdiv (jn a b)
def IE(a b:List UInt8):Bool:=a != []&&a==b
def jJ(e:En)(q:Qr):Int:=(if IE e.bM q.bM then 1 else 0)+if IE e.next q.next then 1 else 0
def pX(p:Pn):Int :=
 if p.ahI<0∨3<p.ahI∨p.iK<0∨1073741824<p.iK∨p.points<0∨100<p.points then 1
 else if(named p.cY&&named p.cE)=false then 4 else 0
def lM:List Pn→Int
 | []=>0
 | p::r=>if pX p≠0 then pX p else lM r
def pY(l:List Pn):Int:=if(16:Int)<l.length then 3 else lM l
def qv(p:Pn)(e:En)(now:Int):Bool :=
 if p.ahI != 0&&p.ahI != e.ahI then false
 else if(p.cY != []&&p.cY != e.cY)||(p.cE != []&&p.cE != e.cE)then false
 else decide (p.iK≤0)||decide (p.iK≤now - e.ahD)
def mZ(e:En)(now:Int):Int→List Pn→Int
 | s,[]=>s
 | s,p::r=>mZ e now (if decide (0<p.points)&&qv p e now then mn (s+mn p.points 100) 100 else s) r
def ll(l:List Pn)(e:En)(now:Int):Int:=mZ e now 0 l
def iB(e:En)(a b:List It)(l:List Pn)(q:Qr):Mt :=
 let p:=dF a b;let s:=ll l e q.now;let c:=if p=100 then jJ e q else 0
 ⟨0,p,c,s,mx (p+c - s) 0⟩
def Mg(e:En)(l:List Pn)(q:Qr):Mt:=iB e (dR e.ahu) (dR q.ahu) l q
def dE(q:Qr):Int :=
 if bW q.ahu≠0 then bW q.ahu else
 if q.ahu.length=0 then 1 else
 if(parse q.bM).2.2≠0 then(parse q.bM).2.2 else if(parse q.next).2.2≠0 then(parse q.next).2.2 else
 if q.now<0∨1073741824<q.now∨q.threshold<1∨102<q.threshold∨q.jX<1∨100<q.jX then 1 else 0
theorem yR(a b:List It):0≤jn a b∧jn a b≤4*a.length+4*b.length:=by
 have:=wv a;have:=wv b;unfold jn mx;split<;>omega
theorem vj(a b:List It)(hd:0≤iN a b):0≤dF a b∧dF a b≤100:=by
 have hb:=(yR a b).1;unfold dF;split
 ·omega
 ·have hm:0≤100*mx (jn a b - iN a b) 0∧100*mx (jn a b - iN a b) 0≤100*jn a b:=by
   unfold mx;split<;>omega
  rw[fS hm.1];exact⟨RZ hm.1 hb,Int.ediv_le_of_le_mul (by omega) hm.2⟩
theorem ER(e:En)(q:Qr):0≤jJ e q∧jJ e q≤2:=by
 unfold jJ
 (repeat' split)<;>omega
theorem rO(e:En)(now:Int):∀ (l:List Pn) (s:Int),0≤s∧s≤100→0≤mZ e now s l∧mZ e now s l≤100
 | [],s,h=>h
 | p::r,s,h=>by
  unfold mZ;refine rO e now r _ ?_;split
  ·rename_i hc;simp only[aG,aU]at hc;unfold mn
   (repeat' split)<;>omega
  ·exact h
def iQ:List It→It→Int
 | [],_=>0
 | x::l,t=>(if lk x t then 1 else 0)+iQ l t
theorem tY(a:List It)(t:It):0≤iQ a t∧iQ a t≤a.length:=by
 induction a with
 | nil=>simp[iQ]
 | cons x a ih=>simp only[iQ,ag];split<;>omega
def ov(o:Option Int)(v1 v2:Int):Int :=
 let v:=match o with
  | some v=>if v1<v then v1 else v
  | none=>v1
 if v2<v then v2 else v
def tv:List It→List It→Int
 | [],[]=>0
 | [],u::b=>single u+tv [] b
 | x::a,[]=>single x+tv a []
 | x::a,u::b=>ov ((eP x u).map (·+tv a b)) (single x+tv a (u::b)) (single u+tv (x::a) b)
theorem Aq:∀ (a b:List It),0≤tv a b∧tv a b≤4*a.length+4*b.length
 | [],[]=>by simp[tv]
 | [],u::b=>by
  have:=Aq [] b;have:=ef u;simp only[tv,ag,ay]at *;omega
 | x::a,[]=>by
  have:=Aq a [];have:=ef x;simp only[tv,ag,ay]at *;omega
 | x::a,u::b=>by
  have h1:=Aq a b;have h2:=Aq a (u::b);have h3:=Aq (x::a) b;have:=ef x;have:=ef u;simp only[tv,ag,ay]at *;cases hc:eP x u with
  | none =>
   simp only[zr,ov];split<;>omega
  | some c =>
   have:=ql hc;simp only[bY,ov]
   (repeat' split)<;>omega
def tI(a b:List It)(i k:Nat):Int:=tv (a.drop i) (b.drop k)
def ZH(a b:List It)(i lo:Nat):List Int:=(List.range' lo (b.length+1 - lo)).map (tI a b i)
def Wc(a b:List It)(i j:Nat):List Int:=List.replicate j 0++ZH a b i j
def l9(d:Int):Int:=if d < -d then -d else d
def Dk(a b:List It):List It→List It→Int
 | _,[]=>0
 | pre,t::r=>(if bG t&&iQ pre t==0 then l9 (iQ a t - iQ b t)else 0)+Dk a b (pre++[t]) r
def Dj(a b:List It):List It→List It→Int
 | _,[]=>0
 | pre,t::r=>(if(bG t&&iQ pre t==0)&&iQ a t==0 then iQ b t else 0)+Dj a b (pre++[t]) r
def ub(a b:List It):Int:=Dk a b [] a+Dj a b [] b
theorem RR{d:Int}{n:Int}(h : -n≤d∧d≤n):0≤l9 d∧l9 d≤n:=by unfold l9;split<;>omega
theorem HA(a b:List It):∀ (rest pre:List It),0≤Dk a b pre rest∧Dk a b pre rest≤rest.length*((a.length:Int)+b.length)
 | [],_=>by simp[Dk]
 | t::r,pre=>by
  have h:=HA a b r (pre++[t]);have h1:=tY a t;have h2:=tY b t;have h3:=RR (d:=iQ a t - iQ b t) (n:=(a.length:Int)+b.length) (by omega)
  have e:(((t::r).length:Nat):Int)*((a.length:Int)+b.length)=r.length*((a.length:Int)+b.length)+((a.length:Int)+b.length):=by
   simp only[ag,qx,Ph];omega
  rw[e];simp only[Dk];split<;>omega
theorem Hz(a b:List It):∀ (rest pre:List It),0≤Dj a b pre rest∧Dj a b pre rest≤rest.length*((a.length:Int)+b.length)
 | [],_=>by simp[Dj]
 | t::r,pre=>by
  have h:=Hz a b r (pre++[t]);have h2:=tY b t
  have e:(((t::r).length:Nat):Int)*((a.length:Int)+b.length)=r.length*((a.length:Int)+b.length)+((a.length:Int)+b.length):=by
   simp only[ag,qx,Ph];omega
  rw[e];simp only[Dj];split<;>omega
def cC{α:Type}(f:α→Int)(l:List α):Int:=(l.map f).sum
theorem uc{α:Type}(f:α→Int){l l':List α}(h:l.Perm l'):cC f l=cC f l':=by
 induction h with
 | nil=>rfl
 | cons x _ ih=>simp only[cC,az,bN]at ih ⊢;omega
 | swap x y l=>simp only[cC,az,bN];omega
 | trans _ _ h1 h2=>exact h1.trans h2
theorem L3{α:Type}(f:α→Int)(l l':List α):cC f (l++l')=cC f l+cC f l':=by simp[cC]
theorem du{α:Type}{f g:α→Int}{l:List α}(h:∀ x∈l,f x=g x):cC f l=cC g l:=by
 induction l with
 | nil=>rfl
 | cons x l ih =>
  have h1:=h x (by simp);have h2:=ih fun y hy=>h y (by simp[hy]);simp only[cC,az,bN]at h2 ⊢;omega
def gf(k:TK):List It→Int
 | []=>0
 | x::l=>(if dq x=k then 1 else 0)+gf k l
theorem pM(x t:It):lk x t=true↔dq x=dq t:=by
 simp[lk,dq]
theorem mm(l:List It)(t:It):iQ l t=gf (dq t) l:=by
 induction l with
 | nil=>rfl
 | cons x l ih =>
  simp only[iQ,gf,ih]
  by_cases h:dq x=dq t
  ·rw[aI ((pM x t).2 h),aI h]
  ·rw[aw (fun h2=>h ((pM x t).1 h2)),aw h]
theorem nw(k:TK)(l:List It):0≤gf k l:=by
 induction l with
 | nil=>exact cj _
 | cons x l ih=>simp only[gf];split<;>omega
theorem tE(k:TK)(l m:List It):gf k (l++m)=gf k l+gf k m:=by
 induction l with
 | nil=>simp[gf]
 | cons x l ih=>simp only[bg,gf,ih];omega
def jV(k:TK):Bool:=k.1==2||k.1==3||k.1==4
theorem qL(t:It):bG t=jV (dq t):=rfl
def Fk:List It→List It→List TK
 | _,[]=>[]
 | pre,t::r=>if bG t&&iQ pre t==0 then dq t::Fk (pre++[t]) r else Fk (pre++[t]) r
def Fl(a:List It):List It→List It→List TK
 | _,[]=>[]
 | pre,t::r=>if(bG t&&iQ pre t==0)&&iQ a t==0 then dq t::Fl a (pre++[t]) r else Fl a (pre++[t]) r
theorem Ax(a b:List It):∀ (rest pre:List It),Dk a b pre rest=cC (fun k=>l9 (gf k a - gf k b)) (Fk pre rest)
 | [],_=>rfl
 | t::r,pre=>by
  have ih:=Ax a b r (pre++[t]);simp only[Dk,Fk];split
  ·simp only[cC,az,bN]at ih ⊢;rw[ih,mm,mm]
  ·rw[ih,eE]
theorem Aw(a b:List It):∀ (rest pre:List It),Dj a b pre rest=cC (fun k=>gf k b) (Fl a pre rest)
 | [],_=>rfl
 | t::r,pre=>by
  have ih:=Aw a b r (pre++[t]);simp only[Dj,Fl];split
  ·simp only[cC,az,bN]at ih ⊢;rw[ih,mm]
  ·rw[ih,eE]
theorem ni(k:TK):∀ (rest pre:List It),k∈Fk pre rest↔jV k=true∧gf k pre=0∧gf k rest≠0
 | [],pre=>by simp[Fk,gf]
 | t::r,pre=>by
  have ih:=ni k r (pre++[t]);have h1:=nw k r;have h2:=nw k pre;simp only[Fk,qL,mm];rw[tE]at ih;have e:gf k [t]=if dq t=k then 1 else 0:=by simp[gf]
  rw[e]at ih
  by_cases hk:dq t=k
  ·subst hk;simp only[aO]at ih;have ih':¬ dq t∈Fk (pre++[t]) r:=fun h=>by have:=(ih.1 h).2.1;omega
   simp only[gf,aO];split
   ·rename_i hc;simp only[aG,bR]at hc;simp only[bA,K7,true_iff];exact⟨hc.1,hc.2,by omega⟩
   ·rename_i hc;simp only[aG,bR]at hc;simp only[ih',OW];rintro⟨h3,h4,_⟩;exact hc ⟨h3,h4⟩
  ·simp only[hk,aJ,Lf]at ih;simp only[gf,hk,aJ,eE];split
   ·rw[bA,ih];constructor
    ·rintro(h | h)
     ·exact absurd h.symm hk
     ·exact h
    ·exact .inr
   ·exact ih
theorem ur:∀ (rest pre:List It),(Fk pre rest).Nodup
 | [],_=>iI
 | t::r,pre=>by
  have ih:=ur r (pre++[t]);simp only[Fk];split
  ·refine eM.2 ⟨fun h=>?_,ih⟩;have:=((ni _ _ _).1 h).2.1;rw[tE]at this;have h2:=nw (dq t) pre;simp[gf]at this;omega
  ·exact ih
theorem lV(a:List It)(k:TK):∀ (rest pre:List It),k∈Fl a pre rest↔jV k=true∧gf k pre=0∧gf k a=0∧gf k rest≠0
 | [],pre=>by simp[Fl,gf]
 | t::r,pre=>by
  have ih:=lV a k r (pre++[t]);have h1:=nw k r;have h2:=nw k pre;simp only[Fl,qL,mm];rw[tE]at ih;have e:gf k [t]=if dq t=k then 1 else 0:=by simp[gf]
  rw[e]at ih
  by_cases hk:dq t=k
  ·subst hk;simp only[aO]at ih;have ih':¬ dq t∈Fl a (pre++[t]) r:=fun h=>by have:=(ih.1 h).2.1;omega
   simp only[gf,aO];split
   ·rename_i hc;simp only[aG,bR]at hc;simp only[bA,K7,true_iff];exact⟨hc.1.1,hc.1.2,hc.2,by omega⟩
   ·rename_i hc;simp only[aG,bR]at hc;simp only[ih',OW];rintro⟨h3,h4,h5,_⟩;exact hc ⟨⟨h3,h4⟩,h5⟩
  ·simp only[hk,aJ,Lf]at ih;simp only[gf,hk,aJ,eE];split
   ·rw[bA,ih];constructor
    ·rintro(h | h)
     ·exact absurd h.symm hk
     ·exact h
    ·exact .inr
   ·exact ih
theorem uv(a:List It):∀ (rest pre:List It),(Fl a pre rest).Nodup
 | [],_=>iI
 | t::r,pre=>by
  have ih:=uv a r (pre++[t]);simp only[Fl];split
  ·refine eM.2 ⟨fun h=>?_,ih⟩;have:=((lV _ _ _ _).1 h).2.1;rw[tE]at this;have h2:=nw (dq t) pre;simp[gf]at this;omega
  ·exact ih
theorem Av(a b:List It):ub a b=cC (fun k=>l9 (gf k a - gf k b)) (Fk [] a++Fl a [] b):=by
 rw[L3,ub,Ax,Aw];congr 1;refine du fun k hk=>?_;have h1:=((lV _ _ _ _).1 hk).2.2.1;have h2:=nw k b;rw[h1];unfold l9;split<;>omega
theorem Ff{C:List (TK×Int)}(h:iU C):iG C=cC (fun k=>l9 ((bS k C).getD 0)) (C.map (·.1)):=by
 have e:cC (fun k=>l9 ((bS k C).getD 0)) (C.map (·.1))=(C.map fun p=>l9 ((bS p.1 C).getD 0)).sum:=by
  simp only[cC,ic];rfl
 rw[e];unfold iG;congr 1;refine cN fun p hp=>?_;rw[kh h hp];unfold l9;simp only[fB];split<;>omega
theorem sa(d:Int)(k:TK):∀ (l:List It) (C:List (TK×Int)),(bS k (eL d C l)).getD 0=(bS k C).getD 0+d*(if jV k then gf k l else 0)
 | [],C=>by simp[eL,gf]
 | t::r,C=>by
  have ih:=sa d k r (if bG t then bump C (dq t) d else C);simp only[eL];rw[ih];rw[qL]
  by_cases hk:dq t=k
  ·subst hk
   by_cases ht:jV (dq t)=true
   ·simp only[ht,aO,om,gf,il];omega
   ·simp only[ht,aA,aJ]
  ·split
   ·rw[om,aw (fun h=>hk h.symm)];simp only[gf,hk,aJ,eE,Lf]
   ·simp only[gf,hk,aJ,eE]
theorem r9(d:Int)(k:TK):∀ (l:List It) (C:List (TK×Int)),k∈(eL d C l).map (·.1)↔k∈C.map (·.1)∨(jV k=true∧gf k l≠0)
 | [],C=>by simp[eL,gf]
 | t::r,C=>by
  have ih:=r9 d k r (if bG t then bump C (dq t) d else C);have hn:=nw k r;simp only[eL];rw[ih,qL]
  by_cases ht:jV (dq t)=true
  ·simp only[ht,aO,bump,Ed]
   by_cases hk:dq t=k
   ·subst hk;simp only[gf,aO,ht,iH];constructor
    ·intro _;exact .inr (by omega)
    ·intro _;refine .inl ?_;split
     ·assumption
     ·simp
   ·simp only[gf,hk,aJ,eE];split
    ·rfl
    ·have po:¬ k=dq t:=fun h=>hk h.symm;simp only[bP,b6,po,sf]
  ·simp only[ht,aA,aJ]
   by_cases hk:dq t=k
   ·subst hk;simp[ht]
   ·simp only[gf,hk,aJ,eE]
theorem rK(a b:List It):iA a b=2*ub a b:=by
 have hK:iU (oC a b):=iU.count (-1) b (iU.count 1 a (by simp[iU]));unfold iA;rw[Av,Ff hK];congr 1
 have tf:∀ k,k∈(oC a b).map (·.1)↔k∈Fk [] a++Fl a [] b:=fun k=>by
  unfold oC;rw[r9,r9,bP,ni,lV];simp only[bD,eA,nL,gf,iH]
  by_cases h1:jV k=true<;>by_cases h2:gf k a=0<;>by_cases h3:gf k b=0<;>simp[h1,h2,h3]
 have nq:(Fk [] a++Fl a [] b).Nodup:=by
  rw[fR];refine⟨ur _ _,uv _ _ _,fun x hx y hy=>?_⟩;rintro rfl;exact((ni _ _ _).1 hx).2.2 ((lV _ _ _ _).1 hy).2.2.1
 rw[uc _ ((sn hK nq).2 tf)];refine du fun k hk=>?_;congr 1
 have ht:jV k=true:=by
  rcases bP.1 hk with h | h
  ·exact((ni _ _ _).1 h).1
  ·exact((lV _ _ _ _).1 h).1
 unfold oC;rw[sa,sa];simp[ht,bS,dJ];omega
inductive Al:List It→List It→Int→Prop
 | nil:Al [] [] 0
 | del (x:It) {a b:List It} {c:Int} (h:Al a b c):Al (x::a) b (single x+c)
 | ins (u:It) {a b:List It} {c:Int} (h:Al a b c):Al a (u::b) (single u+c)
 | pair (x u:It) {p:Int} (hp:eP x u=some p) {a b:List It} {c:Int} (h:Al a b c):Al (x::a) (u::b) (p+c)
theorem Al.cast{a b:List It}{c d:Int}(h:Al a b c)(e:c=d):Al a b d:=e▸h
theorem yU(o:Option Int)(v1 v2:Int):ov o v1 v2≤v1∧ov o v1 v2≤v2∧∀ v,o=some v→ov o v1 v2≤v:=by
 cases o with
 | none =>
  unfold ov;simp only;refine⟨by split<;>omega,by split<;>omega,fun v h=>by simp at h⟩
 | some w =>
  unfold ov;simp only;refine⟨by(repeat' split)<;>omega,by(repeat' split)<;>omega,fun v h=>?_⟩;simp only[aa]at h;subst h
  (repeat' split)<;>omega
theorem OO(o:Option Int)(v1 v2:Int):ov o v1 v2=v1∨ov o v1 v2=v2∨o=some (ov o v1 v2):=by
 cases o with
 | none =>
  unfold ov;simp only;split<;>simp
 | some w =>
  unfold ov;simp only
  (repeat' split)<;>simp
theorem rl:∀ (a b:List It),Al a b (tv a b)
 | [],[]=>by simp only[tv];exact .nil
 | [],u::b=>by simp only[tv];exact .ins u (rl [] b)
 | x::a,[]=>by simp only[tv];exact .del x (rl a [])
 | x::a,u::b=>by
  have h1:=rl a b;have h2:=rl a (u::b);have h3:=rl (x::a) b;simp only[tv];rcases OO ((eP x u).map (·+tv a b)) (single x+tv a (u::b)) (single u+tv (x::a) b)with h | h | h
  ·rw[h];exact .del x h2
  ·rw[h];exact .ins u h3
  ·obtain⟨p,hp,he⟩:=aj.1 h;rw[← he];exact .pair x u hp h1
theorem tW{a b:List It}{c:Int}(h:Al a b c):tv a b≤c:=by
 induction h with
 | nil=>simp[tv]
 | del x h ih =>
  rename_i a b c;cases b with
  | nil=>simp only[tv];omega
  | cons u b=>have:=(yU ((eP x u).map (·+tv a b)) (single x+tv a (u::b)) (single u+tv (x::a) b)).1;simp only[tv];omega
 | ins u h ih =>
  rename_i a b c;cases a with
  | nil=>simp only[tv];omega
  | cons x a=>have:=(yU ((eP x u).map (·+tv a b)) (single x+tv a (u::b)) (single u+tv (x::a) b)).2.1;simp only[tv];omega
 | pair x u hp h ih =>
  rename_i p a b c;have:=(yU ((eP x u).map (·+tv a b)) (single x+tv a (u::b)) (single u+tv (x::a) b)).2.2 (p+tv a b) (by rw[hp];rfl);simp only[tv];omega
inductive oZ:List It→List It→Int→Prop
 | nil:oZ [] [] 0
 | del (x:It) {a b:List It} {c:Int} (h:oZ a b c):oZ (a++[x]) b (c+single x)
 | ins (u:It) {a b:List It} {c:Int} (h:oZ a b c):oZ a (b++[u]) (c+single u)
 | pair (x u:It) {p:Int} (hp:eP x u=some p) {a b:List It} {c:Int} (h:oZ a b c):oZ (a++[x]) (b++[u]) (c+p)
theorem oZ.cast{a b:List It}{c d:Int}(h:oZ a b c)(e:c=d):oZ a b d:=e▸h
theorem oZ.abH(x:It){a b:List It}{c:Int}(h:oZ a b c):oZ (x::a) b (single x+c):=by
 induction h with
 | nil=>exact(oZ.del x .nil).cast (by omega)
 | del y h ih=>exact(oZ.del y ih).cast (by omega)
 | ins u h ih=>exact(oZ.ins u ih).cast (by omega)
 | pair y u hp h ih=>exact(oZ.pair y u hp ih).cast (by omega)
theorem oZ.abG(u:It){a b:List It}{c:Int}(h:oZ a b c):oZ a (u::b) (single u+c):=by
 induction h with
 | nil=>exact(oZ.ins u .nil).cast (by omega)
 | del y h ih=>exact(oZ.del y ih).cast (by omega)
 | ins v h ih=>exact(oZ.ins v ih).cast (by omega)
 | pair y v hp h ih=>exact(oZ.pair y v hp ih).cast (by omega)
theorem oZ.YP(x u:It){p:Int}(hq:eP x u=some p){a b:List It}{c:Int}(h:oZ a b c):oZ (x::a) (u::b) (p+c):=by
 induction h with
 | nil=>exact(oZ.pair x u hq .nil).cast (by omega)
 | del y h ih=>exact(oZ.del y ih).cast (by omega)
 | ins v h ih=>exact(oZ.ins v ih).cast (by omega)
 | pair y v hp h ih=>exact(oZ.pair y v hp ih).cast (by omega)
theorem Al.toR{a b:List It}{c:Int}(h:Al a b c):oZ a b c:=by
 induction h with
 | nil=>exact .nil
 | del x h ih=>exact ih.abH x
 | ins u h ih=>exact ih.abG u
 | pair x u hp h ih=>exact ih.YP x u hp
theorem Al.V5(x:It){a b:List It}{c:Int}(h:Al a b c):Al (a++[x]) b (c+single x):=by
 induction h with
 | nil=>exact(Al.del x .nil).cast (by omega)
 | del y h ih=>exact(Al.del y ih).cast (by omega)
 | ins u h ih=>exact(Al.ins u ih).cast (by omega)
 | pair y u hp h ih=>exact(Al.pair y u hp ih).cast (by omega)
theorem Al.V2(u:It){a b:List It}{c:Int}(h:Al a b c):Al a (b++[u]) (c+single u):=by
 induction h with
 | nil=>exact(Al.ins u .nil).cast (by omega)
 | del y h ih=>exact(Al.del y ih).cast (by omega)
 | ins v h ih=>exact(Al.ins v ih).cast (by omega)
 | pair y v hp h ih=>exact(Al.pair y v hp ih).cast (by omega)
theorem Al.R8(x u:It){p:Int}(hq:eP x u=some p){a b:List It}{c:Int}(h:Al a b c):Al (a++[x]) (b++[u]) (c+p):=by
 induction h with
 | nil=>exact(Al.pair x u hq .nil).cast (by omega)
 | del y h ih=>exact(Al.del y ih).cast (by omega)
 | ins v h ih=>exact(Al.ins v ih).cast (by omega)
 | pair y v hp h ih=>exact(Al.pair y v hp ih).cast (by omega)
theorem oZ.zi{a b:List It}{c:Int}(h:oZ a b c):Al a b c:=by
 induction h with
 | nil=>exact .nil
 | del x h ih=>exact ih.V5 x
 | ins u h ih=>exact ih.V2 u
 | pair x u hp h ih=>exact ih.R8 x u hp
theorem oZ.last{A B:List It}{c:Int}(h:oZ A B c):(A=[]∧B=[]∧c=0)∨(∃ a x d,A=a++[x]∧c=d+single x∧oZ a B d)∨(∃ b u d,B=b++[u]∧c=d+single u∧oZ A b d) ∨
  ∃ a x b u p d,A=a++[x]∧B=b++[u]∧eP x u=some p∧c=d+p∧oZ a b d:=by
 cases h with
 | nil=>exact .inl ⟨rfl,rfl,rfl⟩
 | del x h=>exact .inr (.inl ⟨_,x,_,rfl,rfl,h⟩)
 | ins u h=>exact .inr (.inr (.inl ⟨_,u,_,rfl,rfl,h⟩))
 | pair x u hp h=>exact .inr (.inr (.inr ⟨_,x,_,u,_,_,rfl,rfl,hp,rfl,h⟩))
theorem sE{α:Type}{a b:List α}{x y:α}(h:a++[x]=b++[y]):a=b∧x=y:=by
 have:=List.append_inj' h rfl;exact⟨this.1,by simpa using this.2⟩
theorem Pt(a b:List It)(t u:It):tv (a++[t]) (b++[u])=mM t u (tv a b) (tv (a++[t]) b) (tv a (b++[u])):=by
 refine Int.le_antisymm ?_ ?_
 ·have h1:=tW ((rl a (b++[u])).V5 t);have h2:=tW ((rl (a++[t]) b).V2 u);unfold mM mn;split
  ·rename_i c hc;have h3:=tW ((rl a b).R8 t u hc)
   (repeat' split)<;>omega
  ·split<;>omega
 ·have hR:=(rl (a++[t]) (b++[u])).toR;generalize tv (a++[t]) (b++[u])=c at hR;rcases hR.last with⟨h,_⟩ | ⟨a',x,d,h1,h2,h3⟩ | ⟨b',v,d,h1,h2,h3⟩ | ⟨a',x,b',v,p,d,h1,h2,h3,h4,h5⟩
  ·simp at h
  ·obtain⟨rfl,rfl⟩:=sE h1;have:=tW h3.zi;unfold mM mn
   (repeat' split)<;>omega
  ·obtain⟨rfl,rfl⟩:=sE h1;have:=tW h3.zi;unfold mM mn
   (repeat' split)<;>omega
  ·obtain⟨rfl,rfl⟩:=sE h1;obtain⟨rfl,rfl⟩:=sE h2;have:=tW h5.zi;unfold mM mn;rw[h3];simp only
   (repeat' split)<;>omega
theorem Ap:∀ (a:List It) (t:It),tv (a++[t]) []=tv a []+single t
 | [],t=>by simp[tv]
 | x::a,t=>by
  have:=Ap a t;simp only[bg,tv]at this ⊢;omega
theorem Ao:∀ (b:List It) (u:It),tv [] (b++[u])=tv [] b+single u
 | [],u=>by simp[tv]
 | v::b,u=>by
  have:=Ao b u;simp only[bg,tv]at this ⊢;omega
def rowP(a:List It):List It→List It→List Int
 | _,[]=>[]
 | pre,u::r=>tv a (pre++[u])::rowP a (pre++[u]) r
theorem xk(a:List It)(t:It):∀ (r pre:List It),gT t (tv a pre) (tv (a++[t]) pre) r (rowP a pre r)=rowP (a++[t]) pre r
 | [],pre=>by simp[rowP,gT]
 | u::r,pre=>by
  simp only[rowP,gT];rw[← Pt,xk a t r (pre++[u])]
theorem Gc(a b:List It)(t:It):gd t b (tv a []::rowP a [] b)=tv (a++[t]) []::rowP (a++[t]) [] b:=by
 simp only[gd,← Ap,xk]
theorem xE:∀ (r pre:List It),jQ (tv [] pre) r=rowP [] pre r
 | [],_=>rfl
 | u::r,pre=>by simp only[jQ,rowP,← Ao,xE r (pre++[u])]
theorem yr(b:List It):∀ (rest pre:List It),rest.foldl (fun row t=>gd t b row) (tv pre []::rowP pre [] b)=tv (pre++rest) []::rowP (pre++rest) [] b
 | [],pre=>by simp
 | t::r,pre=>by
  rw[cV,Gc,yr b r (pre++[t])];simp
theorem AF(a:List It):∀ (r pre:List It),(tv a pre::rowP a pre r).getD r.length 0=tv a (pre++r)
 | [],pre=>by simp
 | u::r,pre=>by
  have:=AF a r (pre++[u]);simpa[rowP]using this
theorem EL(a b:List It):iN a b=tv a b+2*ub a b:=by
 unfold iN xw sL
 have e:(0:Int)::jQ 0 b=tv [] []::rowP [] [] b:=by
  rw[← xE];simp[tv]
 rw[e,yr,aW,rK];have:=AF a b [];rw[aW]at this;rw[this]
theorem Fg{C:List (TK×Int)}(k:TK)(d:Int)(hd : -1≤d∧d≤1):iG (bump C k d)≤iG C+1:=by
 unfold bump
 induction C with
 | nil=>simp[eW,bS,dJ,iG];omega
 | cons p C ih =>
  by_cases h:k=p.1
  ·simp only[eW,bS,dJ,aI h,iG,az,bN,bY,fB];omega
  ·have e:bS k (p::C)=bS k C:=by
    unfold bS;rw[dJ,aw h];exact jj k C 1
   rw[e];simp only[eW,aw h,iG,az,bN]at ih ⊢;omega
theorem oW(d:Int)(hd : -1≤d∧d≤1):∀ (l:List It) (C:List (TK×Int)),iG (eL d C l)≤iG C+l.length
 | [],C=>by simp[eL]
 | t::r,C=>by
  have h:=oW d hd r (if bG t then bump C (dq t) d else C);have h2:=Fg (C:=C) (dq t) d hd;simp only[eL,ag];split at h<;>simp only[*,aO,aJ,aA]at*<;> omega
theorem Hy(a b:List It):0≤ub a b∧ub a b≤(a.length:Int)+b.length:=by
 have h1:=oW 1 (by omega) a [];have h2:=oW (-1) (by omega) b (eL 1 [] a);have h3:iA a b=2*ub a b:=rK a b;have h4:=HA a b a [];have h5:=Hz a b b [];have e0:iG ([]:List (TK×Int))=0:=rfl;rw[e0]at h1;unfold iA oC at h3;unfold ub at *;omega
theorem Oe(a b:List It):0≤iN a b∧iN a b≤6*a.length+6*b.length:=by
 rw[EL];have:=Aq a b;have:=Hy a b;omega
end Go.Bt
namespace Go.Bt
open Go.Pm
structure RV where
 number:Int
 ahv:Int
 ahs:List za
 log:List UInt8
 synced:Int
 down:Bool
def RV.ahq(o:RV):List V:=[.i .i64 o.number,.i .i64 o.ahv,.sl 13 (o.ahs.map za.ahq),.sl 1 (dd o.log),.i .i64 o.synced,.b o.down]
def RV.zero:RV:=⟨0,0,[],[],0,false⟩
structure RV.ahE (o:RV):Prop where
 ahs:∀ x∈o.ahs,x.ahE
 len:o.ahs.length<2^30
 log:o.log.length<2^30
def AN(a b:za):Int:=wA [l4 a.gD.jW b.gD.jW,l4 a.gD.number b.gD.number]
end Go.Bt
namespace Go.Bt
open Go Go.Pm
theorem F2{a b:za}:AN a b=0↔a.gD.jW=b.gD.jW∧a.gD.number=b.gD.number:=by
 simp only[AN,wA,l4]
 (repeat' split)<;>omega
abbrev YU(l:List za):Prop:=l.Pairwise fun a b=>AN a b<0
theorem AO{α:Type}:∀ {l m:List α},l.Nodup→(∀ x∈l,x∈m)→l.length≤m.length
 | [],_,_,_=>eY _
 | a::l,m,hn,h=>by
  rw[eM]at hn;obtain⟨s,t,rfl⟩:=List.append_of_mem (h a (by simp))
  have:=AO (m:=s++t) hn.2 fun x hx=>by
   have h1:=h x (by simp[hx]);simp only[bP,bA]at h1 ⊢;rcases h1 with h1 | h1 | h1
   ·exact .inl h1
   ·subst h1;exact absurd hx hn.1
   ·exact .inr h1
  simp only[ak,ag]at this ⊢;omega
structure ac1 (M:List za):Prop where
 gen:∀ x∈M,YW x
 off:∀ x∈M,x.gD.jW≠0
 one:∀ x∈M,∀ y∈M,AN x y=0→x=y
 len:M.length≤10
structure Recv (M:List za) (o:RV):Prop where
 num:o.number=0
 down:o.down=false
 sub:∀ x∈o.ahs,x∈M
 sort:YU o.ahs
 top:∀ x∈o.ahs,x.gD.time≤o.ahv
 clk:o.ahv=0∨∃ x∈o.ahs,o.ahv=x.gD.time
 log:o.log.length≤60008*o.ahs.length
theorem F3(x:za):AN x x=0:=F2.2 ⟨rfl,rfl⟩
theorem Recv.len{M:List za}{o:RV}(h:Recv M o):o.ahs.length≤M.length:=by
 refine AO ?_ h.sub;refine h.sort.imp fun {a b} Pc e=>?_;subst e;rw[F3]at Pc;omega
theorem Recv.ahE{M:List za}{o:RV}(hM:ac1 M)(h:Recv M o):o.ahE:=by
 have h1:=h.len;have h2:=hM.len;have h3:=h.log;exact⟨fun x hx=>(hM.gen x (h.sub x hx)).ahE,by omega,by omega⟩
structure OpG (x:za):Prop where
 ok:Se x=0
 ahE:x.ahE
 enc:(Rw x).length≤20000
structure Arr (n:Int) (arr:List za):Prop where
 op:∀ x∈arr,OpG x
 one:arr.Pairwise fun a b=>AN a b≠0
 own:∀ (j:Nat) (y:za),(arr.filter fun x=>x.gD.jW==n)[j]?=some y→y.gD.number=j+1
theorem Arr.take{n:Int}{arr:List za}(h:Arr n arr)(k:Nat):Arr n (arr.take k):=by
 refine⟨fun x hx=>h.op x (dT hx),h.one.sublist (List.take_sublist _ _),fun j y hj=>h.own j y ?_⟩;have e:arr=arr.take k++arr.drop k:=(gm k arr).symm;rw[e,jZ,ai (ab.1 hj).1];exact hj
structure jq {α:Type} (c:α→α→Int):Prop where
 lI:∀ a b,c b a = - c a b
 trans:∀ a b d,0≤c a b→0≤c b d→0≤c a d
theorem jq.self{α:Type}{c:α→α→Int}(h:jq c)(a:α):c a a=0:=by have:=h.lI a a;omega
theorem jq.gt{α:Type}{c:α→α→Int}(h:jq c){a b d:α}(h1:0<c a b)(h2:0<c b d):0<c a d:=by
 have h3:=h.trans a b d (by omega) (by omega);rcases(by omega:0<c a d∨c a d=0)with h4 | h4
 ·exact h4
 ·have h5:=h.lI a d;have h6:=h.trans d a b (by omega) (by omega);have h7:=h.lI d b;omega
theorem jq.on{α β:Type}{c:β→β→Int}(h:jq c)(f:α→β):jq fun a b=>c (f a) (f b) :=
 ⟨fun _ _=>h.lI _ _,fun _ _ _=>h.trans _ _ _⟩
def Co{α:Type}(c d:α→α→Int)(a b:α):Int:=if c a b≠0 then c a b else d a b
theorem jq.lex{α:Type}{c d:α→α→Int}(h:jq c)(k:jq d):jq (Co c d):=by
 refine⟨fun a b=>?_,fun a b e h1 h2=>?_⟩
 ·have h1:=h.lI a b;have h2:=k.lI a b;simp only[Co];split<;>split<;>omega
 ·have g1:=h.lI a b;have g2:=h.lI b e;have g3:=h.trans a b e;have g4:=h.trans e a b;have g5:=h.lI e b;have g6:=h.lI a e;have g7:=h.trans b e a;have g8:=h.lI b a;have k3:=k.trans a b e;simp only[Co]at h1 h2 ⊢;split at h1<;>split at h2<;>split<;>omega
theorem tF:jq l4:=by
 refine⟨fun a b=>?_,fun a b d=>?_⟩<;>simp only[l4]<;>(repeat' split)<;>omega
theorem wW{a b:UInt8}:a<b↔a.toNat<b.toNat:=C4
theorem mJ:jq fZ:=by
 have lI:∀ a b,fZ b a = - fZ a b:=by
  intro a
  induction a with
  | nil=>intro b;cases b<;>simp[fZ]
  | cons x a ih =>
   intro b;cases b with
   | nil=>simp[fZ]
   | cons y b =>
    simp only[fZ,ih]
    by_cases h1:x<y
    ·have h2:¬ y<x:=by rw[wW]at *;omega
     simp[h1,h2]
    ·by_cases h2:y<x<;>simp[h1,h2]
 refine⟨lI,?_⟩;intro a
 induction a with
 | nil =>
  intro b d h1 h2;cases b with
  | nil=>exact h2
  | cons y b=>simp[fZ]at h1
 | cons x a ih =>
  intro b d h1 h2;cases d with
  | nil=>simp[fZ]
  | cons z d =>
   cases b with
   | nil=>simp[fZ]at h2
   | cons y b =>
    simp only[fZ]at h1 h2 ⊢
    by_cases hxy:x<y
    ·simp[hxy]at h1
    ·by_cases hyz:y<z
     ·simp[hyz]at h2
     ·rw[aw hxy]at h1;rw[aw hyz]at h2;have hxz:¬ x<z:=by rw[wW]at *;omega
      rw[aw hxz]
      by_cases hzx:z<x
      ·rw[aI hzx];decide
      ·rw[aw hzx];have h3:¬ y<x:=by rw[wW]at *;omega
       have h4:¬ z<y:=by rw[wW]at *;omega
       rw[aw h3]at h1;rw[aw h4]at h2;exact ih b d h1 h2
theorem ot:∀ {a b:List UInt8},fZ a b=0↔a=b:=by
 intro a
 induction a with
 | nil=>intro b;cases b<;>simp[fZ]
 | cons x a ih =>
  intro b;cases b with
  | nil=>simp[fZ]
  | cons y b =>
   simp only[fZ]
   by_cases h1:x<y
   ·have:x≠y:=by rintro rfl;rw[wW]at h1;omega
    simp[h1,this]
   ·by_cases h2:y<x
    ·have:x≠y:=by rintro rfl;rw[wW]at h2;omega
     simp[h1,h2,this]
    ·have:x=y:=by
      rw[wW]at h1 h2;exact zq.1 (by omega)
     simp[h1,h2,this,ih]
theorem qq:∀ (x y:List UInt8),Op.bytesLess x y=decide (fZ x y<0)
 | [],[]=>rfl
 | [],_::_=>rfl
 | _::_,[]=>rfl
 | a::x,b::y=>by
  simp only[Op.bytesLess,fZ]
  by_cases h1:a<b
  ·simp[h1]
  ·by_cases h2:b<a
   ·have:a≠b:=by rintro rfl;exact h1 h2
    simp[h1,h2,this]
   ·have h3:a=b:=UInt8.le_antisymm (UInt8.not_lt.1 h2) (UInt8.not_lt.1 h1);subst h3;simp[h1,qq x y]
theorem rF{x y z:List UInt8}(h1:fZ x y<0)(h2:fZ y z<0):fZ x z<0:=by
 have a1:=mJ.lI x y;have a2:=mJ.lI y z;have a3:=mJ.lI x z;have:=mJ.gt (a:=z) (b:=y) (d:=x) (by omega) (by omega);omega
theorem IH:∀ (x y:List UInt8),fZ x y = -1∨fZ x y=0∨fZ x y=1
 | [],[]=>by simp[fZ]
 | [],_::_=>by simp[fZ]
 | _::_,[]=>by simp[fZ]
 | a::x,b::y=>by
  have:=IH x y;simp only[fZ]
  (repeat' split)<;>omega
def zA(s:List UInt8):List V:=[.s s]
def aS(l:List It):List (List UInt8):=(l.filter fun t=>t.ahr==6).map dW
abbrev GK:=List UInt8×List UInt8
def oh(k:GK):V:=.agg [.s k.1,.s k.2]
theorem CE(a b:GK):bX 4 (oh a) (oh b)=some (decide (a=b)):=by
 obtain⟨k,t⟩:=a;obtain⟨l,s⟩:=b;simp only[bX,oh,xj,aa];rw[df];simp
def ek(C:List (GK×Int))(last:List UInt8):List (List UInt8)→List (GK×Int)
 | []=>bump C (last,[]) 1
 | w::r=>ek (bump C (last,w) 1) w r
abbrev Gr:=GK×Int
def pr(g:Gr):List V:=[.s g.1.1,.s g.1.2,.i .i64 g.2]
def yp(a b:GK):Int:=wA [fZ a.1 b.1,fZ a.2 b.2]
def vA(a b:Gr):Int:=yp a.1 b.1
def b9(ws:List (List UInt8)):List Gr:=(ek [] [] ws).mergeSort fun a b=>decide (vA a b≤0)
def bZ(t:It):It×Bool:=if t.ahr=6∨t.ahr=7∨t.ahr=8∨t.ahr=9∨t.ahr=5 then(⟨t.ahr,dW t,0⟩,true)else(⟨t.ahr,t.aht,0⟩,bG t)
def CN{α:Type}[DecidableEq α](n:Nat)(C:List (α×Int)):Prop:=C.length≤n∧iU C∧∀ k v,bS k C=some v→0<v∧v≤n
theorem CN.nil{α:Type}[DecidableEq α]:CN 0 ([]:List (α×Int)):=⟨au _,by simp[iU],fun k v h=>by simp[bS,dJ]at h⟩
theorem CN.getD{α:Type}[DecidableEq α]{n:Nat}{C:List (α×Int)}(h:CN n C)(k:α):0≤(bS k C).getD 0∧(bS k C).getD 0≤n:=by
 cases hg:bS k C with
 | none=>simp
 | some v=>have:=h.2.2 k v hg;simp;omega
theorem CN.bump{α:Type}[DecidableEq α]{n:Nat}{C:List (α×Int)}(h:CN n C)(a:α):CN (n+1) (Bt.bump C a 1):=by
 refine⟨br (C9 _ _ _) (by have:=h.1;omega),h.2.1.pD _ _,fun k v hv=>?_⟩;unfold Bt.bump at hv;rw[gr]at hv;have h1:=h.getD a;split at hv
 ·simp only[aa]at hv;omega
 ·have:=h.2.2 k v hv;omega
theorem jx:∀ (ws:List (List UInt8)) (C:List (GK×Int)) (last:List UInt8) (n:Nat),CN n C→CN (n+ws.length+1) (ek C last ws)
 | [],C,last,n,h=>h.bump _
 | w::r,C,last,n,h=>by
  have:=jx r (bump C (last,w) 1) w (n+1) (h.bump _);simp only[ek,ag];have e:n+(r.length+1)+1=n+1+r.length+1:=by omega
  rw[e];exact this
theorem nv{ps:List Nat}(nq:ps.Nodup){q:Nat}(hq:q∈ps):ps.Perm (q::ps.filter fun i=>i != q):=by
 refine(sn nq (eM.2 ⟨by simp,nq.filter _⟩)).2 fun x=>?_;simp only[bA,cU,mQ,eX]
 by_cases h:x=q
 ·subst h;simp[hq]
 ·simp[h]
theorem my{α:Type}(C:List α)(d:α):((List.range C.length).map fun i=>C.getD i d)=C:=by
 apply gN;intro i;rw[bf]
 by_cases h:i<C.length
 ·simp[gS h,ar,al h]
 ·rw[bn (by simpa using OY h),bn (by omega)];rfl
theorem Kz:jq yp:=by
 have h:=(mJ.on (fun k:GK=>k.1)).lex (mJ.on (fun k:GK=>k.2))
 have e:yp=Co (fun a b:GK=>fZ a.1 b.1) (fun a b=>fZ a.2 b.2):=by
  funext a b;simp only[yp,wA,Co];split
  ·rfl
  ·split<;>omega
 rw[e];exact h
theorem GO{a b:GK}(h:yp a b=0):a=b:=by
 simp only[yp,wA]at h;have h1:fZ a.1 b.1=0:=by split at h<;>omega
 have h2:fZ a.2 b.2=0:=by rw[aw (by omega)]at h;split at h<;>omega
 exact Prod.ext (ot.1 h1) (ot.1 h2)
theorem kg:jq vA:=Kz.on (fun g:Gr=>g.1)
theorem Ky(ws:List (List UInt8)):(b9 ws).Pairwise fun x y=>¬ vA y x<0:=by
 have:=ZC (le:=fun a b=>decide (vA a b≤0)) (fun a b c h1 h2=>by
  simp only[aU]at *;have k1:=kg.lI a b;have k2:=kg.lI b c;have k3:=kg.lI a c;have k4:=kg.trans c b a (by omega) (by omega);omega) (fun a b=>by
  have k1:=kg.lI a b;simp only[c8,aU];omega) (ek [] [] ws)
 refine this.imp fun {a b} h=>?_;have k1:=kg.lI a b;simp only[aU]at h;omega
theorem ix(ws:List (List UInt8)):(b9 ws).Perm (ek [] [] ws):=List.mergeSort_perm ..
theorem Ee{C:List Gr}(h:iU C){a b:Gr}(ha:a∈C)(hb:b∈C)(e:a.1=b.1):a=b:=by
 have h1:=kh h ha;have h2:=kh h hb;rw[e,h2]at h1;exact Prod.ext e (ga h1).symm
theorem z6{ws:List (List UInt8)}{l:List Gr}(hp:l.Perm (ek [] [] ws))(hs:l.Pairwise fun x y=>¬ vA y x<0):l=b9 ws:=by
 have hK:iU (ek [] [] ws):=(jx ws [] [] 0 CN.nil).2.1;refine List.Perm.eq_of_pairwise (fun a b ha hb x y=>?_) hs (Ky ws) (hp.trans (ix ws).symm);have k1:=kg.lI a b;exact Ee hK (hp.mem_iff.1 ha) ((ix ws).mem_iff.1 hb) (GO (show yp a.1 b.1=0 from(by unfold vA at *;omega)))
def jK(C:List (TK×Int)):List It→List (TK×Int)
 | []=>C
 | t::r=>jK (if(bZ t).2 then bump C (dq (bZ t).1) 1 else C) r
def BJ(n:Int)(gs:List Gr):Int:=gs.foldl (fun a g=>a+g.2) n
def Ak(n:Int):List It→Int
 | []=>n
 | t::r=>Ak (if(bZ t).2&&!bG (bZ t).1 then n+weight (bZ t).1 else n) r
def Ar(n:Int):List It→Int
 | []=>n
 | t::r=>Ar (if(bZ t).2&&bG (bZ t).1 then n+1 else n) r
structure Sm where
 ed:Int
 weight:Int
 tags:Int
def gR(l:List It):Sm:=⟨BJ 0 (b9 (aS l)),Ak 0 l,Ar 0 l⟩
theorem yK:∀ (l:List It) (C:List (TK×Int)) (n:Nat),CN n C→CN (n+l.length) (jK C l)
 | [],C,n,h=>h
 | t::r,C,n,h=>by
  simp only[jK,ag];have e:n+(r.length+1)=n+1+r.length:=by omega
  rw[e];refine yK r _ (n+1) ?_;split
  ·exact h.bump _
  ·exact⟨by have:=h.1;omega,h.2.1,fun k v hv=>by have:=h.2.2 k v hv;omega⟩
theorem ml(l:List It):(aS l).length≤l.length:=by
 unfold aS;rw[ah];exact fa _ _
theorem rY(ws:List (List UInt8)):(b9 ws).length≤ws.length+1:=by
 rw[(ix ws).length_eq];have:=(jx ws [] [] 0 CN.nil).1;omega
theorem ym(ws:List (List UInt8)):∀ g∈b9 ws,0≤g.2∧g.2≤(ws.length:Int)+1:=fun g hg=>by
 have hC:=jx ws [] [] 0 CN.nil;have h1:=kh hC.2.1 ((ix ws).mem_iff.1 hg);have:=hC.2.2 _ _ h1;omega
section
variable {α β:Type} [DecidableEq α] {kd:Nat} {ke:α→V} {ve:β→V}
theorem uO(hk:∀ a b,bX kd (ke a) (ke b)=some (decide (a=b)))(C:List (α×β))(a:α):
  (bS a C=none∧dM kd (ke a) (emap ke ve C) 0=some none∧(∀ z,dM kd (ke a) (emap ke ve C++[(ke a,z)]) 0=some (some ((emap ke ve C).length,z))) ∧
    (∀ z,(emap ke ve C++[(ke a,z)])[(emap ke ve C).length]?=some (ke a,z))∧∀ z v,(emap ke ve C++[(ke a,z)]).set (emap ke ve C).length (ke a,ve v)=emap ke ve (eW C a v)) ∨
  (∃ i b,bS a C=some b∧dM kd (ke a) (emap ke ve C) 0=some (some (i,ve b))∧(emap ke ve C)[i]?=some (ke a,ve b)∧∀ v,(emap ke ve C).set i (ke a,ve v)=emap ke ve (eW C a v)):=by
 rcases iF (ve:=ve) hk C a with⟨h1,h2,h3⟩ | ⟨i,b,h1,h2,h3⟩
 ·refine .inl ⟨h1,h2,fun z=>?_,fun z=>by simp,fun z v=>?_⟩
  ·have key:∀ (es:List (V×V)) (n:Nat),dM kd (ke a) es n=some none→dM kd (ke a) (es++[(ke a,z)]) n=some (some (n+es.length,z)):=by
    intro es
    induction es with
    | nil=>intro n _;simp[dM,hk]
    | cons e es ih =>
     intro n h;simp only[dM,bg]at h ⊢;split at h
     ·simp at h
     ·rw[ih _ h];simp;omega
     ·simp at h
   simpa using key _ 0 h2
  ·rw[← h3 v,cI _ _ (au _)];simp
 ·refine .inr ⟨i,b,h1,h2,?_,h3⟩
  have key:∀ (es:List (V×V)) (n:Nat) (r:Nat) (y:V),dM kd (ke a) es n=some (some (r,y))→∃ j k,r=n+j∧es[j]?=some (k,y)∧bX kd (ke a) k=some true:=by
   intro es
   induction es with
   | nil=>intro n r y h;simp[dM]at h
   | cons e es ih =>
    intro n r y h;obtain⟨k,x⟩:=e;simp only[dM]at h;split at h
    ·rename_i hs;simp only[aa,an]at h;exact⟨0,k,by omega,by simp[h.2],hs⟩
    ·obtain⟨j,k2,h4,h5,h6⟩:=ih _ _ _ h;exact⟨j+1,k2,by omega,by simpa using h5,h6⟩
    ·simp at h
  obtain⟨j,k,h4,h5,h6⟩:=key _ 0 i _ h2;have:i=j:=by omega
  subst this;rw[h5,pL h6]
end
def BK(p:Int×Int):List V:=[.i .i64 p.1,.i .i64 p.2]
def nC(p:Nat×Nat):V:=.own p.1 p.2
def gW(E g:Nat)(ps:List (Int×Int)):Ob:=.row E 2 16 g false (ps.map BK)
structure jM {α:Type} [DecidableEq α] (E n:Nat) (T:ae) (G:List (α×(Nat×Nat))) (f:α→List (Int×Int)):Prop where
 nodup:(G.map (·.1)).Nodup
 row:∀ k r g,bS k G=some (r,g)→∃ j,r=n+j∧T[j]?=some (gW E g (f k))
 D4:∀ k,bS k G=none→f k=[]
 inj:∀ k k' r g g',bS k G=some (r,g)→bS k' G=some (r,g')→k=k'
def still:Ob→Bool
 | .box _ _=>true
 | .map _ _ _=>true
 | .row _ sz _ _ _ _=>decide (2<sz)
 | _=>false
def pt(T T':ae):Prop:=T.length≤T'.length∧∀ (j:Nat) (o:Ob),T[j]?=some o→still o=true→T'[j]?=some o
theorem pt.refl(T:ae):pt T T:=⟨au _,fun _ _ h _=>h⟩
theorem pt.trans{a b c:ae}(h:pt a b)(k:pt b c):pt a c:=⟨br h.1 k.1,fun j o h1 h2=>k.2 j o (h.2 j o h1 h2) h2⟩
theorem pt.app(T l:ae):pt T (T++l):=⟨by simp,fun j o h _=>by rw[ai (ab.1 h).1];exact h⟩
theorem pt.set{T:ae}{j:Nat}{o0:Ob}(h:T[j]?=some o0)(hs:still o0=false)(o:Ob):pt T (T.set j o) :=
 ⟨by simp,fun i o' h1 h2=>by
  have:j≠i:=fun e=>by subst e;rw[h]at h1;rw[ga h1,h2]at hs;cases hs
  rw[aK this];exact h1⟩
theorem pt.setRow{T:ae}{j:Nat}{E b g:Nat}{sh:Bool}{xs:List (List V)}(h:T[j]?=some (.row E 2 b g sh xs))(o:Ob):pt T (T.set j o):=pt.set h rfl o
section
variable {α:Type} [DecidableEq α] {E n:Nat} {T:ae} {G:List (α×(Nat×Nat))} {f:α→List (Int×Int)}
theorem jM.app(h:jM E n T G f)(l:ae):jM E n (T++l) G f :=
 ⟨h.nodup,fun k r g hk=>by
  obtain⟨j,h1,h2⟩:=h.row k r g hk;exact⟨j,h1,by rw[ai (ab.1 h2).1];exact h2⟩,h.D4,h.inj⟩
theorem jM.other(h:jM E n T G f){j:Nat}(o:Ob)(hj:∀ k r g,bS k G=some (r,g)→r≠n+j):jM E n (T.set j o) G f :=
 ⟨h.nodup,fun k r g hk=>by
  obtain⟨i,h1,h2⟩:=h.row k r g hk;have:=hj k r g hk;exact⟨i,h1,by rw[aK (by omega)];exact h2⟩,h.D4,h.inj⟩
def oV(f:α→List (Int×Int))(k:α)(p:Int×Int):α→List (Int×Int):=fun x=>if x=k then f x++[p]else f x
theorem XG(G:List (α×(Nat×Nat)))(a:α)(b:Nat×Nat):(eW G a b).map (·.1)=if a∈G.map (·.1)then G.map (·.1)else G.map (·.1)++[a]:=by
 induction G with
 | nil=>simp[eW]
 | cons p C ih =>
  simp only[eW];split
  ·rename_i h;subst h;simp
  ·rename_i h;simp only[az,ih]
   by_cases h2:a∈C.map (·.1)
   ·rw[aI h2,aI (de _ h2)]
   ·rw[aw h2,aw (by simp only[bA];rintro(h3 | h3);exact h h3;exact h2 h3)];rfl
theorem ME{G:List (α×(Nat×Nat))}(h:(G.map (·.1)).Nodup)(a:α)(b:Nat×Nat):((eW G a b).map (·.1)).Nodup:=by
 rw[XG];split
 ·exact h
 ·rename_i hn;rw[fR];exact⟨h,by simp,fun x hx y hy e=>by simp at hy;subst hy;subst e;exact hn hx⟩
theorem jM.add(h:jM E n T G f){k:α}{j g:Nat}(hk:bS k G=some (n+j,g))(p:Int×Int):jM E n (T.set j (gW E (g+1) (f k++[p]))) (eW G k (n+j,g+1)) (oV f k p):=by
 obtain⟨j',h1,h2⟩:=h.row k _ _ hk;have:j'=j:=by omega
 subst this;refine⟨ME h.nodup _ _,fun x r g' hx=>?_,fun x hx=>?_,fun x x' r g1 g2 hx hx'=>?_⟩
 ·rw[gr]at hx;split at hx
  ·rename_i e;subst e;simp only[aa,an]at hx;obtain⟨rfl,rfl⟩:=hx;exact⟨j',rfl,by rw[ao (ab.1 h2).1];simp[oV]⟩
  ·rename_i e;obtain⟨i,h3,h4⟩:=h.row x r g' hx;have ig:j'≠i:=fun e2=>by subst e2;exact e (h.inj x k r g' g hx (by rw[hk,h3]))
   exact⟨i,h3,by rw[aK ig,h4];simp[oV,e]⟩
 ·rw[gr]at hx;split at hx
  ·simp at hx
  ·rename_i e;simp[oV,e,h.D4 x hx]
 ·rw[gr]at hx hx';split at hx<;>split at hx'
  ·rename_i e1 e2;rw[e1,e2]
  ·rename_i e1 e2;simp only[aa,an]at hx;rw[← hx.1]at hx';exact absurd (h.inj x' k _ g2 g hx' hk) e2
  ·rename_i e1 e2;simp only[aa,an]at hx';rw[← hx'.1]at hx;exact absurd (h.inj x k _ g1 g hx hk) e1
  ·exact h.inj x x' r g1 g2 hx hx'
theorem jM.new(h:jM E n T G f){k:α}(hk:bS k G=none)(p:Int×Int):jM E n (T++[gW E 0 [p]]) (eW G k (n+T.length,0)) (oV f k p):=by
 have dp:∀ x r g,bS x G=some (r,g)→r<n+T.length:=fun x r g hx=>by
  obtain⟨i,h3,h4⟩:=h.row x r g hx;have:=(ab.1 h4).1;omega
 refine⟨ME h.nodup _ _,fun x r g' hx=>?_,fun x hx=>?_,fun x x' r g1 g2 hx hx'=>?_⟩
 ·rw[gr]at hx;split at hx
  ·rename_i e;subst e;simp only[aa,an]at hx;obtain⟨rfl,rfl⟩:=hx;exact⟨T.length,rfl,by simp[oV,h.D4 _ hk]⟩
  ·rename_i e;obtain⟨i,h3,h4⟩:=h.row x r g' hx;exact⟨i,h3,by rw[ai (ab.1 h4).1,h4];simp[oV,e]⟩
 ·rw[gr]at hx;split at hx
  ·simp at hx
  ·rename_i e;simp[oV,e,h.D4 x hx]
 ·rw[gr]at hx hx';split at hx<;>split at hx'
  ·rename_i e1 e2;rw[e1,e2]
  ·simp only[aa,an]at hx;have:=dp _ _ _ hx';omega
  ·simp only[aa,an]at hx';have:=dp _ _ _ hx;omega
  ·exact h.inj x x' r g1 g2 hx hx'
end
theorem nE{α β:Type}[DecidableEq α](k:α):∀ (C:List (α×β)),k∈C.map (·.1)↔(bS k C).isSome
 | []=>by simp[bS,dJ]
 | p::C=>by
  have ih:=nE k C
  by_cases e:k=p.1
  ·subst e;simp[bS,dJ]
  ·have e2:bS k (p::C)=bS k C:=by
    unfold bS;rw[dJ,aw e];exact jj k C 1
   rw[e2,← ih];simp[e]
theorem A8{α β:Type}[DecidableEq α]{C D:List (α×β)}(hC:(C.map (·.1)).Nodup)(h:D.Perm C)(k:α):bS k D=bS k C:=by
 have hD:(D.map (·.1)).Nodup:=(h.map _).nodup_iff.2 hC
 have key:∀ {L:List (α×β)},(L.map (·.1)).Nodup→∀ v,bS k L=some v↔(k,v)∈L:=by
  intro L
  induction L with
  | nil=>intro _ v;simp[bS,dJ]
  | cons p L ih =>
   intro hn v;have Es:=eM.1 hn
   by_cases e:k=p.1
   ·subst e;have:bS p.1 (p::L)=some p.2:=by simp[bS,dJ]
    rw[this];simp only[aa,bA];constructor
    ·rintro rfl;exact .inl rfl
    ·rintro(h1 | h1)
     ·rw[← h1]
     ·exact absurd (bI.2 ⟨_,h1,rfl⟩) Es.1
   ·have e2:bS k (p::L)=bS k L:=by
     unfold bS;rw[dJ,aw e];exact jj k L 1
    rw[e2,ih Es.2 v,bA];constructor
    ·exact .inr
    ·rintro(h1 | h1)
     ·rw[← h1]at e;exact absurd rfl e
     ·exact h1
 cases hg:bS k C with
 | none =>
  cases Vv:bS k D with
  | none=>rfl
  | some v=>exact absurd ((key hC v).2 (h.mem_iff.1 ((key hD v).1 Vv))) (by rw[hg];simp)
 | some v=>exact(key hD v).2 (h.mem_iff.2 ((key hC v).1 hg))
def iP{α:Type}[DecidableEq α](f:α→List (Int×Int))(id:Int):List (α×Int)→α→List (Int×Int)
 | []=>f
 | g::r=>iP (oV f g.1 (id,g.2)) id r
def Hh{α β:Type}[DecidableEq α][DecidableEq β](G:List (α×(Nat×Nat)))(H:List (β×(Nat×Nat))):Prop:=∀ k r g k' r' g',bS k G=some (r,g)→bS k' H=some (r',g')→r≠r'
section
variable {α β:Type} [DecidableEq α] [DecidableEq β] {G:List (α×(Nat×Nat))} {H:List (β×(Nat×Nat))}
theorem Hh.symm(h:Hh G H):Hh H G:=fun k r g k' r' g' h1 h2 e=>h k' r' g' k r g h2 h1 e.symm
theorem Hh.add(h:Hh G H){k:α}{r g:Nat}(hk:bS k G=some (r,g))(g':Nat):Hh (eW G k (r,g')) H:=fun x r1 g1 y r2 g2 h1 h2=>by
 rw[gr]at h1;split at h1
 ·simp only[aa,an]at h1;rw[← h1.1];exact h _ _ _ _ _ _ hk h2
 ·exact h _ _ _ _ _ _ h1 h2
theorem Hh.new{E n:Nat}{T:ae}{f:β→List (Int×Int)}(h:Hh G H)(hH:jM E n T H f)(k:α)(m:Nat)(hm:T.length≤m):Hh (eW G k (n+m,0)) H:=fun x r1 g1 y r2 g2 h1 h2=>by
 rw[gr]at h1;split at h1
 ·simp only[aa,an]at h1;obtain⟨j,e1,e2⟩:=hH.row _ _ _ h2;have:=(ab.1 e2).1;omega
 ·exact h _ _ _ _ _ _ h1 h2
end
theorem yZ{α:Type}[DecidableEq α](id:Int)(k:α):∀ (D:List (α×Int)) (f:α→List (Int×Int)),iU D→iP f id D k=f k++((bS k D).toList.map fun c=>(id,c))
 | [],f,_=>by simp[iP,bS,dJ]
 | g::r,f,h=>by
  have hr:iU r:=by unfold iU at *;exact(eM.1 h).2
  have hn:g.1 ∉ r.map (·.1):=by unfold iU at h;exact(eM.1 h).1
  have ih:=yZ id k r (oV f g.1 (id,g.2)) hr;simp only[iP];rw[ih]
  by_cases e:k=g.1
  ·subst e
   have e1:bS g.1 r=none:=by
    cases hg:bS g.1 r with
    | none=>rfl
    | some v =>
     exfalso;refine hn ?_;have:=(nE g.1 r).2 (by rw[hg];rfl);exact this
   have e2:bS g.1 (g::r)=some g.2:=by simp[bS,dJ]
   simp[e1,e2,oV]
  ·have e2:bS k (g::r)=bS k r:=by
    unfold bS;rw[dJ,aw e];exact jj k r 1
   rw[e2];simp[oV,e]
theorem He{α:Type}[DecidableEq α](f:α→List (Int×Int))(id:Int)(D:List (α×Int))(g:α×Int):iP f id (D++[g])=oV (iP f id D) g.1 (id,g.2):=by
 induction D generalizing f with
 | nil=>rfl
 | cons x D ih=>simp only[bg,iP,ih]
theorem Bi{α:Type}[DecidableEq α](id:Int)(k:α):∀ (D:List (α×Int)) (f:α→List (Int×Int)),(iP f id D k).length≤(f k).length+D.length
 | [],f=>by simp[iP]
 | g::r,f=>by
  have ih:=Bi id k r (oV f g.1 (id,g.2));have:(oV f g.1 (id,g.2) k).length≤(f k).length+1:=by unfold oV;split<;>simp
  simp only[iP,ag];omega
def AA(s:Sm):List V:=[.i .i64 s.ed,.i .i64 s.weight,.i .i64 s.tags]
structure Sm.ok (s:Sm) (m:Int):Prop where
 p:0≤s.ed∧s.ed≤m
 w:0≤s.weight∧s.weight≤m
 t:0≤s.tags∧s.tags≤m
def qt(a b c:Sm):Int:=mx (mx a.weight b.weight - c.weight+3*(a.tags+b.tags - 2*c.tags)) (4*(mx a.ed b.ed - c.ed+1).tdiv 2)
def ky(ahF pct:Int):Int:=if 100<pct then -1 else if pct<1∨ahF<1 then 1073741824 else((if 1073741824<ahF then 1073741824 else ahF)*(100 - pct)).tdiv 100
theorem Hw(x m:Int)(k:Int)(hk:0<k)(h : -m≤x∧x≤m): -m≤x.tdiv k∧x.tdiv k≤m:=by
 by_cases hx:0≤x
 ·rw[fS hx];have h1:=RZ hx (Int.le_of_lt hk);have h2:=Int.ediv_le_self k hx;omega
 ·have e:x = -(-x):=by omega
  rw[e,Int.neg_tdiv,fS (by omega)];have h1:=RZ (a := -x) (b:=k) (by omega) (Int.le_of_lt hk);have h2:=Int.ediv_le_self (a := -x) k (by omega);omega
def rk:Sm:=⟨0,0,0⟩
def Sm.add(a b:Sm):Sm:=⟨a.ed+b.ed,a.weight+b.weight,a.tags+b.tags⟩
def mg(s:Sm):V:=.agg (AA s)
def Sm.size(s:Sm):Int:=s.ed+s.weight+s.tags
def Sm.nn(s:Sm):Prop:=0≤s.ed∧0≤s.weight∧0≤s.tags
abbrev mU:=Int×Sm
def rj(O:List mU)(i:mU):List mU:=eW O i.1 (((bS i.1 O).getD rk).add i.2)
def cZ(O:List mU)(I:List mU):List mU:=I.foldl rj O
def iq(I:List mU):Int:=(I.map fun i=>i.2.size).sum
def Lj(I:List mU):Prop:=∀ i∈I,i.2.nn
def OB(m:Int)(O:List mU):Prop:=0≤m∧∀ id s,bS id O=some s→s.ok m
theorem Sm.nn.size{s:Sm}(h:s.nn):0≤s.size:=by unfold Sm.size;obtain⟨a,b,c⟩:=h;omega
theorem OB.nil:OB 0 []:=⟨cj _,fun id s h=>by simp[bS,dJ]at h⟩
theorem OB.getD{m:Int}{O:List mU}(h:OB m O)(id:Int):((bS id O).getD rk).ok m:=by
 cases hg:bS id O with
 | none=>exact⟨⟨cj _,h.1⟩,⟨cj _,h.1⟩,⟨cj _,h.1⟩⟩
 | some s=>exact h.2 id s hg
theorem OB.add{m:Int}{O:List mU}(h:OB m O){i:mU}(hi:i.2.nn):OB (m+i.2.size) (rj O i):=by
 have hs:=hi.size;refine⟨by have:=h.1;omega,fun id s hg=>?_⟩;unfold rj at hg;rw[gr]at hg;have h1:=h.getD i.1;obtain⟨n1,n2,n3⟩:=hi;split at hg
 ·simp only[aa]at hg;subst hg;obtain⟨a,b,c⟩:=h1;unfold Sm.size at *;exact⟨by simp only[Sm.add];omega,by simp only[Sm.add];omega,by simp only[Sm.add];omega⟩
 ·obtain⟨a,b,c⟩:=h.2 id s hg;exact⟨by omega,by omega,by omega⟩
theorem qF{I:List mU}(h:Lj I):0≤iq I:=by
 induction I with
 | nil=>exact cj _
 | cons i I ih =>
  have h1:=(h i (by simp)).size;have h2:=ih fun j hj=>h j (by simp[hj]);simp only[iq,az,bN]at h2 ⊢;omega
theorem ud(i:mU)(I:List mU):iq (i::I)=i.2.size+iq I:=by simp[iq]
theorem nS(I Jj:List mU):iq (I++Jj)=iq I+iq Jj:=by simp[iq]
theorem OB.mono{m m':Int}{O:List mU}(h:OB m O)(hm:m≤m'):OB m' O:=⟨by have:=h.1;omega,fun id s hg=>by
 obtain⟨a,b,c⟩:=h.2 id s hg;exact⟨by omega,by omega,by omega⟩⟩
theorem OB.apply{m:Int}:∀ (I:List mU) {O:List mU},OB m O→Lj I→OB (m+iq I) (cZ O I)
 | [],O,h,_=>by simpa[iq,cZ]using h
 | i::I,O,h,hn=>by
  have h1:=h.add (hn i (by simp));have h2:=OB.apply I h1 (fun j hj=>hn j (by simp[hj]));rw[ud,← Int.add_assoc];exact h2
def iY(c:Int)(ps:List (Int×Int)):List mU:=ps.map fun p=>(p.1,⟨mn p.2 c,0,0⟩)
def lZ(k:TK)(c:Int)(ps:List (Int×Int)):List mU:=ps.map fun p=>(p.1,if jV k then⟨0,0,mn p.2 c⟩else⟨0,mn p.2 c*weight ⟨k.1,k.2,0⟩,0⟩)
theorem pJ{α:Type}(F:α→List mU){a b:List α}(h:a.Perm b):iq (a.flatMap F)=iq (b.flatMap F):=by
 induction h with
 | nil=>rfl
 | cons x _ ih=>simp only[dP,nS,ih]
 | swap x y l=>simp only[dP,nS];omega
 | trans _ _ h1 h2=>exact h1.trans h2
theorem Hb(O I Jj:List mU):cZ O (I++Jj)=cZ (cZ O I) Jj:=by simp[cZ]
theorem tU(x:It):0≤weight x∧weight x≤4:=by
 unfold weight
 repeat' split
 all_goals omega
theorem wE{k:TK}{c:Int}(hc:0≤c){ps:List (Int×Int)}(h:∀ p∈ps,0≤p.2):Lj (lZ k c ps):=fun i hi=>by
 simp only[lZ,bI]at hi;obtain⟨q,hq,rfl⟩:=hi;have:=h q hq;have h0:0≤mn q.2 c:=by unfold mn;split<;>omega
 simp only;split
 ·exact⟨cj _,cj _,h0⟩
 ·exact⟨cj _,sv h0 (tU _).1,cj _⟩
theorem Ij{c:Int}(hc:0≤c){ps:List (Int×Int)}(h:∀ p∈ps,0≤p.2):Lj (iY c ps):=fun i hi=>by
 simp only[iY,bI]at hi;obtain⟨q,hq,rfl⟩:=hi;have:=h q hq;exact⟨by simp only[mn];split<;>omega,cj _,cj _⟩
def gM(id:Int)(s:Sm)(I:List mU):Sm:=I.foldl (fun s i=>if i.1=id then s.add i.2 else s) s
theorem rZ(id:Int):∀ (I O:List mU),(bS id (cZ O I)).getD rk=gM id ((bS id O).getD rk) I
 | [],O=>rfl
 | i::I,O=>by
  have h:=rZ id I (rj O i)
  have e:(bS id (rj O i)).getD rk=if i.1=id then((bS id O).getD rk).add i.2 else(bS id O).getD rk:=by
   unfold rj;rw[gr]
   by_cases hk:i.1=id
   ·subst hk;simp
   ·rw[aw (fun e=>hk e.symm),aw hk]
  rw[e]at h;exact h
theorem qW(id:Int)(s:Sm)(I Jj:List mU):gM id s (I++Jj)=gM id (gM id s I) Jj:=by simp[gM]
theorem Sm.add_assoc(a b c:Sm):(a.add b).add c=a.add (b.add c):=by simp only[Sm.add,Int.add_assoc]
theorem Sm.K6(a b c:Sm):(a.add b).add c=(a.add c).add b:=by
 simp only[Sm.add,Sm.mk.injEq];omega
theorem Sm.YS(a:Sm):a.add rk=a:=by simp[Sm.add,rk]
theorem uX(id:Int)(t:Sm):∀ (I:List mU) (s:Sm),gM id (s.add t) I=(gM id s I).add t
 | [],s=>rfl
 | i::I,s=>by
  show gM id (if i.1=id then(s.add t).add i.2 else s.add t) I=(gM id (if i.1=id then s.add i.2 else s) I).add t
  by_cases h:i.1=id
  ·rw[aI h,aI h,Sm.K6,uX id t I]
  ·rw[aw h,aw h,uX id t I]
theorem y6(id:Int)(Jj:List mU):∀ (I:List mU) (s:Sm),gM id (gM id s I) Jj=gM id (gM id s Jj) I
 | [],s=>rfl
 | i::I,s=>by
  have e:∀ s:Sm,gM id s (i::I)=gM id (if i.1=id then s.add i.2 else s) I:=fun _=>rfl;rw[e,e,y6 id Jj I]
  by_cases h:i.1=id
  ·rw[aI h,aI h,uX]
  ·rw[aw h,aw h]
theorem y7{α:Type}(id:Int)(F:α→List mU){a b:List α}(h:a.Perm b):∀ s,gM id s (a.flatMap F)=gM id s (b.flatMap F):=by
 induction h with
 | nil=>intro s;rfl
 | cons x _ ih=>intro s;simp only[dP,qW,ih]
 | swap x y l=>intro s;simp only[dP,qW];rw[y6 id (F x) (F y) s]
 | trans _ _ h1 h2=>intro s;exact(h1 s).trans (h2 s)
def pos(d:Int):Int:=if 0<d then d else 0
theorem sD{α:Type}{f g:α→Int}{K:List α}(h:∀ k∈K,g k≤f k):cC g K≤cC f K:=by
 induction K with
 | nil=>exact cj _
 | cons k K ih =>
  have h1:=h k (by simp);have h2:=ih fun y hy=>h y (by simp[hy]);simp only[cC,az,bN]at h2 ⊢;omega
theorem qE{α:Type}{f g:α→Int}{K:List α}(hK:K.Nodup)(k0:α){d:Int}(hd:0≤d)(h0:g k0≤f k0+d)(h:∀ k,k≠k0→g k≤f k):cC g K≤cC f K+d:=by
 induction K with
 | nil=>simpa[cC]using hd
 | cons k K ih =>
  simp only[eM]at hK
  by_cases e:k=k0
  ·subst e;have h1:cC g K≤cC f K:=sD fun x hx=>h x (by rintro rfl;exact hK.1 hx);simp only[cC,az,bN]at h1 ⊢;omega
  ·have h1:=ih hK.2;have h2:=h k e;simp only[cC,az,bN]at h1 ⊢;omega
def rH(t:It):Option TK:=if(bZ t).2 then some (dq (bZ t).1)else none
def dv(k:TK):List It→Int
 | []=>0
 | x::l=>(if rH x=some k then 1 else 0)+dv k l
def wK(k:TK):Int:=weight ⟨k.1,k.2,0⟩
theorem EW(t:It):(bZ t).1.ahr=t.ahr:=by unfold bZ;split<;>rfl
theorem pB{a b:It}(h:a.ahr=b.ahr):weight a=weight b:=by unfold weight;rw[h]
theorem wO{x:It}{k:TK}(h:rH x=some k):k.1=x.ahr∧jV k=bG x∧wK k=weight x:=by
 unfold rH at h;split at h
 ·simp only[aa]at h;subst h;have e:(dq (bZ x).1).1=x.ahr:=EW x;refine⟨e,?_,pB e⟩;unfold jV bG;rw[e]
 ·cases h
theorem yJ{x:It}{k:TK}(h:rH x=some k):single x=if jV k then 1 else wK k:=by
 obtain⟨_,h2,h3⟩:=wO h;unfold single;rw[h2,h3]
def gj(a b:List It)(k:TK):Int:=if jV k then l9 (dv k a - dv k b)else wK k*pos (dv k a - dv k b)
theorem R7(k:TK):0≤wK k:=(me _).1
theorem Eb{K:List TK}(hK:K.Nodup)(x:It)(a b:List It):cC (gj (x::a) b) K≤cC (gj a b) K+single x:=by
 cases hc:rH x with
 | none =>
  have h1:cC (gj (x::a) b) K=cC (gj a b) K:=du fun k _=>by simp[gj,dv,hc]
  have h2:=(ef x).1;omega
 | some k0 =>
  refine qE hK k0 (ef x).1 ?_ fun k hk=>?_
  ·rw[yJ hc];simp only[gj,dv,hc,aO];split
   ·unfold l9;(repeat' split)<;>omega
   ·have h1:pos (1+dv k0 a - dv k0 b)≤pos (dv k0 a - dv k0 b)+1:=by unfold pos;(repeat' split)<;>omega
    have h2:=jT h1 (R7 k0);rw[il,Int.mul_one]at h2;exact h2
  ·have h1:¬ k0=k:=fun e=>hk e.symm;simp[gj,dv,hc,h1]
theorem AT{K:List TK}{u:It}(hu:bG u=false)(a b:List It):cC (gj a (u::b)) K≤cC (gj a b) K:=by
 refine sD fun k _=>?_
 by_cases hc:rH u=some k
 ·have ht:jV k=false:=by rw[(wO hc).2.1];exact hu
  simp only[gj,dv,hc,aO,ht,aA,aJ];refine jT ?_ (R7 k);unfold pos;(repeat' split)<;>omega
 ·simp[gj,dv,hc]
theorem M7{K:List TK}(hK:K.Nodup)(u:It)(a b:List It):cC (gj a (u::b)) K≤cC (gj a b) K+single u:=by
 cases hu:bG u with
 | false=>have:=AT (K:=K) hu a b;have:=(ef u).1;omega
 | true =>
  cases hc:rH u with
  | none =>
   have h1:cC (gj a (u::b)) K=cC (gj a b) K:=du fun k _=>by simp[gj,dv,hc]
   have h2:=(ef u).1;omega
  | some k0 =>
   have ht:jV k0=true:=by rw[(wO hc).2.1];exact hu
   refine qE hK k0 (ef u).1 ?_ fun k hk=>?_
   ·rw[yJ hc];simp only[gj,dv,hc,aO,ht];unfold l9;(repeat' split)<;>omega
   ·have h1:¬ k0=k:=fun e=>hk e.symm;simp[gj,dv,hc,h1]
theorem Fx{x u:It}(h:dq x=dq u):rH x=rH u:=by
 simp only[dq,an]at h;obtain⟨h1,h2⟩:=h;unfold rH bZ dW bG;rw[h1,h2]
theorem vG{x u:It}{p:Int}(hp:eP x u=some p)(hc:rH x≠rH u):p=single x∧bG x=false∧bG u=false:=by
 unfold eP at hp;split at hp
 ·rename_i h;exact absurd (Fx ((pM x u).1 h)) hc
 split at hp
 ·cases hp
 rename_i hk;have hk:x.ahr=u.ahr:=by simpa using hk
 split at hp
 ·rename_i h6;have hx:bG x=false:=by simp[bG,h6]
  have hu:bG u=false:=by simp[bG,← hk,h6]
  split at hp
  ·rename_i he;refine absurd ?_ hc;have he:dW x=dW u:=by simpa using he
   have h6u:u.ahr=6:=by rw[← hk];exact h6
   unfold rH bZ;simp only[h6,h6u,K7,aO,he,dq]
  ·simp only[aa]at hp;exact⟨by rw[← hp];simp[single,hx],hx,hu⟩
 ·rename_i h6;split at hp
  ·rename_i h7;have hx:bG x=false:=by unfold bG;rcases h7 with h | h | h | h<;>rw[h]<;>rfl
   have hu:bG u=false:=by unfold bG;rw[← hk];rcases h7 with h | h | h | h<;>rw[h]<;>rfl
   simp only[aa]at hp;exact⟨by rw[← hp];simp[single,hx],hx,hu⟩
  ·cases hp
theorem Kb{K:List TK}(hK:K.Nodup){x u:It}{p:Int}(hp:eP x u=some p)(a b:List It):cC (gj (x::a) (u::b)) K≤cC (gj a b) K+p:=by
 by_cases hc:rH x=rH u
 ·have h1:cC (gj (x::a) (u::b)) K=cC (gj a b) K:=du fun k _=>by
   have e:dv k (x::a) - dv k (u::b)=dv k a - dv k b:=by simp only[dv,hc];omega
   simp only[gj,e]
  have h2:=(ql hp).1;omega
 ·obtain⟨h1,_,h3⟩:=vG hp hc;have h4:=Eb hK x a (u::b);have h5:=AT (K:=K) h3 a b;omega
theorem Ib{K:List TK}(hK:K.Nodup){a b:List It}{c:Int}(h:Al a b c):cC (gj a b) K≤c:=by
 induction h with
 | nil =>
  have:cC (gj [] []) K≤cC (fun _=>0) K:=sD fun k _=>by simp[gj,dv,l9,pos]
  have e:cC (fun _:TK=>(0:Int)) K=0:=by
   clear this hK
   induction K with
   | nil=>rfl
   | cons k K ih=>simp only[cC,az,bN]at ih ⊢;omega
  omega
 | del x h ih=>rename_i A B C;exact dL (Eb hK x A B) (by omega)
 | ins u h ih=>rename_i A B C;exact dL (M7 hK u A B) (by omega)
 | pair x u hp h ih=>rename_i A B C;exact dL (Kb hK hp A B) (by omega)
theorem G4{x u:It}{p:Int}(h:eP x u=some p):eP u x=some p:=by
 have hs:lk u x=lk x u:=by simp only[lk,Y1 (a:=u.ahr),Y1 (a:=u.aht)]
 unfold eP at h ⊢;rw[hs];split at h
 ·rename_i h1;rw[aI h1];exact h
 rename_i h1;rw[aw h1];split at h
 ·cases h
 rename_i h2;have h2:x.ahr=u.ahr:=by simpa using h2
 rw[aw (by simp[h2]),← h2,pB (a:=u) (b:=x) h2.symm];have hk:(dW u==dW x)=(dW x==dW u):=Y1;rw[hk];exact h
theorem Al.symm{a b:List It}{c:Int}(h:Al a b c):Al b a c:=by
 induction h with
 | nil=>exact .nil
 | del x h ih=>exact .ins x ih
 | ins u h ih=>exact .del u ih
 | pair x u hp h ih=>exact .pair u x (G4 hp) ih
def iL(g:GK)(last:List UInt8):List (List UInt8)→Int
 | []=>if(last,([]:List UInt8))=g then 1 else 0
 | w::r=>(if(last,w)=g then 1 else 0)+iL g w r
def jf(la:List UInt8)(wa:List (List UInt8))(lb:List UInt8)(wb:List (List UInt8))(g:GK):Int:=pos (iL g la wa - iL g lb wb)
theorem nQ{α:Type}(K:List α):cC (fun _=>0) K=0:=by
 induction K with
 | nil=>rfl
 | cons k K ih=>simp only[cC,az,bN]at ih ⊢;omega
section
variable {K:List GK} (hK:K.Nodup)
include hK
theorem Kc(la lb:List UInt8):cC (jf la [] lb []) K≤if la=lb then 0 else 1:=by
 split
 ·rename_i h;subst h;have:cC (jf la [] la []) K=cC (fun _=>0) K:=du fun k _=>by simp[jf,pos]
  rw[this,nQ];exact cj _
 ·have:=qE (f:=fun _=>0) (g:=jf la [] lb []) hK (la,[]) (d:=1) (by decide) (by simp only[jf,iL,pos];(repeat' split)<;>omega)
   (fun k hk=>by simp only[jf,iL,pos,aw (fun e=>hk e.symm:¬ (la,([]:List UInt8))=k)];(repeat' split)<;>omega)
  rw[nQ]at this;omega
theorem uB(la w:List UInt8)(ra:List (List UInt8))(lb:List UInt8)(wb:List (List UInt8)):cC (jf la (w::ra) lb wb) K≤cC (jf w ra lb wb) K+1 :=
 qE hK (la,w) (by decide) (by simp only[jf,iL,pos];(repeat' split)<;>omega)
  (fun k hk=>by simp only[jf,iL,pos,aw (fun e=>hk e.symm:¬ (la,w)=k)];(repeat' split)<;>omega)
omit hK in
theorem uA(la:List UInt8)(wa:List (List UInt8))(lb v:List UInt8)(rb:List (List UInt8)):cC (jf la wa lb (v::rb)) K≤cC (jf la wa v rb) K :=
 sD fun k _=>by simp only[jf,iL,pos];(repeat' split)<;>omega
omit hK in
theorem Gj(l w:List UInt8)(ra rb:List (List UInt8)):cC (jf l (w::ra) l (w::rb)) K=cC (jf w ra w rb) K :=
 du fun k _=>by
  have e:iL k l (w::ra) - iL k l (w::rb)=iL k w ra - iL k w rb:=by simp only[iL];omega
  simp only[jf,e]
omit hK in
theorem gO(x:It)(l:List It):aS (x::l)=if x.ahr=6 then dW x::aS l else aS l:=by
 unfold aS
 by_cases h:x.ahr=6
 ·simp[h]
 ·simp[h]
theorem Ec{a b:List It}{c:Int}(h:Al a b c):∃ k:Int,0≤k∧4*k≤c∧∀ la lb,cC (jf la (aS a) lb (aS b)) K≤2*k+if la=lb then 0 else 1:=by
 induction h with
 | nil=>exact⟨0,by decide,by decide,fun la lb=>by have:=Kc hK la lb;simpa[aS]using this⟩
 | del x h ih =>
  rename_i A B C;obtain⟨k,h1,h2,h3⟩:=ih;have hs:=ef x
  by_cases hx:x.ahr=6
  ·have e:single x=4:=by simp[single,bG,weight,hx]
   refine⟨k+1,by omega,by omega,fun la lb=>?_⟩;rw[gO,aI hx];have h4:=dL (uB hK la (dW x) (aS A) lb (aS B)) (CW (h3 (dW x) lb) 1);refine dL h4 ?_
   (repeat' split)<;>omega
  ·refine⟨k,h1,by omega,fun la lb=>?_⟩;rw[gO,aw hx];exact h3 la lb
 | ins u h ih =>
  rename_i A B C;obtain⟨k,h1,h2,h3⟩:=ih;have hs:=ef u
  by_cases hu:u.ahr=6
  ·have e:single u=4:=by simp[single,bG,weight,hu]
   refine⟨k+1,by omega,by omega,fun la lb=>?_⟩;rw[gO,aI hu];refine dL (uA la (aS A) lb (dW u) (aS B)) (dL (h3 la (dW u)) ?_)
   (repeat' split)<;>omega
  ·refine⟨k,h1,by omega,fun la lb=>?_⟩;rw[gO,aw hu];exact h3 la lb
 | pair x u hp h ih =>
  rename_i A B C;obtain⟨k,h1,h2,h3⟩:=ih;have Fi:=(ql hp).1
  have NF:x.ahr=u.ahr:=by
   unfold eP at hp;split at hp
   ·rename_i h;simp only[lk,aG,bR]at h;exact h.1
   split at hp
   ·cases hp
   ·rename_i h;simpa using h
  by_cases hx:x.ahr=6
  ·have hu:u.ahr=6:=by rw[← NF];exact hx
   by_cases hw:dW x=dW u
   ·refine⟨k,h1,by omega,fun la lb=>?_⟩;rw[gO,gO,aI hx,aI hu,← hw];have h5:=h3 (dW x) (dW x);rw[aI rfl]at h5
    by_cases hl:la=lb
    ·subst hl;rw[Gj,aI rfl];exact h5
    ·rw[aw hl];have h4:=dL (uB hK la (dW x) (aS A) lb (dW x::aS B)) (CW (uA (K:=K) (dW x) (aS A) lb (dW x) (aS B)) 1);exact dL h4 (by omega)
   ·have hc:rH x≠rH u:=by
     unfold rH bZ;simp only[hx,hu,K7,aO,dq,eX,aa,an,iH];exact hw
    have X4:=(vG hp hc).1;have e:single x=4:=by simp[single,bG,weight,hx]
    refine⟨k+1,by omega,by omega,fun la lb=>?_⟩;rw[gO,gO,aI hx,aI hu];have h4:=dL (uB hK la (dW x) (aS A) lb (dW u::aS B)) (CW (dL (uA (K:=K) (dW x) (aS A) lb (dW u) (aS B)) (h3 (dW x) (dW u))) 1);refine dL h4 ?_
    (repeat' split)<;>omega
  ·have hu:¬ u.ahr=6:=by rw[← NF];exact hx
   refine⟨k,h1,by omega,fun la lb=>?_⟩;rw[gO,gO,aw hx,aw hu];exact h3 la lb
end
end Go.Bt

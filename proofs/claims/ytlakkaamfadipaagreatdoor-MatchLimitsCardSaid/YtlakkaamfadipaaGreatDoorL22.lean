/- A part of a proof; the claim's last text says of what. -/
import Derived.Test.YtlakkaamfadipaaGreatDoorL21
set_option linter.all false

namespace Go.Bt
open Go Go.Pm
section
variable {α β:Type} [DecidableEq α] {kd:Nat} {ke:α→V} {ve:β→V}
theorem nq(hk:∀ a b,bI kd (ke a) (ke b)=some (decide (a=b)))(C:List (α×β))(a:α):
  (bo a C=none∧c4 kd (ke a) (emap ke ve C) 0=some none∧(∀ z,c4 kd (ke a) (emap ke ve C++[(ke a,z)]) 0=some (some ((emap ke ve C).length,z))) ∧
    (∀ z,(emap ke ve C++[(ke a,z)])[(emap ke ve C).length]?=some (ke a,z))∧∀ z v,(emap ke ve C++[(ke a,z)]).set (emap ke ve C).length (ke a,ve v)=emap ke ve (ee C a v)) ∨
  (∃ i b,bo a C=some b∧c4 kd (ke a) (emap ke ve C) 0=some (some (i,ve b))∧(emap ke ve C)[i]?=some (ke a,ve b)∧∀ v,(emap ke ve C).set i (ke a,ve v)=emap ke ve (ee C a v)):=by
 rcases gP (ve:=ve) hk C a with⟨h1,h2,h3⟩ | ⟨i,b,h1,h2,h3⟩
 ·refine .inl ⟨h1,h2,fun z=>?_,fun z=>by simp,fun z v=>?_⟩
  ·have key:∀ (es:List (V×V)) (n:Nat),c4 kd (ke a) es n=some none→c4 kd (ke a) (es++[(ke a,z)]) n=some (some (n+es.length,z)):=by
    intro es
    induction es with
    | nil=>intro n _;simp[c4,hk]
    | cons e es ih =>
     intro n h;simp only[c4,bq]at h ⊢;split at h
     ·simp at h
     ·rw[ih _ h];simp;omega
     ·simp at h
   simpa using key _ 0 h2
  ·rw[← h3 v,bZ _ _ (aq _)];simp
 ·refine .inr ⟨i,b,h1,h2,?_,h3⟩
  have key:∀ (es:List (V×V)) (n:Nat) (r:Nat) (y:V),c4 kd (ke a) es n=some (some (r,y))→∃ j k,r=n+j∧es[j]?=some (k,y)∧bI kd (ke a) k=some true:=by
   intro es
   induction es with
   | nil=>intro n r y h;simp[c4]at h
   | cons e es ih =>
    intro n r y h;obtain⟨k,x⟩:=e;simp only[c4]at h;split at h
    ·rename_i hs;simp only[aa,ao]at h;exact⟨0,k,by omega,by simp[h.2],hs⟩
    ·obtain⟨j,k2,h4,h5,h6⟩:=ih _ _ _ h;exact⟨j+1,k2,by omega,by simpa using h5,h6⟩
    ·simp at h
  obtain⟨j,k,h4,h5,h6⟩:=key _ 0 i _ h2;have:i=j:=by omega
  subst this;rw[h5,oK h6]
end
def oA(p:Int×Int):List V:=[.i .i64 p.1,.i .i64 p.2]
def ko(p:Nat×Nat):V:=.own p.1 p.2
def fM(E g:Nat)(ps:List (Int×Int)):Ob:=.row E 2 16 g false (ps.map oA)
structure fB {α:Type} [DecidableEq α] (E n:Nat) (T:ae) (G:List (α×(Nat×Nat))) (f:α→List (Int×Int)):Prop where
 nodup:(G.map (·.1)).Nodup
 row:∀ k r g,bo k G=some (r,g)→∃ j,r=n+j∧T[j]?=some (fM E g (f k))
 uB:∀ k,bo k G=none→f k=[]
 inj:∀ k k' r g g',bo k G=some (r,g)→bo k' G=some (r,g')→k=k'
def still:Ob→Bool
 | .box _ _=>true
 | .map _ _ _=>true
 | .row _ sz _ _ _ _=>decide (2<sz)
 | _=>false
def jR(T T':ae):Prop:=T.length≤T'.length∧∀ (j:Nat) (o:Ob),T[j]?=some o→still o=true→T'[j]?=some o
theorem jR.refl(T:ae):jR T T:=⟨aq _,fun _ _ h _=>h⟩
theorem jR.trans{a b c:ae}(h:jR a b)(k:jR b c):jR a c:=⟨bl h.1 k.1,fun j o h1 h2=>k.2 j o (h.2 j o h1 h2) h2⟩
theorem jR.app(T l:ae):jR T (T++l):=⟨by simp,fun j o h _=>by rw[ag (ab.1 h).1];exact h⟩
theorem jR.set{T:ae}{j:Nat}{o0:Ob}(h:T[j]?=some o0)(hs:still o0=false)(o:Ob):jR T (T.set j o) :=
 ⟨by simp,fun i o' h1 h2=>by
  have:j≠i:=fun e=>by subst e;rw[h]at h1;rw[gm h1,h2]at hs;cases hs
  rw[ay this];exact h1⟩
theorem jR.setRow{T:ae}{j:Nat}{E b g:Nat}{sh:Bool}{xs:List (List V)}(h:T[j]?=some (.row E 2 b g sh xs))(o:Ob):jR T (T.set j o):=jR.set h rfl o
section
variable {α:Type} [DecidableEq α] {E n:Nat} {T:ae} {G:List (α×(Nat×Nat))} {f:α→List (Int×Int)}
theorem fB.app(h:fB E n T G f)(l:ae):fB E n (T++l) G f :=
 ⟨h.nodup,fun k r g hk=>by
  obtain⟨j,h1,h2⟩:=h.row k r g hk;exact⟨j,h1,by rw[ag (ab.1 h2).1];exact h2⟩,h.uB,h.inj⟩
theorem fB.other(h:fB E n T G f){j:Nat}(o:Ob)(hj:∀ k r g,bo k G=some (r,g)→r≠n+j):fB E n (T.set j o) G f :=
 ⟨h.nodup,fun k r g hk=>by
  obtain⟨i,h1,h2⟩:=h.row k r g hk;have:=hj k r g hk;exact⟨i,h1,by rw[ay (by omega)];exact h2⟩,h.uB,h.inj⟩
def nX(f:α→List (Int×Int))(k:α)(p:Int×Int):α→List (Int×Int):=fun x=>if x=k then f x++[p]else f x
theorem UF(G:List (α×(Nat×Nat)))(a:α)(b:Nat×Nat):(ee G a b).map (·.1)=if a∈G.map (·.1)then G.map (·.1)else G.map (·.1)++[a]:=by
 induction G with
 | nil=>simp[ee]
 | cons p C ih =>
  simp only[ee];split
  ·rename_i h;subst h;simp
  ·rename_i h;simp only[az,ih]
   by_cases h2:a∈C.map (·.1)
   ·rw[aQ h2,aQ (di _ h2)]
   ·rw[aC h2,aC (by simp only[bn];rintro(h3 | h3);exact h h3;exact h2 h3)];rfl
theorem Ef{G:List (α×(Nat×Nat))}(h:(G.map (·.1)).Nodup)(a:α)(b:Nat×Nat):((ee G a b).map (·.1)).Nodup:=by
 rw[UF];split
 ·exact h
 ·rename_i hn;rw[fu];exact⟨h,by simp,fun x hx y hy e=>by simp at hy;subst hy;subst e;exact hn hx⟩
theorem fB.add(h:fB E n T G f){k:α}{j g:Nat}(hk:bo k G=some (n+j,g))(p:Int×Int):fB E n (T.set j (fM E (g+1) (f k++[p]))) (ee G k (n+j,g+1)) (nX f k p):=by
 obtain⟨j',h1,h2⟩:=h.row k _ _ hk;have:j'=j:=by omega
 subst this;refine⟨Ef h.nodup _ _,fun x r g' hx=>?_,fun x hx=>?_,fun x x' r g1 g2 hx hx'=>?_⟩
 ·rw[eD]at hx;split at hx
  ·rename_i e;subst e;simp only[aa,ao]at hx;obtain⟨rfl,rfl⟩:=hx;exact⟨j',rfl,by rw[ak (ab.1 h2).1];simp[nX]⟩
  ·rename_i e;obtain⟨i,h3,h4⟩:=h.row x r g' hx;have gr:j'≠i:=fun e2=>by subst e2;exact e (h.inj x k r g' g hx (by rw[hk,h3]))
   exact⟨i,h3,by rw[ay gr,h4];simp[nX,e]⟩
 ·rw[eD]at hx;split at hx
  ·simp at hx
  ·rename_i e;simp[nX,e,h.uB x hx]
 ·rw[eD]at hx hx';split at hx<;>split at hx'
  ·rename_i e1 e2;rw[e1,e2]
  ·rename_i e1 e2;simp only[aa,ao]at hx;rw[← hx.1]at hx';exact absurd (h.inj x' k _ g2 g hx' hk) e2
  ·rename_i e1 e2;simp only[aa,ao]at hx';rw[← hx'.1]at hx;exact absurd (h.inj x k _ g1 g hx hk) e1
  ·exact h.inj x x' r g1 g2 hx hx'
theorem fB.new(h:fB E n T G f){k:α}(hk:bo k G=none)(p:Int×Int):fB E n (T++[fM E 0 [p]]) (ee G k (n+T.length,0)) (nX f k p):=by
 have cM:∀ x r g,bo x G=some (r,g)→r<n+T.length:=fun x r g hx=>by
  obtain⟨i,h3,h4⟩:=h.row x r g hx;have:=(ab.1 h4).1;omega
 refine⟨Ef h.nodup _ _,fun x r g' hx=>?_,fun x hx=>?_,fun x x' r g1 g2 hx hx'=>?_⟩
 ·rw[eD]at hx;split at hx
  ·rename_i e;subst e;simp only[aa,ao]at hx;obtain⟨rfl,rfl⟩:=hx;exact⟨T.length,rfl,by simp[nX,h.uB _ hk]⟩
  ·rename_i e;obtain⟨i,h3,h4⟩:=h.row x r g' hx;exact⟨i,h3,by rw[ag (ab.1 h4).1,h4];simp[nX,e]⟩
 ·rw[eD]at hx;split at hx
  ·simp at hx
  ·rename_i e;simp[nX,e,h.uB x hx]
 ·rw[eD]at hx hx';split at hx<;>split at hx'
  ·rename_i e1 e2;rw[e1,e2]
  ·simp only[aa,ao]at hx;have:=cM _ _ _ hx';omega
  ·simp only[aa,ao]at hx';have:=cM _ _ _ hx;omega
  ·exact h.inj x x' r g1 g2 hx hx'
end
theorem fE{α β:Type}[DecidableEq α](k:α):∀ (C:List (α×β)),k∈C.map (·.1)↔(bo k C).isSome
 | []=>by simp[bo,db]
 | p::C=>by
  have ih:=fE k C
  by_cases e:k=p.1
  ·subst e;simp[bo,db]
  ·have e2:bo k (p::C)=bo k C:=by
    unfold bo;rw[db,aC e];exact iA k C 1
   rw[e2,← ih];simp[e]
theorem nj{α β:Type}[DecidableEq α]{C D:List (α×β)}(hC:(C.map (·.1)).Nodup)(h:D.Perm C)(k:α):bo k D=bo k C:=by
 have hD:(D.map (·.1)).Nodup:=(h.map _).nodup_iff.2 hC
 have key:∀ {L:List (α×β)},(L.map (·.1)).Nodup→∀ v,bo k L=some v↔(k,v)∈L:=by
  intro L
  induction L with
  | nil=>intro _ v;simp[bo,db]
  | cons p L ih =>
   intro hn v;have CS:=cP.1 hn
   by_cases e:k=p.1
   ·subst e;have:bo p.1 (p::L)=some p.2:=by simp[bo,db]
    rw[this];simp only[aa,bn];constructor
    ·rintro rfl;exact .inl rfl
    ·rintro(h1 | h1)
     ·rw[← h1]
     ·exact absurd (aT.2 ⟨_,h1,rfl⟩) CS.1
   ·have e2:bo k (p::L)=bo k L:=by
     unfold bo;rw[db,aC e];exact iA k L 1
    rw[e2,ih CS.2 v,bn];constructor
    ·exact .inr
    ·rintro(h1 | h1)
     ·rw[← h1]at e;exact absurd rfl e
     ·exact h1
 cases hg:bo k C with
 | none =>
  cases DK:bo k D with
  | none=>rfl
  | some v=>exact absurd ((key hC v).2 (h.mem_iff.1 ((key hD v).1 DK))) (by rw[hg];simp)
 | some v=>exact(key hD v).2 (h.mem_iff.2 ((key hC v).1 hg))
def ie{α:Type}[DecidableEq α](f:α→List (Int×Int))(id:Int):List (α×Int)→α→List (Int×Int)
 | []=>f
 | g::r=>ie (nX f g.1 (id,g.2)) id r
def xP{α β:Type}[DecidableEq α][DecidableEq β](G:List (α×(Nat×Nat)))(H:List (β×(Nat×Nat))):Prop:=∀ k r g k' r' g',bo k G=some (r,g)→bo k' H=some (r',g')→r≠r'
section
variable {α β:Type} [DecidableEq α] [DecidableEq β] {G:List (α×(Nat×Nat))} {H:List (β×(Nat×Nat))}
theorem xP.symm(h:xP G H):xP H G:=fun k r g k' r' g' h1 h2 e=>h k' r' g' k r g h2 h1 e.symm
theorem xP.add(h:xP G H){k:α}{r g:Nat}(hk:bo k G=some (r,g))(g':Nat):xP (ee G k (r,g')) H:=fun x r1 g1 y r2 g2 h1 h2=>by
 rw[eD]at h1;split at h1
 ·simp only[aa,ao]at h1;rw[← h1.1];exact h _ _ _ _ _ _ hk h2
 ·exact h _ _ _ _ _ _ h1 h2
theorem xP.new{E n:Nat}{T:ae}{f:β→List (Int×Int)}(h:xP G H)(hH:fB E n T H f)(k:α)(m:Nat)(hm:T.length≤m):xP (ee G k (n+m,0)) H:=fun x r1 g1 y r2 g2 h1 h2=>by
 rw[eD]at h1;split at h1
 ·simp only[aa,ao]at h1;obtain⟨j,e1,e2⟩:=hH.row _ _ _ h2;have:=(ab.1 e2).1;omega
 ·exact h _ _ _ _ _ _ h1 h2
end
theorem xA{α:Type}[DecidableEq α](id:Int)(k:α):∀ (D:List (α×Int)) (f:α→List (Int×Int)),gH D→ie f id D k=f k++((bo k D).toList.map fun c=>(id,c))
 | [],f,_=>by simp[ie,bo,db]
 | g::r,f,h=>by
  have hr:gH r:=by unfold gH at *;exact(cP.1 h).2
  have hn:g.1 ∉ r.map (·.1):=by unfold gH at h;exact(cP.1 h).1
  have ih:=xA id k r (nX f g.1 (id,g.2)) hr;simp only[ie];rw[ih]
  by_cases e:k=g.1
  ·subst e
   have e1:bo g.1 r=none:=by
    cases hg:bo g.1 r with
    | none=>rfl
    | some v =>
     exfalso;refine hn ?_;have:=(fE g.1 r).2 (by rw[hg];rfl);exact this
   have e2:bo g.1 (g::r)=some g.2:=by simp[bo,db]
   simp[e1,e2,nX]
  ·have e2:bo k (g::r)=bo k r:=by
    unfold bo;rw[db,aC e];exact iA k r 1
   rw[e2];simp[nX,e]
theorem Fh{α:Type}[DecidableEq α](f:α→List (Int×Int))(id:Int)(D:List (α×Int))(g:α×Int):ie f id (D++[g])=nX (ie f id D) g.1 (id,g.2):=by
 induction D generalizing f with
 | nil=>rfl
 | cons x D ih=>simp only[bq,ie,ih]
theorem zA{α:Type}[DecidableEq α](id:Int)(k:α):∀ (D:List (α×Int)) (f:α→List (Int×Int)),(ie f id D k).length≤(f k).length+D.length
 | [],f=>by simp[ie]
 | g::r,f=>by
  have ih:=zA id k r (nX f g.1 (id,g.2));have:(nX f g.1 (id,g.2) k).length≤(f k).length+1:=by unfold nX;split<;>simp
  simp only[ie,ai];omega
def yJ(s:Sm):List V:=[.i .i64 s.dH,.i .i64 s.weight,.i .i64 s.tags]
structure Sm.ok (s:Sm) (m:Int):Prop where
 p:0≤s.dH∧s.dH≤m
 w:0≤s.weight∧s.weight≤m
 t:0≤s.tags∧s.tags≤m
def pe(a b c:Sm):Int:=mx (mx a.weight b.weight - c.weight+3*(a.tags+b.tags - 2*c.tags)) (4*(mx a.dH b.dH - c.dH+1).tdiv 2)
def jQ(total pct:Int):Int:=if 100<pct then -1 else if pct<1∨total<1 then 1073741824 else((if 1073741824<total then 1073741824 else total)*(100 - pct)).tdiv 100
theorem FA(x m:Int)(k:Int)(hk:0<k)(h : -m≤x∧x≤m): -m≤x.tdiv k∧x.tdiv k≤m:=by
 by_cases hx:0≤x
 ·rw[dA hx];have h1:=O7 hx (Int.le_of_lt hk);have h2:=Int.ediv_le_self k hx;omega
 ·have e:x = -(-x):=by omega
  rw[e,Int.neg_tdiv,dA (by omega)];have h1:=O7 (a := -x) (b:=k) (by omega) (Int.le_of_lt hk);have h2:=Int.ediv_le_self (a := -x) k (by omega);omega
def pV:Sm:=⟨0,0,0⟩
def Sm.add(a b:Sm):Sm:=⟨a.dH+b.dH,a.weight+b.weight,a.tags+b.tags⟩
def lL(s:Sm):V:=.agg (yJ s)
def Sm.size(s:Sm):Int:=s.dH+s.weight+s.tags
def Sm.nn(s:Sm):Prop:=0≤s.dH∧0≤s.weight∧0≤s.tags
abbrev mf:=Int×Sm
def pT(O:List mf)(i:mf):List mf:=ee O i.1 (((bo i.1 O).getD pV).add i.2)
def cI(O:List mf)(I:List mf):List mf:=I.foldl pT O
def gF(I:List mf):Int:=(I.map fun i=>i.2.size).sum
def IX(I:List mf):Prop:=∀ i∈I,i.2.nn
def OB(m:Int)(O:List mf):Prop:=0≤m∧∀ id s,bo id O=some s→s.ok m
theorem Sm.nn.size{s:Sm}(h:s.nn):0≤s.size:=by unfold Sm.size;obtain⟨a,b,c⟩:=h;omega
theorem OB.nil:OB 0 []:=⟨bY _,fun id s h=>by simp[bo,db]at h⟩
theorem OB.getD{m:Int}{O:List mf}(h:OB m O)(id:Int):((bo id O).getD pV).ok m:=by
 cases hg:bo id O with
 | none=>exact⟨⟨bY _,h.1⟩,⟨bY _,h.1⟩,⟨bY _,h.1⟩⟩
 | some s=>exact h.2 id s hg
theorem OB.add{m:Int}{O:List mf}(h:OB m O){i:mf}(hi:i.2.nn):OB (m+i.2.size) (pT O i):=by
 have hs:=hi.size;refine⟨by have:=h.1;omega,fun id s hg=>?_⟩;unfold pT at hg;rw[eD]at hg;have h1:=h.getD i.1;obtain⟨n1,n2,n3⟩:=hi;split at hg
 ·simp only[aa]at hg;subst hg;obtain⟨a,b,c⟩:=h1;unfold Sm.size at *;exact⟨by simp only[Sm.add];omega,by simp only[Sm.add];omega,by simp only[Sm.add];omega⟩
 ·obtain⟨a,b,c⟩:=h.2 id s hg;exact⟨by omega,by omega,by omega⟩
theorem pv{I:List mf}(h:IX I):0≤gF I:=by
 induction I with
 | nil=>exact bY _
 | cons i I ih =>
  have h1:=(h i (by simp)).size;have h2:=ih fun j hj=>h j (by simp[hj]);simp only[gF,az,bB]at h2 ⊢;omega
theorem sC(i:mf)(I:List mf):gF (i::I)=i.2.size+gF I:=by simp[gF]
theorem mU(I Jj:List mf):gF (I++Jj)=gF I+gF Jj:=by simp[gF]
theorem OB.mono{m m':Int}{O:List mf}(h:OB m O)(hm:m≤m'):OB m' O:=⟨by have:=h.1;omega,fun id s hg=>by
 obtain⟨a,b,c⟩:=h.2 id s hg;exact⟨by omega,by omega,by omega⟩⟩
theorem OB.apply{m:Int}:∀ (I:List mf) {O:List mf},OB m O→IX I→OB (m+gF I) (cI O I)
 | [],O,h,_=>by simpa[gF,cI]using h
 | i::I,O,h,hn=>by
  have h1:=h.add (hn i (by simp));have h2:=OB.apply I h1 (fun j hj=>hn j (by simp[hj]));rw[sC,← Int.add_assoc];exact h2
def iu(c:Int)(ps:List (Int×Int)):List mf:=ps.map fun p=>(p.1,⟨mn p.2 c,0,0⟩)
def lC(k:TK)(c:Int)(ps:List (Int×Int)):List mf:=ps.map fun p=>(p.1,if jm k then⟨0,0,mn p.2 c⟩else⟨0,mn p.2 c*weight ⟨k.1,k.2,0⟩,0⟩)
theorem oH{α:Type}(F:α→List mf){a b:List α}(h:a.Perm b):gF (a.flatMap F)=gF (b.flatMap F):=by
 induction h with
 | nil=>rfl
 | cons x _ ih=>simp only[dm,mU,ih]
 | swap x y l=>simp only[dm,mU];omega
 | trans _ _ h1 h2=>exact h1.trans h2
theorem Fe(O I Jj:List mf):cI O (I++Jj)=cI (cI O I) Jj:=by simp[cI]
theorem so(x:It):0≤weight x∧weight x≤4:=by
 unfold weight
 repeat' split
 all_goals omega
theorem uZ{k:TK}{c:Int}(hc:0≤c){ps:List (Int×Int)}(h:∀ p∈ps,0≤p.2):IX (lC k c ps):=fun i hi=>by
 simp only[lC,aT]at hi;obtain⟨q,hq,rfl⟩:=hi;have:=h q hq;have h0:0≤mn q.2 c:=by unfold mn;split<;>omega
 simp only;split
 ·exact⟨bY _,bY _,h0⟩
 ·exact⟨bY _,qR h0 (so _).1,bY _⟩
theorem Ge{c:Int}(hc:0≤c){ps:List (Int×Int)}(h:∀ p∈ps,0≤p.2):IX (iu c ps):=fun i hi=>by
 simp only[iu,aT]at hi;obtain⟨q,hq,rfl⟩:=hi;have:=h q hq;exact⟨by simp only[mn];split<;>omega,bY _,bY _⟩
def fZ(id:Int)(s:Sm)(I:List mf):Sm:=I.foldl (fun s i=>if i.1=id then s.add i.2 else s) s
theorem qA(id:Int):∀ (I O:List mf),(bo id (cI O I)).getD pV=fZ id ((bo id O).getD pV) I
 | [],O=>rfl
 | i::I,O=>by
  have h:=qA id I (pT O i)
  have e:(bo id (pT O i)).getD pV=if i.1=id then((bo id O).getD pV).add i.2 else(bo id O).getD pV:=by
   unfold pT;rw[eD]
   by_cases hk:i.1=id
   ·subst hk;simp
   ·rw[aC (fun e=>hk e.symm),aC hk]
  rw[e]at h;exact h
theorem pL(id:Int)(s:Sm)(I Jj:List mf):fZ id s (I++Jj)=fZ id (fZ id s I) Jj:=by simp[fZ]
theorem Sm.add_assoc(a b c:Sm):(a.add b).add c=a.add (b.add c):=by simp only[Sm.add,Int.add_assoc]
theorem Sm.IK(a b c:Sm):(a.add b).add c=(a.add c).add b:=by
 simp only[Sm.add,Sm.mk.injEq];omega
theorem Sm.VY(a:Sm):a.add pV=a:=by simp[Sm.add,pV]
theorem tz(id:Int)(t:Sm):∀ (I:List mf) (s:Sm),fZ id (s.add t) I=(fZ id s I).add t
 | [],s=>rfl
 | i::I,s=>by
  show fZ id (if i.1=id then(s.add t).add i.2 else s.add t) I=(fZ id (if i.1=id then s.add i.2 else s) I).add t
  by_cases h:i.1=id
  ·rw[aQ h,aQ h,Sm.IK,tz id t I]
  ·rw[aC h,aC h,tz id t I]
theorem xB(id:Int)(Jj:List mf):∀ (I:List mf) (s:Sm),fZ id (fZ id s I) Jj=fZ id (fZ id s Jj) I
 | [],s=>rfl
 | i::I,s=>by
  have e:∀ s:Sm,fZ id s (i::I)=fZ id (if i.1=id then s.add i.2 else s) I:=fun _=>rfl;rw[e,e,xB id Jj I]
  by_cases h:i.1=id
  ·rw[aQ h,aQ h,tz]
  ·rw[aC h,aC h]
theorem xC{α:Type}(id:Int)(F:α→List mf){a b:List α}(h:a.Perm b):∀ s,fZ id s (a.flatMap F)=fZ id s (b.flatMap F):=by
 induction h with
 | nil=>intro s;rfl
 | cons x _ ih=>intro s;simp only[dm,pL,ih]
 | swap x y l=>intro s;simp only[dm,pL];rw[xB id (F x) (F y) s]
 | trans _ _ h1 h2=>intro s;exact(h1 s).trans (h2 s)
def pos(d:Int):Int:=if 0<d then d else 0
theorem re{α:Type}{f g:α→Int}{K:List α}(h:∀ k∈K,g k≤f k):b8 g K≤b8 f K:=by
 induction K with
 | nil=>exact bY _
 | cons k K ih =>
  have h1:=h k (by simp);have h2:=ih fun y hy=>h y (by simp[hy]);simp only[b8,az,bB]at h2 ⊢;omega
theorem pt{α:Type}{f g:α→Int}{K:List α}(hK:K.Nodup)(k0:α){d:Int}(hd:0≤d)(h0:g k0≤f k0+d)(h:∀ k,k≠k0→g k≤f k):b8 g K≤b8 f K+d:=by
 induction K with
 | nil=>simpa[b8]using hd
 | cons k K ih =>
  simp only[cP]at hK
  by_cases e:k=k0
  ·subst e;have h1:b8 g K≤b8 f K:=re fun x hx=>h x (by rintro rfl;exact hK.1 hx);simp only[b8,az,bB]at h1 ⊢;omega
  ·have h1:=ih hK.2;have h2:=h k e;simp only[b8,az,bB]at h1 ⊢;omega
def ql(t:It):Option TK:=if(bM t).2 then some (cY (bM t).1)else none
def c5(k:TK):List It→Int
 | []=>0
 | x::l=>(if ql x=some k then 1 else 0)+c5 k l
def wK(k:TK):Int:=weight ⟨k.1,k.2,0⟩
theorem Dj(t:It):(bM t).1.aep=t.aep:=by unfold bM;split<;>rfl
theorem oF{a b:It}(h:a.aep=b.aep):weight a=weight b:=by unfold weight;rw[h]
theorem vf{x:It}{k:TK}(h:ql x=some k):k.1=x.aep∧jm k=b5 x∧wK k=weight x:=by
 unfold ql at h;split at h
 ·simp only[aa]at h;subst h;have e:(cY (bM x).1).1=x.aep:=Dj x;refine⟨e,?_,oF e⟩;unfold jm b5;rw[e]
 ·cases h
theorem xl{x:It}{k:TK}(h:ql x=some k):single x=if jm k then 1 else wK k:=by
 obtain⟨_,h2,h3⟩:=vf h;unfold single;rw[h2,h3]
def fF(a b:List It)(k:TK):Int:=if jm k then lG (c5 k a - c5 k b)else wK k*pos (c5 k a - c5 k b)
theorem Pb(k:TK):0≤wK k:=(lK _).1
theorem Cu{K:List TK}(hK:K.Nodup)(x:It)(a b:List It):b8 (fF (x::a) b) K≤b8 (fF a b) K+single x:=by
 cases hc:ql x with
 | none =>
  have h1:b8 (fF (x::a) b) K=b8 (fF a b) K:=cZ fun k _=>by simp[fF,c5,hc]
  have h2:=(dJ x).1;omega
 | some k0 =>
  refine pt hK k0 (dJ x).1 ?_ fun k hk=>?_
  ·rw[xl hc];simp only[fF,c5,hc,aR];split
   ·unfold lG;(repeat' split)<;>omega
   ·have h1:pos (1+c5 k0 a - c5 k0 b)≤pos (c5 k0 a - c5 k0 b)+1:=by unfold pos;(repeat' split)<;>omega
    have h2:=jk h1 (Pb k0);rw[gD,Int.mul_one]at h2;exact h2
  ·have h1:¬ k0=k:=fun e=>hk e.symm;simp[fF,c5,hc,h1]
theorem y7{K:List TK}{u:It}(hu:b5 u=false)(a b:List It):b8 (fF a (u::b)) K≤b8 (fF a b) K:=by
 refine re fun k _=>?_
 by_cases hc:ql u=some k
 ·have ht:jm k=false:=by rw[(vf hc).2.1];exact hu
  simp only[fF,c5,hc,aR,ht,aG,aO];refine jk ?_ (Pb k);unfold pos;(repeat' split)<;>omega
 ·simp[fF,c5,hc]
theorem Ko{K:List TK}(hK:K.Nodup)(u:It)(a b:List It):b8 (fF a (u::b)) K≤b8 (fF a b) K+single u:=by
 cases hu:b5 u with
 | false=>have:=y7 (K:=K) hu a b;have:=(dJ u).1;omega
 | true =>
  cases hc:ql u with
  | none =>
   have h1:b8 (fF a (u::b)) K=b8 (fF a b) K:=cZ fun k _=>by simp[fF,c5,hc]
   have h2:=(dJ u).1;omega
  | some k0 =>
   have ht:jm k0=true:=by rw[(vf hc).2.1];exact hu
   refine pt hK k0 (dJ u).1 ?_ fun k hk=>?_
   ·rw[xl hc];simp only[fF,c5,hc,aR,ht];unfold lG;(repeat' split)<;>omega
   ·have h1:¬ k0=k:=fun e=>hk e.symm;simp[fF,c5,hc,h1]
theorem DV{x u:It}(h:cY x=cY u):ql x=ql u:=by
 simp only[cY,ao]at h;obtain⟨h1,h2⟩:=h;unfold ql bM dE b5;rw[h1,h2]
theorem uh{x u:It}{p:Int}(hp:ei x u=some p)(hc:ql x≠ql u):p=single x∧b5 x=false∧b5 u=false:=by
 unfold ei at hp;split at hp
 ·rename_i h;exact absurd (DV ((oL x u).1 h)) hc
 split at hp
 ·cases hp
 rename_i hk;have hk:x.aep=u.aep:=by simpa using hk
 split at hp
 ·rename_i h6;have hx:b5 x=false:=by simp[b5,h6]
  have hu:b5 u=false:=by simp[b5,← hk,h6]
  split at hp
  ·rename_i he;refine absurd ?_ hc;have he:dE x=dE u:=by simpa using he
   have h6u:u.aep=6:=by rw[← hk];exact h6
   unfold ql bM;simp only[h6,h6u,IN,aR,he,cY]
  ·simp only[aa]at hp;exact⟨by rw[← hp];simp[single,hx],hx,hu⟩
 ·rename_i h6;split at hp
  ·rename_i h7;have hx:b5 x=false:=by unfold b5;rcases h7 with h | h | h | h<;>rw[h]<;>rfl
   have hu:b5 u=false:=by unfold b5;rw[← hk];rcases h7 with h | h | h | h<;>rw[h]<;>rfl
   simp only[aa]at hp;exact⟨by rw[← hp];simp[single,hx],hx,hu⟩
  ·cases hp
theorem HZ{K:List TK}(hK:K.Nodup){x u:It}{p:Int}(hp:ei x u=some p)(a b:List It):b8 (fF (x::a) (u::b)) K≤b8 (fF a b) K+p:=by
 by_cases hc:ql x=ql u
 ·have h1:b8 (fF (x::a) (u::b)) K=b8 (fF a b) K:=cZ fun k _=>by
   have e:c5 k (x::a) - c5 k (u::b)=c5 k a - c5 k b:=by simp only[c5,hc];omega
   simp only[fF,e]
  have h2:=(o7 hp).1;omega
 ·obtain⟨h1,_,h3⟩:=uh hp hc;have h4:=Cu hK x a (u::b);have h5:=y7 (K:=K) h3 a b;omega
theorem F8{K:List TK}(hK:K.Nodup){a b:List It}{c:Int}(h:Al a b c):b8 (fF a b) K≤c:=by
 induction h with
 | nil =>
  have:b8 (fF [] []) K≤b8 (fun _=>0) K:=re fun k _=>by simp[fF,c5,lG,pos]
  have e:b8 (fun _:TK=>(0:Int)) K=0:=by
   clear this hK
   induction K with
   | nil=>rfl
   | cons k K ih=>simp only[b8,az,bB]at ih ⊢;omega
  omega
 | del x h ih=>rename_i A B C;exact dw (Cu hK x A B) (by omega)
 | ins u h ih=>rename_i A B C;exact dw (Ko hK u A B) (by omega)
 | pair x u hp h ih=>rename_i A B C;exact dw (HZ hK hp A B) (by omega)
theorem E7{x u:It}{p:Int}(h:ei x u=some p):ei u x=some p:=by
 have hs:kI u x=kI x u:=by simp only[kI,V8 (a:=u.aep),V8 (a:=u.aer)]
 unfold ei at h ⊢;rw[hs];split at h
 ·rename_i h1;rw[aQ h1];exact h
 rename_i h1;rw[aC h1];split at h
 ·cases h
 rename_i h2;have h2:x.aep=u.aep:=by simpa using h2
 rw[aC (by simp[h2]),← h2,oF (a:=u) (b:=x) h2.symm];have hk:(dE u==dE x)=(dE x==dE u):=V8;rw[hk];exact h
theorem Al.symm{a b:List It}{c:Int}(h:Al a b c):Al b a c:=by
 induction h with
 | nil=>exact .nil
 | del x h ih=>exact .ins x ih
 | ins u h ih=>exact .del u ih
 | pair x u hp h ih=>exact .pair u x (E7 hp) ih
def gZ(g:GK)(last:List UInt8):List (List UInt8)→Int
 | []=>if(last,([]:List UInt8))=g then 1 else 0
 | w::r=>(if(last,w)=g then 1 else 0)+gZ g w r
def iy(la:List UInt8)(wa:List (List UInt8))(lb:List UInt8)(wb:List (List UInt8))(g:GK):Int:=pos (gZ g la wa - gZ g lb wb)
theorem mS{α:Type}(K:List α):b8 (fun _=>0) K=0:=by
 induction K with
 | nil=>rfl
 | cons k K ih=>simp only[b8,az,bB]at ih ⊢;omega
section
variable {K:List GK} (hK:K.Nodup)
include hK
theorem H0(la lb:List UInt8):b8 (iy la [] lb []) K≤if la=lb then 0 else 1:=by
 split
 ·rename_i h;subst h;have:b8 (iy la [] la []) K=b8 (fun _=>0) K:=cZ fun k _=>by simp[iy,pos]
  rw[this,mS];exact bY _
 ·have:=pt (f:=fun _=>0) (g:=iy la [] lb []) hK (la,[]) (d:=1) (by decide) (by simp only[iy,gZ,pos];(repeat' split)<;>omega)
   (fun k hk=>by simp only[iy,gZ,pos,aC (fun e=>hk e.symm:¬ (la,([]:List UInt8))=k)];(repeat' split)<;>omega)
  rw[mS]at this;omega
theorem s3(la w:List UInt8)(ra:List (List UInt8))(lb:List UInt8)(wb:List (List UInt8)):b8 (iy la (w::ra) lb wb) K≤b8 (iy w ra lb wb) K+1 :=
 pt hK (la,w) (by decide) (by simp only[iy,gZ,pos];(repeat' split)<;>omega)
  (fun k hk=>by simp only[iy,gZ,pos,aC (fun e=>hk e.symm:¬ (la,w)=k)];(repeat' split)<;>omega)
omit hK in
theorem sZ(la:List UInt8)(wa:List (List UInt8))(lb v:List UInt8)(rb:List (List UInt8)):b8 (iy la wa lb (v::rb)) K≤b8 (iy la wa v rb) K :=
 re fun k _=>by simp only[iy,gZ,pos];(repeat' split)<;>omega
omit hK in
theorem Es(l w:List UInt8)(ra rb:List (List UInt8)):b8 (iy l (w::ra) l (w::rb)) K=b8 (iy w ra w rb) K :=
 cZ fun k _=>by
  have e:gZ k l (w::ra) - gZ k l (w::rb)=gZ k w ra - gZ k w rb:=by simp only[gZ];omega
  simp only[iy,e]
omit hK in
theorem gf(x:It)(l:List It):aI (x::l)=if x.aep=6 then dE x::aI l else aI l:=by
 unfold aI
 by_cases h:x.aep=6
 ·simp[h]
 ·simp[h]
theorem Cw{a b:List It}{c:Int}(h:Al a b c):∃ k:Int,0≤k∧4*k≤c∧∀ la lb,b8 (iy la (aI a) lb (aI b)) K≤2*k+if la=lb then 0 else 1:=by
 induction h with
 | nil=>exact⟨0,by decide,by decide,fun la lb=>by have:=H0 hK la lb;simpa[aI]using this⟩
 | del x h ih =>
  rename_i A B C;obtain⟨k,h1,h2,h3⟩:=ih;have hs:=dJ x
  by_cases hx:x.aep=6
  ·have e:single x=4:=by simp[single,b5,weight,hx]
   refine⟨k+1,by omega,by omega,fun la lb=>?_⟩;rw[gf,aQ hx];have h4:=dw (s3 hK la (dE x) (aI A) lb (aI B)) (Bj (h3 (dE x) lb) 1);refine dw h4 ?_
   (repeat' split)<;>omega
  ·refine⟨k,h1,by omega,fun la lb=>?_⟩;rw[gf,aC hx];exact h3 la lb
 | ins u h ih =>
  rename_i A B C;obtain⟨k,h1,h2,h3⟩:=ih;have hs:=dJ u
  by_cases hu:u.aep=6
  ·have e:single u=4:=by simp[single,b5,weight,hu]
   refine⟨k+1,by omega,by omega,fun la lb=>?_⟩;rw[gf,aQ hu];refine dw (sZ la (aI A) lb (dE u) (aI B)) (dw (h3 la (dE u)) ?_)
   (repeat' split)<;>omega
  ·refine⟨k,h1,by omega,fun la lb=>?_⟩;rw[gf,aC hu];exact h3 la lb
 | pair x u hp h ih =>
  rename_i A B C;obtain⟨k,h1,h2,h3⟩:=ih;have Bo:=(o7 hp).1
  have PA:x.aep=u.aep:=by
   unfold ei at hp;split at hp
   ·rename_i h;simp only[kI,aP,bN]at h;exact h.1
   split at hp
   ·cases hp
   ·rename_i h;simpa using h
  by_cases hx:x.aep=6
  ·have hu:u.aep=6:=by rw[← PA];exact hx
   by_cases hw:dE x=dE u
   ·refine⟨k,h1,by omega,fun la lb=>?_⟩;rw[gf,gf,aQ hx,aQ hu,← hw];have h5:=h3 (dE x) (dE x);rw[aQ rfl]at h5
    by_cases hl:la=lb
    ·subst hl;rw[Es,aQ rfl];exact h5
    ·rw[aC hl];have h4:=dw (s3 hK la (dE x) (aI A) lb (dE x::aI B)) (Bj (sZ (K:=K) (dE x) (aI A) lb (dE x) (aI B)) 1);exact dw h4 (by omega)
   ·have hc:ql x≠ql u:=by
     unfold ql bM;simp only[hx,hu,IN,aR,cY,gC,aa,ao,jD];exact hw
    have U2:=(uh hp hc).1;have e:single x=4:=by simp[single,b5,weight,hx]
    refine⟨k+1,by omega,by omega,fun la lb=>?_⟩;rw[gf,gf,aQ hx,aQ hu];have h4:=dw (s3 hK la (dE x) (aI A) lb (dE u::aI B)) (Bj (dw (sZ (K:=K) (dE x) (aI A) lb (dE u) (aI B)) (h3 (dE x) (dE u))) 1);refine dw h4 ?_
    (repeat' split)<;>omega
  ·have hu:¬ u.aep=6:=by rw[← PA];exact hx
   refine⟨k,h1,by omega,fun la lb=>?_⟩;rw[gf,gf,aC hx,aC hu];exact h3 la lb
end
theorem jF{α:Type}(f g:α→Int)(K:List α):b8 (fun k=>f k+g k) K=b8 f K+b8 g K:=by
 induction K with
 | nil=>rfl
 | cons k K ih=>simp only[b8,az,bB]at ih ⊢;omega
theorem mT{α:Type}(f:α→Int){K L:List α}(hK:K.Nodup)(hL:L.Nodup)(h:∀ k,f k≠0→k∈K∧k∈L):b8 f K=b8 f L:=by
 have key:∀ M:List α,b8 f M=b8 f (M.filter fun k=>f k != 0):=fun M=>by
  induction M with
  | nil=>rfl
  | cons k M ih =>
   simp only[b8,az,bB,dz]at ih ⊢
   by_cases h0:f k=0
   ·simp only[h0,iv,aG,aO];omega
   ·have:(f k != 0)=true:=by simpa using h0
    rw[aQ this];simp only[az,bB];omega
 rw[key K,key L];refine sB f ((qQ (hK.filter _) (hL.filter _)).2 fun k=>?_);simp only[cc,kC,gC];exact⟨fun⟨_,h2⟩=>⟨(h k h2).2,h2⟩,fun⟨_,h2⟩=>⟨(h k h2).1,h2⟩⟩
theorem kq(k:GK):∀ (ws:List (List UInt8)) (C:List (GK×Int)) (last:List UInt8),(bo k (dn C last ws)).getD 0=(bo k C).getD 0+gZ k last ws
 | [],C,last=>by
  simp only[dn,gZ,nk]
  by_cases h:k=(last,[])<;>simp[h,eq_comm]
 | w::r,C,last=>by
  simp only[dn,gZ];rw[kq k r,nk]
  by_cases h:k=(last,w)
  ·simp[h];omega
  ·rw[aC h,aC (fun e=>h e.symm)];omega
theorem vg(k:TK):∀ (l:List It) (C:List (TK×Int)),(bo k (gV C l)).getD 0=(bo k C).getD 0+c5 k l
 | [],C=>by simp[gV,c5]
 | t::r,C=>by
  simp only[gV,c5];rw[vg k r];unfold ql
  by_cases h:(bM t).2=true
  ·rw[aQ h,aQ h,nk]
   by_cases h2:k=cY (bM t).1
   ·subst h2;simp;omega
   ·rw[aC h2,aC (by simpa using fun e=>h2 e.symm)];omega
  ·rw[aC h,aC h];simp
theorem nR(k:GK):∀ (ws:List (List UInt8)) (last:List UInt8),0≤gZ k last ws
 | [],last=>by simp only[gZ];split<;>omega
 | w::r,last=>by have:=nR k r w;simp only[gZ];split<;>omega
theorem mJ(k:TK)(l:List It):0≤c5 k l:=by
 induction l with
 | nil=>exact bY _
 | cons x l ih=>simp only[c5];split<;>omega
theorem Dh(k:TK)(l m:List It):c5 k (l++m)=c5 k l+c5 k m:=by
 induction l with
 | nil=>simp[c5]
 | cons x l ih=>simp only[bq,c5,ih];omega
def Rt(ws:List (List UInt8)):List GK:=(dn [] [] ws).map (·.1)
def PO(l:List It):List TK:=(gV [] l).map (·.1)
theorem tj(ws:List (List UInt8)):(Rt ws).Nodup:=(fS ws [] [] 0 CN.nil).2.1
theorem tn(l:List It):(PO l).Nodup:=(qF l [] 0 CN.nil).2.1
theorem mB{α:Type}[DecidableEq α]{C:List (α×Int)}{k:α}(h:(bo k C).getD 0≠0):k∈C.map (·.1):=by
 induction C with
 | nil=>simp[bo,db]at h
 | cons p C ih =>
  rw[fT]at h
  by_cases e:k=p.1
  ·subst e;simp
  ·rw[aC e]at h;exact di _ (ih h)
theorem Gt{k:GK}{ws:List (List UInt8)}(h:gZ k [] ws≠0):k∈Rt ws:=mB (by rw[kq];simpa[bo,db]using h)
theorem Bb{k:TK}{l:List It}(h:c5 k l≠0):k∈PO l:=mB (by rw[vg];simpa[bo,db]using h)
theorem ER{ws:List (List UInt8)}{g:Gr}(h:g∈dn [] [] ws):g.2=gZ g.1 [] ws:=by
 have h1:=jy (tj ws) h;have h2:=kq g.1 ws [] [];rw[h1]at h2;simpa[bo,db]using h2
theorem A7{l:List It}{p:TK×Int}(h:p∈gV [] l):p.2=c5 p.1 l:=by
 have h1:=jy (tn l) h;have h2:=vg p.1 l [];rw[h1]at h2;simpa[bo,db]using h2
theorem zX:∀ (gs:List Gr) (n:Int),zY n gs=n+(gs.map (·.2)).sum
 | [],n=>by simp[zY]
 | g::gs,n=>by
  have:=zX gs (n+g.2);simp only[zY,eS,az,bB]at this ⊢;rw[this];omega
theorem BL{l l':List Int}(h:l.Perm l'):l.sum=l'.sum:=by
 have:=sB (fun x:Int=>x) h;simpa[b8]using this
theorem yV(ws:List (List UInt8)){K:List GK}(hK:K.Nodup)(hm:∀ k,gZ k [] ws≠0→k∈K):zY 0 (bK ws)=b8 (fun k=>gZ k [] ws) K:=by
 rw[zX,dU,BL ((fc ws).map (·.2))]
 have e:(dn [] [] ws).map (·.2)=(Rt ws).map fun k=>gZ k [] ws:=by
  unfold Rt;rw[gB];exact cD fun g hg=>ER hg
 rw[e];exact mT _ (tj ws) hK fun k h=>⟨Gt h,hm k h⟩
theorem vE(h:TK→Int){K:List TK}(hK:K.Nodup):∀ (l:List It),(∀ x∈l,∀ k,ql x=some k→k∈K)→b8 (fun k=>h k*c5 k l) K=(l.map fun x=>match ql x with | some k=>h k | none=>0).sum
 | [],_=>by
  have:b8 (fun k=>h k*c5 k []) K=b8 (fun _=>0) K:=cZ fun k _=>by simp[c5]
  rw[this,mS];rfl
 | x::l,hm=>by
  have ih:=vE h hK l fun y hy=>hm y (by simp[hy]);simp only[az,bB];rw[← ih];cases hc:ql x with
  | none =>
   simp only[c5,hc];rw[dU];exact cZ fun k _=>by simp
  | some k0 =>
   have Ij:=hm x (by simp) k0 hc
   have e:b8 (fun k=>h k*c5 k (x::l)) K=b8 (fun k=>(if k0=k then h k else 0)+h k*c5 k l) K:=cZ fun k _=>by
    simp only[c5,hc,aa];split
    ·rw[gD,Int.mul_one]
    ·rw[dU,dU]
   rw[e,jF];congr 1;clear e ih hm
   induction K with
   | nil=>simp at Ij
   | cons k K ih =>
    simp only[cP]at hK;simp only[b8,az,bB]
    by_cases e:k0=k
    ·subst e
     have:b8 (fun k=>if k0=k then h k else 0) K=b8 (fun _=>0) K:=cZ fun k hk=>by
      rw[aC];rintro rfl;exact hK.1 hk
     rw[mS]at this;simp only[b8]at this;simp[this]
    ·have:=ih hK.2 (by rcases bn.1 Ij with rfl | h;exact absurd rfl e;exact h);simp only[b8]at this;simp[this,e]
def hW(k:TK):Int:=if jm k then 0 else wK k
def hT(k:TK):Int:=if jm k then 1 else 0
theorem LL(t:It)(h:(bM t).2=true):ql t=some (cY (bM t).1):=by unfold ql;rw[aQ h]
theorem LK(t:It)(h:¬ (bM t).2=true):ql t=none:=by unfold ql;rw[aC h]
theorem Fq:∀ (l:List It) (n:Int),yv n l=n+(l.map fun x=>match ql x with | some k=>hW k | none=>0).sum
 | [],n=>by simp[yv]
 | t::r,n=>by
  have ih:=Fq r;simp only[yv,az,bB];rw[ih]
  by_cases h:(bM t).2=true
  ·rw[LL t h];have e:jm (cY (bM t).1)=b5 (bM t).1:=rfl;have e2:wK (cY (bM t).1)=weight (bM t).1:=oF rfl;simp only[h,ed,hW,e,e2];cases b5 (bM t).1<;>simp<;>omega
  ·rw[LK t h];simp only[h,gU,aG,aO];omega
theorem Fx:∀ (l:List It) (n:Int),yB n l=n+(l.map fun x=>match ql x with | some k=>hT k | none=>0).sum
 | [],n=>by simp[yB]
 | t::r,n=>by
  have ih:=Fx r;simp only[yB,az,bB];rw[ih]
  by_cases h:(bM t).2=true
  ·rw[LL t h];have e:jm (cY (bM t).1)=b5 (bM t).1:=rfl;simp only[h,ed,hT,e];cases b5 (bM t).1<;>simp<;>omega
  ·rw[LK t h];simp only[h,gU,aG,aO];omega
theorem GC{x:It}{l:List It}(hx:x∈l){k:TK}(hk:ql x=some k):c5 k l≠0:=by
 induction l with
 | nil=>simp at hx
 | cons y l ih =>
  have:=mJ k l;simp only[c5];rcases bn.1 hx with rfl | h
  ·rw[aQ hk];omega
  ·have:=ih h;split<;>omega
theorem Fs{l:List It}{K:List TK}(hK:K.Nodup)(hm:∀ k,c5 k l≠0→k∈K):yv 0 l=b8 (fun k=>hW k*c5 k l) K:=by
 rw[Fq,dU,vE hW hK l fun x hx k hk=>hm k (GC hx hk)]
theorem Fy{l:List It}{K:List TK}(hK:K.Nodup)(hm:∀ k,c5 k l≠0→k∈K):yB 0 l=b8 (fun k=>hT k*c5 k l) K:=by
 rw[Fx,dU,vE hT hK l fun x hx k hk=>hm k (GC hx hk)]
theorem Dx{β:Type}(id:Int):∀ (L:List (Int×β)) (F:Int×β→Option Sm) (s:Sm),(∀ e∈L,e.1≠id)→fZ id s (L.filterMap fun e=>(F e).map fun t=>(e.1,t))=s
 | [],F,s,_=>rfl
 | e::L,F,s,h=>by
  have h1:=h e (by simp);have ih:=Dx id L F s fun x hx=>h x (by simp[hx]);rw[lp];cases F e with
  | none=>exact ih
  | some t =>
   show fZ id (if e.1=id then s.add t else s) _=s;rw[aC h1];exact ih
theorem xD{β:Type}:∀ (L:List (Int×β)) (F:Int×β→Option Sm),(L.map (·.1)).Nodup→∀ {e:Int×β},e∈L→∀ s:Sm,fZ e.1 s (L.filterMap fun e=>(F e).map fun t=>(e.1,t))=s.add ((F e).getD pV)
 | [],F,_,e,he,s=>by simp at he
 | x::L,F,hn,e,he,s=>by
  simp only[az,cP]at hn;rw[lp];rcases bn.1 he with rfl | he
  ·have zh:∀ s,fZ e.1 s (L.filterMap fun e=>(F e).map fun t=>(e.1,t))=s:=fun s=>Dx e.1 L F s fun y hy h=>hn.1 (h▸aT.2 ⟨y,hy,rfl⟩);cases hF:F e with
   | none=>simp only[xQ,uN,Sm.VY];exact zh s
   | some t =>
    show fZ e.1 (if e.1=e.1 then s.add t else s) _=_;rw[aQ rfl,zh];rfl
  ·have gr:x.1≠e.1:=fun h=>hn.1 (h▸aT.2 ⟨e,he,rfl⟩);have ih:=xD L F hn.2 he s;cases hF:F x with
   | none=>exact ih
   | some t =>
    show fZ e.1 (if x.1=e.1 then s.add t else s) _=_;rw[aC gr];exact ih
theorem F1{n:Int}(h:0≤n):mn 0 n=0:=by unfold mn;split<;>omega
abbrev I8:=Int×(List It×Nat)
def B5(L:List I8)(k:GK):List (Int×Int):=L.filterMap fun e=>(bo k (dn [] [] (aI e.2.1))).map fun c=>(e.1,c)
def B6(L:List I8)(k:TK):List (Int×Int):=L.filterMap fun e=>(bo k (gV [] e.2.1)).map fun c=>(e.1,c)
theorem NJ{L:List I8}(hn:(L.map (·.1)).Nodup){e:I8}(he:e∈L)(k:GK){c:Int}(hc:0≤c)(s:Sm):fZ e.1 s (iu c (B5 L k))=s.add ⟨mn (gZ k [] (aI e.2.1)) c,0,0⟩:=by
 have h:=xD L (fun e=>(bo k (dn [] [] (aI e.2.1))).map fun v=>(⟨mn v c,0,0⟩:Sm)) hn he s
 have e1:iu c (B5 L k)=L.filterMap fun e=>((bo k (dn [] [] (aI e.2.1))).map fun v=>(⟨mn v c,0,0⟩:Sm)).map fun t=>(e.1,t):=by
  unfold iu B5;rw[List.map_filterMap];congr 1;funext e;cases bo k (dn [] [] (aI e.2.1))<;>rfl
 rw[e1,h];congr 1;have h2:=kq k (aI e.2.1) [] [];cases hg:bo k (dn [] [] (aI e.2.1))with
 | none=>rw[hg]at h2;simp[bo,db]at h2;rw[← h2];simp[pV,F1 hc]
 | some v=>rw[hg]at h2;simp[bo,db]at h2;rw[← h2];rfl
def rI(k:TK)(m:Int):Sm:=if jm k then⟨0,0,m⟩else⟨0,m*wK k,0⟩
theorem NH{L:List I8}(hn:(L.map (·.1)).Nodup){e:I8}(he:e∈L)(k:TK){c:Int}(hc:0≤c)(s:Sm):fZ e.1 s (lC k c (B6 L k))=s.add (rI k (mn (c5 k e.2.1) c)):=by
 have h:=xD L (fun e=>(bo k (gV [] e.2.1)).map fun v=>rI k (mn v c)) hn he s
 have e1:lC k c (B6 L k)=L.filterMap fun e=>((bo k (gV [] e.2.1)).map fun v=>rI k (mn v c)).map fun t=>(e.1,t):=by
  unfold lC B6;rw[List.map_filterMap];congr 1;funext e;cases bo k (gV [] e.2.1)<;>rfl
 rw[e1,h];congr 1;have h2:=vg k e.2.1 [];cases hg:bo k (gV [] e.2.1)with
 | none=>rw[hg]at h2;simp[bo,db]at h2;rw[← h2];simp[pV,rI,F1 hc]
 | some v=>rw[hg]at h2;simp[bo,db]at h2;rw[← h2];rfl
theorem Gc{L:List I8}(hn:(L.map (·.1)).Nodup){e:I8}(he:e∈L):∀ (gs:List Gr),(∀ g∈gs,0≤g.2)→∀ s:Sm,fZ e.1 s (gs.flatMap fun g=>iu g.2 (B5 L g.1))=s.add ⟨(gs.map fun g=>mn (gZ g.1 [] (aI e.2.1)) g.2).sum,0,0⟩
 | [],_,s=>by simp[fZ,Sm.add]
 | g::gs,h,s=>by
  rw[dm,pL,NJ hn he g.1 (h g (by simp)),Gc hn he gs (fun x hx=>h x (by simp[hx])),Sm.add_assoc];simp only[Sm.add,az,bB,IU]
theorem Gd{L:List I8}(hn:(L.map (·.1)).Nodup){e:I8}(he:e∈L):∀ (D:List (TK×Int)),(∀ p∈D,0≤p.2)→∀ s:Sm,fZ e.1 s (D.flatMap fun p=>lC p.1 p.2 (B6 L p.1)) =
   s.add ⟨0,(D.map fun p=>hW p.1*mn (c5 p.1 e.2.1) p.2).sum,(D.map fun p=>hT p.1*mn (c5 p.1 e.2.1) p.2).sum⟩
 | [],_,s=>by simp[fZ,Sm.add]
 | p::D,h,s=>by
  rw[dm,pL,NH hn he p.1 (h p (by simp)),Gd hn he D (fun x hx=>h x (by simp[hx])),Sm.add_assoc];simp only[Sm.add,az,bB,rI,hW,hT];split<;>simp[Int.mul_comm]
def oB(q s:List It):Sm :=
 ⟨b8 (fun k=>mn (gZ k [] (aI s)) (gZ k [] (aI q))) (Rt (aI q)),b8 (fun k=>hW k*mn (c5 k s) (c5 k q)) (PO q),b8 (fun k=>hT k*mn (c5 k s) (c5 k q)) (PO q)⟩
theorem R0{L:List I8}(hn:(L.map (·.1)).Nodup){e:I8}(he:e∈L)(q:List It){D:List (TK×Int)}(hD:D.Perm (gV [] q)):
  (bo e.1 (cI (cI [] ((bK (aI q)).flatMap fun g=>iu g.2 (B5 L g.1))) (D.flatMap fun p=>lC p.1 p.2 (B6 L p.1)))).getD pV=oB q e.2.1:=by
 rw[qA,qA];have e0:(bo e.1 ([]:List mf)).getD pV=pV:=rfl;rw[e0,xC e.1 _ (fc _),xC e.1 _ hD];have hg:∀ g∈dn [] [] (aI q),0≤g.2:=fun g h=>by rw[ER h];exact nR _ _ _
 have hc:∀ p∈gV [] q,0≤p.2:=fun p h=>by rw[A7 h];exact mJ _ _
 rw[Gc hn he _ hg,Gd hn he _ hc]
 have e1:(dn [] [] (aI q)).map (fun g=>mn (gZ g.1 [] (aI e.2.1)) g.2)=(Rt (aI q)).map fun k=>mn (gZ k [] (aI e.2.1)) (gZ k [] (aI q)):=by
  unfold Rt;rw[gB];exact cD fun g hg=>by rw[ER hg];rfl
 have e2:∀ h:TK→Int,(gV [] q).map (fun p=>h p.1*mn (c5 p.1 e.2.1) p.2)=(PO q).map fun k=>h k*mn (c5 k e.2.1) (c5 k q):=fun h=>by
  unfold PO;rw[gB];exact cD fun p hp=>by rw[A7 hp];rfl
 rw[e1,e2,e2];simp[oB,Sm.add,pV,b8]
def x8(q s:List It)(k:TK):Int:=hW k*pos (c5 k q - c5 k s)
def np(q s:List It)(k:TK):Int:=hT k*lG (c5 k q - c5 k s)
theorem tY(q s:List It)(k:TK):fF q s k=x8 q s k+np q s k:=by
 unfold fF x8 np hW hT;split<;>simp
theorem J2(a b:Int):b=mn a b+pos (b - a):=by unfold mn pos;(repeat' split)<;>omega
theorem F2(a b:Int):a=mn a b+pos (a - b):=by unfold mn pos;(repeat' split)<;>omega
theorem Qm(a b:Int):b+a=2*mn a b+lG (b - a):=by unfold mn lG;(repeat' split)<;>omega
theorem zC(a b:Int):lG (a - b)=lG (b - a):=by unfold lG;(repeat' split)<;>omega
theorem yZ{a:Int}(h:0≤a):mn a 0=0:=by unfold mn;split<;>omega
def lF(q s:List It):List TK:=PO (q++s)
theorem iD(q s:List It):(lF q s).Nodup:=tn _
theorem tx{q s:List It}{k:TK}(h:c5 k q≠0):k∈lF q s:=Bb (by rw[Dh];have:=mJ k q;have:=mJ k s;omega)
theorem xz{q s:List It}{k:TK}(h:c5 k s≠0):k∈lF q s:=Bb (by rw[Dh];have:=mJ k q;have:=mJ k s;omega)
theorem A4(h:TK→Int)(q s:List It):b8 (fun k=>h k*mn (c5 k s) (c5 k q)) (PO q)=b8 (fun k=>h k*mn (c5 k s) (c5 k q)) (lF q s) :=
 mT _ (tn q) (iD q s) fun k hk=>by
  have h0:c5 k q≠0:=fun e=>hk (by simp only[e];rw[yZ (mJ k s),Int.mul_zero]);exact⟨Bb h0,tx h0⟩
theorem Jj(q s:List It):yv 0 q=(oB q s).weight+b8 (x8 q s) (lF q s):=by
 rw[Fs (iD q s) fun k h=>tx h];simp only[oB];rw[A4,← jF];refine cZ fun k _=>?_;simp only[x8];rw[← Int.mul_add,← J2]
theorem Ji(q s:List It):yv 0 s=(oB q s).weight+b8 (x8 s q) (lF q s):=by
 rw[Fs (iD q s) fun k h=>xz h];simp only[oB];rw[A4,← jF];refine cZ fun k _=>?_;simp only[x8];rw[← Int.mul_add,← F2]
theorem Jr{α:Type}(c:Int)(f:α→Int)(K:List α):b8 (fun k=>c*f k) K=c*b8 f K:=by
 induction K with
 | nil=>simp[b8]
 | cons k K ih=>simp only[b8,az,bB]at ih ⊢;rw[ih,gD]
theorem MF(q s:List It):yB 0 q+yB 0 s=2*(oB q s).tags+b8 (np q s) (lF q s):=by
 rw[Fy (iD q s) fun k h=>tx h,Fy (iD q s) fun k h=>xz h];simp only[oB];rw[A4,← jF,← Jr,← jF];refine cZ fun k _=>?_;simp only[np];have h:=Qm (c5 k s) (c5 k q);have e:hT k*c5 k q+hT k*c5 k s=hT k*(c5 k q+c5 k s):=(gD ..).symm;rw[e,h,gD,Int.mul_left_comm]
theorem vd{k:TK}(hk:jm k=true)(l:List It):fA k l=c5 k l:=by
 induction l with
 | nil=>rfl
 | cons x l ih =>
  simp only[fA,c5,ih];congr 1
  have e:cY x=k↔ql x=some k:=by
   constructor
   ·rintro rfl;have ht:b5 x=true:=hk
    have hc:bM x=(⟨x.aep,x.aer,0⟩,b5 x):=by
     unfold bM;rw[aC];simp only[b5,da,bN]at ht;omega
    unfold ql;rw[hc];simp only[ht,aR];rfl
   ·intro h;have h1:=vf h;have ht:b5 x=true:=by rw[← h1.2.1];exact hk
    have hc:bM x=(⟨x.aep,x.aer,0⟩,b5 x):=by
     unfold bM;rw[aC];simp only[b5,da,bN]at ht;omega
    unfold ql at h;rw[hc]at h;simp only[ht,aR,aa]at h;exact h
  by_cases h:cY x=k
  ·rw[aQ h,aQ (e.1 h)]
  ·rw[aC h,aC (fun h2=>h (e.2 h2))]
theorem vB(q s:List It):sA q s=b8 (np q s) (lF q s):=by
 rw[yE]
 have lM:(DM [] q++DN q [] s).Nodup:=by
  rw[fu];refine⟨sR _ _,sS _ _ _,fun x hx y hy=>?_⟩;rintro rfl;exact((mC _ _ _).1 hx).2.2 ((lA _ _ _ _).1 hy).2.2.1
 have e:b8 (fun k=>lG (fA k q - fA k s)) (DM [] q++DN q [] s)=b8 (np q s) (DM [] q++DN q [] s):=cZ fun k hk=>by
  have ht:jm k=true:=by
   rcases bQ.1 hk with h | h
   ·exact((mC _ _ _).1 h).1
   ·exact((lA _ _ _ _).1 h).1
  simp only[np,hT,ht,aR,Int.one_mul,vd ht]
 rw[e];refine mT _ lM (iD q s) fun k hk=>?_
 have ht:jm k=true:=by
  cases h:jm k with
  | true=>rfl
  | false=>exact absurd (by simp[np,hT,h]) hk
 by_cases h1:c5 k q=0
 ·have h2:c5 k s≠0:=fun h2=>hk (by simp[np,h1,h2,lG]);refine⟨List.mem_append_right _ ((lA _ _ _ _).2 ⟨ht,rfl,?_,?_⟩),xz h2⟩
  ·rw[vd ht];exact h1
  ·rw[vd ht];exact h2
 ·exact⟨List.mem_append_left _ ((mC _ _ _).2 ⟨ht,rfl,by rw[vd ht];exact h1⟩),tx h1⟩
def Bc(a b:List (List UInt8)):List GK:=(dn (dn [] [] a) [] b).map (·.1)
theorem ma(a b:List (List UInt8)):(Bc a b).Nodup:=(fS b _ [] _ (fS a [] [] 0 CN.nil)).2.1
theorem Dv(a b:List (List UInt8))(k:GK):(bo k (dn (dn [] [] a) [] b)).getD 0=gZ k [] a+gZ k [] b:=by
 rw[kq,kq];simp[bo,db]
theorem L3{a b:List (List UInt8)}{k:GK}(h:gZ k [] a≠0):k∈Bc a b:=mB (by rw[Dv];have:=nR k a [];have:=nR k b [];omega)
theorem R8{a b:List (List UInt8)}{k:GK}(h:gZ k [] b≠0):k∈Bc a b:=mB (by rw[Dv];have:=nR k a [];have:=nR k b [];omega)
theorem VW(q s:List It):(oB q s).dH=b8 (fun k=>mn (gZ k [] (aI s)) (gZ k [] (aI q))) (Bc (aI q) (aI s)) :=
 mT _ (tj _) (ma _ _) fun k hk=>by
  have h0:gZ k [] (aI q)≠0:=fun e=>hk (by simp only[e];rw[yZ (nR k _ _)]);exact⟨Gt h0,L3 h0⟩
theorem MT(q s:List It):zY 0 (bK (aI q))=(oB q s).dH+b8 (iy [] (aI q) [] (aI s)) (Bc (aI q) (aI s)):=by
 rw[yV _ (ma (aI q) (aI s)) fun k h=>L3 h,VW,← jF];exact cZ fun k _=>J2 _ _
theorem MS(q s:List It):zY 0 (bK (aI s))=(oB q s).dH+b8 (iy [] (aI s) [] (aI q)) (Bc (aI q) (aI s)):=by
 rw[yV _ (ma (aI q) (aI s)) fun k h=>R8 h,VW,← jF];exact cZ fun k _=>F2 _ _
theorem LU(q s:List It):pe (gp q) (gp s) (oB q s)≤ib s q:=by
 have hA:=pW s q;have hK:=iD q s;have h1:=F8 hK hA.symm;have h2:=F8 hK hA
 have e1:b8 (fF q s) (lF q s)=b8 (x8 q s) (lF q s)+b8 (np q s) (lF q s):=by
  rw[← jF];exact cZ fun k _=>tY q s k
 have e2:b8 (fF s q) (lF q s)=b8 (x8 s q) (lF q s)+b8 (np q s) (lF q s):=by
  rw[← jF];refine cZ fun k _=>?_;rw[tY s q k];simp only[np,zC (c5 k s)]
 have e3:sA s q=b8 (np q s) (lF q s):=by
  have h:sA s q=sA q s:=by
   have a:=qp s q
   have hh:b8 (np s q) (lF s q)=b8 (np q s) (lF q s):=by
    have:b8 (np s q) (lF s q)=b8 (np q s) (lF s q):=cZ fun k _=>by simp only[np,zC (c5 k s)]
    rw[this];refine mT _ (iD s q) hK fun k hk=>?_
    by_cases h1:c5 k q=0
    ·have h2:c5 k s≠0:=fun h2=>hk (by simp[np,h1,h2,lG]);exact⟨tx h2,xz h2⟩
    ·exact⟨xz h1,tx h1⟩
   rw[vB,vB,hh]
  rw[h,vB]
 obtain⟨k1,_,g1,g2⟩:=Cw (ma (aI q) (aI s)) hA.symm;obtain⟨k2,_,g3,g4⟩:=Cw (ma (aI q) (aI s)) hA;have g2:=g2 [] [];have g4:=g4 [] [];rw[aQ rfl]at g2 g4;have w1:=Jj q s;have w2:=Ji q s;have t1:=MF q s;have p1:=MT q s;have p2:=MS q s;have hs:=(FC s q).1;rw[Dc]
 have Mf:∀ f:GK→Int,(∀ k,0≤f k)→∀ K:List GK,0≤b8 f K:=fun f hf K=>by
  have:=re (f:=f) (g:=fun _=>0) (K:=K) fun k _=>hf k;rw[mS]at this;exact this
 have n1:=Mf (iy [] (aI q) [] (aI s)) (fun k=>by unfold iy pos;split<;>omega) (Bc (aI q) (aI s));generalize b8 (fF q s) (lF q s)=x1 at *;generalize b8 (fF s q) (lF q s)=x2 at *;generalize b8 (x8 q s) (lF q s)=y1 at *;generalize b8 (x8 s q) (lF q s)=y2 at *;generalize b8 (np q s) (lF q s)=z at *;generalize b8 (iy [] (aI q) [] (aI s)) (Bc (aI q) (aI s))=u1 at *;generalize b8 (iy [] (aI s) [] (aI q)) (Bc (aI q) (aI s))=u2 at *;simp only[pe,gp];generalize (oB q s).weight=cw at *;generalize (oB q s).tags=ct at *;generalize (oB q s).dH=cp at *;generalize tv s q=d at *;generalize sA s q=r at *
 have m1:mx (zY 0 (bK (aI q))) (zY 0 (bK (aI s))) - cp+1≤d.ediv 4*2+1∧0≤mx (zY 0 (bK (aI q))) (zY 0 (bK (aI s))) - cp+1:=by
  unfold mx;have:d.ediv 4=d / 4:=rfl;rw[this];split<;>omega
 rw[dA m1.2]
 have m2:(mx (zY 0 (bK (aI q))) (zY 0 (bK (aI s))) - cp+1) / 2≤d / 4:=by
  have:d.ediv 4=d / 4:=rfl;rw[this]at m1;omega
 generalize (mx (zY 0 (bK (aI q))) (zY 0 (bK (aI s))) - cp+1) / 2=m at *
 have m3:mx (yv 0 q) (yv 0 s) - cw+3*(yB 0 q+yB 0 s - 2*ct)≤d+2*r:=by
  unfold mx;split<;>omega
 unfold mx at m3 ⊢;split<;>omega
theorem M5(a b:Int):mx a b=mx b a:=by unfold mx;(repeat' split)<;>omega
theorem AD(q s:List It)(p:Int)(hp:1≤p∧p≤100)(h:p≤cS s q)(hq:q.length≤2^20)(hs:s.length≤2^20):pe (gp q) (gp s) (oB q s)≤jQ (mx (fV q) (fV s)) p:=by
 have hb:=LU q s;have hd:=Lx s q;have ht:=xt s q;have e:mx (fV q) (fV s)=iC s q:=M5 _ _;rw[e];generalize pe (gp q) (gp s) (oB q s)=B at *;unfold cS at h;generalize iC s q=T at *;generalize ib s q=d at *;unfold jQ;rw[aC (by omega)];split
 ·omega
 ·rename_i hc;have hT:1≤T:=by omega
  rw[aC (by omega)]at h;rw[aC (by omega:¬ (1073741824:Int)<T)];have h0:0≤mx (T - d) 0:=by unfold mx;split<;>omega
  rw[dA (by omega)]at h;rw[dA (qR (by omega) (by omega))]
  have h1:p*T≤100*mx (T - d) 0:=by
   have:=Int.mul_le_of_le_ediv (by omega:(0:Int)<T) h;exact this
  refine(Int.le_ediv_iff_mul_le (by decide)).2 ?_;have h2:1*T≤p*T:=oc hp.1 (by omega);have h3:mx (T - d) 0=T - d:=by unfold mx at h1 ⊢;split<;>simp_all<;>omega
  rw[h3]at h1;rw[Int.mul_sub,Int.mul_comm T p];omega
structure dP where
 id:Int
 key:List UInt8
 en:En
 cd:List It
def dP.aen(s:dP):List V:=[.i .i64 s.id,.s s.key,.sl 3 (s.en.aeq.map It.aen),.sl 3 (s.en.aex.map It.aen),.s s.en.bV,.s s.en.next,.s s.en.cC,.s s.en.bU,.i .i64 s.en.aey,.i .i64 s.en.aeA,.sl 3 (s.cd.map It.aen)]
def mW{α:Type}(p:α→Bool)(l:List α):Nat:=(l.takeWhile p).length
theorem FK{α:Type}(p:α→Bool)(l:List α):mW p l≤l.length:=List.Sublist.length_le (List.takeWhile_sublist _)
theorem pB{α:Type}{p:α→Bool}{l:List α}(h:l.Pairwise fun a b=>p b=true→p a=true):∀ (k:Nat) (y:α),l[k]?=some y→(p y=true↔k<mW p l):=by
 induction l with
 | nil=>intro k y h;simp at h
 | cons a l ih =>
  replace h:=gS.1 h
  intro k y hk
  by_cases ha:p a=true
  ·have e:mW p (a::l)=mW p l+1:=by simp[mW,pM,ha]
   cases k with
   | zero=>simp only[au,aa]at hk;subst hk;rw[e];simp[ha]
   | succ k =>
    have:=ih h.2 k y (by simpa using hk);rw[this,e];omega
  ·have e:mW p (a::l)=0:=by simp[mW,pM,ha]
   rw[e];refine⟨fun hy=>?_,fun h=>by omega⟩;cases k with
   | zero=>simp only[au,aa]at hk;subst hk;exact absurd hy ha
   | succ k=>exact absurd (h.1 y (aL (by simpa using hk)) hy) ha
theorem Cb{β:Type}{lt:β→β→Prop}[DecidableRel lt](irr:∀ x,¬ lt x x)(tr:∀ x y z,lt x y→lt y z→lt x z){l:List β}(h:l.Pairwise lt){t:β}:t∈l↔l[mW (fun x=>decide (lt x t)) l]?=some t:=by
 have hp:l.Pairwise fun a b=>decide (lt b t)=true→decide (lt a t)=true:=h.imp fun {a b} Mj hb=>by
  simp only[a8]at hb ⊢;exact tr _ _ _ Mj hb
 refine⟨fun hm=>?_,aL⟩;obtain⟨k,hk⟩:=cU.1 hm;have h1:=pB hp k t hk;have h1:¬ k<mW (fun x=>decide (lt x t)) l:=fun h=>irr t (by simpa using h1.2 h);have oE:=(ab.1 hk).1
 have e:mW (fun x=>decide (lt x t)) l=k:=by
  refine bc fun gr=>?_;have h2:l[mW (fun x=>decide (lt x t)) l]?=some l[mW (fun x=>decide (lt x t)) l]:=an (by omega);have h3:=pB hp _ _ h2;have h4:=sb.1 h _ k (by omega:mW (fun x=>decide (lt x t)) l<l.length) oE (by omega);have h5:l[k]=t:=by rw[an oE]at hk;simpa using hk
  rw[h5]at h4;have:=h3.1 (by simpa using h4);omega
 rw[e];exact hk
abbrev kg(M:List dP):Prop:=(M.map dP.key).Pairwise fun a b=>eB a b<0
def fG(M:List dP)(k:List UInt8):Nat:=mW (fun s=>decide (eB s.key k<0)) M
theorem AJ(M:List dP)(k:List UInt8):fG M k≤M.length:=FK _ _
theorem s4{M:List dP}(h:kg M)(k:List UInt8)(i:Nat)(x:dP)(hx:M[i]?=some x):eB x.key k<0↔i<fG M k:=by
 have hp:M.Pairwise fun a b=>decide (eB b.key k<0)=true→decide (eB a.key k<0)=true:=(sk.1 h).imp fun {a b} Mj hb=>by
  simp only[a8]at hb ⊢;exact kQ Mj hb
 have:=pB hp i x hx;simpa[fG]using this
theorem JU{α β:Type}(f:α→β)(p:β→Bool)(l:List α):mW p (l.map f)=mW (fun x=>p (f x)) l:=by
 induction l with
 | nil=>rfl
 | cons a l ih =>
  simp only[mW,az,pM]at ih ⊢;split
  ·simp[ih]
  ·rfl
theorem uY{M:List dP}(h:kg M)(k:List UInt8):k∈M.map dP.key↔∃ x,M[fG M k]?=some x∧x.key=k:=by
 have:=Cb (lt:=fun a b=>eB a b<0) (fun x hx=>by rw[jM.self]at hx;omega) (fun x y z=>kQ) h (t:=k);rw[this,JU,aW,ah];exact Bv
def rJ(l:List Int)(t:Int):Nat:=mW (fun x=>decide (x<t)) l
theorem Ib{l:List Int}(h:l.Pairwise fun a b=>a<b)(t:Int)(i:Nat)(x:Int)(hx:l[i]?=some x):x<t↔i<rJ l t:=by
 have hp:l.Pairwise fun a b=>decide (b<t)=true→decide (a<t)=true:=h.imp fun {a b} Mj hb=>by
  simp only[a8]at hb ⊢;omega
 have:=pB hp i x hx;simpa[rJ]using this
theorem NK{l:List Int}(h:l.Pairwise fun a b=>a<b)(t:Int):t∈l↔l[rJ l t]?=some t :=
 Cb (lt:=fun a b:Int=>a<b) (fun x hx=>by omega) (fun x y z h1 h2=>by omega) h
def fP(id:Int)(l:List (Int×Int)):List (Int×Int):=l.filter fun p=>!(p.1==id)
def iM{α β:Type}[DecidableEq α](C:List (α×β))(a:α):List (α×β):=C.filter fun p=>!decide (p.1=a)
theorem oX{α β:Type}[DecidableEq α](x a:α)(C:List (α×β)):bo x (iM C a)=if x=a then none else bo x C:=by
 induction C with
 | nil=>simp[iM,bo,db]
 | cons p C ih =>
  unfold iM at ih ⊢;rw[dz]
  by_cases e:p.1=a
  ·rw[aC (by simp[e]),ih,fT]
   by_cases h:x=a
   ·rw[aQ h,aQ h]
   ·rw[aC h,aC h,aC (fun h2=>h (h2.trans e))]
  ·rw[aQ (by simp[e]),fT,fT,ih]
   by_cases h:x=p.1
   ·rw[aQ h,aQ h,aC (fun h2=>e (h.symm.trans h2))]
   ·rw[aC h,aC h]
theorem rQ{α β:Type}[DecidableEq α]{kd:Nat}{ke:α→V}{ve:β→V}(hk:∀ a b,bI kd (ke a) (ke b)=some (decide (a=b)))(a:α):∀ (C:List (α×β)) (n:Nat),(C.map (·.1)).Nodup→∀ b,bo a C=some b →
  ∃ i,c4 kd (ke a) (emap ke ve C) n=some (some (n+i,ve b))∧(emap ke ve C).eraseIdx i=emap ke ve (iM C a)
 | [],n,_,b,h=>by simp[bo,db]at h
 | p::C,n,hn,b,h=>by
  have CS:=cP.1 hn;rw[fT]at h
  by_cases e:a=p.1
  ·rw[aQ e]at h;cases h;refine⟨0,by simp[emap,c4,hk,e],?_⟩
   have:iM (p::C) a=C:=by
    unfold iM;rw[iW (by simp[e]),iQ.2];intro q hq
    have:q.1≠a:=fun e2=>CS.1 (by
     have:=fx (f:=(·.1)) hq;rw[show q.1=p.1 from e2.trans e]at this;exact this)
    simp[this]
   rw[this];simp[emap]
  ·rw[aC e]at h;obtain⟨i,h1,h2⟩:=rQ (ve:=ve) hk a C (n+1) CS.2 b h;refine⟨i+1,?_,?_⟩
   ·have:c4 kd (ke a) (emap ke ve (p::C)) n=c4 kd (ke a) (emap ke ve C) (n+1):=by simp[emap,c4,hk,e]
    rw[this,h1];congr 3;omega
   ·have:iM (p::C) a=p::iM C a:=by
     unfold iM;rw[ga (by simp;exact fun h=>e h.symm)]
    rw[this];simp only[emap,az,List.eraseIdx_cons_succ]at h2 ⊢;rw[h2]
section
variable {α:Type} [DecidableEq α] {E n:Nat} {T:ae} {G:List (α×(Nat×Nat))} {f:α→List (Int×Int)}
def pR(f:α→List (Int×Int))(k:α)(id:Int):α→List (Int×Int):=fun x=>if x=k then fP id (f x)else f x
theorem fB.cut(h:fB E n T G f){k:α}{j g:Nat}(hk:bo k G=some (n+j,g))(id:Int)(g':Nat):fB E n (T.set j (fM E g' (fP id (f k)))) (ee G k (n+j,g')) (pR f k id):=by
 obtain⟨j',h1,h2⟩:=h.row k _ _ hk;have:j'=j:=by omega
 subst this;refine⟨Ef h.nodup _ _,fun x r g' hx=>?_,fun x hx=>?_,fun x x' r g1 g2 hx hx'=>?_⟩
 ·rw[eD]at hx;split at hx
  ·rename_i e;subst e;simp only[aa,ao]at hx;obtain⟨rfl,rfl⟩:=hx;exact⟨j',rfl,by rw[ak (ab.1 h2).1];simp[pR]⟩
  ·rename_i e;obtain⟨i,h3,h4⟩:=h.row x r g' hx;have gr:j'≠i:=fun e2=>by subst e2;exact e (h.inj x k r g' g hx (by rw[hk,h3]))
   exact⟨i,h3,by rw[ay gr,h4];simp[pR,e]⟩
 ·rw[eD]at hx;split at hx
  ·simp at hx
  ·rename_i e;simp[pR,e,h.uB x hx]
 ·rw[eD]at hx hx';split at hx<;>split at hx'
  ·rename_i e1 e2;rw[e1,e2]
  ·rename_i e1 e2;simp only[aa,ao]at hx;rw[← hx.1]at hx';exact absurd (h.inj x' k _ g2 g hx' hk) e2
  ·rename_i e1 e2;simp only[aa,ao]at hx';rw[← hx'.1]at hx;exact absurd (h.inj x k _ g1 g hx hk) e1
  ·exact h.inj x x' r g1 g2 hx hx'
theorem J0{β:Type}{G:List (α×β)}(h:(G.map (·.1)).Nodup)(k:α):((iM G k).map (·.1)).Nodup :=
 h.sublist (List.filter_sublist.map _)
theorem fB.del(h:fB E n T G f){k:α}(hk:f k=[]):fB E n T (iM G k) f :=
 ⟨J0 h.nodup k,fun x r g hx=>by
  rw[oX]at hx;split at hx
  ·cases hx
  ·exact h.row x r g hx,fun x hx=>by
  rw[oX]at hx;split at hx
  ·rename_i e;rw[e,hk]
  ·exact h.uB x hx,fun x x' r g1 g2 hx hx'=>by
  rw[oX]at hx hx';split at hx
  ·cases hx
  ·split at hx'
   ·cases hx'
   ·exact h.inj x x' r g1 g2 hx hx'⟩
def ic(f:α→List (Int×Int))(id:Int):List (α×Int)→α→List (Int×Int)
 | []=>f
 | g::r=>ic (pR f g.1 id) id r
theorem E4(f:α→List (Int×Int))(id:Int)(D:List (α×Int))(g:α×Int):ic f id (D++[g])=pR (ic f id D) g.1 id:=by
 induction D generalizing f with
 | nil=>rfl
 | cons x D ih=>simp only[bq,ic,ih]
theorem HB(id:Int)(l:List (Int×Int)):fP id (fP id l)=fP id l:=by simp[fP]
theorem rT(id:Int)(k:α):∀ (D:List (α×Int)) (f:α→List (Int×Int)),ic f id D k=if k∈D.map (·.1)then fP id (f k)else f k
 | [],f=>by simp[ic]
 | g::r,f=>by
  rw[ic,rT id k r]
  by_cases e:k=g.1
  ·subst e;simp only[pR,aR,az,bn,IN,HB,ite_self]
  ·by_cases e2:k∈r.map (·.1)
   ·rw[aQ e2,aQ (by simp only[az,bn];exact .inr e2),pR,aC e]
   ·rw[aC e2,aC (by simp only[az,bn];rintro(h | h);exact e h;exact e2 h),pR,aC e]
end
theorem xP.del{α β:Type}[DecidableEq α][DecidableEq β]{G:List (α×(Nat×Nat))}{H:List (β×(Nat×Nat))}(h:xP G H)(k:α):xP (iM G k) H:=fun x r1 g1 y r2 g2 h1 h2=>by
 rw[oX]at h1;split at h1
 ·cases h1
 ·exact h _ _ _ _ _ _ h1 h2
def Km(out:List (List UInt8))(k:List UInt8):Bool :=
 match out.getLast? with
 | none=>false
 | some x=>!Op.bytesLess x k
def wy:List En→List (List UInt8)→List (List UInt8)×Bool
 | [],out=>(out,true)
 | e::r,out=>if cG e≠0 then([],false)else if Km out (gN e)=true then([],false)else wy r (out++[gN e])
def keysOf(m:List En):List (List UInt8)×Bool:=if 1024<m.length then([],false)else wy m []
def KA(l:List (List UInt8)):Prop:=l.Pairwise fun a b=>eB a b<0
theorem y8:∀ (m:List En) (out:List (List UInt8)),(∀ e∈m,cG e=0)→KA (out++m.map gN)→wy m out=(out++m.map gN,true)
 | [],out,_,_=>by simp[wy]
 | e::r,out,h,ha=>by
  simp only[wy];rw[aC (by simp[h e (by simp)]),aC ?_,y8 r _ (fun x hx=>h x (by simp[hx])) (by simpa using ha)]
  ·simp
  ·simp only[Km];rcases List.eq_nil_or_concat out with rfl | ⟨o,x,rfl⟩
   ·simp
   ·simp only[yr,kF,iV,qM,l4];simp only[KA,az,yr,List.pairwise_append]at ha;have:=ha.2.2 x (by simp) (gN e) (by simp);simp[this]
def A3(k:List UInt8)(l:List (List UInt8)):Nat:=l.countP fun y=>decide (y<k)
def find(m:List En)(k:List UInt8):Int :=
 if(keysOf m).2=false∨A3 k (keysOf m).1=(keysOf m).1.length∨(keysOf m).1.getD (A3 k (keysOf m).1) []≠k then -1 else A3 k (keysOf m).1
structure PR (m:List En):Prop where
 len:m.length≤1024
 ok:∀ e∈m,cG e=0
 Mo:KA (m.map gN)
theorem PR.keys{m:List En}(h:PR m):keysOf m=(m.map gN,true):=by
 have hl:=h.len;simp only[keysOf];rw[aC (by omega),y8 m [] h.ok (by simpa using h.Mo)];simp
theorem BK{α:Type}[DecidableEq α](a:α)(v:Int):∀ C:List (α×Int),((ee C a v).map (·.2)).sum=(C.map (·.2)).sum - (bo a C).getD 0+v
 | []=>by simp[ee,bo,db]
 | p::C=>by
  have ih:=BK a v C;rw[fT]
  by_cases h:a=p.1
  ·simp only[ee,aQ h,az,bB,eW];omega
  ·simp only[ee,aC h,az,bB,ih];omega
theorem vD{α:Type}[DecidableEq α](C:List (α×Int))(a:α)(d:Int):((bump C a d).map (·.2)).sum=(C.map (·.2)).sum+d:=by
 unfold bump;rw[BK];omega
theorem wS:∀ (ws:List (List UInt8)) (C:List (GK×Int)) (last:List UInt8),((dn C last ws).map (·.2)).sum=(C.map (·.2)).sum+ws.length+1
 | [],C,last=>by simp only[dn,vD];simp
 | w::r,C,last=>by simp only[dn,wS r,vD,ai];omega
theorem GF:∀ (l:List It) (C:List (TK×Int)),((gV C l).map (·.2)).sum≤(C.map (·.2)).sum+l.length
 | [],C=>by simp[gV]
 | t::r,C=>by
  have h:=GF r (if(bM t).2 then bump C (cY (bM t).1) 1 else C);simp only[gV,ai];split at h
  ·rename_i hc;rw[vD]at h;rw[aQ hc];omega
  ·rename_i hc;rw[aC hc];omega
theorem wR(ws:List (List UInt8)):((bK ws).map (·.2)).sum=(ws.length:Int)+1:=by
 rw[BL ((fc ws).map (·.2)),wS];simp
theorem NI(c:Int)(hc:0≤c)(N:Nat):∀ ps:List (Int×Int),ps.length≤N→gF (iu c ps)≤N*c:=by
 have key:∀ ps:List (Int×Int),gF (iu c ps)≤ps.length*c:=by
  intro ps
  induction ps with
  | nil=>simp[gF,iu]
  | cons p ps ih =>
   have h:mn p.2 c≤c:=by unfold mn;split<;>omega
   have e:(((p::ps).length:Nat):Int)*c=ps.length*c+c:=by simp only[ai,pk,Mr];omega
   rw[e];simp only[gF,iu,az,bB,Sm.size]at ih ⊢;omega
 intro ps hp;refine dw (key ps) (oc (by omega) hc)
theorem NG(k:TK)(c:Int)(hc:0≤c)(N:Nat):∀ ps:List (Int×Int),(∀ p∈ps,0≤p.2)→ps.length≤N→gF (lC k c ps)≤N*(4*c):=by
 have key:∀ ps:List (Int×Int),(∀ p∈ps,0≤p.2)→gF (lC k c ps)≤ps.length*(4*c):=by
  intro ps
  induction ps with
  | nil=>intro _;simp[gF,lC]
  | cons p ps ih =>
   intro hp;have ih:=ih fun x hx=>hp x (by simp[hx]);have h0:=hp p (by simp);have h:0≤mn p.2 c∧mn p.2 c≤c:=by unfold mn;split<;>omega
   have hw:=so ⟨k.1,k.2,0⟩;have hm:mn p.2 c*weight ⟨k.1,k.2,0⟩≤mn p.2 c*4:=jk hw.2 h.1;have e:(((p::ps).length:Nat):Int)*(4*c)=ps.length*(4*c)+4*c:=by simp only[ai,pk,Mr];omega
   rw[e];simp only[gF,lC,az,bB,Sm.size]at ih ⊢
   by_cases ht:jm k=true
   ·simp only[ht,aR]at ih ⊢;omega
   ·simp only[ht,aG,aO]at ih ⊢;omega
 intro ps h0 hp;refine dw (key ps h0) (oc (by omega) (by omega))
theorem CI(N:Nat)(f:GK→List (Int×Int))(hf:∀ k,(f k).length≤N):∀ gs:List Gr,(∀ g∈gs,0≤g.2)→gF (gs.flatMap fun g=>iu g.2 (f g.1))≤N*(gs.map (·.2)).sum
 | [],_=>by simp[gF]
 | g::gs,h=>by
  have h1:=NI g.2 (h g (by simp)) N (f g.1) (hf _);have h2:=CI N f hf gs fun x hx=>h x (by simp[hx]);rw[dm,mU,az,bB,gD];omega
theorem CH(N:Nat)(f:TK→List (Int×Int))(hf:∀ k,(f k).length≤N)(h0:∀ k,∀ p∈f k,0≤p.2):∀ D:List (TK×Int),(∀ p∈D,0≤p.2)→gF (D.flatMap fun p=>lC p.1 p.2 (f p.1))≤N*(4*(D.map (·.2)).sum)
 | [],_=>by simp[gF]
 | p::D,h=>by
  have h1:=NG p.1 p.2 (h p (by simp)) N (f p.1) (h0 _) (hf _);have h2:=CH N f hf h0 D fun x hx=>h x (by simp[hx]);rw[dm,mU,az,bB,gD 4,gD];omega
theorem Jh:∀ (l:List It) (n:Int),n≤yv n l∧yv n l≤n+4*l.length
 | [],n=>by simp[yv]
 | t::r,n=>by
  have h:=Jh r (if(bM t).2&&!b5 (bM t).1 then n+weight (bM t).1 else n);have hw:=so (bM t).1;simp only[yv,ai];split at h
  ·rename_i hc;rw[aQ hc];omega
  ·rename_i hc;rw[aC hc];omega
theorem Jp:∀ (l:List It) (n:Int),n≤yB n l∧yB n l≤n+l.length
 | [],n=>by simp[yB]
 | t::r,n=>by
  have h:=Jp r (if(bM t).2&&b5 (bM t).1 then n+1 else n);simp only[yB,ai];split at h
  ·rename_i hc;rw[aQ hc];omega
  ·rename_i hc;rw[aC hc];omega
theorem BJ(l:List It)(h:l.length<2^27):(gp l).ok (2^40)∧0≤fV l∧fV l≤2^40:=by
 have h1:=Jh l 0;have h2:=Jp l 0;have h3:=uV l;have h4:=kh l;have h5:zY 0 (bK (aI l))=((aI l).length:Int)+1:=by rw[zX,wR];omega
 refine⟨⟨?_,?_,?_⟩,by omega,by omega⟩
 ·simp only[gp,h5];omega
 ·simp only[gp];omega
 ·simp only[gp];omega
theorem C1{k:TK}{l:List It}{v:Int}(h:bo k (gV [] l)=some v):0≤v:=by
 have:=(qF l [] 0 CN.nil).2.2 k v h;omega
theorem EP{k:GK}{ws:List (List UInt8)}{v:Int}(h:bo k (dn [] [] ws)=some v):0≤v:=by
 have:=(fS ws [] [] 0 CN.nil).2.2 k v h;omega
structure Fj (k:Nat) (e:En):Prop where
 ok:cG e=0
 sD:e.aeq.length≤40+k
 pw:bP e.aeq≤400+4*k
 vr:e.aex.length≤100
 qY:bP e.aex≤900
 prev:e.bV.length≤7
 next:e.next.length≤7
 cC:e.cC.length≤3
 bU:e.bU.length≤3
theorem Fj.mono{e:En}{k m:Nat}(h:Fj k e)(hm:k≤m):Fj m e :=
 ⟨h.ok,by have:=h.sD;omega,by have:=h.pw;omega,h.vr,h.qY,h.prev,h.next,h.cC,h.bU⟩
theorem BA{f:List It}(h:b6 f=0):cB [] f=0:=by
 simp only[b6]at h;split at h
 ·simp at h
 ·exact h
theorem Fj.src{e:En}{k:Nat}(h:Fj k e):cB [] e.aeq=0:=BA (nW h.ok).1
theorem Fj.aew{e:En}{k:Nat}(hk:k≤20)(h:Fj k e):e.aew:=by
 have:=nW h.ok;have h1:=h.sD;have h2:=h.pw;have h3:=h.vr;have h4:=h.qY;have h5:=h.prev;have h6:=h.next;refine⟨by omega,by omega,by omega,by omega,by omega,by omega,fun x hx=>?_⟩;rcases bQ.1 hx with hx | hx
 ·have:=pq this.1 x hx;omega
 ·have:=pq this.2 x hx;omega
theorem qX(f:List It):(cd f).length≤f.length+bP f:=by
 induction f with
 | nil=>simp[cd]
 | cons x f ih =>
  have:=yA x;simp only[cd,dm,al,ai,bP]at ih ⊢;omega
def p9:List It:=[⟨1,[83,97,118,101],0⟩]
def Ev:En:=⟨p9,[⟨1,[83,105,99,104,101,114,110],0⟩],[97],[98],[],[],0,3⟩
def Kp:Qr:=⟨p9,[97],[98],0,50,5⟩
def W0:Pn:=⟨3,[],[],0,10⟩
theorem UH:cG Ev=0:=by decide +kernel
theorem QI:dV Kp=0:=by decide +kernel
theorem WZ:oP []=0:=by decide +kernel
theorem wz:cd p9=[⟨6,[83,97,118,101],0⟩]:=by rfl
theorem NA:(JH Ev [W0] Kp).aen=[.i .i64 0,.i .i64 100,.i .i64 2,.i .i64 10,.i .i64 92]:=by rfl
end Go.Bt

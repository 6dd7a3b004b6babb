/- A part of a proof; the claim's last text says of what. -/
import Derived.ChangeKeysEq
import Derived.Test.YtlakkaamfadipaaGreatDoorS7
set_option linter.all false

namespace Go.Pm
open Go Go.RowKit
theorem toList_data(s:ByteArray):s.toList=s.data.toList:=ByteArray.toList_eq s
theorem yg{x y:V}{p:Bool}(h:bY 0 x y=some p):∃ k a b,x=.i k a∧y=.i k b∧(a==b)=p:=by
 cases x<;>(try (simp[bY]at h;done));cases y<;>(try (simp[bY]at h;done));simp only[bY]at h;split at h<;>simp only[aa,reduceCtorEq]at h;rename_i hk;subst hk;exact⟨_,_,_,rfl,rfl,h⟩
theorem Dw{xs ys:List V}{r:Bool}(h:dO [0,0] xs ys=some r):∃ k l a b a' b',xs=[.i k a,.i l b]∧ys=[.i k a',.i l b']∧(a==a'&&b==b')=r:=by
 match xs,ys with
 | [],_=>simp[dO]at h
 | _::_,[]=>simp[dO]at h
 | [x],y::ys =>
  simp only[dO]at h;split at h<;>simp_all [dO]
 | x::x2::xs,[y] =>
  simp only[dO]at h;split at h<;>simp_all [dO]
 | x::x2::xs,y::y2::ys =>
  cases xs with
  | cons x3 xs=>simp only[dO]at h;repeat' (split at h)<;>simp_all [dO]
  | nil=>cases ys with
   | cons y3 ys=>simp only[dO]at h;repeat' (split at h)<;>simp_all [dO]
   | nil =>
    simp only[dO]at h;split at h<;>simp only[aa,reduceCtorEq]at h;rename_i p q hp hq;split at hq<;>simp only[aa,reduceCtorEq]at hq;rename_i p2 q2 yY N4;simp only[aa]at N4;obtain⟨k,a,a',rfl,rfl,e1⟩:=yg hp;obtain⟨l,b,b',rfl,rfl,e2⟩:=yg yY;exact⟨k,l,a,b,a',b',rfl,rfl,by rw[← h,← hq,← N4,e1,e2,fH]⟩
theorem VR.pair{w:World}{J:ae}{μ:Mem}{k l:IntKind}{a b:Int}{v:Value}(h:VR w J μ (.agg [.i k a,.i l b]) v):v=.agg #[.int k a,.int l b]:=by
 obtain⟨vs,rfl,hl,hv⟩:=h.gr;have h0:=(hv 0 _ rfl).ei;have h1:=(hv 1 _ rfl).ei;obtain⟨l⟩:=vs
 match l,hl with
 | [x,y],_=>simp at h0 h1;rw[h0,h1]
theorem rS{P:Program}{w:World}{K e:TypeId}{q:IntKind}(hK:P.underlying K=some (.array 2 e))(he:P.underlying e=some (.int q))(hc:P.cellsOf e=1)(k l:IntKind)(a b a' b':Int):
  (Op.equal K (.agg #[.int k a,.int l b]) (.agg #[.int k a',.int l b'])).run P w=.ok (a==a'&&b==b') w:=by
 have hi:∃ i,P.info? e=some i:=by
  unfold Program.underlying at he;cases h:P.info? e with
  | none=>simp[h]at he
  | some i=>exact⟨i,rfl⟩
 obtain⟨i,hi⟩:=hi;have hA:er P e=some false:=by simp[er,he]
 have hp:∀ (x y:Value) (j:Nat) (z:Value),#[x,y][j]?=some z→(part e #[x,y] j).run P w=.ok z w:=by
  intro x y j z hz;simp only[part,Sem.run_bind,jn hA,Result.andThen_ok,aF,aK,hz];rfl
 have gen:∀ n,(Op.equalIn (n+2) K (.agg #[.int k a,.int l b]) (.agg #[.int k a',.int l b'])).run P w=.ok (a==a'&&b==b') w:=by
  intro n;rw[run_equalIn_array w (n+1) _ _ hK hi,hc]
  simp only[show List.range 2=[0,1]from rfl,Op.eqItems,Sem.run_bind,hp (.int k a) (.int l b) 0 (.int k a) rfl,hp (.int k a) (.int l b) 1 (.int l b) rfl,hp (.int k a') (.int l b') 0 (.int k a') rfl,hp (.int k a') (.int l b') 1 (.int l b') rfl,Result.andThen_ok,
   run_equalIn_int w n e k q _ _ he,run_equalIn_int w n e l q _ _ he,DD]
  cases(a==a')<;>cases h:(b==b')<;>simp[hp (.int k a) (.int l b) 1 (.int l b) rfl,hp (.int k a') (.int l b') 1 (.int l b') rfl,run_equalIn_int w n e l q b b' he,h]
 exact gen 9998
section cF
variable {P:Program} {o:Oper} {a:Act} {B:Nat} {w0 w:World} {J:ae} {μ:Mem} {fr:List V} (hF:FR w J μ fr a)
include hF
theorem SB{op:BinOp}{T yT:TypeId}{x y:Operand}{x' y':O}(ho:o.op=.binOp op T x y yT)(hx:cO x=some x')(hy:cO y=some y')
  {ob:Prop} {z:V} (h:aM fr J (.bin op x' y')=some (ob,z)) (cY:ob):Yields P o a w J μ z:=by
 have h1:=cP hF hx;have h2:=cP hF hy;simp only[aM,fm]at h;split at h
 ·rename_i k p k' q hp hq;rw[hp]at h1;rw[hq]at h2;have e1:=h1.ei;have e2:=h2.ei
  have cT:∀ v,(binOp op T (.int k p) (.int k' q)).run P w=.ok v w→(execOp a.eval o).run P w=.ok (.value v) w:=by
   intro v hv;simp only[execOp,ho,e1,e2,eqGuard_at_int,pure_bind,Sem.run_bind,hv,Result.andThen_ok,Sem.run_pure]
  split at h
  ·simp only[aa,ao]at h;obtain⟨rfl,rfl⟩:=h;have hn:¬ q<0:=by omega
   exact .pure (cT _ (by simp[binOp_shl,Op.shift,hn])) (.i _ _)
  ·simp only[aa,ao]at h;obtain⟨rfl,rfl⟩:=h;have hn:¬ q<0:=by omega
   exact .pure (cT _ (by simp[binOp_shr,Op.shift,hn])) (.i _ _)
  ·split at h
   ·rename_i hk;subst hk;split at h<;>simp only[aa,ao,reduceCtorEq]at h<;>obtain⟨rfl,rfl⟩:=h
    ·exact .pure (cT _ (by simp[binOp_add,Op.intArith])) (.i _ _)
    ·exact .pure (cT _ (by simp[binOp_sub,Op.intArith])) (.i _ _)
    ·exact .pure (cT _ (by simp[binOp_mul,Op.intArith])) (.i _ _)
    ·exact .pure (cT _ (by simp[binOp_quo,Op.intDiv,cY])) (.i _ _)
    ·exact .pure (cT _ (by simp[binOp_rem,Op.intDiv,cY])) (.i _ _)
    ·exact .pure (cT _ (by simp only[binOp_and,Op.intBits];rfl)) (.i _ _)
    ·exact .pure (cT _ (by simp only[binOp_or,Op.intBits];rfl)) (.i _ _)
    ·exact .pure (cT _ (by simp only[binOp_xor,Op.intBits];rfl)) (.i _ _)
    ·exact .pure (cT _ (by simp[binOp_eql])) (.b _)
    ·exact .pure (cT _ (by simp[binOp_neq])) (.b _)
    ·exact .pure (cT _ (by simp[binOp_lss])) (.b _)
    ·exact .pure (cT _ (by simp[binOp_leq])) (.b _)
    ·exact .pure (cT _ (by simp[binOp_gtr])) (.b _)
    ·exact .pure (cT _ (by simp[binOp_geq])) (.b _)
   ·simp at h
 ·rename_i p q hp hq;rw[hp]at h1;rw[hq]at h2;obtain⟨s,hs,rfl,SX⟩:=h1.kr;obtain⟨s',hs',rfl,hsl'⟩:=h2.kr
  have cT:∀ v,(Op.stringOp op s s').run P w=.ok v w→(execOp a.eval o).run P w=.ok (.value v) w:=by
   intro v hv;have hb:binOp op T (.string s) (.string s')=Op.stringOp op s s':=by cases op<;>rfl
   simp only[execOp,ho,hs,hs',eqGuard_at_string,pure_bind,hb,Sem.run_bind,hv,Result.andThen_ok,Sem.run_pure]
  split at h<;>simp only[aa,ao,reduceCtorEq]at h<;>obtain⟨rfl,rfl⟩:=h
  ·refine .pure (v:=.string (s++s')) (cT _ ?_) (.s _ _ ?_ ?_)
   ·have hn:¬ (s.size+s'.size > 9223372036854775807):=by rw[bsize,bsize];unfold maxLen at cY;omega
    rw[run_string_add_if,aI hn]
   ·simp[ByteArray.data_append]
   ·rw[al];exact cY
  ·exact .pure (cT _ (by simp[Op.stringOp,toList_data])) (.b _)
  ·exact .pure (cT _ (by simp[Op.stringOp,toList_data])) (.b _)
  ·exact .pure (cT _ (by simp[Op.stringOp,toList_data])) (.b _)
  ·exact .pure (cT _ (by simp[Op.stringOp,toList_data])) (.b _)
  ·exact .pure (cT _ (by simp[Op.stringOp,toList_data])) (.b _)
  ·exact .pure (cT _ (by simp[Op.stringOp,toList_data])) (.b _)
 ·simp at h
theorem Wo{op:BinOp}{T yT:TypeId}{x y:Operand}{x' y':O}(ho:o.op=.binOp op T x y yT)(dG:u9 op=true)(hT:P.underlying T=some .bool)(hx:cO x=some x')(hy:cO y=some y')
  {ob:Prop} {z:V} (h:aM fr J (.Tm (I8 op) x' y')=some (ob,z)):Yields P o a w J μ z:=by
 have h1:=cP hF hx;have h2:=cP hF hy;simp only[aM]at h;split at h
 ·rename_i p q hp hq;rw[hp]at h1;rw[hq]at h2;have e1:=h1.mE;have e2:=h2.mE;simp only[aa,ao]at h;obtain⟨rfl,rfl⟩:=h;have he:=run_equal_bool (P:=P) (w:=w) T p q hT;cases op<;>simp only[u9,aF]at dG
  ·refine .pure (v:=.bool (p==q)) ?_ (.b _);simp only[execOp,ho,e1,e2,eqGuard_at_bool,pure_bind,Sem.run_bind,binOp,he,Result.andThen_ok,Sem.run_pure]
  ·refine .pure (v:=.bool (!(p==q))) ?_ (.b _);simp only[execOp,ho,e1,e2,eqGuard_at_bool,pure_bind,Sem.run_bind,binOp,he,Result.andThen_ok,Sem.run_pure]
 ·simp at h
omit hF in
theorem oV:∀ (fs:List Field) (ks:List Nat) (n:Nat) (xs ys:List V) (us vs:Array Value) (r:Bool) (d:Nat),iJ P n fs=some ks →
  (∀ j x,xs[j]?=some x→VR w J μ x (us.getD (n+j) undef))→(∀ j x,ys[j]?=some x→VR w J μ x (vs.getD (n+j) undef))→us.size=n+xs.length→vs.size=n+ys.length→dO ks xs ys=some r →
  (Op.eqFields (d+1) us vs fs).run P w=.ok r w
 | [],ks,n,xs,ys,us,vs,r,d,hf,_,_,_,_,hc=>by
  simp only[iJ,aa]at hf;subst hf;cases xs with
  | nil=>cases ys with
   | nil=>simp only[dO,aa]at hc;subst hc;rfl
   | cons y ys=>simp[dO]at hc
  | cons x xs=>simp[dO]at hc
 | f::fs,ks,n,xs,ys,us,vs,r,d,hf,ux,xF,hus,Af,hc=>by
  simp only[iJ]at hf;split at hf
  ·rename_i Fp;obtain⟨Fp,UJ⟩:=Fp
   have hk:∃ k ks',ks=k::ks'∧iJ P (n+1) fs=some ks'∧er P f.type=some false ∧
     ∀ x y u v p,bY k x y=some p→VR w J μ x u→VR w J μ y v→(Op.equalIn (d+1) f.type u v).run P w=.ok p w:=by
    split at hf<;>simp only[aa,reduceCtorEq]at hf
    ·rename_i k ks' hu hr;refine⟨0,ks',hf.symm,hr,by simp[er,hu],fun x y u v p hp hx hy=>?_⟩;cases x<;>(try (simp[bY]at hp;done));cases y<;>(try (simp[bY]at hp;done));simp only[bY]at hp;split at hp<;>simp only[aa,reduceCtorEq]at hp;rename_i Oi;subst Oi;subst hp;rw[hx.ei,hy.ei];exact run_equalIn_int w d f.type _ k _ _ hu
    ·rename_i ks' hu hr;refine⟨1,ks',hf.symm,hr,by simp[er,hu],fun x y u v p hp hx hy=>?_⟩;cases x<;>(try (simp[bY]at hp;done));cases y<;>(try (simp[bY]at hp;done));simp only[bY,aa]at hp;subst hp;obtain⟨s,rfl,rfl,_⟩:=hx.kr;obtain⟨s',rfl,rfl,_⟩:=hy.kr;rw[run_equalIn_string w d f.type s s' hu,toList_data,toList_data]
    ·rename_i ks' hu hr;refine⟨2,ks',hf.symm,hr,by simp[er,hu],fun x y u v p hp hx hy=>?_⟩;cases x<;>(try (simp[bY]at hp;done));cases y<;>(try (simp[bY]at hp;done));simp only[bY,aa]at hp;subst hp;rw[hx.mE,hy.mE];exact run_equalIn_bool' w d f.type _ _ hu
   obtain⟨k,ks',rfl,S0,hA,ab6⟩:=hk;cases xs with
   | nil=>simp[dO]at hc
   | cons x xs =>
    cases ys with
    | nil=>simp[dO]at hc
    | cons y ys =>
     simp only[dO]at hc;split at hc<;>simp only[aa,reduceCtorEq]at hc;rename_i p q hp hq;have VY:=ux 0 x rfl;have hy0:=xF 0 y rfl;simp only[dK]at VY hy0;have hlx:n<us.size:=by simp at hus;omega
     have hly:n<vs.size:=by simp at Af;omega
     have hpx:(part f.type us f.offset).run P w=.ok (us.getD n undef) w:=by
      simp only[part,Sem.run_bind,jn hA,Result.andThen_ok,aF,aK,Fp];rw[show us[n]?=some (us.getD n undef)by simp[hlx]];rfl
     have hpy:(part f.type vs f.offset).run P w=.ok (vs.getD n undef) w:=by
      simp only[part,Sem.run_bind,jn hA,Result.andThen_ok,aF,aK,Fp];rw[show vs[n]?=some (vs.getD n undef)by simp[hly]];rfl
     have heq:=ab6 x y _ _ p hp VY hy0
     have ih:=oV fs ks' (n+1) xs ys us vs q d S0
      (fun j z hz=>by have:=ux (j+1) z hz;rwa [show n+(j+1)=n+1+j by omega]at this)
      (fun j z hz=>by have:=xF (j+1) z hz;rwa [show n+(j+1)=n+1+j by omega]at this)
      (by simp at hus;omega) (by simp at Af;omega) hq
     subst hc;simp only[Op.eqFields,gm,UJ,eQ,aL,Sem.run_bind,hpx,hpy,Result.andThen_ok,heq];cases p
     ·simp
     ·simp[ih]
  ·simp at hf
theorem Wn{op:BinOp}{T yT:TypeId}{ks:List Nat}{x y:Operand}{x' y':O}(ho:o.op=.binOp op T x y yT)(dG:u9 op=true)(hT:HM P T=some ks)(hx:cO x=some x')(hy:cO y=some y')
  {ob:Prop} {z:V} (h:aM fr J (.beq (I8 op) ks x' y')=some (ob,z)):Yields P o a w J μ z:=by
 have h1:=cP hF hx;have h2:=cP hF hy;unfold HM at hT;split at hT
 ·rename_i fs hu;split at hT
  ·rename_i hc;simp only[aM]at h;split at h
   ·rename_i xs ys hp hq;rw[hp]at h1;rw[hq]at h2;obtain⟨us,e1,l1,v1⟩:=h1.gr;obtain⟨vs,e2,l2,v2⟩:=h2.gr;split at h
    ·rename_i r hr;simp only[aa,ao]at h;obtain⟨rfl,rfl⟩:=h;have hf:P.fieldsOf T=fs:=by simp[Program.fieldsOf,hu]
     have cT:(Op.equalIn 10000 T (.agg us) (.agg vs)).run P w=.ok r w:=by
      rw[run_equalIn_struct w 9999 T us vs (by rw[hf];exact hu) hc.1,hf];exact oV fs.toList ks 0 xs ys us vs r 9998 hT (fun j z hz=>by simpa using v1 j z hz) (fun j z hz=>by simpa using v2 j z hz) (by omega) (by omega) hr
     have hg:=run_eqGuard_agg (P:=P) w op T x y us vs hc.2;cases op<;>simp only[u9,aF]at dG
     ·refine .pure (v:=.bool r) ?_ (.b _);simp only[execOp,ho,e1,e2,Sem.run_bind,hg,Result.andThen_ok,run_eql_struct,cT,Sem.run_pure]
     ·refine .pure (v:=.bool (!r)) ?_ (.b _);simp only[execOp,ho,e1,e2,Sem.run_bind,hg,Result.andThen_ok,run_neq_struct,cT,Sem.run_pure]
    ·simp at h
   ·simp at h
  ·simp at hT
 ·rename_i e hu;split at hT
  ·rename_i hc;split at hT<;>simp only[aa,reduceCtorEq]at hT;rename_i q he;subst hT;simp only[aM]at h;split at h
   ·rename_i xs ys hp hq;rw[hp]at h1;rw[hq]at h2;split at h
    ·rename_i r hr;simp only[aa,ao]at h;obtain⟨rfl,rfl⟩:=h;obtain⟨k,l,a1,b1,a2,b2,rfl,rfl,N0⟩:=Dw hr
     ·have e1:=h1.pair;have e2:=h2.pair;have cT:=rS (P:=P) (w:=w) hu he hc.2 k l a1 b1 a2 b2;rw[N0]at cT;have hg:=run_eqGuard_agg (P:=P) w op T x y #[.int k a1,.int l b1] #[.int k a2,.int l b2] hc.1;cases op<;>simp only[u9,aF]at dG
      ·refine .pure (v:=.bool r) ?_ (.b _);simp only[execOp,ho,e1,e2,Sem.run_bind,hg,Result.andThen_ok,binOp,cT,Sem.run_pure]
      ·refine .pure (v:=.bool (!r)) ?_ (.b _);simp only[execOp,ho,e1,e2,Sem.run_bind,hg,Result.andThen_ok,binOp,cT,Sem.run_pure]
    ·simp at h
   ·simp at h
  ·simp at hT
 ·simp at hT
end cF
def CR(w:World)(J:ae)(μ:Mem)(xs:List V)(vs:Array Value):Prop:=xs.length=vs.size∧∀ i x,xs[i]?=some x→VR w J μ x (vs.getD i undef)
theorem VR.lz{w:World}{J:ae}{μ:Mem}{x:V}{v:Value}(h:VR w J μ x v)(s:Option Nat):VR w J μ (lz s x) v:=by
 unfold Pm.lz;split
 ·rw[h.lp];exact .Ae _
 ·rcases h.ny with⟨rfl,rfl⟩ | ⟨b,o,f,rfl,hm,hr⟩
  ·exact .Ae _
  ·exact .sl _ _ b o _ f (aq _) hm hr.1 hr.2.1 hr.2.2
 ·exact h
theorem CR.cx{w:World}{J:ae}{μ:Mem}:∀ (ss:List (Option Nat)) {xs:List V} {vs:Array Value},CR w J μ xs vs→CR w J μ (cx ss xs) vs:=by
 have key:∀ (ss:List (Option Nat)) (xs:List V) (n:Nat) (vs:Array Value),(∀ i x,xs[i]?=some x→VR w J μ x (vs.getD (n+i) undef)) →
   (Pm.cx ss xs).length=xs.length∧∀ i x,(Pm.cx ss xs)[i]?=some x→VR w J μ x (vs.getD (n+i) undef):=by
  intro ss
  induction ss with
  | nil=>intro xs n vs h;simpa[Pm.cx]using h
  | cons s ss ih =>
   intro xs n vs h;cases xs with
   | nil=>simp[Pm.cx]
   | cons x xs =>
    have h2:=ih xs (n+1) vs (fun i y hy=>by have:=h (i+1) y hy;rwa [show n+(i+1)=n+1+i by omega]at this);refine⟨by simp[Pm.cx,h2.1],fun i y hy=>?_⟩;cases i with
    | zero =>
     simp only[Pm.cx,aw,aa]at hy;subst hy;exact(h 0 x rfl).lz s
    | succ i =>
     simp only[Pm.cx,bI]at hy;have:=h2.2 i y hy
     rwa [show n+1+i=n+(i+1)by omega]at this
 intro ss xs vs h;have:=key ss xs 0 vs (fun i x hx=>by simpa using h.2 i x hx);exact⟨this.1.trans h.1,fun i x hx=>by simpa using this.2 i x hx⟩
theorem mM{P:Program}{B:Nat}{w0 w:World}{J:ae}{μ:Mem}(hS:fx P B w0 w J μ){x:V}{v:Value}(h:VR w J μ x v)(hc:eX J x=true):v.oneCell'=true∧v.cells=#[v]:=by
 have slice_one:∀ a n c,(Value.slice a n c).oneCell'=true∧(Value.slice a n c).cells=#[.slice a n c]:=fun _ _ _=>⟨rfl,rfl⟩;cases h with
 | u v=>simp[eX]at hc
 | own id g v hid h =>
  simp only[eX]at hc;split at hc
  ·rename_i E sz by' g' sh xs ho;simp only[bT]at hc;subst hc;rw[(h _ _ _ _ _ _ ho).2 rfl];rcases(hS.rowAt ho).2.2 with⟨hm,_⟩ | ⟨b,cap,cur,hm,_⟩<;>rw[hm]<;>exact slice_one _ _ _
  ·simp at hc
 | sub id g lo hi v hid h =>
  simp only[eX]at hc;split at hc
  ·rename_i E sz by' g' sh xs ho;simp only[bT]at hc;subst hc;rw[((h _ _ _ _ _ _ ho).2 rfl).2.2];rcases(hS.rowAt ho).2.2 with⟨hm,_⟩ | ⟨b,cap,cur,hm,_⟩<;>rw[hm]<;>exact slice_one _ _ _
  ·simp at hc
 | rp id g i off v hid h =>
  simp only[eX]at hc;split at hc
  ·rename_i E sz by' g' sh xs ho;simp only[bT]at hc;subst hc;obtain⟨hi,hv⟩:=(h _ _ _ _ _ _ ho).2 rfl;rw[hv];rcases(hS.rowAt ho).2.2 with⟨_,hn⟩ | ⟨b,cap,cur,hm,_⟩
   ·subst hn;simp at hi
   ·rw[hm];exact⟨rfl,rfl⟩
  ·simp at hc
 | agg xs vs hl hv=>simp[eX]at hc
 | fi xs vs hl hv=>simp[eX]at hc
 | it id v h hm=>simp[eX]at hc
 | pM id n b h hm=>simp[eX]at hc
 | _=>exact⟨rfl,rfl⟩
theorem jC{P:Program}{B:Nat}{w0 w:World}{J:ae}{μ:Mem}(hS:fx P B w0 w J μ){x:V}{v:Value}(h:VR w J μ x v)(hc:eZ J x=true):
  CR w J μ (ed x) v.cells∧∀ u∈v.cells,u.oneCell'=true:=by
 by_cases ha:∃ xs,x=.agg xs
 ·obtain⟨xs,rfl⟩:=ha;obtain⟨vs,rfl,hl,hv⟩:=h.gr;refine⟨⟨hl,hv⟩,fun u hu=>?_⟩;obtain⟨i,hi,rfl⟩:=Array.mem_iff_getElem.1 hu;simp only[eZ,cK]at hc;have hi':i<xs.length:=by rw[hl];exact hi
  have h1:=hv i xs[i] (ak hi');have h2:=(mM hS h1 (hc _ (cA hi'))).1;have Hz:i<vs.size:=hi;have h3:vs.getD i undef=vs[i]:=by simp[Hz]
  rw[h3]at h2;exact h2
 ·have hx:eZ J x=eX J x∧ed x=[x]:=by
   cases x<;>first | exact⟨rfl,rfl⟩ | exact absurd ⟨_,rfl⟩ ha
  rw[hx.1]at hc;obtain⟨h1,h2⟩:=mM hS h hc;rw[hx.2,h2];refine⟨⟨rfl,fun i y hy=>?_⟩,fun u hu=>by simp only[Array.mem_singleton]at hu;subst hu;exact h1⟩;cases i with
  | zero=>simp only[aw,aa]at hy;subst hy;simpa using h
  | succ i=>simp at hy
theorem r9:∀ (l:List Value) (k off:Nat) (cells:Array Value),off+k+l.length≤cells.size →
  ((l.zipIdx k).foldl (fun(cs:Array Value) (p:Value×Nat)=>cs.setIfInBounds (off+p.2) p.1) cells).size=cells.size ∧
  ∀ i,((l.zipIdx k).foldl (fun(cs:Array Value) (p:Value×Nat)=>cs.setIfInBounds (off+p.2) p.1) cells).getD i undef =
   if off+k≤i∧i<off+k+l.length then l.getD (i - (off+k)) undef else cells.getD i undef
 | [],k,off,cells,_=>by simp;intro i h1 h2;omega
 | v::l,k,off,cells,h=>by
  simp only[ai]at h;have ih:=r9 l (k+1) off (cells.setIfInBounds (off+k) v) (by simp;omega);simp only[List.zipIdx_cons,c8];refine⟨by rw[ih.1];simp,fun i=>?_⟩;rw[ih.2 i]
  by_cases h1:off+(k+1)≤i∧i<off+(k+1)+l.length
  ·rw[bf h1,bf (by simp only[ai];omega)];have:i - (off+k)=(i - (off+(k+1)))+1:=by omega
   rw[this];simp
  ·rw[aI h1]
   by_cases h2:i=off+k
   ·subst h2;rw[bf (by simp only[ai];omega)];simp[show off+k<cells.size by omega]
   ·rw[aI (by simp only[ai];omega)];simp only[bh];rw[cn (fun h=>h2 h.symm)]
theorem CR.fill{w:World}{J:ae}{μ:Mem}{xs ys:List V}{cells vs:Array Value}(h:CR w J μ xs cells)(hy:CR w J μ ys vs)(off:Nat)(ho:off+ys.length≤xs.length):
  CR w J μ (xs.take off++ys++xs.drop (off+ys.length)) (vs.zipIdx.foldl (fun cs (c,j)=>cs.setIfInBounds (off+j) c) cells):=by
 have Zf:=r9 vs.toList 0 off cells (by rw[a6,← hy.1,← h.1];simpa using ho)
 have he:vs.zipIdx.foldl (fun cs (c,j)=>cs.setIfInBounds (off+j) c) cells=(vs.toList.zipIdx 0).foldl (fun(cs:Array Value) (p:Value×Nat)=>cs.setIfInBounds (off+p.2) p.1) cells:=by
  rw[← Array.foldl_toList,Array.toList_zipIdx]
 rw[he];refine⟨?_,fun i x hx=>?_⟩
 ·rw[Zf.1,← h.1];simp;omega
 ·rw[Zf.2 i];simp only[dK,a6];rw[← hy.1]
  by_cases h1:i<off
  ·rw[aI (by omega)];rw[aR,ah (by simp;omega),bg h1]at hx;exact h.2 i x hx
  ·by_cases h2:i<off+ys.length
   ·rw[bf (by omega)];rw[ah (by simp;omega),aA (by simp;omega)]at hx;have hl:(xs.take off).length=off:=by simp;omega
    rw[hl]at hx;have:=hy.2 _ x hx;simpa using this
   ·rw[aI (by omega)];have hl:(xs.take off++ys).length=off+ys.length:=by simp;omega
    rw[aA (by omega),hl,gq]at hx;have h3:off+ys.length+(i - (off+ys.length))=i:=by omega
    rw[h3]at hx;exact h.2 i x hx
theorem xH{w:World}{J:ae}{μ:Mem}(place:Nat→Option (Nat×Nat)):∀ (parts:List (Nat×Value)) (ps:List (Nat×Nat×List V)) (xs cs:List V) (cells:Array Value),
  CR w J μ xs cells→se xs ps=some cs→ps.length=parts.length→(∀ (k:Nat) (p:Nat×Value) (q:Nat×Nat×List V),parts[k]?=some p→ps[k]?=some q→place p.1=some (q.1,q.2.1)∧CR w J μ q.2.2 p.2.cells) →
  ∃ cells',Instr.fill place cells parts=some cells'∧CR w J μ cs cells'
 | [],ps,xs,cs,cells,h,hf,hl,_=>by
  have:ps=[]:=aG hl;subst this;simp only[se,aa]at hf;subst hf;exact⟨cells,rfl,h⟩
 | (i,v)::parts,ps,xs,cs,cells,h,hf,hl,hp=>by
  cases ps with
  | nil=>simp at hl
  | cons q ps =>
   obtain⟨off,sz,ys⟩:=q;have h0:=hp 0 (i,v) (off,sz,ys) rfl rfl;simp only[se]at hf;split at hf
   ·rename_i hc;obtain⟨rfl,Lq⟩:=hc;have hy:=h0.2;have hs:v.cells.size=ys.length:=hy.1.symm;have BH:=h.fill hy off Lq;obtain⟨cells',h1,h2⟩:=xH place parts ps _ cs _ BH hf (by simpa using hl) (fun k p q h3 h4=>hp (k+1) p q h3 h4);refine⟨cells',?_,h2⟩;simp only[Instr.fill,h0.1]
    have gv:(decide (v.cells.size≠ys.length)||decide (off+v.cells.size > cells.size))=false:=by
     rw[hs,← h.1];simp;omega
    simp only[gv,aF,aK];exact h1
   ·simp at hf
theorem zD{w:World}{J:ae}{μ:Mem}:∀ (l:List Value) (zs:List V),gH l=some zs→zs.length=l.length∧∀ (i:Nat) (x:V),zs[i]?=some x→VR w J μ x (l.getD i undef)
 | [],zs,h=>by simp only[gH,aa]at h;subst h;simp
 | v::l,zs,h=>by
  simp only[gH]at h;split at h<;>simp only[aa,reduceCtorEq]at h;rename_i y ys hy xF;subst h;obtain⟨h1,h2⟩:=zD l ys xF;refine⟨by simp[h1],fun i x hx=>?_⟩;cases i with
  | zero=>simp only[aw,aa]at hx;subst hx;exact vm hy
  | succ i=>simpa using h2 i x hx
theorem jU{w:World}{J:ae}{μ:Mem}{cs:Array Value}{zs:List V}(h:gH cs.toList=some zs):CR w J μ zs cs:=by
 obtain⟨h1,h2⟩:=zD (w:=w) (J:=J) (μ:=μ) _ _ h;refine⟨by simpa using h1,fun i x hx=>?_⟩;have:=h2 i x hx;simpa[an]using this
theorem CR.MI{w:World}{J:ae}{μ:Mem}{xs:List V}{vs:Array Value}(h:CR w J μ xs vs):VR w J μ (.agg xs) (.agg vs):=.agg xs vs h.1 h.2
theorem HL{xs:List (List V)}{sz:Nat}(cq:∀ r∈xs,r.length=sz):∀ {i j:Nat} {x:V},eS xs i j=some x→xs.flatten[i*sz+j]?=some x:=by
 induction xs with
 | nil=>intro i j x h;simp[eS]at h
 | cons r xs ih =>
  intro i j x h;have hr:=cq r (by simp);cases i with
  | zero =>
   simp only[eS,aw,gp]at h;have hj:j<r.length:=(ab.1 h).1;rw[L8,L5,bz,ah hj,h]
  | succ i =>
   have h':eS xs i j=some x:=by simpa[eS]using h
   have:=ih (fun r hr=>cq r (by simp[hr])) h';rw[L8,aA (by rw[hr,cD];omega),hr];have e:(i+1)*sz+j - sz=i*sz+j:=by rw[cD];omega
   rw[e,this]
theorem FH{xs:List (List V)}{sz:Nat}(cq:∀ r∈xs,r.length=sz):xs.flatten.length=xs.length*sz:=by
 induction xs with
 | nil=>simp
 | cons r xs ih=>rw[L8,al,cq r (by simp),ih (fun r hr=>cq r (by simp[hr])),ai,cD];omega
theorem zw(sz:Nat):∀ (rows:List (List V)) (pre:List V) (k:Nat) (tail:List V),(∀ r∈rows,r.length=sz)→pre.length=k*sz→tail.length=rows.length*sz →
  se (pre++tail) ((rows.zipIdx k).map fun(r,i)=>(i*sz,sz,r))=some (pre++rows.flatten)
 | [],pre,k,tail,_,_,ht=>by
  have:tail=[]:=aG (by simpa using ht);subst this;simp[se]
 | r::rows,pre,k,tail,hr,hp,ht=>by
  have rI:=hr r (by simp);have wx:sz≤tail.length:=by rw[ht,ai,cD];omega
  simp only[List.zipIdx_cons,ay,se];rw[bf ⟨rI,by rw[al,hp];omega⟩];have e1:(pre++tail).take (k*sz)=pre:=by rw[← hp];exact DE
  have e2:(pre++tail).drop (k*sz+sz)=tail.drop sz:=by rw[← hp,List.drop_append];simp
  rw[e1,e2];have ih:=zw sz rows (pre++r) (k+1) (tail.drop sz) (fun x hx=>hr x (by simp[hx])) (by rw[al,hp,rI,cD];omega) (by rw[cV,ht,ai,cD];omega);rw[ih];simp
section cF
variable {P:Program} {o:Oper} {a:Act} {B:Nat} {w0 w:World} {J:ae} {μ:Mem} {fr:List V} (hF:FR w J μ fr a) (hS:fx P B w0 w J μ)
include hF hS
theorem vw{places:List (Nat×Nat)}:∀ (parts:List (Nat×Operand)) (ps:List (Nat×Nat×O)),qK places parts=some ps→(∀ p∈ps,eZ J (ev fr p.2.2)=true) →
  ps.length=parts.length∧∀ (k:Nat) (p:Nat×Operand) (q:Nat×Nat×O),parts[k]?=some p→ps[k]?=some q →
   places[p.1]?=some (q.1,q.2.1)∧CR w J μ (ed (ev fr q.2.2)) (a.eval p.2).cells
 | [],ps,h,_=>by simp only[qK,aa]at h;subst h;simp
 | (i,x)::r,ps,h,gW=>by
  simp only[qK]at h;split at h<;>simp only[aa,reduceCtorEq]at h;rename_i off sz y ys hf hy xF;subst h;obtain⟨h1,h2⟩:=vw r ys xF (fun p hp=>gW p (dh _ hp));refine⟨by simp[h1],fun k p q hp hq=>?_⟩;cases k with
  | zero =>
   simp only[aw,aa]at hp hq;subst hp;subst hq;exact⟨hf,(jC hS (cP hF hy) (gW (off,sz,y) List.mem_cons_self)).1⟩
  | succ k=>exact h2 k p q (by simpa using hp) (by simpa using hq)
theorem PY{T:TypeId}{parts:Array (Nat×Operand)}{t:TypeInfo}{fs:Array Field}{z:Value}{zs:List V}{places:List (Nat×Nat)}{ps:List (Nat×Nat×O)}(ho:o.op=.build T parts)(ht:P.info? T=some t)(hu:P.underlying T=some (.struct fs))(hz:t.zero=some z)
  (lU:gH z.cells.toList=some zs) (Fo:placesOf P fs.toList=some places) (lq:qK places parts.toList=some ps) {ob:Prop} {y:V} (h:aM fr J (.build zs ps)=some (ob,y)) (cY:ob):Yields P o a w J μ y:=by
 simp only[aM]at h;split at h
 ·rename_i cs mi;simp only[aa,ao]at h;obtain⟨rfl,rfl⟩:=h;obtain⟨h1,h2⟩:=vw hF hS parts.toList ps lq cY
  obtain⟨cells',h3,h4⟩:=xH (w:=w) (J:=J) (μ:=μ) (fun x=>places.toArray[x]?) (parts.toList.map fun(i,x)=>(i,a.eval x)) (ps.map fun(off,sz,x)=>(off,sz,ed (ev fr x))) zs cs z.cells (jU lU) mi (by simp[h1]) (by
   intro k p q hp hq;rw[a8]at hp hq;simp only[aj]at hp hq;obtain⟨p',hp',rfl⟩:=hp;obtain⟨q',hq',rfl⟩:=hq;obtain⟨hf,hc⟩:=h2 k p' q' hp' hq';exact⟨by simpa using hf,hc⟩)
  refine .pure (v:=.agg cells') ?_ h4.MI
  have cT:=run_build (P:=P) w T (parts.map fun(i,x)=>(i,a.eval x)) cells' (by
   simp only[Program.built,ht,hu,hz,lM];unfold placesOf at Fo;simp only[Fo];exact h3)
  simp only[execOp,ho,Sem.run_bind,cT,Result.andThen_ok,Sem.run_pure]
 ·simp at h
theorem Mu{T E:TypeId}{n:Nat}{parts:Array (Nat×Operand)}{t te:TypeInfo}{z:Value}{zs:List V}{ps:List (Nat×Nat×O)}(ho:o.op=.build T parts)(ht:P.info? T=some t)(hu:P.underlying T=some (.array n E))(hz:t.zero=some z)(hte:P.info? E=some te)
  (lU:gH z.cells.toList=some zs) (lq:qK ((List.range n).map fun i=>(i*te.size,te.size)) parts.toList=some ps) {ob:Prop} {y:V} (h:aM fr J (.build zs ps)=some (ob,y)) (cY:ob):Yields P o a w J μ y:=by
 simp only[aM]at h;split at h
 ·rename_i cs mi;simp only[aa,ao]at h;obtain⟨rfl,rfl⟩:=h;obtain⟨h1,h2⟩:=vw hF hS parts.toList ps lq cY
  obtain⟨cells',h3,h4⟩:=xH (w:=w) (J:=J) (μ:=μ) (fun i=>some (i*te.size,te.size)) (parts.toList.map fun(i,x)=>(i,a.eval x)) (ps.map fun(off,sz,x)=>(off,sz,ed (ev fr x))) zs cs z.cells (jU lU) mi (by simp[h1]) (by
   intro k p q hp hq;rw[a8]at hp hq;simp only[aj]at hp hq;obtain⟨p',hp',rfl⟩:=hp;obtain⟨q',hq',rfl⟩:=hq;obtain⟨hf,hc⟩:=h2 k p' q' hp' hq';rw[a8]at hf;simp only[aj]at hf;obtain⟨i,hi,hf⟩:=hf
   have Hz:i=p'.1:=by
    have:=(ab.1 hi).2;simpa using this.symm
   subst Hz;exact⟨by rw[hf],hc⟩)
  refine .pure (v:=.agg cells') ?_ h4.MI
  have cT:=run_build (P:=P) w T (parts.map fun(i,x)=>(i,a.eval x)) cells' (by
   simp only[Program.built,ht,hu,hz,hte,lM];exact h3)
  simp only[execOp,ho,Sem.run_bind,cT,Result.andThen_ok,Sem.run_pure]
 ·simp at h
theorem BV:∀ (parts:List (Nat×Operand)) (n:Nat) (xs:List O),qJ n parts=some xs→(∀ x∈xs,eZ J (ev fr x)=true) →
  xs.length=parts.length∧∀ (k:Nat) (p:Nat×Operand) (x:O),parts[k]?=some p→xs[k]?=some x→p.1=n+k∧CR w J μ (ed (ev fr x)) (a.eval p.2).cells
 | [],n,xs,h,_=>by simp only[qJ,aa]at h;subst h;simp
 | (i,x)::r,n,xs,h,gW=>by
  simp only[qJ]at h;split at h
  ·rename_i hi;subst hi;split at h<;>simp only[aa,reduceCtorEq]at h;rename_i y ys hy xF;subst h;obtain⟨h1,h2⟩:=BV r _ ys xF (fun p hp=>gW p (dh _ hp));refine⟨by simp[h1],fun k p q hp hq=>?_⟩;cases k with
   | zero =>
    simp only[aw,aa]at hp hq;subst hp;subst hq;exact⟨rfl,(jC hS (cP hF hy) (gW y List.mem_cons_self)).1⟩
   | succ k =>
    have:=h2 k p q (by simpa using hp) (by simpa using hq);exact⟨by omega,this.2⟩
  ·simp at h
theorem zP{T E:TypeId}{len:Nat}{parts:Array (Nat×Operand)}{t:TypeInfo}{z:Value}{xs:List O}{szs:List (Option Nat)}(ho:o.op=.buildSlice T len parts)(hT:P.underlying T=some (.slice E))(ht:P.info? E=some t)(hz:t.zero=some z)
  (hn:parts.size=len) (fw:0<t.size) (Q9:z.cells.size=t.size) (Rq:len*t.size≤2^24) (lq:qJ 0 parts.toList=some xs) (gW:∀ x∈xs,eZ J (ev fr x)=true) (SZ:∀ r∈xs.map fun x=>cx szs (ed (ev fr x)),r.length=t.size) :
  ∃ cells':Array Value,(execOp a.eval o).run P w=.ok (.value (.slice (some ⟨w.heap.size,0,none⟩) len len)) (w.alloc (.cells cells' E))∧(xs.map fun x=>cx szs (ed (ev fr x))).length=len∧cells'.size=len*t.size ∧
   ∀ i j x,eS (xs.map fun x=>cx szs (ed (ev fr x))) i j=some x→i*t.size+j<cells'.size∧VR w J μ x (cells'.getD (i*t.size+j) undef):=by
 obtain⟨h1,h2⟩:=BV hF hS parts.toList 0 xs lq gW;have hlen:xs.length=len:=by rw[h1];simpa using hn
 generalize ZT:(xs.map fun x=>cx szs (ed (ev fr x)))=rows at SZ ⊢;have rI:rows.length=len:=by rw[← ZT];simp[hlen]
 let zc:Array Value:=if len*t.size=0 then #[]else z.cells
 let zeros:Array Value:=(Array.range (len*t.size)).map (zc[· % zc.size]!)
 have Ox:CR w J μ (List.replicate (len*t.size) V.u) zeros:=by
  refine⟨by simp[zeros],fun i x hx=>?_⟩;have:x=.u:=(ab.1 hx).2▸by simp
  subst this;exact .u _
 have S7:=zw t.size rows [] 0 (List.replicate (len*t.size) V.u) SZ (by simp) (by simp[rI]);simp only[bk]at S7
 obtain⟨cells',h3,h4⟩:=xH (w:=w) (J:=J) (μ:=μ) (fun i=>some (i*t.size,t.size)) (parts.toList.map fun(i,x)=>(i,a.eval x)) _ _ _ zeros Ox S7 (by simp[rI,hn]) (by
  intro k p q hp hq;rw[a8]at hp;simp only[aj]at hp;obtain⟨p',hp',rfl⟩:=hp;rw[a8,List.getElem?_zipIdx]at hq;simp only[Option.map_map,aj]at hq;obtain⟨r,hr,rfl⟩:=hq;rw[← ZT,a8]at hr;simp only[aj]at hr;obtain⟨x,hx,rfl⟩:=hr;obtain⟨e1,hc⟩:=h2 k p' x hp' hx;refine⟨?_,hc.cx szs⟩;simp[e1])
 have cT:(execOp a.eval o).run P w=.ok (.value (.slice (some ⟨w.heap.size,0,none⟩) len len)) (w.alloc (.cells cells' E)):=by
  have hnb:¬ (16777216<len*t.size):=by omega
  simp only[execOp,ho,Instr.buildSlice,Sem.run_bind,run_underlying hT,Result.andThen_ok,sizeOf,typeInfo,run_program,ht,Sem.run_pure];have hif:¬ (len*t.size > 2^24):=by omega
  simp only[hif,aK]
  by_cases h0:len*t.size=0
  ·have Uy:zc=#[]:=by simp[zc,h0]
   have e1:zeros=(Array.range (len*t.size)).map ((#[]:Array Value)[· % (#[]:Array Value).size]!):=by simp only[zeros,Uy]
   simp only[h0,aL,Sem.run_bind,Sem.run_pure,Result.andThen_ok];rw[e1,h0]at h3;simp only[lM,h3];simp[newRow]
  ·have Uy:zc=z.cells:=by simp[zc,h0]
   have e1:zeros=(Array.range (len*t.size)).map (z.cells[· % z.cells.size]!):=by simp only[zeros,Uy]
   simp only[h0,aK,zeroValue,typeInfo,Sem.run_bind,run_program,ht,Result.andThen_ok,Sem.run_pure,hz];rw[e1]at h3;simp only[lM,h3];simp[newRow]
 refine⟨cells',cT,rI,?_,fun i j x hx=>?_⟩
 ·rw[← h4.1];simp[FH SZ,rI]
 ·have Z5:=HL SZ hx;exact⟨by rw[← h4.1];exact(ab.1 Z5).1,h4.2 _ x Z5⟩
theorem Mw{T E:TypeId}{len:Nat}{parts:Array (Nat×Operand)}{t:TypeInfo}{z:Value}{xs:List O}{szs:List (Option Nat)}(ho:o.op=.buildSlice T len parts)(hT:P.underlying T=some (.slice E))(ht:P.info? E=some t)(hz:t.zero=some z)
  (hn:parts.size=len) (fw:0<t.size) (Q9:z.cells.size=t.size) (Rq:len*t.size≤2^24) (lq:qJ 0 parts.toList=some xs) {ob:Prop} {y:V} (h:aM fr J (.bC t.size szs xs)=some (ob,y)) (cY:ob):Yields P o a w J μ y:=by
 simp only[aM,aa,ao]at h;obtain⟨rfl,rfl⟩:=h;obtain⟨gW,tS⟩:=cY;obtain⟨cells',cT,rI,mi,y8⟩:=zP hF hS ho hT ht hz hn fw Q9 Rq lq gW (fun r hr=>(tS r hr).1);generalize ZT:(xs.map fun x=>cx szs (ed (ev fr x)))=rows at tS rI y8 ⊢;have SZ:∀ r∈rows,r.length=t.size:=fun r hr=>(tS r hr).1;have hg:w.grownBy (w.alloc (.cells cells' E)) none:=World.grownBy_alloc w _ none;obtain⟨hS',hp⟩:=hS.grown hg;refine⟨_,_,cT,hg,?_⟩
 have nA:∀ i j x,eS rows i j=some x→(w.alloc (.cells cells' E)).cell? ⟨w.heap.size,0+i*t.size+j,none⟩=some (cells'.getD (i*t.size+j) undef)∧VR w J μ x (cells'.getD (i*t.size+j) undef):=by
  intro i j x hx;obtain⟨dc,hv⟩:=y8 i j x hx;refine⟨?_,hv⟩;rw[World.cell?_alloc_new,bz];simp[dc]
 have:=VR.lit (w:=w.alloc (.cells cells' E)) (J:=J) (μ:=μ) t.size rows w.heap.size 0 (fun i j=>cells'.getD (i*t.size+j) undef) (by
   rw[rI];have:len≤len*t.size:=aaq _ fw;unfold maxLen;omega) SZ (fun i j x hx=>⟨(nA i j x hx).1,fun hw=>?_,?_⟩) (fun i j x hx=>(nA i j x hx).2.mono hp)
 ·rwa [rI]at this
 ·obtain⟨id,ob,h5,h6,h7⟩:=hw;have hd:ob≠.dead:=by rintro rfl;exact h7
  exact absurd (hS.pn h5 hd h6).2 (Nat.lt_irrefl _)
 ·obtain⟨r,hr,hj⟩:=ie hx;exact(tS r (aT hr)).2 x (aT hj)
end cF
structure B1 (w:World) (J:ae) (μ:Mem) (xs:List (List V)) (sz:Nat) (v:Value):Prop where
 rows:∀ r∈xs,r.length=sz
 len:xs.length≤maxLen
 here:(xs=[]∧∃ a,v=.slice a 0 0)∨∃ b off cap,v=.slice (some ⟨b,off,none⟩) xs.length cap ∧
  ∀ i j x,eS xs i j=some x→x.pure=true∧∃ u,w.cell? ⟨b,off+i*sz+j,none⟩=some u∧VR w J μ x u
theorem mQ.SG{w:World}{J:ae}{μ:Mem}{xs:List (List V)}{sz b o cap:Nat}{f:Nat→Nat→Value}(h:mQ w J μ xs sz b o f)(hl:xs.length≤maxLen):B1 w J μ xs sz (.slice (some ⟨b,o,none⟩) xs.length cap) :=
 ⟨h.1,hl,.inr ⟨b,o,cap,rfl,fun i j x hx=>⟨(h.2.1 i j x hx).2.2,f i j,(h.2.1 i j x hx).1,h.2.2 i j x hx⟩⟩⟩
theorem uL{P:Program}{B:Nat}{w0 w:World}{J:ae}{μ:Mem}(hS:fx P B w0 w J μ){x:V}{v:Value}(h:VR w J μ x v){sz:Nat}{xs:List (List V)}(hx:rowsOf J sz x=some xs):B1 w J μ xs sz v:=by
 unfold rowsOf at hx;split at hx
 ·simp only[aa]at hx;subst hx;exact⟨by simp,by simp,.inl ⟨rfl,_,h.lp⟩⟩
 ·split at hx<;>simp only[aa,reduceCtorEq]at hx;rename_i fw;subst fw;subst hx;rcases h.ny with⟨rfl,rfl⟩ | ⟨b,o,f,rfl,hm,hr⟩
  ·exact⟨by simp,by simp,.inl ⟨rfl,_,rfl⟩⟩
  ·exact hr.SG hm
 ·split at hx<;>simp only[aa,reduceCtorEq]at hx;rename_i fw;subst fw;subst hx;rcases h.yQ with⟨rfl,_,rfl⟩ | ⟨b,o,cap,f,rfl,hc,hm,hr⟩
  ·exact⟨by simp,by simp,.inl ⟨rfl,_,rfl⟩⟩
  ·exact hr.SG (aQ hc hm)
 ·rename_i id g;split at hx
  ·rename_i E sz' by' g' sh xs' ho;split at hx<;>simp only[aa,reduceCtorEq]at hx;rename_i hg;obtain⟨rfl,rfl⟩:=hg;subst hx;have hv:=h.jP ho;obtain⟨_,cq,hr⟩:=hS.rowAt ho;rcases hr with⟨hm,hn⟩ | ⟨b,cap,cur,hm,_,hc,DJ,_,hr⟩
   ·subst hn;exact⟨by simp,by simp,.inl ⟨rfl,_,hv.trans hm⟩⟩
   ·exact⟨cq,aQ hc DJ,.inr ⟨b,0,cap,hv.trans hm,fun i j x hx=>by rw[bz];exact hr i j x hx⟩⟩
  ·simp at hx
 ·rename_i id g lo hi;split at hx
  ·rename_i E sz' by' g' sh xs' ho;split at hx<;>simp only[aa,reduceCtorEq]at hx;rename_i hg;obtain⟨rfl,rfl⟩:=hg;subst hx;obtain⟨h1,h2,hv⟩:=h.pc ho;obtain⟨_,cq,hr⟩:=hS.rowAt ho;have hrow':∀ r∈(xs'.drop lo).take (hi - lo),r.length=sz':=fun r hr=>cq r (pN (fu hr));have hl:((xs'.drop lo).take (hi - lo)).length=hi - lo:=by simp;omega
   rcases hr with⟨hm,hn⟩ | ⟨b,cap,cur,hm,_,hc,DJ,_,hr⟩
   ·subst hn;refine⟨by simp,by simp,.inl ⟨by simp,none,?_⟩⟩;simp only[aC]at h2;rw[hv,hm];have h3:lo=0:=by omega
    have h4:hi=0:=by omega
    subst h3;subst h4;rfl
   ·refine⟨hrow',by rw[hl];omega,?_⟩;rw[hv,hm]
    by_cases he:cap=lo
    ·have h3:hi - lo=0:=by omega
     refine .inr ⟨b,0,cap - lo,?_,?_⟩
     ·rw[hl];simp[kO,he]
     ·intro i j x hx;rw[h3]at hx;simp[eS]at hx
    ·refine .inr ⟨b,lo*sz',cap - lo,?_,?_⟩
     ·rw[hl];simp[kO,he,Addr.add_lit]
     ·intro i j x hx;have:=hr _ _ _ (xN hx)
      rwa [show(lo+i)*sz'+j=lo*sz'+i*sz'+j by rw[cD]]at this
  ·simp at hx
 ·simp at hx
theorem B1.cells{w:World}{J:ae}{μ:Mem}{xs:List (List V)}{sz:Nat}{b off n cap:Nat}(h:B1 w J μ xs sz (.slice (some ⟨b,off,none⟩) n cap))(hx:∀ i j x,eS xs i j=some x→eX J x=true){P:Program}{B:Nat}{w0:World}(hS:fx P B w0 w J μ):
  ∃ vals:List Value,vals.length=xs.length*sz∧(∀ (j:Nat) (u:Value),vals[j]?=some u→w.cell? ((⟨b,off,none⟩:Addr).add j)=some u)∧(∀ u∈vals,u.oneCell'=true)∧mc w J μ xs sz vals:=by
 rcases h.here with⟨rfl,a,he⟩ | ⟨b',off',cap',he,hr⟩
 ·exact⟨[],by simp,by simp,by simp,by simp,by simp[eS]⟩
 ·simp only[Value.slice.injEq,aa,Addr.mk.injEq,fq]at he;obtain⟨⟨rfl,rfl⟩,rfl,rfl⟩:=he;have fw:0<xs.length*sz→0<sz:=fun h=>aap h;let f:Nat→Value:=fun k=>(w.cell? ⟨b,off+k,none⟩).getD undef
  have hk:∀ k,k<xs.length*sz→∃ x,eS xs (k / sz) (k % sz)=some x∧x.pure=true∧w.cell? ⟨b,off+k,none⟩=some (f k)∧VR w J μ x (f k):=by
   intro k hk;have hs:0<sz:=fw (by omega);have h1:k / sz<xs.length:=lh (by rw[fa];exact hk);obtain⟨x,hx⟩:=Bi h.rows h1 (sW k hs);obtain⟨h2,u,h3,h4⟩:=hr _ _ _ hx;have e:off+k / sz*sz+k % sz=off+k:=by have:=Sz k sz;rw[fa]at this;omega
   rw[e]at h3;have hf:f k=u:=by simp[f,h3]
   exact⟨x,hx,h2,by rw[hf];exact h3,by rw[hf];exact h4⟩
  refine⟨(List.range (xs.length*sz)).map f,by simp,fun j u hj=>?_,fun u hu=>?_,h.rows,fun i j x Hw=>?_⟩
  ·rw[a8]at hj;simp only[aj]at hj;obtain⟨k,rZ,rfl⟩:=hj
   have kI:j<xs.length*sz:=by
    have:=(ab.1 rZ).1;simpa using this
   have:k=j:=by rw[gS kI]at rZ;simpa using rZ.symm
   subst this;rw[Addr.add_lit];obtain⟨_,_,_,h3,_⟩:=hk k kI;exact h3
  ·simp only[bH,cC]at hu;obtain⟨k,uy,rfl⟩:=hu;obtain⟨x,h1,_,_,h4⟩:=hk k uy;exact(mM hS h4 (hx _ _ _ h1)).1
  ·obtain⟨h2,u,h3,h4⟩:=hr _ _ _ Hw;obtain⟨r,S2,s6⟩:=ie Hw;have hi:i<xs.length:=(ab.1 S2).1;have hj:j<sz:=by rw[← h.rows r (aT S2)];exact(ab.1 s6).1
   have dc:i*sz+j<xs.length*sz:=by
    have:(i+1)*sz≤xs.length*sz:=bM _ hi;rw[cD]at this;omega
   refine⟨h2,u,?_,h4⟩;rw[a8,gS dc];have:off+i*sz+j=off+(i*sz+j):=by omega
   rw[this]at h3;simp[f,h3]
theorem nj{J:ae}{x:V}(h:x.pure=true):eX J x=true:=by cases x<;>simp_all [V.pure,eX]
theorem foldl_push(ns:List Int):∀ (s:ByteArray),(ns.foldl (fun(r:ByteArray) n=>r.push (UInt8.ofNat n.toNat)) s).data.toList=s.data.toList++ns.map fun n=>UInt8.ofNat n.toNat:=by
 induction ns with
 | nil=>intro s;simp
 | cons n ns ih=>intro s;rw[c8,ih];simp[ByteArray.push]
theorem uk:∀ (xs:List (List V)) (l:List UInt8),bytesOf xs=some l→∃ ns:List Int,xs=ns.map (fun n=>[V.i .u8 n])∧l=ns.map fun n=>UInt8.ofNat n.toNat
 | [],l,h=>by simp only[bytesOf,aa]at h;subst h;exact⟨[],rfl,rfl⟩
 | r::rs,l,h=>by
  simp only[bytesOf]at h;split at h<;>simp only[aa,reduceCtorEq]at h;rename_i x ys hx xF;subst h;obtain⟨ns,h1,h2⟩:=uk rs ys xF;unfold oL at hx;split at hx<;>simp only[aa,reduceCtorEq]at hx;rename_i n;subst hx;exact⟨n::ns,by simp[h1],by simp[h2]⟩
section cF
variable {P:Program} {o:Oper} {a:Act} {B:Nat} {w0 w:World} {J:ae} {μ:Mem} {fr:List V} (hF:FR w J μ fr a) (hS:fx P B w0 w J μ)
include hF hS
theorem Wp{s d e:TypeId}{x:Operand}{x':O}(ho:o.op=.convert s d x)(hs:P.underlying s=some (.slice e))(he:P.underlying e=some (.int .u8))(hd:P.underlying d=some .string)(hx:cO x=some x')
  {ob:Prop} {y:V} (h:aM fr J (.JG x')=some (ob,y)):Yields P o a w J μ y:=by
 have h1:=cP hF hx;simp only[aM]at h;split at h
 ·rename_i xs ux;split at h
  ·rename_i l hl;simp only[aa,ao]at h;obtain⟨_,rfl⟩:=h;have SY:=uL hS h1 ux;obtain⟨ns,Mi,PJ⟩:=uk xs l hl;have Mk:l.length=xs.length:=by rw[PJ,Mi];simp
   rcases SY.here with⟨VY,a0,hv⟩ | ⟨b,off,cap,hv,hr⟩
   ·subst VY;have:l=[]:=aG (by simpa using Mk);subst this;refine .pure (v:=.string ByteArray.empty) ?_ (.s _ _ rfl (by simp))
    have h0:(convert s d (.slice a0 0 0)).run P w=.ok (.string ByteArray.empty) w:=by
     cases a0 with
     | none=>exact run_convert_bytes_nil (P:=P) (w:=w) s e hs he 0 0 d hd
     | some a0 =>
      rw[run_convert_bytes_string w s d e _ _ _ hs he hd,run_bytesToString w a0 0 0 [] (run_loadCells_list w a0 [] (by simp))];rfl
    simp only[execOp,ho,hv,Sem.run_bind,h0,Result.andThen_ok,Sem.run_pure]
   ·have nA:∀ j,j<xs.length→w.cell? ((⟨b,off,none⟩:Addr).add j)=some (.int .u8 (ns.getD j 0)):=by
     intro j hj;have ZY:j<ns.length:=by rw[Mi]at hj;simpa using hj
     have eA:eS xs j 0=some (.i .u8 ns[j]):=by rw[Mi];simp[eS,ZY]
     obtain⟨_,u,h2,h3⟩:=hr j 0 _ eA;rw[h3.ei]at h2;rw[Addr.add_lit];simpa[ZY]using h2
    have YT:=run_loadCells (P:=P) w ⟨b,off,none⟩ xs.length (fun j=>.int .u8 (ns.getD j 0)) nA
    have hload':(loadCells ⟨b,off,none⟩ xs.length).run P w=.ok (ns.map (Value.int .u8)).toArray w:=by
     rw[YT];congr 2;apply gK;intro j;have hln':xs.length=ns.length:=by rw[Mi];simp
     by_cases hj:j<ns.length
     ·rw[a8,gS (by omega),a8,ak hj];simp[hj]
     ·rw[bl (by simp;omega),bl (by simp;omega)]
    refine .pure (v:=.string (ns.foldl (fun r n=>r.push (UInt8.ofNat n.toNat)) ByteArray.empty)) ?_ (.s _ _ ?_ (by rw[Mk];exact SY.len))
    ·simp only[execOp,ho,hv,Sem.run_bind,run_convert_bytes_string w s d e _ _ _ hs he hd,run_bytesToString w ⟨b,off,none⟩ xs.length cap ns hload',Result.andThen_ok,Sem.run_pure]
    ·rw[foldl_push,PJ];rfl
  ·simp at h
 ·simp at h
end cF
end Go.Pm

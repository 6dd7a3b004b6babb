/- A part of a proof; the claim's last text says of what. -/
import Derived.ChangeKeysEq
import Derived.Test.YtlakkaamfadipaaGreatDoorL8
set_option linter.all false

namespace Go.Pm
open Go Go.RowKit
theorem toList_data(s:ByteArray):s.toList=s.data.toList:=ByteArray.toList_eq s
theorem vK{x y:V}{p:Bool}(h:bI 0 x y=some p):∃ k a b,x=.i k a∧y=.i k b∧(a==b)=p:=by
 cases x<;>(try (simp[bI]at h;done));cases y<;>(try (simp[bI]at h;done));simp only[bI]at h;split at h<;>simp only[aa,reduceCtorEq]at h;rename_i hk;subst hk;exact⟨_,_,_,rfl,rfl,h⟩
theorem A8{xs ys:List V}{r:Bool}(h:dM [0,0] xs ys=some r):∃ k l a b a' b',xs=[.i k a,.i l b]∧ys=[.i k a',.i l b']∧(a==a'&&b==b')=r:=by
 match xs,ys with
 | [],_=>simp[dM]at h
 | _::_,[]=>simp[dM]at h
 | [x],y::ys =>
  simp only[dM]at h;split at h<;>simp_all [dM]
 | x::x2::xs,[y] =>
  simp only[dM]at h;split at h<;>simp_all [dM]
 | x::x2::xs,y::y2::ys =>
  cases xs with
  | cons x3 xs=>simp only[dM]at h;repeat' (split at h)<;>simp_all [dM]
  | nil=>cases ys with
   | cons y3 ys=>simp only[dM]at h;repeat' (split at h)<;>simp_all [dM]
   | nil =>
    simp only[dM]at h;split at h<;>simp only[aa,reduceCtorEq]at h;rename_i p q hp hq;split at hq<;>simp only[aa,reduceCtorEq]at hq;rename_i p2 q2 uC CL;simp only[aa]at CL;obtain⟨k,a,a',rfl,rfl,e1⟩:=vK hp;obtain⟨l,b,b',rfl,rfl,e2⟩:=vK uC;exact⟨k,l,a,b,a',b',rfl,rfl,by rw[← h,← hq,← CL,e1,e2,oy]⟩
theorem VR.pair{w:World}{J:ae}{μ:Mem}{k l:IntKind}{a b:Int}{v:Value}(h:VR w J μ (.agg [.i k a,.i l b]) v):v=.agg #[.int k a,.int l b]:=by
 obtain⟨vs,rfl,hl,hv⟩:=h.fX;have h0:=(hv 0 _ rfl).dI;have h1:=(hv 1 _ rfl).dI;obtain⟨l⟩:=vs
 match l,hl with
 | [x,y],_=>simp at h0 h1;rw[h0,h1]
theorem pX{P:Program}{w:World}{K e:TypeId}{q:IntKind}(hK:P.underlying K=some (.array 2 e))(he:P.underlying e=some (.int q))(hc:P.cellsOf e=1)(k l:IntKind)(a b a' b':Int):
  (Op.equal K (.agg #[.int k a,.int l b]) (.agg #[.int k a',.int l b'])).run P w=.ok (a==a'&&b==b') w:=by
 have hi:∃ i,P.info? e=some i:=by
  unfold Program.underlying at he;cases h:P.info? e with
  | none=>simp[h]at he
  | some i=>exact⟨i,rfl⟩
 obtain⟨i,hi⟩:=hi;have hA:dO P e=some false:=by simp[dO,he]
 have hp:∀ (x y:Value) (j:Nat) (z:Value),#[x,y][j]?=some z→(part e #[x,y] j).run P w=.ok z w:=by
  intro x y j z hz;simp only[part,Sem.run_bind,iI hA,Result.andThen_ok,aG,aO,hz];rfl
 have gen:∀ n,(Op.equalIn (n+2) K (.agg #[.int k a,.int l b]) (.agg #[.int k a',.int l b'])).run P w=.ok (a==a'&&b==b') w:=by
  intro n;rw[run_equalIn_array w (n+1) _ _ hK hi,hc]
  simp only[show List.range 2=[0,1]from rfl,Op.eqItems,Sem.run_bind,hp (.int k a) (.int l b) 0 (.int k a) rfl,hp (.int k a) (.int l b) 1 (.int l b) rfl,hp (.int k a') (.int l b') 0 (.int k a') rfl,hp (.int k a') (.int l b') 1 (.int l b') rfl,Result.andThen_ok,
   run_equalIn_int w n e k q _ _ he,run_equalIn_int w n e l q _ _ he,Bg]
  cases(a==a')<;>cases h:(b==b')<;>simp[hp (.int k a) (.int l b) 1 (.int l b) rfl,hp (.int k a') (.int l b') 1 (.int l b') rfl,run_equalIn_int w n e l q b b' he,h]
 exact gen 9998
section b9
variable {P:Program} {o:Oper} {a:Act} {B:Nat} {w0 w:World} {J:ae} {μ:Mem} {fr:List V} (hF:FR w J μ fr a)
include hF
theorem O9{op:BinOp}{T yT:TypeId}{x y:Operand}{x' y':O}(ho:o.op=.binOp op T x y yT)(hx:cO x=some x')(hy:cO y=some y')
  {ob:Prop} {z:V} (h:aJ fr J (.bin op x' y')=some (ob,z)) (cK:ob):Yields P o a w J μ z:=by
 have h1:=cn hF hx;have h2:=cn hF hy;simp only[aJ,eU]at h;split at h
 ·rename_i k p k' q hp hq;rw[hp]at h1;rw[hq]at h2;have e1:=h1.dI;have e2:=h2.dI
  have cx:∀ v,(binOp op T (.int k p) (.int k' q)).run P w=.ok v w→(execOp a.eval o).run P w=.ok (.value v) w:=by
   intro v hv;simp only[execOp,ho,e1,e2,eqGuard_at_int,pure_bind,Sem.run_bind,hv,Result.andThen_ok,Sem.run_pure]
  split at h
  ·simp only[aa,ao]at h;obtain⟨rfl,rfl⟩:=h;have hn:¬ q<0:=by omega
   exact .pure (cx _ (by simp[binOp_shl,Op.shift,hn])) (.i _ _)
  ·simp only[aa,ao]at h;obtain⟨rfl,rfl⟩:=h;have hn:¬ q<0:=by omega
   exact .pure (cx _ (by simp[binOp_shr,Op.shift,hn])) (.i _ _)
  ·split at h
   ·rename_i hk;subst hk;split at h<;>simp only[aa,ao,reduceCtorEq]at h<;>obtain⟨rfl,rfl⟩:=h
    ·exact .pure (cx _ (by simp[binOp_add,Op.intArith])) (.i _ _)
    ·exact .pure (cx _ (by simp[binOp_sub,Op.intArith])) (.i _ _)
    ·exact .pure (cx _ (by simp[binOp_mul,Op.intArith])) (.i _ _)
    ·exact .pure (cx _ (by simp[binOp_quo,Op.intDiv,cK])) (.i _ _)
    ·exact .pure (cx _ (by simp[binOp_rem,Op.intDiv,cK])) (.i _ _)
    ·exact .pure (cx _ (by simp only[binOp_and,Op.intBits];rfl)) (.i _ _)
    ·exact .pure (cx _ (by simp only[binOp_or,Op.intBits];rfl)) (.i _ _)
    ·exact .pure (cx _ (by simp only[binOp_xor,Op.intBits];rfl)) (.i _ _)
    ·exact .pure (cx _ (by simp[binOp_eql])) (.b _)
    ·exact .pure (cx _ (by simp[binOp_neq])) (.b _)
    ·exact .pure (cx _ (by simp[binOp_lss])) (.b _)
    ·exact .pure (cx _ (by simp[binOp_leq])) (.b _)
    ·exact .pure (cx _ (by simp[binOp_gtr])) (.b _)
    ·exact .pure (cx _ (by simp[binOp_geq])) (.b _)
   ·simp at h
 ·rename_i p q hp hq;rw[hp]at h1;rw[hq]at h2;obtain⟨s,hs,rfl,QS⟩:=h1.kb;obtain⟨s',hs',rfl,hsl'⟩:=h2.kb
  have cx:∀ v,(Op.stringOp op s s').run P w=.ok v w→(execOp a.eval o).run P w=.ok (.value v) w:=by
   intro v hv;have hb:binOp op T (.string s) (.string s')=Op.stringOp op s s':=by cases op<;>rfl
   simp only[execOp,ho,hs,hs',eqGuard_at_string,pure_bind,hb,Sem.run_bind,hv,Result.andThen_ok,Sem.run_pure]
  split at h<;>simp only[aa,ao,reduceCtorEq]at h<;>obtain⟨rfl,rfl⟩:=h
  ·refine .pure (v:=.string (s++s')) (cx _ ?_) (.s _ _ ?_ ?_)
   ·have hn:¬ (s.size+s'.size > 9223372036854775807):=by rw[bsize,bsize];unfold maxLen at cK;omega
    rw[run_string_add_if,aC hn]
   ·simp[ByteArray.data_append]
   ·rw[al];exact cK
  ·exact .pure (cx _ (by simp[Op.stringOp,toList_data])) (.b _)
  ·exact .pure (cx _ (by simp[Op.stringOp,toList_data])) (.b _)
  ·exact .pure (cx _ (by simp[Op.stringOp,toList_data])) (.b _)
  ·exact .pure (cx _ (by simp[Op.stringOp,toList_data])) (.b _)
  ·exact .pure (cx _ (by simp[Op.stringOp,toList_data])) (.b _)
  ·exact .pure (cx _ (by simp[Op.stringOp,toList_data])) (.b _)
 ·simp at h
theorem SK{op:BinOp}{T yT:TypeId}{x y:Operand}{x' y':O}(ho:o.op=.binOp op T x y yT)(du:s5 op=true)(hT:P.underlying T=some .bool)(hx:cO x=some x')(hy:cO y=some y')
  {ob:Prop} {z:V} (h:aJ fr J (.PQ (Ga op) x' y')=some (ob,z)):Yields P o a w J μ z:=by
 have h1:=cn hF hx;have h2:=cn hF hy;simp only[aJ]at h;split at h
 ·rename_i p q hp hq;rw[hp]at h1;rw[hq]at h2;have e1:=h1.lW;have e2:=h2.lW;simp only[aa,ao]at h;obtain⟨rfl,rfl⟩:=h;have he:=run_equal_bool (P:=P) (w:=w) T p q hT;cases op<;>simp only[s5,aG]at du
  ·refine .pure (v:=.bool (p==q)) ?_ (.b _);simp only[execOp,ho,e1,e2,eqGuard_at_bool,pure_bind,Sem.run_bind,binOp,he,Result.andThen_ok,Sem.run_pure]
  ·refine .pure (v:=.bool (!(p==q))) ?_ (.b _);simp only[execOp,ho,e1,e2,eqGuard_at_bool,pure_bind,Sem.run_bind,binOp,he,Result.andThen_ok,Sem.run_pure]
 ·simp at h
omit hF in
theorem nH:∀ (fs:List Field) (ks:List Nat) (n:Nat) (xs ys:List V) (us vs:Array Value) (r:Bool) (d:Nat),ia P n fs=some ks →
  (∀ j x,xs[j]?=some x→VR w J μ x (us.getD (n+j) undef))→(∀ j x,ys[j]?=some x→VR w J μ x (vs.getD (n+j) undef))→us.size=n+xs.length→vs.size=n+ys.length→dM ks xs ys=some r →
  (Op.eqFields (d+1) us vs fs).run P w=.ok r w
 | [],ks,n,xs,ys,us,vs,r,d,hf,_,_,_,_,hc=>by
  simp only[ia,aa]at hf;subst hf;cases xs with
  | nil=>cases ys with
   | nil=>simp only[dM,aa]at hc;subst hc;rfl
   | cons y ys=>simp[dM]at hc
  | cons x xs=>simp[dM]at hc
 | f::fs,ks,n,xs,ys,us,vs,r,d,hf,sf,u3,XR,s8,hc=>by
  simp only[ia]at hf;split at hf
  ·rename_i CO;obtain⟨CO,QX⟩:=CO
   have hk:∃ k ks',ks=k::ks'∧ia P (n+1) fs=some ks'∧dO P f.type=some false ∧
     ∀ x y u v p,bI k x y=some p→VR w J μ x u→VR w J μ y v→(Op.equalIn (d+1) f.type u v).run P w=.ok p w:=by
    split at hf<;>simp only[aa,reduceCtorEq]at hf
    ·rename_i k ks' hu hr;refine⟨0,ks',hf.symm,hr,by simp[dO,hu],fun x y u v p hp hx hy=>?_⟩;cases x<;>(try (simp[bI]at hp;done));cases y<;>(try (simp[bI]at hp;done));simp only[bI]at hp;split at hp<;>simp only[aa,reduceCtorEq]at hp;rename_i Gl;subst Gl;subst hp;rw[hx.dI,hy.dI];exact run_equalIn_int w d f.type _ k _ _ hu
    ·rename_i ks' hu hr;refine⟨1,ks',hf.symm,hr,by simp[dO,hu],fun x y u v p hp hx hy=>?_⟩;cases x<;>(try (simp[bI]at hp;done));cases y<;>(try (simp[bI]at hp;done));simp only[bI,aa]at hp;subst hp;obtain⟨s,rfl,rfl,_⟩:=hx.kb;obtain⟨s',rfl,rfl,_⟩:=hy.kb;rw[run_equalIn_string w d f.type s s' hu,toList_data,toList_data]
    ·rename_i ks' hu hr;refine⟨2,ks',hf.symm,hr,by simp[dO,hu],fun x y u v p hp hx hy=>?_⟩;cases x<;>(try (simp[bI]at hp;done));cases y<;>(try (simp[bI]at hp;done));simp only[bI,aa]at hp;subst hp;rw[hx.lW,hy.lW];exact run_equalIn_bool' w d f.type _ _ hu
   obtain⟨k,ks',rfl,Py,hA,YB⟩:=hk;cases xs with
   | nil=>simp[dM]at hc
   | cons x xs =>
    cases ys with
    | nil=>simp[dM]at hc
    | cons y ys =>
     simp only[dM]at hc;split at hc<;>simp only[aa,reduceCtorEq]at hc;rename_i p q hp hq;have Wl:=sf 0 x rfl;have hy0:=u3 0 y rfl;simp only[eA]at Wl hy0;have Yp:n<us.size:=by simp at XR;omega
     have Yo:n<vs.size:=by simp at s8;omega
     have Yc:(part f.type us f.offset).run P w=.ok (us.getD n undef) w:=by
      simp only[part,Sem.run_bind,iI hA,Result.andThen_ok,aG,aO,CO];rw[show us[n]?=some (us.getD n undef)by simp[Yp]];rfl
     have hpy:(part f.type vs f.offset).run P w=.ok (vs.getD n undef) w:=by
      simp only[part,Sem.run_bind,iI hA,Result.andThen_ok,aG,aO,CO];rw[show vs[n]?=some (vs.getD n undef)by simp[Yo]];rfl
     have heq:=YB x y _ _ p hp Wl hy0
     have ih:=nH fs ks' (n+1) xs ys us vs q d Py
      (fun j z hz=>by have:=sf (j+1) z hz;rwa [show n+(j+1)=n+1+j by omega]at this)
      (fun j z hz=>by have:=u3 (j+1) z hz;rwa [show n+(j+1)=n+1+j by omega]at this)
      (by simp at XR;omega) (by simp at s8;omega) hq
     subst hc;simp only[Op.eqFields,gC,QX,dS,aR,Sem.run_bind,Yc,hpy,Result.andThen_ok,heq];cases p
     ·simp
     ·simp[ih]
  ·simp at hf
theorem SJ{op:BinOp}{T yT:TypeId}{ks:List Nat}{x y:Operand}{x' y':O}(ho:o.op=.binOp op T x y yT)(du:s5 op=true)(hT:EU P T=some ks)(hx:cO x=some x')(hy:cO y=some y')
  {ob:Prop} {z:V} (h:aJ fr J (.beq (Ga op) ks x' y')=some (ob,z)):Yields P o a w J μ z:=by
 have h1:=cn hF hx;have h2:=cn hF hy;unfold EU at hT;split at hT
 ·rename_i fs hu;split at hT
  ·rename_i hc;simp only[aJ]at h;split at h
   ·rename_i xs ys hp hq;rw[hp]at h1;rw[hq]at h2;obtain⟨us,e1,l1,v1⟩:=h1.fX;obtain⟨vs,e2,l2,v2⟩:=h2.fX;split at h
    ·rename_i r hr;simp only[aa,ao]at h;obtain⟨rfl,rfl⟩:=h;have hf:P.fieldsOf T=fs:=by simp[Program.fieldsOf,hu]
     have cx:(Op.equalIn 10000 T (.agg us) (.agg vs)).run P w=.ok r w:=by
      rw[run_equalIn_struct w 9999 T us vs (by rw[hf];exact hu) hc.1,hf];exact nH fs.toList ks 0 xs ys us vs r 9998 hT (fun j z hz=>by simpa using v1 j z hz) (fun j z hz=>by simpa using v2 j z hz) (by omega) (by omega) hr
     have hg:=run_eqGuard_agg (P:=P) w op T x y us vs hc.2;cases op<;>simp only[s5,aG]at du
     ·refine .pure (v:=.bool r) ?_ (.b _);simp only[execOp,ho,e1,e2,Sem.run_bind,hg,Result.andThen_ok,run_eql_struct,cx,Sem.run_pure]
     ·refine .pure (v:=.bool (!r)) ?_ (.b _);simp only[execOp,ho,e1,e2,Sem.run_bind,hg,Result.andThen_ok,run_neq_struct,cx,Sem.run_pure]
    ·simp at h
   ·simp at h
  ·simp at hT
 ·rename_i e hu;split at hT
  ·rename_i hc;split at hT<;>simp only[aa,reduceCtorEq]at hT;rename_i q he;subst hT;simp only[aJ]at h;split at h
   ·rename_i xs ys hp hq;rw[hp]at h1;rw[hq]at h2;split at h
    ·rename_i r hr;simp only[aa,ao]at h;obtain⟨rfl,rfl⟩:=h;obtain⟨k,l,a1,b1,a2,b2,rfl,rfl,KC⟩:=A8 hr
     ·have e1:=h1.pair;have e2:=h2.pair;have cx:=pX (P:=P) (w:=w) hu he hc.2 k l a1 b1 a2 b2;rw[KC]at cx;have hg:=run_eqGuard_agg (P:=P) w op T x y #[.int k a1,.int l b1] #[.int k a2,.int l b2] hc.1;cases op<;>simp only[s5,aG]at du
      ·refine .pure (v:=.bool r) ?_ (.b _);simp only[execOp,ho,e1,e2,Sem.run_bind,hg,Result.andThen_ok,binOp,cx,Sem.run_pure]
      ·refine .pure (v:=.bool (!r)) ?_ (.b _);simp only[execOp,ho,e1,e2,Sem.run_bind,hg,Result.andThen_ok,binOp,cx,Sem.run_pure]
    ·simp at h
   ·simp at h
  ·simp at hT
 ·simp at hT
end b9
def CR(w:World)(J:ae)(μ:Mem)(xs:List V)(vs:Array Value):Prop:=xs.length=vs.size∧∀ i x,xs[i]?=some x→VR w J μ x (vs.getD i undef)
theorem VR.kT{w:World}{J:ae}{μ:Mem}{x:V}{v:Value}(h:VR w J μ x v)(s:Option Nat):VR w J μ (kT s x) v:=by
 unfold Pm.kT;split
 ·rw[h.kM];exact .yK _
 ·rcases h.mH with⟨rfl,rfl⟩ | ⟨b,o,f,rfl,hm,hr⟩
  ·exact .yK _
  ·exact .sl _ _ b o _ f (aq _) hm hr.1 hr.2.1 hr.2.2
 ·exact h
theorem CR.bW{w:World}{J:ae}{μ:Mem}:∀ (ss:List (Option Nat)) {xs:List V} {vs:Array Value},CR w J μ xs vs→CR w J μ (bW ss xs) vs:=by
 have key:∀ (ss:List (Option Nat)) (xs:List V) (n:Nat) (vs:Array Value),(∀ i x,xs[i]?=some x→VR w J μ x (vs.getD (n+i) undef)) →
   (Pm.bW ss xs).length=xs.length∧∀ i x,(Pm.bW ss xs)[i]?=some x→VR w J μ x (vs.getD (n+i) undef):=by
  intro ss
  induction ss with
  | nil=>intro xs n vs h;simpa[Pm.bW]using h
  | cons s ss ih =>
   intro xs n vs h;cases xs with
   | nil=>simp[Pm.bW]
   | cons x xs =>
    have h2:=ih xs (n+1) vs (fun i y hy=>by have:=h (i+1) y hy;rwa [show n+(i+1)=n+1+i by omega]at this);refine⟨by simp[Pm.bW,h2.1],fun i y hy=>?_⟩;cases i with
    | zero =>
     simp only[Pm.bW,au,aa]at hy;subst hy;exact(h 0 x rfl).kT s
    | succ i =>
     simp only[Pm.bW,bA]at hy;have:=h2.2 i y hy
     rwa [show n+1+i=n+(i+1)by omega]at this
 intro ss xs vs h;have:=key ss xs 0 vs (fun i x hx=>by simpa using h.2 i x hx);exact⟨this.1.trans h.1,fun i x hx=>by simpa using this.2 i x hx⟩
theorem l3{P:Program}{B:Nat}{w0 w:World}{J:ae}{μ:Mem}(hS:fe P B w0 w J μ){x:V}{v:Value}(h:VR w J μ x v)(hc:eL J x=true):v.oneCell'=true∧v.cells=#[v]:=by
 have slice_one:∀ a n c,(Value.slice a n c).oneCell'=true∧(Value.slice a n c).cells=#[.slice a n c]:=fun _ _ _=>⟨rfl,rfl⟩;cases h with
 | u v=>simp[eL]at hc
 | own id g v hid h =>
  simp only[eL]at hc;split at hc
  ·rename_i E sz by' g' sh xs ho;simp only[bN]at hc;subst hc;rw[(h _ _ _ _ _ _ ho).2 rfl];rcases(hS.rowAt ho).2.2 with⟨hm,_⟩ | ⟨b,cap,cur,hm,_⟩<;>rw[hm]<;>exact slice_one _ _ _
  ·simp at hc
 | sub id g lo hi v hid h =>
  simp only[eL]at hc;split at hc
  ·rename_i E sz by' g' sh xs ho;simp only[bN]at hc;subst hc;rw[((h _ _ _ _ _ _ ho).2 rfl).2.2];rcases(hS.rowAt ho).2.2 with⟨hm,_⟩ | ⟨b,cap,cur,hm,_⟩<;>rw[hm]<;>exact slice_one _ _ _
  ·simp at hc
 | rp id g i off v hid h =>
  simp only[eL]at hc;split at hc
  ·rename_i E sz by' g' sh xs ho;simp only[bN]at hc;subst hc;obtain⟨hi,hv⟩:=(h _ _ _ _ _ _ ho).2 rfl;rw[hv];rcases(hS.rowAt ho).2.2 with⟨_,hn⟩ | ⟨b,cap,cur,hm,_⟩
   ·subst hn;simp at hi
   ·rw[hm];exact⟨rfl,rfl⟩
  ·simp at hc
 | agg xs vs hl hv=>simp[eL]at hc
 | fa xs vs hl hv=>simp[eL]at hc
 | it id v h hm=>simp[eL]at hc
 | r7 id n b h hm=>simp[eL]at hc
 | _=>exact⟨rfl,rfl⟩
theorem iZ{P:Program}{B:Nat}{w0 w:World}{J:ae}{μ:Mem}(hS:fe P B w0 w J μ){x:V}{v:Value}(h:VR w J μ x v)(hc:eO J x=true):
  CR w J μ (dL x) v.cells∧∀ u∈v.cells,u.oneCell'=true:=by
 by_cases ha:∃ xs,x=.agg xs
 ·obtain⟨xs,rfl⟩:=ha;obtain⟨vs,rfl,hl,hv⟩:=h.fX;refine⟨⟨hl,hv⟩,fun u hu=>?_⟩;obtain⟨i,hi,rfl⟩:=Array.mem_iff_getElem.1 hu;simp only[eO,cj]at hc;have hi':i<xs.length:=by rw[hl];exact hi
  have h1:=hv i xs[i] (an hi');have h2:=(l3 hS h1 (hc _ (cg hi'))).1;have Bp:i<vs.size:=hi;have h3:vs.getD i undef=vs[i]:=by simp[Bp]
  rw[h3]at h2;exact h2
 ·have hx:eO J x=eL J x∧dL x=[x]:=by
   cases x<;>first | exact⟨rfl,rfl⟩ | exact absurd ⟨_,rfl⟩ ha
  rw[hx.1]at hc;obtain⟨h1,h2⟩:=l3 hS h hc;rw[hx.2,h2];refine⟨⟨rfl,fun i y hy=>?_⟩,fun u hu=>by simp only[Array.mem_singleton]at hu;subst hu;exact h1⟩;cases i with
  | zero=>simp only[au,aa]at hy;subst hy;simpa using h
  | succ i=>simp at hy
theorem qe:∀ (l:List Value) (k off:Nat) (cells:Array Value),off+k+l.length≤cells.size →
  ((l.zipIdx k).foldl (fun(cs:Array Value) (p:Value×Nat)=>cs.setIfInBounds (off+p.2) p.1) cells).size=cells.size ∧
  ∀ i,((l.zipIdx k).foldl (fun(cs:Array Value) (p:Value×Nat)=>cs.setIfInBounds (off+p.2) p.1) cells).getD i undef =
   if off+k≤i∧i<off+k+l.length then l.getD (i - (off+k)) undef else cells.getD i undef
 | [],k,off,cells,_=>by simp;intro i h1 h2;omega
 | v::l,k,off,cells,h=>by
  simp only[ai]at h;have ih:=qe l (k+1) off (cells.setIfInBounds (off+k) v) (by simp;omega);simp only[List.zipIdx_cons,eS];refine⟨by rw[ih.1];simp,fun i=>?_⟩;rw[ih.2 i]
  by_cases h1:off+(k+1)≤i∧i<off+(k+1)+l.length
  ·rw[aQ h1,aQ (by simp only[ai];omega)];have:i - (off+k)=(i - (off+(k+1)))+1:=by omega
   rw[this];simp
  ·rw[aC h1]
   by_cases h2:i=off+k
   ·subst h2;rw[aQ (by simp only[ai];omega)];simp[show off+k<cells.size by omega]
   ·rw[aC (by simp only[ai];omega)];simp only[aZ];rw[bS (fun h=>h2 h.symm)]
theorem CR.fill{w:World}{J:ae}{μ:Mem}{xs ys:List V}{cells vs:Array Value}(h:CR w J μ xs cells)(hy:CR w J μ ys vs)(off:Nat)(ho:off+ys.length≤xs.length):
  CR w J μ (xs.take off++ys++xs.drop (off+ys.length)) (vs.zipIdx.foldl (fun cs (c,j)=>cs.setIfInBounds (off+j) c) cells):=by
 have VB:=qe vs.toList 0 off cells (by rw[aF,← hy.1,← h.1];simpa using ho)
 have he:vs.zipIdx.foldl (fun cs (c,j)=>cs.setIfInBounds (off+j) c) cells=(vs.toList.zipIdx 0).foldl (fun(cs:Array Value) (p:Value×Nat)=>cs.setIfInBounds (off+p.2) p.1) cells:=by
  rw[← Array.foldl_toList,Array.toList_zipIdx]
 rw[he];refine⟨?_,fun i x hx=>?_⟩
 ·rw[VB.1,← h.1];simp;omega
 ·rw[VB.2 i];simp only[eA,aF];rw[← hy.1]
  by_cases h1:i<off
  ·rw[aC (by omega)];rw[aM,ag (by simp;omega),aU h1]at hx;exact h.2 i x hx
  ·by_cases h2:i<off+ys.length
   ·rw[aQ (by omega)];rw[ag (by simp;omega),aw (by simp;omega)]at hx;have hl:(xs.take off).length=off:=by simp;omega
    rw[hl]at hx;have:=hy.2 _ x hx;simpa using this
   ·rw[aC (by omega)];have hl:(xs.take off++ys).length=off+ys.length:=by simp;omega
    rw[aw (by omega),hl,cv]at hx;have h3:off+ys.length+(i - (off+ys.length))=i:=by omega
    rw[h3]at hx;exact h.2 i x hx
theorem u9{w:World}{J:ae}{μ:Mem}(place:Nat→Option (Nat×Nat)):∀ (parts:List (Nat×Value)) (ps:List (Nat×Nat×List V)) (xs cs:List V) (cells:Array Value),
  CR w J μ xs cells→qh xs ps=some cs→ps.length=parts.length→(∀ (k:Nat) (p:Nat×Value) (q:Nat×Nat×List V),parts[k]?=some p→ps[k]?=some q→place p.1=some (q.1,q.2.1)∧CR w J μ q.2.2 p.2.cells) →
  ∃ cells',Instr.fill place cells parts=some cells'∧CR w J μ cs cells'
 | [],ps,xs,cs,cells,h,hf,hl,_=>by
  have:ps=[]:=aD hl;subst this;simp only[qh,aa]at hf;subst hf;exact⟨cells,rfl,h⟩
 | (i,v)::parts,ps,xs,cs,cells,h,hf,hl,hp=>by
  cases ps with
  | nil=>simp at hl
  | cons q ps =>
   obtain⟨off,sz,ys⟩:=q;have h0:=hp 0 (i,v) (off,sz,ys) rfl rfl;simp only[qh]at hf;split at hf
   ·rename_i hc;obtain⟨rfl,DL⟩:=hc;have hy:=h0.2;have hs:v.cells.size=ys.length:=hy.1.symm;have zi:=h.fill hy off DL;obtain⟨cells',h1,h2⟩:=u9 place parts ps _ cs _ zi hf (by simpa using hl) (fun k p q h3 h4=>hp (k+1) p q h3 h4);refine⟨cells',?_,h2⟩;simp only[Instr.fill,h0.1]
    have gr:(decide (v.cells.size≠ys.length)||decide (off+v.cells.size > cells.size))=false:=by
     rw[hs,← h.1];simp;omega
    simp only[gr,aG,aO];exact h1
   ·simp at hf
theorem xg{w:World}{J:ae}{μ:Mem}:∀ (l:List Value) (zs:List V),fY l=some zs→zs.length=l.length∧∀ (i:Nat) (x:V),zs[i]?=some x→VR w J μ x (l.getD i undef)
 | [],zs,h=>by simp only[fY,aa]at h;subst h;simp
 | v::l,zs,h=>by
  simp only[fY]at h;split at h<;>simp only[aa,reduceCtorEq]at h;rename_i y ys hy u3;subst h;obtain⟨h1,h2⟩:=xg l ys u3;refine⟨by simp[h1],fun i x hx=>?_⟩;cases i with
  | zero=>simp only[au,aa]at hx;subst hx;exact tl hy
  | succ i=>simpa using h2 i x hx
theorem js{w:World}{J:ae}{μ:Mem}{cs:Array Value}{zs:List V}(h:fY cs.toList=some zs):CR w J μ zs cs:=by
 obtain⟨h1,h2⟩:=xg (w:=w) (J:=J) (μ:=μ) _ _ h;refine⟨by simpa using h1,fun i x hx=>?_⟩;have:=h2 i x hx;simpa[ar]using this
theorem CR.Jm{w:World}{J:ae}{μ:Mem}{xs:List V}{vs:Array Value}(h:CR w J μ xs vs):VR w J μ (.agg xs) (.agg vs):=.agg xs vs h.1 h.2
theorem ET{xs:List (List V)}{sz:Nat}(bT:∀ r∈xs,r.length=sz):∀ {i j:Nat} {x:V},eV xs i j=some x→xs.flatten[i*sz+j]?=some x:=by
 induction xs with
 | nil=>intro i j x h;simp[eV]at h
 | cons r xs ih =>
  intro i j x h;have hr:=bT r (by simp);cases i with
  | zero =>
   simp only[eV,au,ey]at h;have hj:j<r.length:=(ab.1 h).1;rw[IS,Nat.zero_mul,bj,ag hj,h]
  | succ i =>
   have h':eV xs i j=some x:=by simpa[eV]using h
   have:=ih (fun r hr=>bT r (by simp[hr])) h';rw[IS,aw (by rw[hr,bO];omega),hr];have e:(i+1)*sz+j - sz=i*sz+j:=by rw[bO];omega
   rw[e,this]
theorem C4{xs:List (List V)}{sz:Nat}(bT:∀ r∈xs,r.length=sz):xs.flatten.length=xs.length*sz:=by
 induction xs with
 | nil=>simp
 | cons r xs ih=>rw[IS,al,bT r (by simp),ih (fun r hr=>bT r (by simp[hr])),ai,bO];omega
theorem wY(sz:Nat):∀ (rows:List (List V)) (pre:List V) (k:Nat) (tail:List V),(∀ r∈rows,r.length=sz)→pre.length=k*sz→tail.length=rows.length*sz →
  qh (pre++tail) ((rows.zipIdx k).map fun(r,i)=>(i*sz,sz,r))=some (pre++rows.flatten)
 | [],pre,k,tail,_,_,ht=>by
  have:tail=[]:=aD (by simpa using ht);subst this;simp[qh]
 | r::rows,pre,k,tail,hr,hp,ht=>by
  have kV:=hr r (by simp);have xM:sz≤tail.length:=by rw[ht,ai,bO];omega
  simp only[List.zipIdx_cons,az,qh];rw[aQ ⟨kV,by rw[al,hp];omega⟩];have e1:(pre++tail).take (k*sz)=pre:=by rw[← hp];exact Bh
  have e2:(pre++tail).drop (k*sz+sz)=tail.drop sz:=by rw[← hp,List.drop_append];simp
  rw[e1,e2];have ih:=wY sz rows (pre++r) (k+1) (tail.drop sz) (fun x hx=>hr x (by simp[hx])) (by rw[al,hp,kV,bO];omega) (by rw[bJ,ht,ai,bO];omega);rw[ih];simp
section b9
variable {P:Program} {o:Oper} {a:Act} {B:Nat} {w0 w:World} {J:ae} {μ:Mem} {fr:List V} (hF:FR w J μ fr a) (hS:fe P B w0 w J μ)
include hF hS
theorem tt{places:List (Nat×Nat)}:∀ (parts:List (Nat×Operand)) (ps:List (Nat×Nat×O)),pd places parts=some ps→(∀ p∈ps,eO J (ev fr p.2.2)=true) →
  ps.length=parts.length∧∀ (k:Nat) (p:Nat×Operand) (q:Nat×Nat×O),parts[k]?=some p→ps[k]?=some q →
   places[p.1]?=some (q.1,q.2.1)∧CR w J μ (dL (ev fr q.2.2)) (a.eval p.2).cells
 | [],ps,h,_=>by simp only[pd,aa]at h;subst h;simp
 | (i,x)::r,ps,h,fQ=>by
  simp only[pd]at h;split at h<;>simp only[aa,reduceCtorEq]at h;rename_i off sz y ys hf hy u3;subst h;obtain⟨h1,h2⟩:=tt r ys u3 (fun p hp=>fQ p (di _ hp));refine⟨by simp[h1],fun k p q hp hq=>?_⟩;cases k with
  | zero =>
   simp only[au,aa]at hp hq;subst hp;subst hq;exact⟨hf,(iZ hS (cn hF hy) (fQ (off,sz,y) me)).1⟩
  | succ k=>exact h2 k p q (by simpa using hp) (by simpa using hq)
theorem Mx{T:TypeId}{parts:Array (Nat×Operand)}{t:TypeInfo}{fs:Array Field}{z:Value}{zs:List V}{places:List (Nat×Nat)}{ps:List (Nat×Nat×O)}(ho:o.op=.build T parts)(ht:P.info? T=some t)(hu:P.underlying T=some (.struct fs))(hz:t.zero=some z)
  (lh:fY z.cells.toList=some zs) (EB:placesOf P fs.toList=some places) (jV:pd places parts.toList=some ps) {ob:Prop} {y:V} (h:aJ fr J (.build zs ps)=some (ob,y)) (cK:ob):Yields P o a w J μ y:=by
 simp only[aJ]at h;split at h
 ·rename_i cs kN;simp only[aa,ao]at h;obtain⟨rfl,rfl⟩:=h;obtain⟨h1,h2⟩:=tt hF hS parts.toList ps jV cK
  obtain⟨cells',h3,h4⟩:=u9 (w:=w) (J:=J) (μ:=μ) (fun x=>places.toArray[x]?) (parts.toList.map fun(i,x)=>(i,a.eval x)) (ps.map fun(off,sz,x)=>(off,sz,dL (ev fr x))) zs cs z.cells (js lh) kN (by simp[h1]) (by
   intro k p q hp hq;rw[aW]at hp hq;simp only[ah]at hp hq;obtain⟨p',hp',rfl⟩:=hp;obtain⟨q',hq',rfl⟩:=hq;obtain⟨hf,hc⟩:=h2 k p' q' hp' hq';exact⟨by simpa using hf,hc⟩)
  refine .pure (v:=.agg cells') ?_ h4.Jm
  have cx:=run_build (P:=P) w T (parts.map fun(i,x)=>(i,a.eval x)) cells' (by
   simp only[Program.built,ht,hu,hz,lg];unfold placesOf at EB;simp only[EB];exact h3)
  simp only[execOp,ho,Sem.run_bind,cx,Result.andThen_ok,Sem.run_pure]
 ·simp at h
theorem Jb{T E:TypeId}{n:Nat}{parts:Array (Nat×Operand)}{t te:TypeInfo}{z:Value}{zs:List V}{ps:List (Nat×Nat×O)}(ho:o.op=.build T parts)(ht:P.info? T=some t)(hu:P.underlying T=some (.array n E))(hz:t.zero=some z)(XV:P.info? E=some te)
  (lh:fY z.cells.toList=some zs) (jV:pd ((List.range n).map fun i=>(i*te.size,te.size)) parts.toList=some ps) {ob:Prop} {y:V} (h:aJ fr J (.build zs ps)=some (ob,y)) (cK:ob):Yields P o a w J μ y:=by
 simp only[aJ]at h;split at h
 ·rename_i cs kN;simp only[aa,ao]at h;obtain⟨rfl,rfl⟩:=h;obtain⟨h1,h2⟩:=tt hF hS parts.toList ps jV cK
  obtain⟨cells',h3,h4⟩:=u9 (w:=w) (J:=J) (μ:=μ) (fun i=>some (i*te.size,te.size)) (parts.toList.map fun(i,x)=>(i,a.eval x)) (ps.map fun(off,sz,x)=>(off,sz,dL (ev fr x))) zs cs z.cells (js lh) kN (by simp[h1]) (by
   intro k p q hp hq;rw[aW]at hp hq;simp only[ah]at hp hq;obtain⟨p',hp',rfl⟩:=hp;obtain⟨q',hq',rfl⟩:=hq;obtain⟨hf,hc⟩:=h2 k p' q' hp' hq';rw[aW]at hf;simp only[ah]at hf;obtain⟨i,hi,hf⟩:=hf
   have Bp:i=p'.1:=by
    have:=(ab.1 hi).2;simpa using this.symm
   subst Bp;exact⟨by rw[hf],hc⟩)
  refine .pure (v:=.agg cells') ?_ h4.Jm
  have cx:=run_build (P:=P) w T (parts.map fun(i,x)=>(i,a.eval x)) cells' (by
   simp only[Program.built,ht,hu,hz,XV,lg];exact h3)
  simp only[execOp,ho,Sem.run_bind,cx,Result.andThen_ok,Sem.run_pure]
 ·simp at h
theorem zx:∀ (parts:List (Nat×Operand)) (n:Nat) (xs:List O),pc n parts=some xs→(∀ x∈xs,eO J (ev fr x)=true) →
  xs.length=parts.length∧∀ (k:Nat) (p:Nat×Operand) (x:O),parts[k]?=some p→xs[k]?=some x→p.1=n+k∧CR w J μ (dL (ev fr x)) (a.eval p.2).cells
 | [],n,xs,h,_=>by simp only[pc,aa]at h;subst h;simp
 | (i,x)::r,n,xs,h,fQ=>by
  simp only[pc]at h;split at h
  ·rename_i hi;subst hi;split at h<;>simp only[aa,reduceCtorEq]at h;rename_i y ys hy u3;subst h;obtain⟨h1,h2⟩:=zx r _ ys u3 (fun p hp=>fQ p (di _ hp));refine⟨by simp[h1],fun k p q hp hq=>?_⟩;cases k with
   | zero =>
    simp only[au,aa]at hp hq;subst hp;subst hq;exact⟨rfl,(iZ hS (cn hF hy) (fQ y me)).1⟩
   | succ k =>
    have:=h2 k p q (by simpa using hp) (by simpa using hq);exact⟨by omega,this.2⟩
  ·simp at h
theorem xr{T E:TypeId}{len:Nat}{parts:Array (Nat×Operand)}{t:TypeInfo}{z:Value}{xs:List O}{szs:List (Option Nat)}(ho:o.op=.buildSlice T len parts)(hT:P.underlying T=some (.slice E))(ht:P.info? E=some t)(hz:t.zero=some z)
  (hn:parts.size=len) (eI:0<t.size) (IZ:z.cells.size=t.size) (N1:len*t.size≤2^24) (jV:pc 0 parts.toList=some xs) (fQ:∀ x∈xs,eO J (ev fr x)=true) (Px:∀ r∈xs.map fun x=>bW szs (dL (ev fr x)),r.length=t.size) :
  ∃ cells':Array Value,(execOp a.eval o).run P w=.ok (.value (.slice (some ⟨w.heap.size,0,none⟩) len len)) (w.alloc (.cells cells' E))∧(xs.map fun x=>bW szs (dL (ev fr x))).length=len∧cells'.size=len*t.size ∧
   ∀ i j x,eV (xs.map fun x=>bW szs (dL (ev fr x))) i j=some x→i*t.size+j<cells'.size∧VR w J μ x (cells'.getD (i*t.size+j) undef):=by
 obtain⟨h1,h2⟩:=zx hF hS parts.toList 0 xs jV fQ;have hlen:xs.length=len:=by rw[h1];simpa using hn
 generalize Wo:(xs.map fun x=>bW szs (dL (ev fr x)))=rows at Px ⊢;have kV:rows.length=len:=by rw[← Wo];simp[hlen]
 let zc:Array Value:=if len*t.size=0 then #[]else z.cells
 let zeros:Array Value:=(Array.range (len*t.size)).map (zc[· % zc.size]!)
 have K7:CR w J μ (List.replicate (len*t.size) V.u) zeros:=by
  refine⟨by simp[zeros],fun i x hx=>?_⟩;have:x=.u:=(ab.1 hx).2▸by simp
  subst this;exact .u _
 have PE:=wY t.size rows [] 0 (List.replicate (len*t.size) V.u) Px (by simp) (by simp[kV]);simp only[bh]at PE
 obtain⟨cells',h3,h4⟩:=u9 (w:=w) (J:=J) (μ:=μ) (fun i=>some (i*t.size,t.size)) (parts.toList.map fun(i,x)=>(i,a.eval x)) _ _ _ zeros K7 PE (by simp[kV,hn]) (by
  intro k p q hp hq;rw[aW]at hp;simp only[ah]at hp;obtain⟨p',hp',rfl⟩:=hp;rw[aW,List.getElem?_zipIdx]at hq;simp only[Option.map_map,ah]at hq;obtain⟨r,hr,rfl⟩:=hq;rw[← Wo,aW]at hr;simp only[ah]at hr;obtain⟨x,hx,rfl⟩:=hr;obtain⟨e1,hc⟩:=h2 k p' x hp' hx;refine⟨?_,hc.bW szs⟩;simp[e1])
 have cx:(execOp a.eval o).run P w=.ok (.value (.slice (some ⟨w.heap.size,0,none⟩) len len)) (w.alloc (.cells cells' E)):=by
  have hnb:¬ (16777216<len*t.size):=by omega
  simp only[execOp,ho,Instr.buildSlice,Sem.run_bind,run_underlying hT,Result.andThen_ok,sizeOf,typeInfo,run_program,ht,Sem.run_pure];have hif:¬ (len*t.size > 2^24):=by omega
  simp only[hif,aO]
  by_cases h0:len*t.size=0
  ·have QL:zc=#[]:=by simp[zc,h0]
   have e1:zeros=(Array.range (len*t.size)).map ((#[]:Array Value)[· % (#[]:Array Value).size]!):=by simp only[zeros,QL]
   simp only[h0,aR,Sem.run_bind,Sem.run_pure,Result.andThen_ok];rw[e1,h0]at h3;simp only[lg,h3];simp[newRow]
  ·have QL:zc=z.cells:=by simp[zc,h0]
   have e1:zeros=(Array.range (len*t.size)).map (z.cells[· % z.cells.size]!):=by simp only[zeros,QL]
   simp only[h0,aO,zeroValue,typeInfo,Sem.run_bind,run_program,ht,Result.andThen_ok,Sem.run_pure,hz];rw[e1]at h3;simp only[lg,h3];simp[newRow]
 refine⟨cells',cx,kV,?_,fun i j x hx=>?_⟩
 ·rw[← h4.1];simp[C4 Px,kV]
 ·have YA:=ET Px hx;exact⟨by rw[← h4.1];exact(ab.1 YA).1,h4.2 _ x YA⟩
theorem Jc{T E:TypeId}{len:Nat}{parts:Array (Nat×Operand)}{t:TypeInfo}{z:Value}{xs:List O}{szs:List (Option Nat)}(ho:o.op=.buildSlice T len parts)(hT:P.underlying T=some (.slice E))(ht:P.info? E=some t)(hz:t.zero=some z)
  (hn:parts.size=len) (eI:0<t.size) (IZ:z.cells.size=t.size) (N1:len*t.size≤2^24) (jV:pc 0 parts.toList=some xs) {ob:Prop} {y:V} (h:aJ fr J (.c6 t.size szs xs)=some (ob,y)) (cK:ob):Yields P o a w J μ y:=by
 simp only[aJ,aa,ao]at h;obtain⟨rfl,rfl⟩:=h;obtain⟨fQ,rM⟩:=cK;obtain⟨cells',cx,kV,kN,wJ⟩:=xr hF hS ho hT ht hz hn eI IZ N1 jV fQ (fun r hr=>(rM r hr).1);generalize Wo:(xs.map fun x=>bW szs (dL (ev fr x)))=rows at rM kV wJ ⊢;have Px:∀ r∈rows,r.length=t.size:=fun r hr=>(rM r hr).1;have hg:w.grownBy (w.alloc (.cells cells' E)) none:=World.grownBy_alloc w _ none;obtain⟨hS',hp⟩:=hS.grown hg;refine⟨_,_,cx,hg,?_⟩
 have qd:∀ i j x,eV rows i j=some x→(w.alloc (.cells cells' E)).cell? ⟨w.heap.size,0+i*t.size+j,none⟩=some (cells'.getD (i*t.size+j) undef)∧VR w J μ x (cells'.getD (i*t.size+j) undef):=by
  intro i j x hx;obtain⟨cM,hv⟩:=wJ i j x hx;refine⟨?_,hv⟩;rw[World.cell?_alloc_new,bj];simp[cM]
 have:=VR.lit (w:=w.alloc (.cells cells' E)) (J:=J) (μ:=μ) t.size rows w.heap.size 0 (fun i j=>cells'.getD (i*t.size+j) undef) (by
   rw[kV];have:len≤len*t.size:=WQ _ eI;unfold maxLen;omega) Px (fun i j x hx=>⟨(qd i j x hx).1,fun hw=>?_,?_⟩) (fun i j x hx=>(qd i j x hx).2.mono hp)
 ·rwa [kV]at this
 ·obtain⟨id,ob,h5,h6,h7⟩:=hw;have hd:ob≠.dead:=by rintro rfl;exact h7
  exact absurd (hS.nV h5 hd h6).2 (Nat.lt_irrefl _)
 ·obtain⟨r,hr,hj⟩:=eP hx;exact(rM r (aL hr)).2 x (aL hj)
end b9
structure zD (w:World) (J:ae) (μ:Mem) (xs:List (List V)) (sz:Nat) (v:Value):Prop where
 rows:∀ r∈xs,r.length=sz
 len:xs.length≤maxLen
 here:(xs=[]∧∃ a,v=.slice a 0 0)∨∃ b off cap,v=.slice (some ⟨b,off,none⟩) xs.length cap ∧
  ∀ i j x,eV xs i j=some x→x.pure=true∧∃ u,w.cell? ⟨b,off+i*sz+j,none⟩=some u∧VR w J μ x u
theorem mb.Pg{w:World}{J:ae}{μ:Mem}{xs:List (List V)}{sz b o cap:Nat}{f:Nat→Nat→Value}(h:mb w J μ xs sz b o f)(hl:xs.length≤maxLen):zD w J μ xs sz (.slice (some ⟨b,o,none⟩) xs.length cap) :=
 ⟨h.1,hl,.inr ⟨b,o,cap,rfl,fun i j x hx=>⟨(h.2.1 i j x hx).2.2,f i j,(h.2.1 i j x hx).1,h.2.2 i j x hx⟩⟩⟩
theorem sG{P:Program}{B:Nat}{w0 w:World}{J:ae}{μ:Mem}(hS:fe P B w0 w J μ){x:V}{v:Value}(h:VR w J μ x v){sz:Nat}{xs:List (List V)}(hx:rowsOf J sz x=some xs):zD w J μ xs sz v:=by
 unfold rowsOf at hx;split at hx
 ·simp only[aa]at hx;subst hx;exact⟨by simp,by simp,.inl ⟨rfl,_,h.kM⟩⟩
 ·split at hx<;>simp only[aa,reduceCtorEq]at hx;rename_i eI;subst eI;subst hx;rcases h.mH with⟨rfl,rfl⟩ | ⟨b,o,f,rfl,hm,hr⟩
  ·exact⟨by simp,by simp,.inl ⟨rfl,_,rfl⟩⟩
  ·exact hr.Pg hm
 ·split at hx<;>simp only[aa,reduceCtorEq]at hx;rename_i eI;subst eI;subst hx;rcases h.wB with⟨rfl,_,rfl⟩ | ⟨b,o,cap,f,rfl,hc,hm,hr⟩
  ·exact⟨by simp,by simp,.inl ⟨rfl,_,rfl⟩⟩
  ·exact hr.Pg (bl hc hm)
 ·rename_i id g;split at hx
  ·rename_i E sz' by' g' sh xs' ho;split at hx<;>simp only[aa,reduceCtorEq]at hx;rename_i hg;obtain⟨rfl,rfl⟩:=hg;subst hx;have hv:=h.iL ho;obtain⟨_,bT,hr⟩:=hS.rowAt ho;rcases hr with⟨hm,hn⟩ | ⟨b,cap,cur,hm,_,hc,wI,_,hr⟩
   ·subst hn;exact⟨by simp,by simp,.inl ⟨rfl,_,hv.trans hm⟩⟩
   ·exact⟨bT,bl hc wI,.inr ⟨b,0,cap,hv.trans hm,fun i j x hx=>by rw[bj];exact hr i j x hx⟩⟩
  ·simp at hx
 ·rename_i id g lo hi;split at hx
  ·rename_i E sz' by' g' sh xs' ho;split at hx<;>simp only[aa,reduceCtorEq]at hx;rename_i hg;obtain⟨rfl,rfl⟩:=hg;subst hx;obtain⟨h1,h2,hv⟩:=h.mF ho;obtain⟨_,bT,hr⟩:=hS.rowAt ho;have hrow':∀ r∈(xs'.drop lo).take (hi - lo),r.length=sz':=fun r hr=>bT r (dh (df hr));have hl:((xs'.drop lo).take (hi - lo)).length=hi - lo:=by simp;omega
   rcases hr with⟨hm,hn⟩ | ⟨b,cap,cur,hm,_,hc,wI,_,hr⟩
   ·subst hn;refine⟨by simp,by simp,.inl ⟨by simp,none,?_⟩⟩;simp only[aK]at h2;rw[hv,hm];have h3:lo=0:=by omega
    have h4:hi=0:=by omega
    subst h3;subst h4;rfl
   ·refine⟨hrow',by rw[hl];omega,?_⟩;rw[hv,hm]
    by_cases he:cap=lo
    ·have h3:hi - lo=0:=by omega
     refine .inr ⟨b,0,cap - lo,?_,?_⟩
     ·rw[hl];simp[iR,he]
     ·intro i j x hx;rw[h3]at hx;simp[eV]at hx
    ·refine .inr ⟨b,lo*sz',cap - lo,?_,?_⟩
     ·rw[hl];simp[iR,he,Addr.add_lit]
     ·intro i j x hx;have:=hr _ _ _ (vj hx)
      rwa [show(lo+i)*sz'+j=lo*sz'+i*sz'+j by rw[bO]]at this
  ·simp at hx
 ·simp at hx
theorem zD.cells{w:World}{J:ae}{μ:Mem}{xs:List (List V)}{sz:Nat}{b off n cap:Nat}(h:zD w J μ xs sz (.slice (some ⟨b,off,none⟩) n cap))(hx:∀ i j x,eV xs i j=some x→eL J x=true){P:Program}{B:Nat}{w0:World}(hS:fe P B w0 w J μ):
  ∃ vals:List Value,vals.length=xs.length*sz∧(∀ (j:Nat) (u:Value),vals[j]?=some u→w.cell? ((⟨b,off,none⟩:Addr).add j)=some u)∧(∀ u∈vals,u.oneCell'=true)∧gR w J μ xs sz vals:=by
 rcases h.here with⟨rfl,a,he⟩ | ⟨b',off',cap',he,hr⟩
 ·exact⟨[],by simp,by simp,by simp,by simp,by simp[eV]⟩
 ·simp only[Value.slice.injEq,aa,Addr.mk.injEq,kD]at he;obtain⟨⟨rfl,rfl⟩,rfl,rfl⟩:=he;have eI:0<xs.length*sz→0<sz:=fun h=>WO h;let f:Nat→Value:=fun k=>(w.cell? ⟨b,off+k,none⟩).getD undef
  have hk:∀ k,k<xs.length*sz→∃ x,eV xs (k / sz) (k % sz)=some x∧x.pure=true∧w.cell? ⟨b,off+k,none⟩=some (f k)∧VR w J μ x (f k):=by
   intro k hk;have hs:0<sz:=eI (by omega);have h1:k / sz<xs.length:=kE (by rw[eR];exact hk);obtain⟨x,hx⟩:=yN h.rows h1 (qN k hs);obtain⟨h2,u,h3,h4⟩:=hr _ _ _ hx;have e:off+k / sz*sz+k % sz=off+k:=by have:=O5 k sz;rw[eR]at this;omega
   rw[e]at h3;have hf:f k=u:=by simp[f,h3]
   exact⟨x,hx,h2,by rw[hf];exact h3,by rw[hf];exact h4⟩
  refine⟨(List.range (xs.length*sz)).map f,by simp,fun j u hj=>?_,fun u hu=>?_,h.rows,fun i j x DI=>?_⟩
  ·rw[aW]at hj;simp only[ah]at hj;obtain⟨k,EH,rfl⟩:=hj
   have jr:j<xs.length*sz:=by
    have:=(ab.1 EH).1;simpa using this
   have:k=j:=by rw[iP jr]at EH;simpa using EH.symm
   subst this;rw[Addr.add_lit];obtain⟨_,_,_,h3,_⟩:=hk k jr;exact h3
  ·simp only[aT,b7]at hu;obtain⟨k,oE,rfl⟩:=hu;obtain⟨x,h1,_,_,h4⟩:=hk k oE;exact(l3 hS h4 (hx _ _ _ h1)).1
  ·obtain⟨h2,u,h3,h4⟩:=hr _ _ _ DI;obtain⟨r,UX,ox⟩:=eP DI;have hi:i<xs.length:=(ab.1 UX).1;have hj:j<sz:=by rw[← h.rows r (aL UX)];exact(ab.1 ox).1
   have cM:i*sz+j<xs.length*sz:=by
    have:(i+1)*sz≤xs.length*sz:=aY _ hi;rw[bO]at this;omega
   refine⟨h2,u,?_,h4⟩;rw[aW,iP cM];have:off+i*sz+j=off+(i*sz+j):=by omega
   rw[this]at h3;simp[f,h3]
theorem mu{J:ae}{x:V}(h:x.pure=true):eL J x=true:=by cases x<;>simp_all [V.pure,eL]
theorem foldl_push(ns:List Int):∀ (s:ByteArray),(ns.foldl (fun(r:ByteArray) n=>r.push (UInt8.ofNat n.toNat)) s).data.toList=s.data.toList++ns.map fun n=>UInt8.ofNat n.toNat:=by
 induction ns with
 | nil=>intro s;simp
 | cons n ns ih=>intro s;rw[eS,ih];simp[ByteArray.push]
theorem rZ:∀ (xs:List (List V)) (l:List UInt8),bytesOf xs=some l→∃ ns:List Int,xs=ns.map (fun n=>[V.i .u8 n])∧l=ns.map fun n=>UInt8.ofNat n.toNat
 | [],l,h=>by simp only[bytesOf,aa]at h;subst h;exact⟨[],rfl,rfl⟩
 | r::rs,l,h=>by
  simp only[bytesOf]at h;split at h<;>simp only[aa,reduceCtorEq]at h;rename_i x ys hx u3;subst h;obtain⟨ns,h1,h2⟩:=rZ rs ys u3;unfold nr at hx;split at hx<;>simp only[aa,reduceCtorEq]at hx;rename_i n;subst hx;exact⟨n::ns,by simp[h1],by simp[h2]⟩
section b9
variable {P:Program} {o:Oper} {a:Act} {B:Nat} {w0 w:World} {J:ae} {μ:Mem} {fr:List V} (hF:FR w J μ fr a) (hS:fe P B w0 w J μ)
include hF hS
theorem SL{s d e:TypeId}{x:Operand}{x':O}(ho:o.op=.convert s d x)(hs:P.underlying s=some (.slice e))(he:P.underlying e=some (.int .u8))(hd:P.underlying d=some .string)(hx:cO x=some x')
  {ob:Prop} {y:V} (h:aJ fr J (.Fc x')=some (ob,y)):Yields P o a w J μ y:=by
 have h1:=cn hF hx;simp only[aJ]at h;split at h
 ·rename_i xs sf;split at h
  ·rename_i l hl;simp only[aa,ao]at h;obtain⟨_,rfl⟩:=h;have Pv:=sG hS h1 sf;obtain⟨ns,I2,Mg⟩:=rZ xs l hl;have DH:l.length=xs.length:=by rw[Mg,I2];simp
   rcases Pv.here with⟨Wl,a0,hv⟩ | ⟨b,off,cap,hv,hr⟩
   ·subst Wl;have:l=[]:=aD (by simpa using DH);subst this;refine .pure (v:=.string ByteArray.empty) ?_ (.s _ _ rfl (by simp))
    have h0:(convert s d (.slice a0 0 0)).run P w=.ok (.string ByteArray.empty) w:=by
     cases a0 with
     | none=>exact run_convert_bytes_nil (P:=P) (w:=w) s e hs he 0 0 d hd
     | some a0 =>
      rw[run_convert_bytes_string w s d e _ _ _ hs he hd,run_bytesToString w a0 0 0 [] (run_loadCells_list w a0 [] (by simp))];rfl
    simp only[execOp,ho,hv,Sem.run_bind,h0,Result.andThen_ok,Sem.run_pure]
   ·have qd:∀ j,j<xs.length→w.cell? ((⟨b,off,none⟩:Addr).add j)=some (.int .u8 (ns.getD j 0)):=by
     intro j hj;have Wu:j<ns.length:=by rw[I2]at hj;simpa using hj
     have eJ:eV xs j 0=some (.i .u8 ns[j]):=by rw[I2];simp[eV,Wu]
     obtain⟨_,u,h2,h3⟩:=hr j 0 _ eJ;rw[h3.dI]at h2;rw[Addr.add_lit];simpa[Wu]using h2
    have Va:=run_loadCells (P:=P) w ⟨b,off,none⟩ xs.length (fun j=>.int .u8 (ns.getD j 0)) qd
    have hload':(loadCells ⟨b,off,none⟩ xs.length).run P w=.ok (ns.map (Value.int .u8)).toArray w:=by
     rw[Va];congr 2;apply gd;intro j;have hln':xs.length=ns.length:=by rw[I2];simp
     by_cases hj:j<ns.length
     ·rw[aW,iP (by omega),aW,an hj];simp[hj]
     ·rw[a7 (by simp;omega),a7 (by simp;omega)]
    refine .pure (v:=.string (ns.foldl (fun r n=>r.push (UInt8.ofNat n.toNat)) ByteArray.empty)) ?_ (.s _ _ ?_ (by rw[DH];exact Pv.len))
    ·simp only[execOp,ho,hv,Sem.run_bind,run_convert_bytes_string w s d e _ _ _ hs he hd,run_bytesToString w ⟨b,off,none⟩ xs.length cap ns hload',Result.andThen_ok,Sem.run_pure]
    ·rw[foldl_push,Mg];rfl
  ·simp at h
 ·simp at h
end b9
end Go.Pm

/- A part of the proof that for every input the law NetworkLimits returns true and leaves its argument as it was. -/
import Derived.ChangeKeysEq
import Derived.Test.YtgihcpilgfbggaaGreatDoorL7
set_option linter.all false

namespace Go.Pm
open Go Go.RowKit
theorem toList_data(s:ByteArray):s.toList=s.data.toList:=ByteArray.toList_eq s
theorem wQ{x y:V}{p:Bool}(h:cu 0 x y=some p):∃ k a b,x=.i k a∧y=.i k b∧(a==b)=p:=by
 cases x<;>(try (simp[cu]at h;done));cases y<;>(try (simp[cu]at h;done));simp only[cu]at h;split at h<;>simp only[aa,reduceCtorEq]at h;rename_i hk;subst hk;exact⟨_,_,_,rfl,rfl,h⟩
theorem CX{xs ys:List V}{r:Bool}(h:fm [0,0] xs ys=some r):∃ k l a b a' b',xs=[.i k a,.i l b]∧ys=[.i k a',.i l b']∧(a==a'&&b==b')=r:=by
 match xs,ys with
 | [],_=>simp[fm]at h
 | _::_,[]=>simp[fm]at h
 | [x],y::ys =>
  simp only[fm]at h;split at h<;>simp_all [fm]
 | x::x2::xs,[y] =>
  simp only[fm]at h;split at h<;>simp_all [fm]
 | x::x2::xs,y::y2::ys =>
  cases xs with
  | cons x3 xs=>simp only[fm]at h;repeat' (split at h)<;>simp_all [fm]
  | nil=>cases ys with
   | cons y3 ys=>simp only[fm]at h;repeat' (split at h)<;>simp_all [fm]
   | nil =>
    simp only[fm]at h;split at h<;>simp only[aa,reduceCtorEq]at h;rename_i p q hp hq;split at hq<;>simp only[aa,reduceCtorEq]at hq;rename_i p2 q2 zk Kp;simp only[aa]at Kp;obtain⟨k,a,a',rfl,rfl,e1⟩:=wQ hp;obtain⟨l,b,b',rfl,rfl,e2⟩:=wQ zk;exact⟨k,l,a,b,a',b',rfl,rfl,by rw[← h,← hq,← Kp,e1,e2,bI]⟩
theorem VR.pair{w:World}{σ:ah}{μ:Mem}{k l:IntKind}{a b:Int}{v:Value}(h:VR w σ μ (.agg [.i k a,.i l b]) v):v=.agg #[.int k a,.int l b]:=by
 obtain⟨vs,rfl,hl,hv⟩:=h.nz;have h0:=(hv 0 _ rfl).gl;have h1:=(hv 1 _ rfl).gl;obtain⟨l⟩:=vs
 match l,hl with
 | [x,y],_=>simp at h0 h1;rw[h0,h1]
theorem rA{P:Program}{w:World}{K e:TypeId}{q:IntKind}(hK:P.underlying K=some (.array 2 e))(he:P.underlying e=some (.int q))(hc:P.cellsOf e=1)(k l:IntKind)(a b a' b':Int):
  (Op.equal K (.agg #[.int k a,.int l b]) (.agg #[.int k a',.int l b'])).run P w=.ok (a==a'&&b==b') w:=by
 have hi:∃ i,P.info? e=some i:=by
  unfold Program.underlying at he;cases h:P.info? e with
  | none=>simp[h]at he
  | some i=>exact⟨i,rfl⟩
 obtain⟨i,hi⟩:=hi;have hA:gK P e=some false:=by simp[gK,he]
 have hp:∀ (x y:Value) (j:Nat) (z:Value),#[x,y][j]?=some z→(part e #[x,y] j).run P w=.ok z w:=by
  intro x y j z hz;simp only[part,Sem.run_bind,mj hA,Result.andThen_ok,aF,if_false,hz];rfl
 have gen:∀ n,(Op.equalIn (n+2) K (.agg #[.int k a,.int l b]) (.agg #[.int k a',.int l b'])).run P w=.ok (a==a'&&b==b') w:=by
  intro n;rw[run_equalIn_array w (n+1) _ _ hK hi,hc]
  simp only[show List.range 2=[0,1]from rfl,Op.eqItems,Sem.run_bind,hp (.int k a) (.int l b) 0 (.int k a) rfl,hp (.int k a) (.int l b) 1 (.int l b) rfl,hp (.int k a') (.int l b') 0 (.int k a') rfl,hp (.int k a') (.int l b') 1 (.int l b') rfl,Result.andThen_ok,
   run_equalIn_int w n e k q _ _ he,run_equalIn_int w n e l q _ _ he,C4]
  cases(a==a')<;>cases h:(b==b')<;>simp[hp (.int k a) (.int l b) 1 (.int l b) rfl,hp (.int k a') (.int l b') 1 (.int l b') rfl,run_equalIn_int w n e l q b b' he,h]
 exact gen 9998
section cx
variable {P:Program} {o:Oper} {a:Act} {B:Nat} {w0 w:World} {σ:ah} {μ:Mem} {fr:List V} (hF:FR w σ μ fr a)
include hF
theorem QC{op:BinOp}{T yT:TypeId}{x y:Operand}{x' y':O}(ho:o.op=.binOp op T x y yT)(hx:cO x=some x')(hy:cO y=some y')
  {ob:Prop} {z:V} (h:aS fr σ (.bin op x' y')=some (ob,z)) (dO:ob):Yields P o a w σ μ z:=by
 have h1:=dK hF hx;have h2:=dK hF hy;simp only[aS,fX]at h;split at h
 ·rename_i k p k' q hp hq;rw[hp]at h1;rw[hq]at h2;have e1:=h1.gl;have e2:=h2.gl
  have dx:∀ v,(binOp op T (.int k p) (.int k' q)).run P w=.ok v w→(execOp a.eval o).run P w=.ok (.value v) w:=by
   intro v hv;simp only[execOp,ho,e1,e2,eqGuard_at_int,pure_bind,Sem.run_bind,hv,Result.andThen_ok,Sem.run_pure]
  split at h
  ·simp only[aa,aA]at h;obtain⟨rfl,rfl⟩:=h;have hn:¬ q<0:=by omega
   exact .pure (dx _ (by simp[binOp_shl,Op.shift,hn])) (.i _ _)
  ·simp only[aa,aA]at h;obtain⟨rfl,rfl⟩:=h;have hn:¬ q<0:=by omega
   exact .pure (dx _ (by simp[binOp_shr,Op.shift,hn])) (.i _ _)
  ·split at h
   ·rename_i hk;subst hk;split at h<;>simp only[aa,aA,reduceCtorEq]at h<;>obtain⟨rfl,rfl⟩:=h
    ·exact .pure (dx _ (by simp[binOp_add,Op.intArith])) (.i _ _)
    ·exact .pure (dx _ (by simp[binOp_sub,Op.intArith])) (.i _ _)
    ·exact .pure (dx _ (by simp[binOp_mul,Op.intArith])) (.i _ _)
    ·exact .pure (dx _ (by simp[binOp_quo,Op.intDiv,dO])) (.i _ _)
    ·exact .pure (dx _ (by simp[binOp_rem,Op.intDiv,dO])) (.i _ _)
    ·exact .pure (dx _ (by simp only[binOp_and,Op.intBits];rfl)) (.i _ _)
    ·exact .pure (dx _ (by simp only[binOp_or,Op.intBits];rfl)) (.i _ _)
    ·exact .pure (dx _ (by simp only[binOp_xor,Op.intBits];rfl)) (.i _ _)
    ·exact .pure (dx _ (by simp[binOp_eql])) (.b _)
    ·exact .pure (dx _ (by simp[binOp_neq])) (.b _)
    ·exact .pure (dx _ (by simp[binOp_lss])) (.b _)
    ·exact .pure (dx _ (by simp[binOp_leq])) (.b _)
    ·exact .pure (dx _ (by simp[binOp_gtr])) (.b _)
    ·exact .pure (dx _ (by simp[binOp_geq])) (.b _)
   ·simp at h
 ·rename_i p q hp hq;rw[hp]at h1;rw[hq]at h2;obtain⟨s,hs,rfl,Pv⟩:=h1.lU;obtain⟨s',hs',rfl,hsl'⟩:=h2.lU
  have dx:∀ v,(Op.stringOp op s s').run P w=.ok v w→(execOp a.eval o).run P w=.ok (.value v) w:=by
   intro v hv;have hb:binOp op T (.string s) (.string s')=Op.stringOp op s s':=by cases op<;>rfl
   simp only[execOp,ho,hs,hs',eqGuard_at_string,pure_bind,hb,Sem.run_bind,hv,Result.andThen_ok,Sem.run_pure]
  split at h<;>simp only[aa,aA,reduceCtorEq]at h<;>obtain⟨rfl,rfl⟩:=h
  ·refine .pure (v:=.string (s++s')) (dx _ ?_) (.s _ _ ?_ ?_)
   ·have hn:¬ (s.size+s'.size > 9223372036854775807):=by rw[bsize,bsize];unfold maxLen at dO;omega
    rw[run_string_add_if,if_neg hn]
   ·simp[ByteArray.data_append]
   ·rw[List.length_append];exact dO
  ·exact .pure (dx _ (by simp[Op.stringOp,toList_data])) (.b _)
  ·exact .pure (dx _ (by simp[Op.stringOp,toList_data])) (.b _)
  ·exact .pure (dx _ (by simp[Op.stringOp,toList_data])) (.b _)
  ·exact .pure (dx _ (by simp[Op.stringOp,toList_data])) (.b _)
  ·exact .pure (dx _ (by simp[Op.stringOp,toList_data])) (.b _)
  ·exact .pure (dx _ (by simp[Op.stringOp,toList_data])) (.b _)
 ·simp at h
theorem Un{op:BinOp}{T yT:TypeId}{x y:Operand}{x' y':O}(ho:o.op=.binOp op T x y yT)(fC:uI op=true)(hT:P.underlying T=some .bool)(hx:cO x=some x')(hy:cO y=some y')
  {ob:Prop} {z:V} (h:aS fr σ (.NS (HZ op) x' y')=some (ob,z)):Yields P o a w σ μ z:=by
 have h1:=dK hF hx;have h2:=dK hF hy;simp only[aS]at h;split at h
 ·rename_i p q hp hq;rw[hp]at h1;rw[hq]at h2;have e1:=h1.ow;have e2:=h2.ow;simp only[aa,aA]at h;obtain⟨rfl,rfl⟩:=h;have he:=run_equal_bool (P:=P) (w:=w) T p q hT;cases op<;>simp only[uI,aF]at fC
  ·refine .pure (v:=.bool (p==q)) ?_ (.b _);simp only[execOp,ho,e1,e2,eqGuard_at_bool,pure_bind,Sem.run_bind,binOp,he,Result.andThen_ok,Sem.run_pure]
  ·refine .pure (v:=.bool (!(p==q))) ?_ (.b _);simp only[execOp,ho,e1,e2,eqGuard_at_bool,pure_bind,Sem.run_bind,binOp,he,Result.andThen_ok,Sem.run_pure]
 ·simp at h
omit hF in
theorem sC:∀ (fs:List Field) (ks:List Nat) (n:Nat) (xs ys:List V) (us vs:Array Value) (r:Bool) (d:Nat),oz P n fs=some ks →
  (∀ j x,xs[j]?=some x→VR w σ μ x (us.getD (n+j) undef))→(∀ j x,ys[j]?=some x→VR w σ μ x (vs.getD (n+j) undef))→us.size=n+xs.length→vs.size=n+ys.length→fm ks xs ys=some r →
  (Op.eqFields (d+1) us vs fs).run P w=.ok r w
 | [],ks,n,xs,ys,us,vs,r,d,hf,_,_,_,_,hc=>by
  simp only[oz,aa]at hf;subst hf;cases xs with
  | nil=>cases ys with
   | nil=>simp only[fm,aa]at hc;subst hc;rfl
   | cons y ys=>simp[fm]at hc
  | cons x xs=>simp[fm]at hc
 | f::fs,ks,n,xs,ys,us,vs,r,d,hf,vw,wo,hus,Cx,hc=>by
  simp only[oz]at hf;split at hf
  ·rename_i Pw;obtain⟨Pw,WT⟩:=Pw
   have hk:∃ k ks',ks=k::ks'∧oz P (n+1) fs=some ks'∧gK P f.type=some false ∧
     ∀ x y u v p,cu k x y=some p→VR w σ μ x u→VR w σ μ y v→(Op.equalIn (d+1) f.type u v).run P w=.ok p w:=by
    split at hf<;>simp only[aa,reduceCtorEq]at hf
    ·rename_i k ks' hu hr;refine⟨0,ks',hf.symm,hr,by simp[gK,hu],fun x y u v p hp hx hy=>?_⟩;cases x<;>(try (simp[cu]at hp;done));cases y<;>(try (simp[cu]at hp;done));simp only[cu]at hp;split at hp<;>simp only[aa,reduceCtorEq]at hp;rename_i JQ;subst JQ;subst hp;rw[hx.gl,hy.gl];exact run_equalIn_int w d f.type _ k _ _ hu
    ·rename_i ks' hu hr;refine⟨1,ks',hf.symm,hr,by simp[gK,hu],fun x y u v p hp hx hy=>?_⟩;cases x<;>(try (simp[cu]at hp;done));cases y<;>(try (simp[cu]at hp;done));simp only[cu,aa]at hp;subst hp;obtain⟨s,rfl,rfl,_⟩:=hx.lU;obtain⟨s',rfl,rfl,_⟩:=hy.lU;rw[run_equalIn_string w d f.type s s' hu,toList_data,toList_data]
    ·rename_i ks' hu hr;refine⟨2,ks',hf.symm,hr,by simp[gK,hu],fun x y u v p hp hx hy=>?_⟩;cases x<;>(try (simp[cu]at hp;done));cases y<;>(try (simp[cu]at hp;done));simp only[cu,aa]at hp;subst hp;rw[hx.ow,hy.ow];exact run_equalIn_bool' w d f.type _ _ hu
   obtain⟨k,ks',rfl,WL,hA,Zc⟩:=hk;cases xs with
   | nil=>simp[fm]at hc
   | cons x xs =>
    cases ys with
    | nil=>simp[fm]at hc
    | cons y ys =>
     simp only[fm]at hc;split at hc<;>simp only[aa,reduceCtorEq]at hc;rename_i p q hp hq;have XX:=vw 0 x rfl;have hy0:=wo 0 y rfl;simp only[cn]at XX hy0;have hlx:n<us.size:=by simp at hus;omega
     have Y1:n<vs.size:=by simp at Cx;omega
     have hpx:(part f.type us f.offset).run P w=.ok (us.getD n undef) w:=by
      simp only[part,Sem.run_bind,mj hA,Result.andThen_ok,aF,if_false,Pw];rw[show us[n]?=some (us.getD n undef)by simp[hlx]];rfl
     have hpy:(part f.type vs f.offset).run P w=.ok (vs.getD n undef) w:=by
      simp only[part,Sem.run_bind,mj hA,Result.andThen_ok,aF,if_false,Pw];rw[show vs[n]?=some (vs.getD n undef)by simp[Y1]];rfl
     have heq:=Zc x y _ _ p hp XX hy0
     have ih:=sC fs ks' (n+1) xs ys us vs q d WL
      (fun j z hz=>by have:=vw (j+1) z hz;rwa [show n+(j+1)=n+1+j by omega]at this)
      (fun j z hz=>by have:=wo (j+1) z hz;rwa [show n+(j+1)=n+1+j by omega]at this)
      (by simp at hus;omega) (by simp at Cx;omega) hq
     subst hc;simp only[Op.eqFields,ne_eq,WT,not_false_eq_true,if_true,Sem.run_bind,hpx,hpy,Result.andThen_ok,heq];cases p
     ·simp
     ·simp[ih]
  ·simp at hf
theorem Um{op:BinOp}{T yT:TypeId}{ks:List Nat}{x y:Operand}{x' y':O}(ho:o.op=.binOp op T x y yT)(fC:uI op=true)(hT:GF P T=some ks)(hx:cO x=some x')(hy:cO y=some y')
  {ob:Prop} {z:V} (h:aS fr σ (.beq (HZ op) ks x' y')=some (ob,z)):Yields P o a w σ μ z:=by
 have h1:=dK hF hx;have h2:=dK hF hy;unfold GF at hT;split at hT
 ·rename_i fs hu;split at hT
  ·rename_i hc;simp only[aS]at h;split at h
   ·rename_i xs ys hp hq;rw[hp]at h1;rw[hq]at h2;obtain⟨us,e1,l1,v1⟩:=h1.nz;obtain⟨vs,e2,l2,v2⟩:=h2.nz;split at h
    ·rename_i r hr;simp only[aa,aA]at h;obtain⟨rfl,rfl⟩:=h;have hf:P.fieldsOf T=fs:=by simp[Program.fieldsOf,hu]
     have dx:(Op.equalIn 10000 T (.agg us) (.agg vs)).run P w=.ok r w:=by
      rw[run_equalIn_struct w 9999 T us vs (by rw[hf];exact hu) hc.1,hf];exact sC fs.toList ks 0 xs ys us vs r 9998 hT (fun j z hz=>by simpa using v1 j z hz) (fun j z hz=>by simpa using v2 j z hz) (by omega) (by omega) hr
     have hg:=run_eqGuard_agg (P:=P) w op T x y us vs hc.2;cases op<;>simp only[uI,aF]at fC
     ·refine .pure (v:=.bool r) ?_ (.b _);simp only[execOp,ho,e1,e2,Sem.run_bind,hg,Result.andThen_ok,run_eql_struct,dx,Sem.run_pure]
     ·refine .pure (v:=.bool (!r)) ?_ (.b _);simp only[execOp,ho,e1,e2,Sem.run_bind,hg,Result.andThen_ok,run_neq_struct,dx,Sem.run_pure]
    ·simp at h
   ·simp at h
  ·simp at hT
 ·rename_i e hu;split at hT
  ·rename_i hc;split at hT<;>simp only[aa,reduceCtorEq]at hT;rename_i q he;subst hT;simp only[aS]at h;split at h
   ·rename_i xs ys hp hq;rw[hp]at h1;rw[hq]at h2;split at h
    ·rename_i r hr;simp only[aa,aA]at h;obtain⟨rfl,rfl⟩:=h;obtain⟨k,l,a1,b1,a2,b2,rfl,rfl,Mh⟩:=CX hr
     ·have e1:=h1.pair;have e2:=h2.pair;have dx:=rA (P:=P) (w:=w) hu he hc.2 k l a1 b1 a2 b2;rw[Mh]at dx;have hg:=run_eqGuard_agg (P:=P) w op T x y #[.int k a1,.int l b1] #[.int k a2,.int l b2] hc.1;cases op<;>simp only[uI,aF]at fC
      ·refine .pure (v:=.bool r) ?_ (.b _);simp only[execOp,ho,e1,e2,Sem.run_bind,hg,Result.andThen_ok,binOp,dx,Sem.run_pure]
      ·refine .pure (v:=.bool (!r)) ?_ (.b _);simp only[execOp,ho,e1,e2,Sem.run_bind,hg,Result.andThen_ok,binOp,dx,Sem.run_pure]
    ·simp at h
   ·simp at h
  ·simp at hT
 ·simp at hT
end cx
def CR(w:World)(σ:ah)(μ:Mem)(xs:List V)(vs:Array Value):Prop:=xs.length=vs.size∧∀ i x,xs[i]?=some x→VR w σ μ x (vs.getD i undef)
theorem VR.lG{w:World}{σ:ah}{μ:Mem}{x:V}{v:Value}(h:VR w σ μ x v)(s:Option Nat):VR w σ μ (lG s x) v:=by
 unfold Pm.lG;split
 ·rw[h.lA];exact .zY _
 ·rcases h.ny with⟨rfl,rfl⟩ | ⟨b,o,f,rfl,hm,hr⟩
  ·exact .zY _
  ·exact .sl _ _ b o _ f (aw _) hm hr.1 hr.2.1 hr.2.2
 ·exact h
theorem CR.cq{w:World}{σ:ah}{μ:Mem}:∀ (ss:List (Option Nat)) {xs:List V} {vs:Array Value},CR w σ μ xs vs→CR w σ μ (cq ss xs) vs:=by
 have key:∀ (ss:List (Option Nat)) (xs:List V) (n:Nat) (vs:Array Value),(∀ i x,xs[i]?=some x→VR w σ μ x (vs.getD (n+i) undef)) →
   (Pm.cq ss xs).length=xs.length∧∀ i x,(Pm.cq ss xs)[i]?=some x→VR w σ μ x (vs.getD (n+i) undef):=by
  intro ss
  induction ss with
  | nil=>intro xs n vs h;simpa[Pm.cq]using h
  | cons s ss ih =>
   intro xs n vs h;cases xs with
   | nil=>simp[Pm.cq]
   | cons x xs =>
    have h2:=ih xs (n+1) vs (fun i y hy=>by have:=h (i+1) y hy;rwa [show n+(i+1)=n+1+i by omega]at this);refine⟨by simp[Pm.cq,h2.1],fun i y hy=>?_⟩;cases i with
    | zero =>
     simp only[Pm.cq,ax,aa]at hy;subst hy;exact(h 0 x rfl).lG s
    | succ i =>
     simp only[Pm.cq,cc]at hy;have:=h2.2 i y hy
     rwa [show n+1+i=n+(i+1)by omega]at this
 intro ss xs vs h;have:=key ss xs 0 vs (fun i x hx=>by simpa using h.2 i x hx);exact⟨this.1.trans h.1,fun i x hx=>by simpa using this.2 i x hx⟩
theorem mU{P:Program}{B:Nat}{w0 w:World}{σ:ah}{μ:Mem}(hS:gM P B w0 w σ μ){x:V}{v:Value}(h:VR w σ μ x v)(hc:gg σ x=true):v.oneCell'=true∧v.cells=#[v]:=by
 have slice_one:∀ a n c,(Value.slice a n c).oneCell'=true∧(Value.slice a n c).cells=#[.slice a n c]:=fun _ _ _=>⟨rfl,rfl⟩;cases h with
 | u v=>simp[gg]at hc
 | own id g v hid h =>
  simp only[gg]at hc;split at hc
  ·rename_i E sz by' g' sh xs ho;simp only[beq_iff_eq]at hc;subst hc;rw[(h _ _ _ _ _ _ ho).2 rfl];rcases(hS.rowAt ho).2.2 with⟨hm,_⟩ | ⟨b,cap,cur,hm,_⟩<;>rw[hm]<;>exact slice_one _ _ _
  ·simp at hc
 | sub id g lo hi v hid h =>
  simp only[gg]at hc;split at hc
  ·rename_i E sz by' g' sh xs ho;simp only[beq_iff_eq]at hc;subst hc;rw[((h _ _ _ _ _ _ ho).2 rfl).2.2];rcases(hS.rowAt ho).2.2 with⟨hm,_⟩ | ⟨b,cap,cur,hm,_⟩<;>rw[hm]<;>exact slice_one _ _ _
  ·simp at hc
 | rp id g i off v hid h =>
  simp only[gg]at hc;split at hc
  ·rename_i E sz by' g' sh xs ho;simp only[beq_iff_eq]at hc;subst hc;obtain⟨hi,hv⟩:=(h _ _ _ _ _ _ ho).2 rfl;rw[hv];rcases(hS.rowAt ho).2.2 with⟨_,hn⟩ | ⟨b,cap,cur,hm,_⟩
   ·subst hn;simp at hi
   ·rw[hm];exact⟨rfl,rfl⟩
  ·simp at hc
 | agg xs vs hl hv=>simp[gg]at hc
 | gZ xs vs hl hv=>simp[gg]at hc
 | _=>exact⟨rfl,rfl⟩
theorem jO{P:Program}{B:Nat}{w0 w:World}{σ:ah}{μ:Mem}(hS:gM P B w0 w σ μ){x:V}{v:Value}(h:VR w σ μ x v)(hc:fJ σ x=true):
  CR w σ μ (eI x) v.cells∧∀ u∈v.cells,u.oneCell'=true:=by
 by_cases ha:∃ xs,x=.agg xs
 ·obtain⟨xs,rfl⟩:=ha;obtain⟨vs,rfl,hl,hv⟩:=h.nz;refine⟨⟨hl,hv⟩,fun u hu=>?_⟩;obtain⟨i,hi,rfl⟩:=Array.mem_iff_getElem.1 hu;simp only[fJ,bR]at hc;have hi':i<xs.length:=by rw[hl];exact hi
  have h1:=hv i xs[i] (ao hi');have h2:=(mU hS h1 (hc _ (dj hi'))).1;have zo:i<vs.size:=hi;have h3:vs.getD i undef=vs[i]:=by simp[zo]
  rw[h3]at h2;exact h2
 ·have hx:fJ σ x=gg σ x∧eI x=[x]:=by
   cases x<;>first | exact⟨rfl,rfl⟩ | exact absurd ⟨_,rfl⟩ ha
  rw[hx.1]at hc;obtain⟨h1,h2⟩:=mU hS h hc;rw[hx.2,h2];refine⟨⟨rfl,fun i y hy=>?_⟩,fun u hu=>by simp only[Array.mem_singleton]at hu;subst hu;exact h1⟩;cases i with
  | zero=>simp only[ax,aa]at hy;subst hy;simpa using h
  | succ i=>simp at hy
theorem rJ:∀ (l:List Value) (k off:Nat) (cells:Array Value),off+k+l.length≤cells.size →
  ((l.zipIdx k).foldl (fun(cs:Array Value) (p:Value×Nat)=>cs.setIfInBounds (off+p.2) p.1) cells).size=cells.size ∧
  ∀ i,((l.zipIdx k).foldl (fun(cs:Array Value) (p:Value×Nat)=>cs.setIfInBounds (off+p.2) p.1) cells).getD i undef =
   if off+k≤i∧i<off+k+l.length then l.getD (i - (off+k)) undef else cells.getD i undef
 | [],k,off,cells,_=>by simp;intro i h1 h2;omega
 | v::l,k,off,cells,h=>by
  simp only[ag]at h;have ih:=rJ l (k+1) off (cells.setIfInBounds (off+k) v) (by simp;omega);simp only[List.zipIdx_cons,cj];refine⟨by rw[ih.1];simp,fun i=>?_⟩;rw[ih.2 i]
  by_cases h1:off+(k+1)≤i∧i<off+(k+1)+l.length
  ·rw[if_pos h1,if_pos (by simp only[ag];omega)];have:i - (off+k)=(i - (off+(k+1)))+1:=by omega
   rw[this];simp
  ·rw[if_neg h1]
   by_cases h2:i=off+k
   ·subst h2;rw[if_pos (by simp only[ag];omega)];simp[show off+k<cells.size by omega]
   ·rw[if_neg (by simp only[ag];omega)];simp only[bm];rw[dw (fun h=>h2 h.symm)]
theorem CR.fill{w:World}{σ:ah}{μ:Mem}{xs ys:List V}{cells vs:Array Value}(h:CR w σ μ xs cells)(hy:CR w σ μ ys vs)(off:Nat)(ho:off+ys.length≤xs.length):
  CR w σ μ (xs.take off++ys++xs.drop (off+ys.length)) (vs.zipIdx.foldl (fun cs (c,j)=>cs.setIfInBounds (off+j) c) cells):=by
 have Xj:=rJ vs.toList 0 off cells (by rw[aL,← hy.1,← h.1];simpa using ho)
 have he:vs.zipIdx.foldl (fun cs (c,j)=>cs.setIfInBounds (off+j) c) cells=(vs.toList.zipIdx 0).foldl (fun(cs:Array Value) (p:Value×Nat)=>cs.setIfInBounds (off+p.2) p.1) cells:=by
  rw[← Array.foldl_toList,Array.toList_zipIdx]
 rw[he];refine⟨?_,fun i x hx=>?_⟩
 ·rw[Xj.1,← h.1];simp;omega
 ·rw[Xj.2 i];simp only[cn,aL];rw[← hy.1]
  by_cases h1:i<off
  ·rw[if_neg (by omega)];rw[List.append_assoc,az (by simp;omega),bn h1]at hx;exact h.2 i x hx
  ·by_cases h2:i<off+ys.length
   ·rw[if_pos (by omega)];rw[az (by simp;omega),aM (by simp;omega)]at hx;have hl:(xs.take off).length=off:=by simp;omega
    rw[hl]at hx;have:=hy.2 _ x hx;simpa using this
   ·rw[if_neg (by omega)];have hl:(xs.take off++ys).length=off+ys.length:=by simp;omega
    rw[aM (by omega),hl,dp]at hx;have h3:off+ys.length+(i - (off+ys.length))=i:=by omega
    rw[h3]at hx;exact h.2 i x hx
theorem wu{w:World}{σ:ah}{μ:Mem}(place:Nat→Option (Nat×Nat)):∀ (parts:List (Nat×Value)) (ps:List (Nat×Nat×List V)) (xs cs:List V) (cells:Array Value),
  CR w σ μ xs cells→rL xs ps=some cs→ps.length=parts.length→(∀ (k:Nat) (p:Nat×Value) (q:Nat×Nat×List V),parts[k]?=some p→ps[k]?=some q→place p.1=some (q.1,q.2.1)∧CR w σ μ q.2.2 p.2.cells) →
  ∃ cells',Instr.fill place cells parts=some cells'∧CR w σ μ cs cells'
 | [],ps,xs,cs,cells,h,hf,hl,_=>by
  have:ps=[]:=bq hl;subst this;simp only[rL,aa]at hf;subst hf;exact⟨cells,rfl,h⟩
 | (i,v)::parts,ps,xs,cs,cells,h,hf,hl,hp=>by
  cases ps with
  | nil=>simp at hl
  | cons q ps =>
   obtain⟨off,sz,ys⟩:=q;have h0:=hp 0 (i,v) (off,sz,ys) rfl rfl;simp only[rL]at hf;split at hf
   ·rename_i hc;obtain⟨rfl,vz⟩:=hc;have hy:=h0.2;have hs:v.cells.size=ys.length:=hy.1.symm;have Mq:=h.fill hy off vz;obtain⟨cells',h1,h2⟩:=wu place parts ps _ cs _ Mq hf (by simpa using hl) (fun k p q h3 h4=>hp (k+1) p q h3 h4);refine⟨cells',?_,h2⟩;simp only[Instr.fill,h0.1]
    have js:(decide (v.cells.size≠ys.length)||decide (off+v.cells.size > cells.size))=false:=by
     rw[hs,← h.1];simp;omega
    simp only[js,aF,if_false];exact h1
   ·simp at hf
theorem ym{w:World}{σ:ah}{μ:Mem}:∀ (l:List Value) (zs:List V),iu l=some zs→zs.length=l.length∧∀ (i:Nat) (x:V),zs[i]?=some x→VR w σ μ x (l.getD i undef)
 | [],zs,h=>by simp only[iu,aa]at h;subst h;simp
 | v::l,zs,h=>by
  simp only[iu]at h;split at h<;>simp only[aa,reduceCtorEq]at h;rename_i y ys hy wo;subst h;obtain⟨h1,h2⟩:=ym l ys wo;refine⟨by simp[h1],fun i x hx=>?_⟩;cases i with
  | zero=>simp only[ax,aa]at hx;subst hx;exact uR hy
  | succ i=>simpa using h2 i x hx
theorem kg{w:World}{σ:ah}{μ:Mem}{cs:Array Value}{zs:List V}(h:iu cs.toList=some zs):CR w σ μ zs cs:=by
 obtain⟨h1,h2⟩:=ym (w:=w) (σ:=σ) (μ:=μ) _ _ h;refine⟨by simpa using h1,fun i x hx=>?_⟩;have:=h2 i x hx;simpa[List.getD_eq_getElem?_getD]using this
theorem CR.KH{w:World}{σ:ah}{μ:Mem}{xs:List V}{vs:Array Value}(h:CR w σ μ xs vs):VR w σ μ (.agg xs) (.agg vs):=.agg xs vs h.1 h.2
theorem GC{xs:List (List V)}{sz:Nat}(cm:∀ r∈xs,r.length=sz):∀ {i j:Nat} {x:V},ft xs i j=some x→xs.flatten[i*sz+j]?=some x:=by
 induction xs with
 | nil=>intro i j x h;simp[ft]at h
 | cons r xs ih =>
  intro i j x h;have hr:=cm r (by simp);cases i with
  | zero =>
   simp only[ft,ax,fY]at h;have hj:j<r.length:=(ab.1 h).1;rw[tG,Nat.zero_mul,aI,az hj,h]
  | succ i =>
   have h':ft xs i j=some x:=by simpa[ft]using h
   have:=ih (fun r hr=>cm r (by simp[hr])) h';rw[tG,aM (by rw[hr,Nat.add_mul];omega),hr];have e:(i+1)*sz+j - sz=i*sz+j:=by rw[Nat.add_mul];omega
   rw[e,this]
theorem EL{xs:List (List V)}{sz:Nat}(cm:∀ r∈xs,r.length=sz):xs.flatten.length=xs.length*sz:=by
 induction xs with
 | nil=>simp
 | cons r xs ih=>rw[tG,List.length_append,cm r (by simp),ih (fun r hr=>cm r (by simp[hr])),ag,Nat.add_mul];omega
theorem yd(sz:Nat):∀ (rows:List (List V)) (pre:List V) (k:Nat) (tail:List V),(∀ r∈rows,r.length=sz)→pre.length=k*sz→tail.length=rows.length*sz →
  rL (pre++tail) ((rows.zipIdx k).map fun(r,i)=>(i*sz,sz,r))=some (pre++rows.flatten)
 | [],pre,k,tail,_,_,ht=>by
  have:tail=[]:=bq (by simpa using ht);subst this;simp[rL]
 | r::rows,pre,k,tail,hr,hp,ht=>by
  have xR:=hr r (by simp);have vW:sz≤tail.length:=by rw[ht,ag,Nat.add_mul];omega
  simp only[List.zipIdx_cons,aW,rL];rw[if_pos ⟨xR,by rw[List.length_append,hp];omega⟩];have e1:(pre++tail).take (k*sz)=pre:=by rw[← hp];exact ln
  have e2:(pre++tail).drop (k*sz+sz)=tail.drop sz:=by rw[← hp,List.drop_append];simp
  rw[e1,e2];have ih:=yd sz rows (pre++r) (k+1) (tail.drop sz) (fun x hx=>hr x (by simp[hx])) (by rw[List.length_append,hp,xR,Nat.add_mul];omega) (by rw[bB,ht,ag,Nat.add_mul];omega);rw[ih];simp
section cx
variable {P:Program} {o:Oper} {a:Act} {B:Nat} {w0 w:World} {σ:ah} {μ:Mem} {fr:List V} (hF:FR w σ μ fr a) (hS:gM P B w0 w σ μ)
include hF hS
theorem uT{places:List (Nat×Nat)}:∀ (parts:List (Nat×Operand)) (ps:List (Nat×Nat×O)),qA places parts=some ps→(∀ p∈ps,fJ σ (ev fr p.2.2)=true) →
  ps.length=parts.length∧∀ (k:Nat) (p:Nat×Operand) (q:Nat×Nat×O),parts[k]?=some p→ps[k]?=some q →
   places[p.1]?=some (q.1,q.2.1)∧CR w σ μ (eI (ev fr q.2.2)) (a.eval p.2).cells
 | [],ps,h,_=>by simp only[qA,aa]at h;subst h;simp
 | (i,x)::r,ps,h,gC=>by
  simp only[qA]at h;split at h<;>simp only[aa,reduceCtorEq]at h;rename_i off sz y ys hf hy wo;subst h;obtain⟨h1,h2⟩:=uT r ys wo (fun p hp=>gC p (bz _ hp));refine⟨by simp[h1],fun k p q hp hq=>?_⟩;cases k with
  | zero =>
   simp only[ax,aa]at hp hq;subst hp;subst hq;exact⟨hf,(jO hS (dK hF hy) (gC (off,sz,y) dn)).1⟩
  | succ k=>exact h2 k p q (by simpa using hp) (by simpa using hq)
theorem NV{T:TypeId}{parts:Array (Nat×Operand)}{t:TypeInfo}{fs:Array Field}{z:Value}{zs:List V}{places:List (Nat×Nat)}{ps:List (Nat×Nat×O)}(ho:o.op=.build T parts)(ht:P.info? T=some t)(hu:P.underlying T=some (.struct fs))(hz:t.zero=some z)
  (lK:iu z.cells.toList=some zs) (Fq:placesOf P fs.toList=some places) (vx:qA places parts.toList=some ps) {ob:Prop} {y:V} (h:aS fr σ (.build zs ps)=some (ob,y)) (dO:ob):Yields P o a w σ μ y:=by
 simp only[aS]at h;split at h
 ·rename_i cs mq;simp only[aa,aA]at h;obtain⟨rfl,rfl⟩:=h;obtain⟨h1,h2⟩:=uT hF hS parts.toList ps vx dO
  obtain⟨cells',h3,h4⟩:=wu (w:=w) (σ:=σ) (μ:=μ) (fun x=>places.toArray[x]?) (parts.toList.map fun(i,x)=>(i,a.eval x)) (ps.map fun(off,sz,x)=>(off,sz,eI (ev fr x))) zs cs z.cells (kg lK) mq (by simp[h1]) (by
   intro k p q hp hq;rw[bg]at hp hq;simp only[ak]at hp hq;obtain⟨p',hp',rfl⟩:=hp;obtain⟨q',hq',rfl⟩:=hq;obtain⟨hf,hc⟩:=h2 k p' q' hp' hq';exact⟨by simpa using hf,hc⟩)
  refine .pure (v:=.agg cells') ?_ h4.KH
  have dx:=run_build (P:=P) w T (parts.map fun(i,x)=>(i,a.eval x)) cells' (by
   simp only[Program.built,ht,hu,hz,lJ];unfold placesOf at Fq;simp only[Fq];exact h3)
  simp only[execOp,ho,Sem.run_bind,dx,Result.andThen_ok,Sem.run_pure]
 ·simp at h
theorem Ky{T E:TypeId}{n:Nat}{parts:Array (Nat×Operand)}{t te:TypeInfo}{z:Value}{zs:List V}{ps:List (Nat×Nat×O)}(ho:o.op=.build T parts)(ht:P.info? T=some t)(hu:P.underlying T=some (.array n E))(hz:t.zero=some z)(YL:P.info? E=some te)
  (lK:iu z.cells.toList=some zs) (vx:qA ((List.range n).map fun i=>(i*te.size,te.size)) parts.toList=some ps) {ob:Prop} {y:V} (h:aS fr σ (.build zs ps)=some (ob,y)) (dO:ob):Yields P o a w σ μ y:=by
 simp only[aS]at h;split at h
 ·rename_i cs mq;simp only[aa,aA]at h;obtain⟨rfl,rfl⟩:=h;obtain⟨h1,h2⟩:=uT hF hS parts.toList ps vx dO
  obtain⟨cells',h3,h4⟩:=wu (w:=w) (σ:=σ) (μ:=μ) (fun i=>some (i*te.size,te.size)) (parts.toList.map fun(i,x)=>(i,a.eval x)) (ps.map fun(off,sz,x)=>(off,sz,eI (ev fr x))) zs cs z.cells (kg lK) mq (by simp[h1]) (by
   intro k p q hp hq;rw[bg]at hp hq;simp only[ak]at hp hq;obtain⟨p',hp',rfl⟩:=hp;obtain⟨q',hq',rfl⟩:=hq;obtain⟨hf,hc⟩:=h2 k p' q' hp' hq';rw[bg]at hf;simp only[ak]at hf;obtain⟨i,hi,hf⟩:=hf
   have zo:i=p'.1:=by
    have:=(ab.1 hi).2;simpa using this.symm
   subst zo;exact⟨by rw[hf],hc⟩)
  refine .pure (v:=.agg cells') ?_ h4.KH
  have dx:=run_build (P:=P) w T (parts.map fun(i,x)=>(i,a.eval x)) cells' (by
   simp only[Program.built,ht,hu,hz,YL,lJ];exact h3)
  simp only[execOp,ho,Sem.run_bind,dx,Result.andThen_ok,Sem.run_pure]
 ·simp at h
theorem AR:∀ (parts:List (Nat×Operand)) (n:Nat) (xs:List O),qz n parts=some xs→(∀ x∈xs,fJ σ (ev fr x)=true) →
  xs.length=parts.length∧∀ (k:Nat) (p:Nat×Operand) (x:O),parts[k]?=some p→xs[k]?=some x→p.1=n+k∧CR w σ μ (eI (ev fr x)) (a.eval p.2).cells
 | [],n,xs,h,_=>by simp only[qz,aa]at h;subst h;simp
 | (i,x)::r,n,xs,h,gC=>by
  simp only[qz]at h;split at h
  ·rename_i hi;subst hi;split at h<;>simp only[aa,reduceCtorEq]at h;rename_i y ys hy wo;subst h;obtain⟨h1,h2⟩:=AR r _ ys wo (fun p hp=>gC p (bz _ hp));refine⟨by simp[h1],fun k p q hp hq=>?_⟩;cases k with
   | zero =>
    simp only[ax,aa]at hp hq;subst hp;subst hq;exact⟨rfl,(jO hS (dK hF hy) (gC y dn)).1⟩
   | succ k =>
    have:=h2 k p q (by simpa using hp) (by simpa using hq);exact⟨by omega,this.2⟩
  ·simp at h
theorem yw{T E:TypeId}{len:Nat}{parts:Array (Nat×Operand)}{t:TypeInfo}{z:Value}{xs:List O}{szs:List (Option Nat)}(ho:o.op=.buildSlice T len parts)(hT:P.underlying T=some (.slice E))(ht:P.info? E=some t)(hz:t.zero=some z)
  (hn:parts.size=len) (fq:0<t.size) (Km:z.cells.size=t.size) (zu:len*t.size≤2^24) (vx:qz 0 parts.toList=some xs) (gC:∀ x∈xs,fJ σ (ev fr x)=true) (H6:∀ r∈xs.map fun x=>cq szs (eI (ev fr x)),r.length=t.size) :
  ∃ cells':Array Value,(execOp a.eval o).run P w=.ok (.value (.slice (some ⟨w.heap.size,0,none⟩) len len)) (w.alloc (.cells cells' E))∧(xs.map fun x=>cq szs (eI (ev fr x))).length=len∧cells'.size=len*t.size ∧
   ∀ i j x,ft (xs.map fun x=>cq szs (eI (ev fr x))) i j=some x→i*t.size+j<cells'.size∧VR w σ μ x (cells'.getD (i*t.size+j) undef):=by
 obtain⟨h1,h2⟩:=AR hF hS parts.toList 0 xs vx gC;have hlen:xs.length=len:=by rw[h1];simpa using hn
 generalize XZ:(xs.map fun x=>cq szs (eI (ev fr x)))=rows at H6 ⊢;have xR:rows.length=len:=by rw[← XZ];simp[hlen]
 let zc:Array Value:=if len*t.size=0 then #[]else z.cells
 let zeros:Array Value:=(Array.range (len*t.size)).map (zc[· % zc.size]!)
 have PM:CR w σ μ (List.replicate (len*t.size) V.u) zeros:=by
  refine⟨by simp[zeros],fun i x hx=>?_⟩;have:x=.u:=(ab.1 hx).2▸by simp
  subst this;exact .u _
 have Q3:=yd t.size rows [] 0 (List.replicate (len*t.size) V.u) H6 (by simp) (by simp[xR]);simp only[aG]at Q3
 obtain⟨cells',h3,h4⟩:=wu (w:=w) (σ:=σ) (μ:=μ) (fun i=>some (i*t.size,t.size)) (parts.toList.map fun(i,x)=>(i,a.eval x)) _ _ _ zeros PM Q3 (by simp[xR,hn]) (by
  intro k p q hp hq;rw[bg]at hp;simp only[ak]at hp;obtain⟨p',hp',rfl⟩:=hp;rw[bg,List.getElem?_zipIdx]at hq;simp only[Option.map_map,ak]at hq;obtain⟨r,hr,rfl⟩:=hq;rw[← XZ,bg]at hr;simp only[ak]at hr;obtain⟨x,hx,rfl⟩:=hr;obtain⟨e1,hc⟩:=h2 k p' x hp' hx;refine⟨?_,hc.cq szs⟩;simp[e1])
 have dx:(execOp a.eval o).run P w=.ok (.value (.slice (some ⟨w.heap.size,0,none⟩) len len)) (w.alloc (.cells cells' E)):=by
  have hnb:¬ (16777216<len*t.size):=by omega
  simp only[execOp,ho,Instr.buildSlice,Sem.run_bind,run_underlying hT,Result.andThen_ok,sizeOf,typeInfo,run_program,ht,Sem.run_pure];have hif:¬ (len*t.size > 2^24):=by omega
  simp only[hif,if_false]
  by_cases h0:len*t.size=0
  ·have SI:zc=#[]:=by simp[zc,h0]
   have e1:zeros=(Array.range (len*t.size)).map ((#[]:Array Value)[· % (#[]:Array Value).size]!):=by simp only[zeros,SI]
   simp only[h0,if_true,Sem.run_bind,Sem.run_pure,Result.andThen_ok];rw[e1,h0]at h3;simp only[lJ,h3];simp[newRow]
  ·have SI:zc=z.cells:=by simp[zc,h0]
   have e1:zeros=(Array.range (len*t.size)).map (z.cells[· % z.cells.size]!):=by simp only[zeros,SI]
   simp only[h0,if_false,zeroValue,typeInfo,Sem.run_bind,run_program,ht,Result.andThen_ok,Sem.run_pure,hz];rw[e1]at h3;simp only[lJ,h3];simp[newRow]
 refine⟨cells',dx,xR,?_,fun i j x hx=>?_⟩
 ·rw[← h4.1];simp[EL H6,xR]
 ·have hfx:=GC H6 hx;exact⟨by rw[← h4.1];exact(ab.1 hfx).1,h4.2 _ x hfx⟩
theorem Kz{T E:TypeId}{len:Nat}{parts:Array (Nat×Operand)}{t:TypeInfo}{z:Value}{xs:List O}{szs:List (Option Nat)}(ho:o.op=.buildSlice T len parts)(hT:P.underlying T=some (.slice E))(ht:P.info? E=some t)(hz:t.zero=some z)
  (hn:parts.size=len) (fq:0<t.size) (Km:z.cells.size=t.size) (zu:len*t.size≤2^24) (vx:qz 0 parts.toList=some xs) {ob:Prop} {y:V} (h:aS fr σ (.bQ t.size szs xs)=some (ob,y)) (dO:ob):Yields P o a w σ μ y:=by
 simp only[aS,aa,aA]at h;obtain⟨rfl,rfl⟩:=h;obtain⟨gC,ql⟩:=dO;obtain⟨cells',dx,xR,mq,xT⟩:=yw hF hS ho hT ht hz hn fq Km zu vx gC (fun r hr=>(ql r hr).1);generalize XZ:(xs.map fun x=>cq szs (eI (ev fr x)))=rows at ql xR xT ⊢;have H6:∀ r∈rows,r.length=t.size:=fun r hr=>(ql r hr).1;have hg:w.grownBy (w.alloc (.cells cells' E)) none:=World.grownBy_alloc w _ none;obtain⟨hS',hp⟩:=hS.grown hg;refine⟨_,_,dx,hg,?_⟩
 have pq:∀ i j x,ft rows i j=some x→(w.alloc (.cells cells' E)).cell? ⟨w.heap.size,0+i*t.size+j,none⟩=some (cells'.getD (i*t.size+j) undef)∧VR w σ μ x (cells'.getD (i*t.size+j) undef):=by
  intro i j x hx;obtain⟨eC,hv⟩:=xT i j x hx;refine⟨?_,hv⟩;rw[World.cell?_alloc_new,aI];simp[eC]
 have:=VR.lit (w:=w.alloc (.cells cells' E)) (σ:=σ) (μ:=μ) t.size rows w.heap.size 0 (fun i j=>cells'.getD (i*t.size+j) undef) (by
   rw[xR];have:len≤len*t.size:=Yg _ fq;unfold maxLen;omega) H6 (fun i j x hx=>⟨(pq i j x hx).1,fun hw=>?_,?_⟩) (fun i j x hx=>(pq i j x hx).2.mono hp)
 ·rwa [xR]at this
 ·obtain⟨id,ob,h5,h6,h7⟩:=hw;have hd:ob≠.dead:=by rintro rfl;exact h7
  exact absurd (hS.qB h5 hd h6).2 (Nat.lt_irrefl _)
 ·obtain⟨r,hr,hj⟩:=ib hx;exact(ql r (aN hr)).2 x (aN hj)
end cx
structure AX (w:World) (σ:ah) (μ:Mem) (xs:List (List V)) (sz:Nat) (v:Value):Prop where
 rows:∀ r∈xs,r.length=sz
 len:xs.length≤maxLen
 here:(xs=[]∧∃ a,v=.slice a 0 0)∨∃ b off cap,v=.slice (some ⟨b,off,none⟩) xs.length cap ∧
  ∀ i j x,ft xs i j=some x→x.pure=true∧∃ u,w.cell? ⟨b,off+i*sz+j,none⟩=some u∧VR w σ μ x u
theorem mY.QG{w:World}{σ:ah}{μ:Mem}{xs:List (List V)}{sz b o cap:Nat}{f:Nat→Nat→Value}(h:mY w σ μ xs sz b o f)(hl:xs.length≤maxLen):AX w σ μ xs sz (.slice (some ⟨b,o,none⟩) xs.length cap) :=
 ⟨h.1,hl,.inr ⟨b,o,cap,rfl,fun i j x hx=>⟨(h.2.1 i j x hx).2.2,f i j,(h.2.1 i j x hx).1,h.2.2 i j x hx⟩⟩⟩
theorem tT{P:Program}{B:Nat}{w0 w:World}{σ:ah}{μ:Mem}(hS:gM P B w0 w σ μ){x:V}{v:Value}(h:VR w σ μ x v){sz:Nat}{xs:List (List V)}(hx:rowsOf σ sz x=some xs):AX w σ μ xs sz v:=by
 unfold rowsOf at hx;split at hx
 ·simp only[aa]at hx;subst hx;exact⟨by simp,by simp,.inl ⟨rfl,_,h.lA⟩⟩
 ·split at hx<;>simp only[aa,reduceCtorEq]at hx;rename_i fq;subst fq;subst hx;rcases h.ny with⟨rfl,rfl⟩ | ⟨b,o,f,rfl,hm,hr⟩
  ·exact⟨by simp,by simp,.inl ⟨rfl,_,rfl⟩⟩
  ·exact hr.QG hm
 ·split at hx<;>simp only[aa,reduceCtorEq]at hx;rename_i fq;subst fq;subst hx;rcases h.Cq with⟨rfl,_,rfl⟩ | ⟨b,o,cap,f,rfl,hc,hm,hr⟩
  ·exact⟨by simp,by simp,.inl ⟨rfl,_,rfl⟩⟩
  ·exact hr.QG (bF hc hm)
 ·rename_i id g;split at hx
  ·rename_i E sz' by' g' sh xs' ho;split at hx<;>simp only[aa,reduceCtorEq]at hx;rename_i hg;obtain⟨rfl,rfl⟩:=hg;subst hx;have hv:=h.jY ho;obtain⟨_,cm,hr⟩:=hS.rowAt ho;rcases hr with⟨hm,hn⟩ | ⟨b,cap,cur,hm,_,hc,zr,_,hr⟩
   ·subst hn;exact⟨by simp,by simp,.inl ⟨rfl,_,hv.trans hm⟩⟩
   ·exact⟨cm,bF hc zr,.inr ⟨b,0,cap,hv.trans hm,fun i j x hx=>by rw[aI];exact hr i j x hx⟩⟩
  ·simp at hx
 ·rename_i id g lo hi;split at hx
  ·rename_i E sz' by' g' sh xs' ho;split at hx<;>simp only[aa,reduceCtorEq]at hx;rename_i hg;obtain⟨rfl,rfl⟩:=hg;subst hx;obtain⟨h1,h2,hv⟩:=h.nw ho;obtain⟨_,cm,hr⟩:=hS.rowAt ho;have hrow':∀ r∈(xs'.drop lo).take (hi - lo),r.length=sz':=fun r hr=>cm r (ff (dd hr));have hl:((xs'.drop lo).take (hi - lo)).length=hi - lo:=by simp;omega
   rcases hr with⟨hm,hn⟩ | ⟨b,cap,cur,hm,_,hc,zr,_,hr⟩
   ·subst hn;refine⟨by simp,by simp,.inl ⟨by simp,none,?_⟩⟩;simp only[ai]at h2;rw[hv,hm];have h3:lo=0:=by omega
    have h4:hi=0:=by omega
    subst h3;subst h4;rfl
   ·refine⟨hrow',by rw[hl];omega,?_⟩;rw[hv,hm]
    by_cases he:cap=lo
    ·have h3:hi - lo=0:=by omega
     refine .inr ⟨b,0,cap - lo,?_,?_⟩
     ·rw[hl];simp[jI,he]
     ·intro i j x hx;rw[h3]at hx;simp[ft]at hx
    ·refine .inr ⟨b,lo*sz',cap - lo,?_,?_⟩
     ·rw[hl];simp[jI,he,Addr.add_lit]
     ·intro i j x hx;have:=hr _ _ _ (wx hx)
      rwa [show(lo+i)*sz'+j=lo*sz'+i*sz'+j by rw[Nat.add_mul]]at this
  ·simp at hx
 ·simp at hx
theorem AX.cells{w:World}{σ:ah}{μ:Mem}{xs:List (List V)}{sz:Nat}{b off n cap:Nat}(h:AX w σ μ xs sz (.slice (some ⟨b,off,none⟩) n cap))(hx:∀ i j x,ft xs i j=some x→gg σ x=true){P:Program}{B:Nat}{w0:World}(hS:gM P B w0 w σ μ):
  ∃ vals:List Value,vals.length=xs.length*sz∧(∀ (j:Nat) (u:Value),vals[j]?=some u→w.cell? ((⟨b,off,none⟩:Addr).add j)=some u)∧(∀ u∈vals,u.oneCell'=true)∧jT w σ μ xs sz vals:=by
 rcases h.here with⟨rfl,a,he⟩ | ⟨b',off',cap',he,hr⟩
 ·exact⟨[],by simp,by simp,by simp,by simp,by simp[ft]⟩
 ·simp only[Value.slice.injEq,aa,Addr.mk.injEq,and_true]at he;obtain⟨⟨rfl,rfl⟩,rfl,rfl⟩:=he;have fq:0<xs.length*sz→0<sz:=fun h=>Yf h;let f:Nat→Value:=fun k=>(w.cell? ⟨b,off+k,none⟩).getD undef
  have hk:∀ k,k<xs.length*sz→∃ x,ft xs (k / sz) (k % sz)=some x∧x.pure=true∧w.cell? ⟨b,off+k,none⟩=some (f k)∧VR w σ μ x (f k):=by
   intro k hk;have hs:0<sz:=fq (by omega);have h1:k / sz<xs.length:=ll (by rw[fL];exact hk);obtain⟨x,hx⟩:=z8 h.rows h1 (sf k hs);obtain⟨h2,u,h3,h4⟩:=hr _ _ _ hx;have e:off+k / sz*sz+k % sz=off+k:=by have:=Qy k sz;rw[fL]at this;omega
   rw[e]at h3;have hf:f k=u:=by simp[f,h3]
   exact⟨x,hx,h2,by rw[hf];exact h3,by rw[hf];exact h4⟩
  refine⟨(List.range (xs.length*sz)).map f,by simp,fun j u hj=>?_,fun u hu=>?_,h.rows,fun i j x yI=>?_⟩
  ·rw[bg]at hj;simp only[ak]at hj;obtain⟨k,sk,rfl⟩:=hj
   have rk:j<xs.length*sz:=by
    have:=(ab.1 sk).1;simpa using this
   have:k=j:=by rw[lR rk]at sk;simpa using sk.symm
   subst this;rw[Addr.add_lit];obtain⟨_,_,_,h3,_⟩:=hk k rk;exact h3
  ·simp only[dI,cK]at hu;obtain⟨k,rG,rfl⟩:=hu;obtain⟨x,h1,_,_,h4⟩:=hk k rG;exact(mU hS h4 (hx _ _ _ h1)).1
  ·obtain⟨h2,u,h3,h4⟩:=hr _ _ _ yI;obtain⟨r,WN,SN⟩:=ib yI;have hi:i<xs.length:=(ab.1 WN).1;have hj:j<sz:=by rw[← h.rows r (aN WN)];exact(ab.1 SN).1
   have eC:i*sz+j<xs.length*sz:=by
    have:(i+1)*sz≤xs.length*sz:=bl _ hi;rw[Nat.add_mul]at this;omega
   refine⟨h2,u,?_,h4⟩;rw[bg,lR eC];have:off+i*sz+j=off+(i*sz+j):=by omega
   rw[this]at h3;simp[f,h3]
theorem nk{σ:ah}{x:V}(h:x.pure=true):gg σ x=true:=by cases x<;>simp_all [V.pure,gg]
theorem foldl_push(ns:List Int):∀ (s:ByteArray),(ns.foldl (fun(r:ByteArray) n=>r.push (UInt8.ofNat n.toNat)) s).data.toList=s.data.toList++ns.map fun n=>UInt8.ofNat n.toNat:=by
 induction ns with
 | nil=>intro s;simp
 | cons n ns ih=>intro s;rw[cj,ih];simp[ByteArray.push]
theorem tu:∀ (xs:List (List V)) (l:List UInt8),bytesOf xs=some l→∃ ns:List Int,xs=ns.map (fun n=>[V.i .u8 n])∧l=ns.map fun n=>UInt8.ofNat n.toNat
 | [],l,h=>by simp only[bytesOf,aa]at h;subst h;exact⟨[],rfl,rfl⟩
 | r::rs,l,h=>by
  simp only[bytesOf]at h;split at h<;>simp only[aa,reduceCtorEq]at h;rename_i x ys hx wo;subst h;obtain⟨ns,h1,h2⟩:=tu rs ys wo;unfold oC at hx;split at hx<;>simp only[aa,reduceCtorEq]at hx;rename_i n;subst hx;exact⟨n::ns,by simp[h1],by simp[h2]⟩
section cx
variable {P:Program} {o:Oper} {a:Act} {B:Nat} {w0 w:World} {σ:ah} {μ:Mem} {fr:List V} (hF:FR w σ μ fr a) (hS:gM P B w0 w σ μ)
include hF hS
theorem Uo{s d e:TypeId}{x:Operand}{x':O}(ho:o.op=.convert s d x)(hs:P.underlying s=some (.slice e))(he:P.underlying e=some (.int .u8))(hd:P.underlying d=some .string)(hx:cO x=some x')
  {ob:Prop} {y:V} (h:aS fr σ (.yx x')=some (ob,y)):Yields P o a w σ μ y:=by
 have h1:=dK hF hx;simp only[aS]at h;split at h
 ·rename_i xs vw;split at h
  ·rename_i l hl;simp only[aa,aA]at h;obtain⟨_,rfl⟩:=h;have QS:=tT hS h1 vw;obtain⟨ns,X2,SX⟩:=tu xs l hl;have Fs:l.length=xs.length:=by rw[SX,X2];simp
   rcases QS.here with⟨XX,a0,hv⟩ | ⟨b,off,cap,hv,hr⟩
   ·subst XX;have:l=[]:=bq (by simpa using Fs);subst this;refine .pure (v:=.string ByteArray.empty) ?_ (.s _ _ rfl (by simp))
    have h0:(convert s d (.slice a0 0 0)).run P w=.ok (.string ByteArray.empty) w:=by
     cases a0 with
     | none=>exact run_convert_bytes_nil (P:=P) (w:=w) s e hs he 0 0 d hd
     | some a0 =>
      rw[run_convert_bytes_string w s d e _ _ _ hs he hd,run_bytesToString w a0 0 0 [] (run_loadCells_list w a0 [] (by simp))];rfl
    simp only[execOp,ho,hv,Sem.run_bind,h0,Result.andThen_ok,Sem.run_pure]
   ·have pq:∀ j,j<xs.length→w.cell? ((⟨b,off,none⟩:Addr).add j)=some (.int .u8 (ns.getD j 0)):=by
     intro j hj;have hjn:j<ns.length:=by rw[X2]at hj;simpa using hj
     have er:ft xs j 0=some (.i .u8 ns[j]):=by rw[X2];simp[ft,hjn]
     obtain⟨_,u,h2,h3⟩:=hr j 0 _ er;rw[h3.gl]at h2;rw[Addr.add_lit];simpa[hjn]using h2
    have WY:=run_loadCells (P:=P) w ⟨b,off,none⟩ xs.length (fun j=>.int .u8 (ns.getD j 0)) pq
    have hload':(loadCells ⟨b,off,none⟩ xs.length).run P w=.ok (ns.map (Value.int .u8)).toArray w:=by
     rw[WY];congr 2;apply iw;intro j;have hln':xs.length=ns.length:=by rw[X2];simp
     by_cases hj:j<ns.length
     ·rw[bg,lR (by omega),bg,ao hj];simp[hj]
     ·rw[bo (by simp;omega),bo (by simp;omega)]
    refine .pure (v:=.string (ns.foldl (fun r n=>r.push (UInt8.ofNat n.toNat)) ByteArray.empty)) ?_ (.s _ _ ?_ (by rw[Fs];exact QS.len))
    ·simp only[execOp,ho,hv,Sem.run_bind,run_convert_bytes_string w s d e _ _ _ hs he hd,run_bytesToString w ⟨b,off,none⟩ xs.length cap ns hload',Result.andThen_ok,Sem.run_pure]
    ·rw[foldl_push,SX];rfl
  ·simp at h
 ·simp at h
end cx
end Go.Pm

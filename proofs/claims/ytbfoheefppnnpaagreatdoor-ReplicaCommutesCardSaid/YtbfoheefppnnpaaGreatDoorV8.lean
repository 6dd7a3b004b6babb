/- A part of the proof of the statement of the last text of this claim: for every two lists of integers ReplicaCommutes returns true and leaves the memory as it was. -/
import Derived.ChangeKeysEq
import Derived.Test.YtbfoheefppnnpaaGreatDoorV7
set_option linter.all false

namespace Go.Pm
open Go Go.RowKit
theorem flat_rep {zs:List V} {n i j:Nat} {x:V} (h:at2 (List.replicate n zs) i j=some x):i<n∧zs[j]?=some x:=by
 obtain ⟨r,h1,h2⟩:=at2_some h
 have hi:i<n:=by have:=(List.getElem?_eq_some_iff.1 h1).1;simpa using this
 rw [List.getElem?_replicate,if_pos hi] at h1
 simp only [Option.some.injEq] at h1
 subst h1
 exact ⟨hi,h2⟩
theorem getElem_bang (z:Array Value) (j:Nat) (h:j<z.size):z[j]! = z.getD j undef:=by simp [h]
theorem CR.purify_bool {w:World} {σ:Store} {μ:Mem} (ss:List (Option Nat)) {xs:List V} {vs:Array Value} (h:CR w σ μ xs vs):VR w σ μ (.agg (Pm.purifyL ss xs)) (.agg vs):=(CR.purifyL ss h).toAgg
theorem keyKind_cases {P:Program} {K kd:Nat} (h:keyKind P K=some kd) :
  (kd=0∧∃ q,P.underlying K=some (.int q))∨(kd=1∧P.underlying K=some .string)∨(kd=3∧∃ e q,P.underlying K=some (.array 2 e)∧P.underlying e=some (.int q)∧P.cellsOf e=1):=by
 unfold keyKind at h
 split at h
 ·rename_i q hq;simp only [Option.some.injEq] at h;exact .inl ⟨h.symm,q,hq⟩
 ·rename_i hq;simp only [Option.some.injEq] at h;exact .inr (.inl ⟨h.symm,hq⟩)
 ·rename_i e hq
  split at h
  ·rename_i q he
   split at h
   ·rename_i hc
    simp only [Option.some.injEq] at h
    exact .inr (.inr ⟨h.symm,e,q,hq,he,hc⟩)
   ·simp at h
  ·simp at h
 ·simp at h
theorem findNow_ok {P:Program} {w:World} {σ:Store} {μ:Mem} {K:TypeId} {kd:Nat} {d:TypeDesc} (hK:P.underlying K=some d) (hkd:keyKind P K=some kd) (h3:kd≠3) {k:V} {kv:Value} (hk:VR w σ μ k kv) :
  ∀ (es:List (V×V)) (ents:List MapEntry) (n:Nat) (r:Option (Nat×V)),ents.length=es.length→(∀ (i:Nat) (a x:V),es[i]?=some (a,x)→∃ e:MapEntry,ents[i]?=some e∧VR w σ μ a e.key∧VR w σ μ x e.val)→findV kd k es n=some r →
   (r=none∧Instr.findNow d kv ents n=some none)∨∃ i x e a,r=some (n+i,x)∧es[i]?=some (a,x)∧ents[i]?=some e∧scalEq kd k a=some true∧Instr.findNow d kv ents n=some (some (n+i,e.val))
 | [],ents,n,r,hl,_,h=>by
  have:ents=[]:=List.eq_nil_of_length_eq_zero hl
  subst this
  simp only [findV,Option.some.injEq] at h
  subst h
  exact .inl ⟨rfl,rfl⟩
 | (a,x)::es,ents,n,r,hl,hr,h=>by
  cases ents with
  | nil=>simp at hl
  | cons e ents =>
   obtain ⟨e',he,h1,h2⟩:=hr 0 a x rfl
   simp only [List.getElem?_cons_zero,Option.some.injEq] at he
   subst he
   have hs:∀ b,scalEq kd k a=some b→Instr.sameNow d kv e.key=some b:=by
    intro b hb
    rcases keyKind_cases hkd with ⟨rfl,q,hq⟩ | ⟨rfl,hq⟩ | ⟨rfl,_⟩
    ·rw [hK] at hq
     simp only [Option.some.injEq] at hq
     subst hq
     cases k<;>(try (simp [scalEq] at hb;done))
     cases a<;>(try (simp [scalEq] at hb;done))
     simp only [scalEq] at hb
     split at hb<;>simp only [Option.some.injEq,reduceCtorEq] at hb
     rename_i hkk;subst hkk
     rw [hk.inv_i,h1.inv_i]
     simp [Instr.sameNow,hb]
    ·rw [hK] at hq
     simp only [Option.some.injEq] at hq
     subst hq
     cases k<;>(try (simp [scalEq] at hb;done))
     cases a<;>(try (simp [scalEq] at hb;done))
     simp only [scalEq,Option.some.injEq] at hb
     obtain ⟨s,rfl,rfl,_⟩:=hk.inv_s
     obtain ⟨s',hs',rfl,_⟩:=h1.inv_s
     rw [hs']
     simp only [Instr.sameNow,Option.some.injEq]
     rw [beq_toListBytes,toList_data,toList_data];exact hb
    ·exact absurd rfl h3
   simp only [findV] at h
   split at h
   ·rename_i hb
    simp only [Option.some.injEq] at h
    subst h
    exact .inr ⟨0,x,e,a,rfl,rfl,rfl,hb,by simp [Instr.findNow,hs true hb]⟩
   ·rename_i hb
    have ih:=findNow_ok hK hkd h3 hk es ents (n+1) r (by simpa using hl) (fun i a x hi=>by
     obtain ⟨e2,h3,h4⟩:=hr (i+1) a x hi
     exact ⟨e2,by simpa using h3,h4⟩) h
    rcases ih with ⟨h3,h4⟩ | ⟨i,y,e2,a2,h3,h4,h5,h6,h7⟩
    ·exact .inl ⟨h3,by simp [Instr.findNow,hs false hb,h4]⟩
    ·exact .inr ⟨i+1,y,e2,a2,by rw [h3];congr 2;omega,h4,by simpa using h5,h6,by simp only [Instr.findNow,hs false hb,h7];congr 3;omega⟩
   ·simp at h
theorem pairEq_some {xs ys:List V} {r:Bool} (h:pairEq xs ys=some r):∃ k a l b a' b',xs=[.i k a,.i l b]∧ys=[.i k a',.i l b']∧r=(a==a'&&b==b'):=by
 unfold pairEq at h
 split at h
 ·split at h<;>simp only [Option.some.injEq,reduceCtorEq] at h
  rename_i hk
  obtain ⟨rfl,rfl⟩:=hk
  exact ⟨_,_,_,_,_,_,rfl,rfl,h.symm⟩
 ·simp at h
theorem VR.pair {w:World} {σ:Store} {μ:Mem} {k l:IntKind} {a b:Int} {v:Value} (h:VR w σ μ (.agg [.i k a,.i l b]) v):v=.agg #[.int k a,.int l b]:=by
 obtain ⟨vs,rfl,hl,hv⟩:=h.inv_agg
 have h0:=(hv 0 _ rfl).inv_i
 have h1:=(hv 1 _ rfl).inv_i
 obtain ⟨l⟩:=vs
 match l,hl with
 | [x,y],_=>simp at h0 h1;rw [h0,h1]
theorem run_equalPair {P:Program} {w:World} {K e:TypeId} {q:IntKind} (hK:P.underlying K=some (.array 2 e)) (he:P.underlying e=some (.int q)) (hc:P.cellsOf e=1) (k l:IntKind) (a b a' b':Int) :
  (Op.equal K (.agg #[.int k a,.int l b]) (.agg #[.int k a',.int l b'])).run P w=.ok (a==a'&&b==b') w:=by
 have hi:∃ i,P.info? e=some i:=by
  unfold Program.underlying at he
  cases h:P.info? e with
  | none=>simp [h] at he
  | some i=>exact ⟨i,rfl⟩
 obtain ⟨i,hi⟩:=hi
 have hA:isAggT P e=some false:=by simp [isAggT,he]
 have hp:∀ (x y:Value) (j:Nat) (z:Value),#[x,y][j]?=some z→(part e #[x,y] j).run P w=.ok z w:=by
  intro x y j z hz
  simp only [part,Sem.run_bind,run_isAgg hA,Result.andThen_ok,Bool.false_eq_true,if_false,hz]
  rfl
 have gen:∀ n,(Op.equalIn (n+2) K (.agg #[.int k a,.int l b]) (.agg #[.int k a',.int l b'])).run P w=.ok (a==a'&&b==b') w:=by
  intro n
  rw [run_equalIn_array w (n+1) _ _ hK hi,hc]
  simp only [show List.range 2=[0,1] from rfl,Op.eqItems,Sem.run_bind,hp (.int k a) (.int l b) 0 (.int k a) rfl,hp (.int k a') (.int l b') 0 (.int k a') rfl,Result.andThen_ok,
   run_equalIn_int w n e k q _ _ he,Nat.mul_one]
  cases (a==a')<;>cases h:(b==b')<;>simp [hp (.int k a) (.int l b) 1 (.int l b) rfl,hp (.int k a') (.int l b') 1 (.int l b') rfl,run_equalIn_int w n e l q b b' he,h]
 exact gen 9998
theorem findAsking_ok {P:Program} {w:World} {σ:Store} {μ:Mem} {K e:TypeId} {q:IntKind} (hK:P.underlying K=some (.array 2 e)) (he:P.underlying e=some (.int q)) (hc:P.cellsOf e=1) {k:V} {kv:Value} (hk:VR w σ μ k kv) :
  ∀ (es:List (V×V)) (ents:List MapEntry) (n:Nat) (r:Option (Nat×V)),ents.length=es.length→(∀ (i:Nat) (a x:V),es[i]?=some (a,x)→∃ e:MapEntry,ents[i]?=some e∧VR w σ μ a e.key∧VR w σ μ x e.val)→findV 3 k es n=some r →
   (r=none∧(Instr.findAsking K kv ents n).run P w=.ok none w)∨∃ i x e a,r=some (n+i,x)∧es[i]?=some (a,x)∧ents[i]?=some e∧scalEq 3 k a=some true∧(Instr.findAsking K kv ents n).run P w=.ok (some (n+i,e.val)) w
 | [],ents,n,r,hl,_,h=>by
  have:ents=[]:=List.eq_nil_of_length_eq_zero hl
  subst this
  simp only [findV,Option.some.injEq] at h
  subst h
  exact .inl ⟨rfl,by simp [Instr.findAsking]⟩
 | (a,x)::es,ents,n,r,hl,hr,h=>by
  cases ents with
  | nil=>simp at hl
  | cons e2 ents =>
   obtain ⟨e',he',h1,h2⟩:=hr 0 a x rfl
   simp only [List.getElem?_cons_zero,Option.some.injEq] at he'
   subst he'
   have hs:∀ b,scalEq 3 k a=some b→(Op.equal K kv e2.key).run P w=.ok b w:=by
    intro b hb
    cases k<;>(try (simp [scalEq] at hb;done))
    cases a<;>(try (simp [scalEq] at hb;done))
    simp only [scalEq] at hb
    obtain ⟨k1,a1,l1,b1,a2,b2,rfl,rfl,rfl⟩:=pairEq_some hb
    rw [hk.pair,h1.pair]
    exact run_equalPair hK he hc _ _ _ _ _ _
   simp only [findV] at h
   split at h
   ·rename_i hb
    simp only [Option.some.injEq] at h
    subst h
    exact .inr ⟨0,x,e2,a,rfl,rfl,rfl,hb,by simp [Instr.findAsking,hs true hb]⟩
   ·rename_i hb
    have ih:=findAsking_ok hK he hc hk es ents (n+1) r (by simpa using hl) (fun i a x hi=>by
     obtain ⟨e2,h3,h4⟩:=hr (i+1) a x hi
     exact ⟨e2,by simpa using h3,h4⟩) h
    rcases ih with ⟨h3,h4⟩ | ⟨i,y,e2,a2,h3,h4,h5,h6,h7⟩
    ·exact .inl ⟨h3,by simp [Instr.findAsking,hs false hb,h4]⟩
    ·exact .inr ⟨i+1,y,e2,a2,by rw [h3];congr 2;omega,h4,by simpa using h5,h6,by simp only [Instr.findAsking,Sem.run_bind,hs false hb,Result.andThen_ok,Bool.false_eq_true,if_false,h7];congr 3;omega⟩
   ·simp at h
theorem findKey_ok {P:Program} {w:World} {σ:Store} {μ:Mem} {K:TypeId} {kd:Nat} (hkd:keyKind P K=some kd) {k:V} {kv:Value} (hk:VR w σ μ k kv)
  (es:List (V×V)) (ents:List MapEntry) (r:Option (Nat×V)) (hl:ents.length=es.length) (hr:∀ (i:Nat) (a x:V),es[i]?=some (a,x)→∃ e:MapEntry,ents[i]?=some e∧VR w σ μ a e.key∧VR w σ μ x e.val) (h:findV kd k es 0=some r) :
   (r=none∧(Instr.findKey K kv ents).run P w=.ok none w)∨∃ i x e a,r=some (i,x)∧es[i]?=some (a,x)∧ents[i]?=some e∧scalEq kd k a=some true∧(Instr.findKey K kv ents).run P w=.ok (some (i,e.val)) w:=by
 by_cases h3:kd=3
 ·subst h3
  rcases keyKind_cases hkd with ⟨h,_⟩ | ⟨h,_⟩ | ⟨_,e,q,hK,he,hc⟩
  ·omega
  ·omega
  ·have hf:=findAsking_ok hK he hc hk es ents 0 r hl hr h
   have hn:Instr.findNow (.array 2 e) kv ents 0=some none∧ents=[]∨Instr.findNow (.array 2 e) kv ents 0=none:=by
    cases ents with
    | nil=>exact .inl ⟨rfl,rfl⟩
    | cons a b=>exact .inr (by simp [Instr.findNow,Instr.sameNow])
   rcases hn with ⟨hn,rfl⟩ | hn
   ·rcases hf with ⟨h4,h5⟩ | ⟨i,x,e,a,_,_,h6,_⟩
    ·exact .inl ⟨h4,by simp [Instr.findKey,run_underlying hK,hn]⟩
    ·simp at h6
   ·simp only [Nat.zero_add] at hf
    rcases hf with ⟨h4,h5⟩ | ⟨i,x,e,a,h4,h5,h6,h7,h8⟩
    ·exact .inl ⟨h4,by simp [Instr.findKey,run_underlying hK,hn,h5]⟩
    ·exact .inr ⟨i,x,e,a,h4,h5,h6,h7,by simp [Instr.findKey,run_underlying hK,hn,h8]⟩
 ·have hd:∃ d,P.underlying K=some d:=by
   rcases keyKind_cases hkd with ⟨_,_,h⟩ | ⟨_,h⟩ | ⟨_,_,_,h,_⟩<;>exact ⟨_,h⟩
  obtain ⟨d,hd⟩:=hd
  have hf:=findNow_ok hd hkd h3 hk es ents 0 r hl hr h
  simp only [Nat.zero_add] at hf
  rcases hf with ⟨h4,h5⟩ | ⟨i,x,e,a,h4,h5,h6,h7,h8⟩
  ·exact .inl ⟨h4,by simp [Instr.findKey,run_underlying hd,h5]⟩
  ·exact .inr ⟨i,x,e,a,h4,h5,h6,h7,by simp [Instr.findKey,run_underlying hd,h8]⟩
theorem run_checkKey {P:Program} {w:World} {σ:Store} {μ:Mem} {K:TypeId} {kd:Nat} (hkd:keyKind P K=some kd) (em:Bool) (n:Nat) {k:V} {v:Value} (hk:VR w σ μ k v) (hob:keyOb kd k=true):(Instr.checkKey em (n+2) K v).run P w=.ok () w:=by
 rcases keyKind_cases hkd with ⟨_,_,h⟩ | ⟨_,h⟩ | ⟨rfl,e,q,h,he,hc⟩
 ·simp [Instr.checkKey,run_underlying h]
 ·simp [Instr.checkKey,run_underlying h]
 ·unfold keyOb at hob
  rw [if_pos rfl] at hob
  split at hob
  ·rename_i k1 a1 l1 b1
   rw [hk.pair]
   have hi:∃ i,P.info? e=some i:=by
    unfold Program.underlying at he
    cases h:P.info? e with
    | none=>simp [h] at he
    | some i=>exact ⟨i,rfl⟩
   obtain ⟨i,hi⟩:=hi
   have hA:isAggT P e=some false:=by simp [isAggT,he]
   have hp:∀ (x y:Value) (j:Nat) (z:Value),#[x,y][j]?=some z→(part e #[x,y] j).run P w=.ok z w:=by
    intro x y j z hz
    simp only [part,Sem.run_bind,run_isAgg hA,Result.andThen_ok,Bool.false_eq_true,if_false,hz]
    rfl
   have hs:(sizeOf e).run P w=.ok 1 w:=by rw [run_sizeOf w hi,hc]
   have h0:=hp (.int k1 a1) (.int l1 b1) 0 (.int k1 a1) rfl
   have h1:=hp (.int k1 a1) (.int l1 b1) 1 (.int l1 b1) rfl
   have hck:∀ v:Value,(∃ q a,v=.int q a)→(Instr.checkKey em (n+1) e v).run P w=.ok () w:=by
    rintro v ⟨_,_,rfl⟩
    simp [Instr.checkKey,run_underlying he]
   have c0:=hck (.int k1 a1) ⟨_,_,rfl⟩
   have c1:=hck (.int l1 b1) ⟨_,_,rfl⟩
   rw [Instr.checkKey]
   simp only [Sem.run_bind,run_underlying h,Result.andThen_ok]
   simp only [Std.Legacy.Range.forIn_eq_forIn_range',Std.Legacy.Range.size,Nat.sub_zero,Nat.add_one_sub_one,Nat.div_one,show List.range' 0 2=[0,1] from rfl,List.forIn_cons,List.forIn_nil]
   simp only [Sem.run_bind,hs,Result.andThen_ok,Nat.mul_one,h0,h1,c0,c1,Sem.run_pure]
  ·simp at hob
theorem zeroV_ok {P:Program} {w:World} {σ:Store} {μ:Mem} {E:TypeId} {z:V} (h:zeroV P E=some z):∃ v,(zeroValue E).run P w=.ok v w∧VR w σ μ z v:=by
 unfold zeroV at h
 split at h
 ·rename_i t ht
  split at h
  ·rename_i cs hz
   simp only [Option.map_eq_some_iff] at h
   obtain ⟨zs,hzs,rfl⟩:=h
   exact ⟨_,by simp [zeroValue,typeInfo,ht,hz],(constVs_CR (cs:=cs) hzs).purify_bool _⟩
  ·rename_i z' hne hz
   exact ⟨_,by simp [zeroValue,typeInfo,ht,hz],constV_ok h⟩
  ·simp at h
 ·simp at h
section silent
variable {P:Program} {o:Oper} {a:Act} {B:Nat} {w0 w:World} {σ:Store} {μ:Mem} {fr:List V} (hF:FR w σ μ fr a) (hS:Sim P B w0 w σ μ)
include hF hS
theorem y_mlen {T K E:TypeId} {x:Operand} {x':O} (ho:o.op=.call { callee:=.builtin .len,args:=#[x],argTypes:=#[T] }) (hT:P.underlying T=some (.map K E)) (hx:cO x=some x')
  {ob:Prop} {y:V} (h:pexec fr σ (.mlen x')=some (ob,y)):Yields P o a w σ μ y:=by
 have h1:=cO_ok hF hx
 simp only [pexec] at h
 split at h
 ·rename_i hp
  simp only [Option.some.injEq,Prod.mk.injEq] at h
  obtain ⟨_,rfl⟩:=h
  rw [hp] at h1
  have hv:a.eval x=.map none:=h1.inv_nilmap
  refine .pure (v:=.int .i64 0) ?_ (.i _ _)
  simp [execOp,ho,resolve,invoke,builtin,hv,Builtin.len_,run_underlying hT,goInt]
 ·rename_i id hp
  split at h
  ·rename_i K' E' es hb
   simp only [Option.some.injEq,Prod.mk.injEq] at h
   obtain ⟨_,rfl⟩:=h
   rw [hp] at h1
   obtain ⟨r,hv,hm,_⟩:=h1.inv_mp
   obtain ⟨r',ents,clock,hm',_,hh,hR⟩:=hS.obj id _ hb
   rw [hm] at hm'
   simp only [Value.map.injEq,Option.some.injEq] at hm'
   subst hm'
   refine .pure (v:=.int .i64 es.length) ?_ (.i _ _)
   have hg:(getObj r).run P w=.ok (.map ents clock) w:=by simp [getObj,Sem.run,hh]
   simp [execOp,ho,resolve,invoke,builtin,hv,Builtin.len_,run_underlying hT,goInt,hg,hR.1]
  ·simp at h
 ·simp at h
theorem y_look {T K E:TypeId} {m k:Operand} {m' k':O} {kd:Nat} {z:V} {ok:Bool} (ho:o.op=.lookup T m k ok) (hT:P.underlying T=some (.map K E)) (hm:cO m=some m') (hk:cO k=some k') (hkd:keyKind P K=some kd) (hz:zeroV P E=some z)
  {ob:Prop} {y:V} (h:pexec fr σ (.look kd z ok m' k')=some (ob,y)) (hob:ob):Yields P o a w σ μ y:=by
 have h1:=cO_ok hF hm
 have h2:=cO_ok hF hk
 obtain ⟨zv,hzr,hzv⟩:=zeroV_ok (w:=w) (σ:=σ) (μ:=μ) hz
 have hko:keyOb kd (ev fr k')=true:=by
  simp only [pexec] at h
  split at h<;>simp only [Option.some.injEq,Prod.mk.injEq,reduceCtorEq] at h<;>(obtain ⟨rfl,_⟩:=h;exact hob)
 have hfin:∀ (u:V) (v:Value) (q:Bool),VR w σ μ u v→(Instr.lookup T (a.eval m) (a.eval k) ok).run P w=.ok (if ok then .tuple #[v,.bool q] else v) w→Yields P o a w σ μ (if ok then .tup [u,.b q] else u):=by
  intro u v q hu hr
  refine .pure (v:=if ok then .tuple #[v,.bool q] else v) (by simp [execOp,ho,hr]) ?_
  cases ok
  ·exact hu
  ·refine .tup _ _ rfl fun i x hx=>?_
   match i with
   | 0=>simp only [List.getElem?_cons_zero,Option.some.injEq] at hx;subst hx;exact hu
   | 1=>simp only [List.getElem?_cons_succ,List.getElem?_cons_zero,Option.some.injEq] at hx;subst hx;exact .b _
   | i+2=>simp at hx
 have hes:∀ (r:Option (Option (Nat×V))),mapFind σ kd (ev fr m') (ev fr k')=r→∀ q,r=some q →
   (q=none→(Instr.lookup T (a.eval m) (a.eval k) ok).run P w=.ok (if ok then .tuple #[zv,.bool false] else zv) w) ∧
   (∀ n u,q=some (n,u)→∃ v,VR w σ μ u v∧(Instr.lookup T (a.eval m) (a.eval k) ok).run P w=.ok (if ok then .tuple #[v,.bool true] else v) w):=by
  intro r hr q hq
  unfold mapFind at hr
  split at hr
  ·rename_i hp
   rw [hp] at h1
   have hv:a.eval m=.map none:=h1.inv_nilmap
   rw [← hr] at hq
   simp only [Option.some.injEq] at hq
   subst hq
   refine ⟨fun _=>?_,fun n u h=>by simp at h⟩
   rw [hv]
   have hck:=run_checkKey (P:=P) (w:=w) hkd true 9998 h2 hko
   have hfk:(Instr.findKey K (a.eval k) []).run P w=.ok none w:=by
    rcases findKey_ok hkd h2 [] [] none rfl (by simp) rfl with ⟨_,h⟩ | ⟨_,_,_,_,h,_⟩
    ·exact h
    ·simp at h
   cases ok<;>simp [Instr.lookup,run_underlying hT,hck,hfk,hzr]
  ·rename_i id hp
   rw [hp] at h1
   obtain ⟨rr,hv,hmu,_⟩:=h1.inv_mp
   split at hr
   ·rename_i K' E' es hb
    obtain ⟨r',ents,clock,hm',_,hh,hR⟩:=hS.obj id _ hb
    rw [hmu] at hm'
    simp only [Value.map.injEq,Option.some.injEq] at hm'
    subst hm'
    have hg:(getObj rr).run P w=.ok (.map ents clock) w:=by simp [getObj,Sem.run,hh]
    rw [← hr] at hq
    have hf:=findKey_ok hkd h2 es ents.toList q (by rw [Array.length_toList];exact hR.1) (fun i a x hi=>by
     obtain ⟨_,_,e,h3,h4,h5⟩:=hR.2.1 i a x hi
     exact ⟨e,by simpa using h3,h4,h5⟩) hq
    have hck:=run_checkKey (P:=P) (w:=w) hkd ents.isEmpty 9998 h2 hko
    refine ⟨fun hn=>?_,fun n u hn=>?_⟩
    ·rcases hf with ⟨_,h3⟩ | ⟨i,x,e,a2,h3,_⟩
     ·rw [hv]
      cases ok<;>simp [Instr.lookup,run_underlying hT,hg,hck,h3,hzr]
     ·rw [hn] at h3;simp at h3
    ·rcases hf with ⟨h3,_⟩ | ⟨i,x,e,a2,h3,h4,h5,_,h6⟩
     ·rw [hn] at h3;simp at h3
     ·rw [hn] at h3
      simp only [Option.some.injEq,Prod.mk.injEq] at h3
      obtain ⟨_,rfl⟩:=h3
      obtain ⟨_,_,e2,h7,_,h8⟩:=hR.2.1 i a2 u h4
      have:e2=e:=by
       have h9:ents[i]?=some e:=by simpa using h5
       rw [h7] at h9;simpa using h9
      subst this
      refine ⟨e2.val,h8,?_⟩
      rw [hv]
      cases ok<;>simp [Instr.lookup,run_underlying hT,hg,hck,h6]
   ·rw [← hr] at hq;simp at hq
  ·rw [← hr] at hq;simp at hq
 simp only [pexec] at h
 generalize hr:mapFind σ kd (ev fr m') (ev fr k')=r at h
 have hq:=hes r hr
 cases r with
 | none=>simp at h
 | some q =>
  obtain ⟨h3,h4⟩:=hq q rfl
  cases q with
  | none =>
   simp only [Option.some.injEq,Prod.mk.injEq] at h
   obtain ⟨_,rfl⟩:=h
   exact hfin _ _ _ hzv (h3 rfl)
  | some q =>
   obtain ⟨n,u⟩:=q
   simp only [Option.some.injEq,Prod.mk.injEq] at h
   obtain ⟨_,rfl⟩:=h
   obtain ⟨v,h5,h6⟩:=h4 n u rfl
   exact hfin _ _ _ h5 h6
end silent
section loud
variable {P:Program} {o:Oper} {a:Act} {B:Nat} {w0 w:World} {σ:Store} {μ:Mem} {fr:List V} (hF:FR w σ μ fr a) (hS:Sim P B w0 w σ μ)
include hF hS
theorem d_mk {T E:TypeId} {t:TypeInfo} {z:Value} {l c:Operand} {l' c':O} {zs0:List V} {szs:List (Option Nat)} (ho:o.op=.makeSlice T l c) (hT:P.underlying T=some (.slice E)) (ht:P.info? E=some t) (hz:t.zero=some z)
  (hsz:0<t.size) (hzs:z.cells.size=t.size) (hzc:constVs z.cells.toList=some zs0) (hl:cO l=some l') (hc:cO c=some c')
  {ob:Prop} {r:V} {σ':Store} (h:xexec fr σ (.mk E t.size t.bytes (purifyL szs zs0) l' c')=some (ob,r,σ')) (hob:ob):Does P o a B w0 w σ μ r σ':=by
 have h1:=cO_ok hF hl
 have h2:=cO_ok hF hc
 simp only [xexec] at h
 split at h
 ·rename_i k n k2 m hn hm
  simp only [Option.some.injEq,Prod.mk.injEq] at h
  obtain ⟨rfl,rfl,rfl⟩:=h
  obtain ⟨hn0,hnm,hm0,hby,hmax,hpure⟩:=hob
  rw [hn] at h1;rw [hm] at h2
  have hTi:Ti P E t.size t.bytes:=⟨hsz,t,z,ht,hz,rfl,rfl,hzs⟩
  obtain ⟨M,rfl⟩:=Int.eq_ofNat_of_zero_le hm0
  have hCR:CR w σ μ (purifyL szs zs0) z.cells:=(constVs_CR hzc).purifyL szs
  have hzl:(purifyL szs zs0).length=t.size:=by rw [hCR.1];exact hzs
  have hb2:t.bytes*M≤281474976710656:=by
   have h3:((M*t.bytes:Nat):Int)≤281474976710656:=by rw [Int.natCast_mul];exact hby
   rw [Nat.mul_comm];exact Int.ofNat_le.1 h3
  have hM:M≤maxLen:=Int.ofNat_le.1 hmax
  have fin:∀ (v:Value) (w':World) (N:Nat) (vals:List Value),(Instr.makeSlice T (a.eval l) (a.eval c)).run P w=.ok v w'→w'.ownsRow B E t.size v N vals→w.grownBy w' none→(∀ b,blk v=some b→w.heap.size≤b)→n.toNat=N →
    RowR w σ μ (List.replicate N (purifyL szs zs0)) t.size vals→Does P o a B w0 w σ μ (.own σ.length 0) (σ++[.row E t.size t.bytes 0 false (List.replicate n.toNat (purifyL szs zs0))]):=by
   intro v w' N vals hr hown hg hbk hN hrow
   rw [hN]
   have hnew:=hS.newOb (w':=w') (.row E t.size t.bytes 0 false (List.replicate N (purifyL szs zs0))) v hg hbk (fun hp=>⟨hTi,vals,by rw [List.length_replicate];exact hown,hrow.keep hp.keep⟩)
   refine ⟨v,w',_,.inl (by simp only [execOp,ho,Sem.run_bind,hr,Result.andThen_ok,Sem.run_pure]),hnew.1,?_,hnew.2⟩
   have:=VR.ownNow (w:=w') (σ:=σ++[.row E t.size t.bytes 0 false (List.replicate N (purifyL szs zs0))]) (μ:=upd μ σ.length v) (id:=σ.length) (E:=E) (sz:=t.size) (by':=t.bytes) (g:=0) (sh:=false) (xs:=List.replicate N (purifyL szs zs0)) (by simp)
   rwa [upd_same] at this
  rcases hnm with rfl | rfl
  ·obtain ⟨w',hr,hown,hg⟩:=run_make_full (P:=P) w B T E t z t.size hT ht hz rfl k k2 M hb2 hM hS.base
   refine fin _ w' M _ (by rw [h1.inv_i,h2.inv_i];exact hr) hown hg (fun b hb=>by simp only [blk,Option.some.injEq] at hb;omega) (by simp) ⟨fun r hr=>by rw [List.eq_of_mem_replicate hr];exact hzl,fun i j x hx=>?_⟩
   obtain ⟨hi,hj⟩:=flat_rep hx
   have hjl:j<t.size:=by rw [← hzl];exact (List.getElem?_eq_some_iff.1 hj).1
   have hidx:i*t.size+j<M*t.size:=by
    have:(i+1)*t.size≤M*t.size:=Nat.mul_le_mul_right _ hi
    rw [Nat.add_mul,Nat.one_mul] at this;omega
   refine ⟨hpure x (List.mem_of_getElem? hj),z.cells.getD j undef,?_,hCR.2 j x hj⟩
   have hmod:(i*t.size+j) % z.cells.size=j:=by rw [hzs,Nat.add_comm,Nat.add_mul_mod_self_right,Nat.mod_eq_of_lt hjl]
   simp only [madeCells,Array.toList_map,Array.toList_range,List.getElem?_map,List.getElem?_range hidx,Option.map_some,hmod]
   rw [getElem_bang _ _ (by omega)]
  ·obtain ⟨w',hr,hown,hg⟩:=run_make_own (P:=P) w B T E t z t.size hT ht hz rfl k k2 M hb2 hM hS.base
   exact fin _ w' 0 _ (by rw [h1.inv_i,h2.inv_i];exact hr) hown hg (fun b hb=>by simp only [blk,Option.some.injEq] at hb;omega) (by simp) ⟨by simp,fun i j x hx=>by simp [at2] at hx⟩
 ·simp at h
theorem d_bown {T E:TypeId} {len:Nat} {parts:Array (Nat×Operand)} {t:TypeInfo} {z:Value} {xs:List O} {szs:List (Option Nat)} (ho:o.op=.buildSlice T len parts) (hT:P.underlying T=some (.slice E)) (ht:P.info? E=some t) (hz:t.zero=some z)
  (hn:parts.size=len) (hsz:0<t.size) (hzc:z.cells.size=t.size) (hbig:len*t.size≤2^24) (hps:cParts 0 parts.toList=some xs) {ob:Prop} {r:V} {σ':Store} (h:xexec fr σ (.bown E t.size t.bytes szs xs)=some (ob,r,σ')) (hob:ob):Does P o a B w0 w σ μ r σ':=by
 simp only [xexec,Option.some.injEq,Prod.mk.injEq] at h
 obtain ⟨rfl,rfl,rfl⟩:=h
 obtain ⟨hok,hrows⟩:=hob
 obtain ⟨cells',hrun,hrl,hcs,hcell0⟩:=bslice_run hF hS ho hT ht hz hn hsz hzc hbig hps hok (fun r hr=>(hrows r hr).1)
 generalize hrw:(xs.map fun x=>purifyL szs (cellsV (ev fr x)))=rows at hrows hrl hcell0 ⊢
 have hTi:Ti P E t.size t.bytes:=⟨hsz,t,z,ht,hz,rfl,rfl,hzc⟩
 have hg:w.grownBy (w.alloc (.cells cells' E)) none:=World.grownBy_alloc w _ none
 have hmax:len≤maxLen:=by
  have:len≤len*t.size:=Nat.le_mul_of_pos_right _ hsz
  unfold maxLen;omega
 have hown:=World.ownsRow_lit (e:=E) w cells' len hS.base hmax hcs
 have hnew:=hS.newOb (w':=w.alloc (.cells cells' E)) (.row E t.size t.bytes 0 false rows) (.slice (some ⟨w.heap.size,0,none⟩) len len) hg (fun b hb=>by simp only [blk,Option.some.injEq] at hb;omega)
  (fun hp=>⟨hTi,cells'.toList,by rw [hrl];exact hown,fun r hr=>(hrows r hr).1,fun i j x hx=>by
   obtain ⟨hlt,hv⟩:=hcell0 i j x hx
   obtain ⟨r,hr,hj⟩:=at2_some hx
   refine ⟨(hrows r (List.mem_of_getElem? hr)).2 x (List.mem_of_getElem? hj),_,?_,hp.keep _ _ hv⟩
   simp [hlt]⟩)
 refine ⟨_,_,_,.inl hrun,hnew.1,?_,hnew.2⟩
 have:=VR.ownNow (w:=w.alloc (.cells cells' E)) (σ:=σ++[.row E t.size t.bytes 0 false rows]) (μ:=upd μ σ.length (.slice (some ⟨w.heap.size,0,none⟩) len len)) (id:=σ.length) (E:=E) (sz:=t.size) (by':=t.bytes) (g:=0) (sh:=false) (xs:=rows) (by simp)
 rwa [upd_same] at this
theorem VR.sameBits {k a:V} {kv av:Value} {kd:Nat} (hk:VR w σ μ k kv) (ha:VR w σ μ a av) (h:scalEq kd k a=some true):Instr.sameBits 10000 av kv=true:=by
 cases k<;>cases a<;>(try (simp [scalEq] at h;done))
 ·rw [hk.inv_b,ha.inv_b]
  match kd with
  | 2=>simp only [scalEq,Option.some.injEq,beq_iff_eq] at h;subst h;simp [Instr.sameBits]
  | 0=>simp [scalEq] at h
  | 1=>simp [scalEq] at h
  | n+3=>simp [scalEq] at h
 ·rw [hk.inv_i,ha.inv_i]
  match kd with
  | 0 =>
   simp only [scalEq] at h
   split at h<;>simp only [Option.some.injEq,beq_iff_eq,reduceCtorEq] at h
   rename_i hkk;subst hkk;subst h;simp [Instr.sameBits]
  | 1=>simp [scalEq] at h
  | 2=>simp [scalEq] at h
  | n+3=>simp [scalEq] at h
 ·obtain ⟨s,rfl,hs,_⟩:=hk.inv_s
  obtain ⟨s',rfl,hs',_⟩:=ha.inv_s
  match kd with
  | 1 =>
   simp only [scalEq,Option.some.injEq,beq_iff_eq] at h
   subst h
   simp only [Instr.sameBits]
   rw [beq_toListBytes,toList_data,toList_data,hs,hs'];simp
  | 0=>simp [scalEq] at h
  | 2=>simp [scalEq] at h
  | n+3=>simp [scalEq] at h
 ·match kd with
  | 3 =>
   simp only [scalEq] at h
   obtain ⟨k1,a1,l1,b1,a2,b2,rfl,rfl,hr⟩:=pairEq_some h
   rw [hk.pair,ha.pair]
   have hr':=hr.symm
   simp only [Bool.and_eq_true,beq_iff_eq] at hr'
   obtain ⟨rfl,rfl⟩:=hr'
   simp [Instr.sameBits]
  | 0=>simp [scalEq] at h
  | 1=>simp [scalEq] at h
  | 2=>simp [scalEq] at h
  | n+4=>simp [scalEq] at h
theorem d_mupd {T K E:TypeId} {m k x:Operand} {m' k' x':O} {kd:Nat} {szs:List (Option Nat)} (ho:o.op=.mapUpdate T m k x) (hT:P.underlying T=some (.map K E)) (hm:cO m=some m') (hk:cO k=some k') (hx:cO x=some x') (hkd:keyKind P K=some kd)
  {ob:Prop} {r:V} {σ':Store} (h:xexec fr σ (.mupd kd szs m' k' x')=some (ob,r,σ')) (hob:ob):Does P o a B w0 w σ μ r σ':=by
 have h1:=cO_ok hF hm
 have h2:=cO_ok hF hk
 have h3:=cO_ok hF hx
 have hko:keyOb kd (ev fr k')=true:=by
  simp only [xexec] at h
  split at h
  ·split at h
   ·split at h<;>simp only [Option.some.injEq,Prod.mk.injEq,reduceCtorEq] at h<;>(obtain ⟨rfl,_⟩:=h;exact hob.1)
   ·simp at h
  ·simp at h
 simp only [xexec] at h
 generalize hxv:purifyV szs (ev fr x')=xv at h
 have h3':VR w σ μ xv (a.eval x):=by
  rw [← hxv]
  unfold purifyV
  split
  ·rename_i xs hp
   rw [hp] at h3
   obtain ⟨vs,hv,hl,hvs⟩:=h3.inv_agg
   rw [hv]
   exact CR.purify_bool (xs:=xs) szs ⟨hl,hvs⟩
  ·exact h3
 split at h
 ·rename_i id hp
  rw [hp] at h1
  obtain ⟨rr,hv,hmu,_⟩:=h1.inv_mp
  split at h
  ·rename_i K' E' es hb
   obtain ⟨r',ents,clock,hm',hB,hh,hR⟩:=hS.obj id _ hb
   rw [hmu] at hm'
   simp only [Value.map.injEq,Option.some.injEq] at hm'
   subst hm'
   have hlt:id<σ.length:=(List.getElem?_eq_some_iff.1 hb).1
   have hrl:rr<w.heap.size:=(Array.getElem?_eq_some_iff.1 hh).1
   have hg:∀ (w2:World),w2.heap[rr]?=some (.map ents clock)→(getObj rr).run P w2=.ok (.map ents clock) w2:=fun w2 h=>by simp [getObj,Sem.run,h]
   have hck:=run_checkKey (P:=P) (w:=w) hkd false 9998 h2 hko
   have fin:∀ (es':List (V×V)) (ents':Array MapEntry) (clock':Nat),(execOp a.eval o).run P w=.ok .skip { w with heap:=w.heap.setIfInBounds rr (.map ents' clock') }→MapR w σ μ es' ents' clock'→Does P o a B w0 w σ μ .u (σ.set id (.map K' E' es')):=by
    intro es' ents' clock' hr hMR
    have hup:=hS.update (w':={ w with heap:=w.heap.setIfInBounds rr (.map ents' clock') }) (σ':=σ.set id (.map K' E' es')) (μ':=μ) id (some rr)
     ⟨rfl,rfl,rfl,by simp,fun j _ hj=>by simp only;rw [Array.getElem?_setIfInBounds_ne (fun e=>hj (by rw [e]))]⟩
     (fun b hb2=>⟨_,hb,by simp,by simp only [Option.some.injEq] at hb2;subst hb2;simp [hmu,blk]⟩)
     (by simp) (fun j hj=>List.getElem?_set_ne (fun e=>hj e.symm)) (fun _ _=>rfl)
     (fun b hb2=>.inl ⟨_,hb,by simp,hb2⟩)
     (fun b off v2 o2 h4 _ h5 h6 _=>by
      simp only [hmu,blk,Option.some.injEq] at h5
      subst h5
      simp [World.cell?,hh] at h6)
     (fun T2 cs2 h4=>by rw [hb] at h4;simp at h4)
     (fun K2 E2 es2 h4=>by rw [hb] at h4;simp only [Option.some.injEq,Ob.map.injEq] at h4;obtain ⟨rfl,rfl,rfl⟩:=h4;exact ⟨⟨_,List.getElem?_set_self hlt⟩,rfl⟩)
     (fun E2 sz2 by2 g2 sh2 xs2 _ h4=>by simp [hlt] at h4)
     (fun hp2 o2 h4=>by
      simp only [List.getElem?_set_self hlt,Option.some.injEq] at h4
      subst h4
      exact ⟨rr,ents',clock',hmu,hB,by simp [hrl],hMR.keep hp2.keep⟩)
    exact ⟨undef,_,μ,.inr ⟨hr,rfl⟩,hup.1,.u _,hup.2⟩
   have hset:∀ ob2,(setObj rr ob2).run P w=.ok () { w with heap:=w.heap.setIfInBounds rr ob2 }:=fun ob2=>by simp [setObj,Sem.run,hh]
   split at h
   ·rename_i hf
    simp only [Option.some.injEq,Prod.mk.injEq] at h
    obtain ⟨rfl,rfl,rfl⟩:=h
    have hfn:=findKey_ok hkd h2 es ents.toList none (by rw [Array.length_toList];exact hR.1) (fun i a x hi=>by
     obtain ⟨_,_,e,h3,h4,h5⟩:=hR.2.1 i a x hi
     exact ⟨e,by simpa using h3,h4,h5⟩) hf
    have hfn':(Instr.findKey K (a.eval k) ents.toList).run P w=.ok none w:=by
     rcases hfn with ⟨_,h⟩ | ⟨i,x,e,a2,h,_⟩
     ·exact h
     ·simp at h
    refine fin _ (ents.push { key:=a.eval k,val:=a.eval x,born:=clock }) (clock+1) ?_ ?_
    ·simp [execOp,ho,hv,Instr.mapUpdate,run_underlying hT,hg w hh,hck,hfn',hset]
    ·refine ⟨by simp [hR.1],fun i a2 y hi=>?_,fun i e he=>?_,fun i j e e' he he' hbb=>?_⟩
     ·by_cases hil:i<es.length
      ·rw [List.getElem?_append_left hil] at hi
       obtain ⟨h4,h5,e,h6,h7⟩:=hR.2.1 i a2 y hi
       exact ⟨h4,h5,e,by rw [Array.getElem?_push_lt (by rw [hR.1];exact hil)];have:=h6;rw [Array.getElem?_eq_getElem (by rw [hR.1];exact hil)] at this;exact this,h7⟩
      ·have hie:i=es.length:=by
        have:=(List.getElem?_eq_some_iff.1 hi).1;simp at this;omega
       subst hie
       simp only [List.getElem?_concat_length,Option.some.injEq,Prod.mk.injEq] at hi
       obtain ⟨rfl,rfl⟩:=hi
       exact ⟨keyOb_mkey hob.1,hob.2,_,by rw [← hR.1];exact Array.getElem?_push_size,h2,h3'⟩
     ·rw [Array.getElem?_push] at he
      split at he
      ·simp only [Option.some.injEq] at he;subst he;exact Nat.lt_succ_self _
      ·exact Nat.lt_succ_of_lt (hR.2.2.1 i e he)
     ·rw [Array.getElem?_push] at he he'
      split at he
      ·split at he'
       ·omega
       ·simp only [Option.some.injEq] at he;subst he
        have:=hR.2.2.1 j e' he'
        simp only at hbb;omega
      ·split at he'
       ·simp only [Option.some.injEq] at he';subst he'
        have:=hR.2.2.1 i e he
        simp only at hbb;omega
       ·exact hR.2.2.2 i j e e' he he' hbb
   ·rename_i i0 x0 hf
    simp only [Option.some.injEq,Prod.mk.injEq] at h
    obtain ⟨rfl,rfl,rfl⟩:=h
    have hfn:=findKey_ok hkd h2 es ents.toList _ (by rw [Array.length_toList];exact hR.1) (fun i a x hi=>by
     obtain ⟨_,_,e,h3,h4,h5⟩:=hR.2.1 i a x hi
     exact ⟨e,by simpa using h3,h4,h5⟩) hf
    rcases hfn with ⟨h4,_⟩ | ⟨i,y,e,a2,h4,h5,h6,h7,h8⟩
    ·simp at h4
    ·simp only [Option.some.injEq,Prod.mk.injEq] at h4
     obtain ⟨rfl,rfl⟩:=h4
     obtain ⟨_,_,e2,h9,h10,_⟩:=hR.2.1 i0 a2 x0 h5
     have hee:e2=e:=by
      have:ents[i0]?=some e:=by simpa using h6
      rw [h9] at this;simpa using this
     subst hee
     have hsb:=VR.sameBits hF hS h2 h10 h7
     refine fin _ (ents.modify i0 fun e=>{ e with key:=a.eval k,val:=a.eval x }) clock ?_ ?_
     ·simp [execOp,ho,hv,Instr.mapUpdate,run_underlying hT,hg w hh,hck,h8,h9,Instr.keyThatStays,hsb,hset]
     ·have hil:i0<es.length:=(List.getElem?_eq_some_iff.1 h5).1
      have hborn:∀ (i:Nat) (e3:MapEntry),(ents.modify i0 fun e=>{ e with key:=a.eval k,val:=a.eval x })[i]?=some e3→∃ e4,ents[i]?=some e4∧e4.born=e3.born:=by
       intro i e3 he
       rw [Array.getElem?_modify] at he
       split at he
       ·simp only [Option.map_eq_some_iff] at he
        obtain ⟨e4,h11,rfl⟩:=he
        exact ⟨e4,h11,rfl⟩
       ·exact ⟨e3,he,rfl⟩
      refine ⟨by simp [hR.1],fun i a3 y hi=>?_,fun i e3 he=>?_,fun i j e3 e4 he he' hbb=>?_⟩
      ·by_cases hii:i=i0
       ·subst hii
        rw [List.getElem?_set_self hil] at hi
        simp only [Option.some.injEq,Prod.mk.injEq] at hi
        obtain ⟨rfl,rfl⟩:=hi
        exact ⟨keyOb_mkey hob.1,hob.2,{ e2 with key:=a.eval k,val:=a.eval x },by rw [Array.getElem?_modify,if_pos rfl,h9];rfl,h2,h3'⟩
       ·rw [List.getElem?_set_ne (fun e=>hii e.symm)] at hi
        obtain ⟨h11,h12,e3,h13,h14⟩:=hR.2.1 i a3 y hi
        exact ⟨h11,h12,e3,by rw [Array.getElem?_modify,if_neg (fun e=>hii e.symm)];exact h13,h14⟩
      ·obtain ⟨e4,h11,h12⟩:=hborn i e3 he
       rw [← h12];exact hR.2.2.1 i e4 h11
      ·obtain ⟨e5,h11,h12⟩:=hborn i e3 he
       obtain ⟨e6,h13,h14⟩:=hborn j e4 he'
       exact hR.2.2.2 i j e5 e6 h11 h13 (by rw [h12,h14,hbb])
   ·simp at h
  ·simp at h
 ·simp at h
end loud
theorem isAggT_load {P:Program} {T:TypeId} {t:TypeInfo} {q:Bool} (h:isAggT P T=some q):(((if q then some t.size else none):Option Nat)=none∧isAggT P T=some false)∨(((if q then some t.size else none):Option Nat)=some t.size∧isAggT P T=some true):=by
 cases q
 ·exact .inl ⟨rfl,h⟩
 ·exact .inr ⟨rfl,h⟩
section
variable {P:Program} {o:Oper} {i:I} {a:Act} {B:Nat} {w0 w:World} {σ:Store} {μ:Mem} {fr:List V}
theorem cOs_ok {w:World} {σ:Store} {μ:Mem} {fr:List V} {a:Act} (h:FR w σ μ fr a):∀ (xs:List Operand) (ys:List O),cOs xs=some ys→ys.length=xs.length∧∀ (i:Nat) (y:V),(ys.map (ev fr))[i]?=some y→VR w σ μ y ((xs.map a.eval).getD i undef)
 | [],ys,hc=>by simp only [cOs,Option.some.injEq] at hc;subst hc;simp
 | x::xs,ys,hc=>by
  simp only [cOs] at hc
  split at hc<;>simp only [Option.some.injEq,reduceCtorEq] at hc
  rename_i y zs hy hzs
  subst hc
  obtain ⟨h1,h2⟩:=cOs_ok h xs zs hzs
  refine ⟨by simp [h1],fun i z hz=>?_⟩
  cases i with
  | zero =>
   simp only [List.map_cons,List.getElem?_cons_zero,Option.some.injEq] at hz
   subst hz
   simpa using cO_ok h hy
  | succ i=>simpa using h2 i z (by simpa using hz)
theorem y_clo {f:Nat} {first caps:Array Operand} {ys:List O} (hF:FR w σ μ fr a) (ho:o.op=.makeFunc (.func f) first caps) (h0:first.size=0) (hy:cOs caps.toList=some ys):Yields P o a w σ μ (.fn f (ys.map (ev fr))):=by
 obtain ⟨h1,h2⟩:=cOs_ok hF _ _ hy
 have hf:first=#[]:=Array.eq_empty_of_size_eq_zero h0
 subst hf
 refine .pure (v:=.func (.func f) #[] (caps.map a.eval)) ?_ (.fn f _ _ (by simp [h1]) fun i x hx=>?_)
 ·simp [execOp,ho,Instr.makeFunc]
 ·have:=h2 i x hx
  simpa [List.getD_eq_getElem?_getD] using this
theorem pexec_sound (hc:compile P o=some i) (hF:FR w σ μ fr a) (hS:Sim P B w0 w σ μ) {ob:Prop} {y:V} (h:pexec fr σ i=some (ob,y)) (hob:ob):Yields P o a w σ μ y:=by
 cases hop:o.op with
 | move x =>
  simp only [compile,hop,Option.map_eq_some_iff] at hc
  obtain ⟨x',hx,rfl⟩:=hc
  simp only [pexec,Option.some.injEq,Prod.mk.injEq] at h
  obtain ⟨_,rfl⟩:=h
  exact y_mov hF (.inl hop) hx
 | assign x =>
  simp only [compile,hop,Option.map_eq_some_iff] at hc
  obtain ⟨x',hx,rfl⟩:=hc
  simp only [pexec,Option.some.injEq,Prod.mk.injEq] at h
  obtain ⟨_,rfl⟩:=h
  exact y_mov hF (.inr hop) hx
 | pick c x z =>
  simp only [compile,hop] at hc
  split at hc<;>simp only [Option.some.injEq,reduceCtorEq] at hc
  rename_i c' x' z' hc' hx hz
  subst hc
  simp only [pexec] at h
  split at h<;>simp only [Option.some.injEq,Prod.mk.injEq,reduceCtorEq] at h
  rename_i p hp
  obtain ⟨_,rfl⟩:=h
  exact y_pick hF hop hc' hx hz hp
 | box T x =>
  simp only [compile,hop,Option.map_eq_some_iff] at hc
  obtain ⟨x',hx,rfl⟩:=hc
  simp [pexec] at h
 | alloc T =>
  simp only [compile,hop] at hc
  split at hc<;>(try simp only [reduceCtorEq] at hc)
  split at hc<;>(try simp only [reduceCtorEq] at hc)
  simp only [Option.map_eq_some_iff] at hc
  obtain ⟨zs,_,rfl⟩:=hc
  simp [pexec] at h
 | build T parts =>
  simp only [compile,hop] at hc
  split at hc<;>(try simp only [reduceCtorEq] at hc)
  ·rename_i t fs ht hu
   split at hc<;>(try simp only [reduceCtorEq] at hc)
   rename_i z hz
   split at hc<;>(try simp only [reduceCtorEq] at hc)
   rename_i zs places hzs hpl
   simp only [Option.map_eq_some_iff] at hc
   obtain ⟨ps,hps,rfl⟩:=hc
   exact y_build hF hS hop ht hu hz hzs hpl hps h hob
  ·rename_i t n E ht hu
   split at hc<;>(try simp only [reduceCtorEq] at hc)
   rename_i z te hz hte
   split at hc<;>(try simp only [reduceCtorEq] at hc)
   rename_i zs hzs
   simp only [Option.map_eq_some_iff] at hc
   obtain ⟨ps,hps,rfl⟩:=hc
   exact y_buildA hF hS hop ht hu hz hte hzs hps h hob
 | buildSlice T len parts =>
  simp only [compile,hop] at hc
  split at hc<;>(try simp only [reduceCtorEq] at hc)
  rename_i E hT
  split at hc<;>(try simp only [reduceCtorEq] at hc)
  rename_i t ht
  split at hc<;>(try simp only [reduceCtorEq] at hc)
  rename_i z hz
  split at hc<;>(try simp only [reduceCtorEq] at hc)
  rename_i hcond
  simp only [Option.map_eq_some_iff] at hc
  obtain ⟨xs,hps,rfl⟩:=hc
  split at h
  ·simp [pexec] at h
  ·exact y_bslice hF hS hop hT ht hz hcond.1 hcond.2.1 hcond.2.2.1 hcond.2.2.2 hps h hob
 | load T x =>
  simp only [compile,hop] at hc
  split at hc<;>simp only [Option.some.injEq,reduceCtorEq] at hc
  ·rename_i x' t hx hA ht
   subst hc
   exact y_load hF hS hop hx ht (.inr ⟨rfl,hA⟩) h hob
  ·rename_i x' t hx hA ht
   subst hc
   exact y_load hF hS hop hx ht (.inl ⟨rfl,hA⟩) h hob
 | store T x z =>
  simp only [compile,hop] at hc
  split at hc<;>simp only [Option.some.injEq,reduceCtorEq] at hc
  subst hc
  simp [pexec] at h
 | nilCheck x =>
  simp only [compile,hop,Option.map_eq_some_iff] at hc
  obtain ⟨x',hx,rfl⟩:=hc
  exact y_nilck hF hS hop hx h
 | binOp op T x z yT =>
  simp only [compile,hop] at hc
  split at hc<;>(try simp only [reduceCtorEq] at hc)
  rename_i x' z' hx hz
  split at hc
  ·rename_i hq
   split at hc
   ·simp only [Option.some.injEq] at hc;subst hc
    exact y_bin hF hop hx hz h hob
   ·split at hc
    ·rename_i hb
     simp only [Option.some.injEq] at hc;subst hc
     have hT:P.underlying T=some .bool:=by
      unfold boolEq at hb;split at hb
      ·assumption
      ·simp at hb
     exact y_bbq hF hop hq hT hx hz h
    ·simp only [Option.map_eq_some_iff] at hc
     obtain ⟨ks,hk,rfl⟩:=hc
     exact y_beq hF hop hq hk hx hz h
  ·simp only [Option.some.injEq] at hc;subst hc
   exact y_bin hF hop hx hz h hob
 | unOp op T x =>
  simp only [compile,hop,Option.map_eq_some_iff] at hc
  obtain ⟨x',hx,rfl⟩:=hc
  exact y_un hF hop hx h
 | convert s d x =>
  simp only [compile,hop] at hc
  split at hc<;>(try simp only [reduceCtorEq,Option.some.injEq] at hc)
  ·rename_i k0 k x' hs hd hx
   subst hc
   simp only [pexec] at h
   split at h<;>simp only [Option.some.injEq,Prod.mk.injEq,reduceCtorEq] at h
   rename_i k1 n hp
   obtain ⟨_,rfl⟩:=h
   exact y_cvi hF hop hs hd hx hp
  ·rename_i e x' hs hd hx
   split at hc<;>simp only [reduceCtorEq,Option.some.injEq] at hc
   rename_i he
   subst hc
   exact y_b2s hF hS hop hs he hd hx h
 | slice T x lo hi mx =>
  cases mx with
  | some m=>simp [compile,hop] at hc
  | none =>
   simp only [compile,hop] at hc
   split at hc<;>(try simp only [reduceCtorEq,Option.some.injEq] at hc)
   ·rename_i x' lo' hi' hT hx hl hh
    subst hc
    exact y_sslice hF hS hop hT hx hl hh h hob
   ·rename_i E x' lo' hi' hT hx hl hh
    split at hc<;>simp only [reduceCtorEq,Option.some.injEq] at hc
    rename_i t ht
    subst hc
    exact y_slice hF hS hop hT ht hx hl hh h hob
   ·rename_i n E x' hT hx hl hh
    split at hc<;>(try simp only [reduceCtorEq] at hc)
    rename_i t ht
    split at hc<;>simp only [reduceCtorEq,Option.some.injEq] at hc
    rename_i hcond
    subst hc
    have e1:lo=none:=by cases lo<;>simp [cOpt] at hl ⊢
    have e2:hi=none:=by cases hi<;>simp [cOpt] at hh ⊢
    subst e1;subst e2
    exact y_asl hF hS hop hT ht hcond.1 hx h hob
 | fieldAddr T x f =>
  simp only [compile,hop] at hc
  split at hc<;>(try simp only [reduceCtorEq] at hc)
  rename_i fs x' hT hx
  split at hc<;>(try simp only [reduceCtorEq] at hc)
  rename_i fd hf
  split at hc<;>(try simp only [reduceCtorEq] at hc)
  rename_i t ht
  split at hc<;>simp only [reduceCtorEq,Option.some.injEq] at hc
  rename_i hsz
  subst hc
  exact y_fld hF (fun id o ho=>⟨B,hS.obj id o ho⟩) hop hx hT hf ht hsz h
 | indexAddr T x k =>
  simp only [compile,hop] at hc
  split at hc<;>(try simp only [reduceCtorEq] at hc)
  ·rename_i E x' k' hT hx hk
   split at hc<;>simp only [reduceCtorEq,Option.some.injEq] at hc
   rename_i t ht
   subst hc
   exact y_idx hF hS hop hT ht hx hk h hob
  ·rename_i n E x' k' hT hx hk
   split at hc<;>simp only [reduceCtorEq,Option.some.injEq] at hc
   rename_i t ht
   subst hc
   exact y_aidx hF hS hop hT ht hx hk h hob
 | index T x k =>
  simp only [compile,hop] at hc
  split at hc<;>simp only [reduceCtorEq,Option.some.injEq] at hc
  rename_i x' k' hT hx hk
  subst hc
  exact y_sidx hF hS hop hT hx hk h hob
 | extract x k =>
  simp only [compile,hop,Option.map_eq_some_iff] at hc
  obtain ⟨x',hx,rfl⟩:=hc
  simp only [pexec] at h
  split at h<;>(try simp only [reduceCtorEq] at h)
  rename_i xs hp
  split at h<;>simp only [Option.some.injEq,Prod.mk.injEq,reduceCtorEq] at h
  rename_i z hz
  obtain ⟨_,rfl⟩:=h
  exact y_ext hF hop hx hp hz
 | makeSlice T l c =>
  simp only [compile,hop] at hc
  split at hc<;>(try simp only [reduceCtorEq] at hc)
  split at hc<;>(try simp only [reduceCtorEq] at hc)
  split at hc<;>(try simp only [reduceCtorEq] at hc)
  split at hc<;>(try simp only [reduceCtorEq] at hc)
  simp only [Option.map_eq_some_iff] at hc
  obtain ⟨zs,_,rfl⟩:=hc
  simp [pexec] at h
 | lookup T m k ok =>
  simp only [compile,hop] at hc
  split at hc<;>(try simp only [reduceCtorEq] at hc)
  rename_i K E m' k' hT hm hk
  split at hc<;>simp only [reduceCtorEq,Option.some.injEq] at hc
  rename_i kd z hkd hz
  subst hc
  exact y_look hF hS hop hT hm hk hkd hz h hob
 | mapUpdate T m k x =>
  simp only [compile,hop] at hc
  split at hc<;>(try simp only [reduceCtorEq] at hc)
  simp only [Option.map_eq_some_iff] at hc
  obtain ⟨kd,_,rfl⟩:=hc
  simp [pexec] at h
 | makeMap T r =>
  cases r with
  | some r=>simp [compile,hop] at hc
  | none =>
   simp only [compile,hop] at hc
   split at hc<;>simp only [reduceCtorEq,Option.some.injEq] at hc
   subst hc
   simp [pexec] at h
 | call c =>
  simp only [compile,hop] at hc
  obtain ⟨callee,args,argTypes⟩:=c
  unfold compileCall at hc
  dsimp only at hc
  split at hc
  ·rename_i x T e1 e2
   have ea:args=#[x]:=by cases args;simp_all
   have et:argTypes=#[T]:=by cases argTypes;simp_all
   subst ea;subst et
   split at hc<;>simp only [reduceCtorEq,Option.some.injEq] at hc
   ·rename_i x' hT hx
    subst hc
    exact y_slen hF hS hop hT hx h
   ·rename_i E x' hT hx
    subst hc
    exact y_len hF hS hop hT hx h
   ·rename_i K E x' hT hx
    subst hc
    exact y_mlen hF hS hop hT hx h
  ·rename_i x z e1
   have ea:args=#[x,z]:=by cases args;simp_all
   subst ea
   split at hc<;>simp only [reduceCtorEq,Option.some.injEq] at hc
   rename_i x' z' hx hz
   subst hc
   exact y_max2 hF hS hop hx hz h rfl
  ·rename_i x z e1
   have ea:args=#[x,z]:=by cases args;simp_all
   subst ea
   split at hc<;>simp only [reduceCtorEq,Option.some.injEq] at hc
   rename_i x' z' hx hz
   subst hc
   exact y_min2 hF hS hop hx hz h
  ·split at hc<;>(try simp only [reduceCtorEq] at hc)
   split at hc<;>(try simp only [reduceCtorEq] at hc)
   split at hc<;>(try simp only [reduceCtorEq] at hc)
   split at hc
   ·split at hc<;>simp only [reduceCtorEq,Option.some.injEq] at hc
    subst hc;simp [pexec] at h
   ·split at hc<;>(try simp only [reduceCtorEq] at hc)
    split at hc<;>simp only [reduceCtorEq,Option.some.injEq] at hc
    subst hc;simp [pexec] at h
  ·split at hc<;>(try simp only [reduceCtorEq] at hc)
   split at hc<;>(try simp only [reduceCtorEq] at hc)
   simp only [Option.map_eq_some_iff] at hc
   obtain ⟨zs,_,rfl⟩:=hc
   simp [pexec] at h
  ·simp only [Option.map_eq_some_iff] at hc
   obtain ⟨zs,_,rfl⟩:=hc
   simp [pexec] at h
  ·simp at hc
 | makeFunc fn first caps =>
  cases fn with
  | func f =>
   simp only [compile,hop] at hc
   split at hc<;>simp only [Option.map_eq_some_iff,reduceCtorEq] at hc
   rename_i h0
   obtain ⟨ys,hys,rfl⟩:=hc
   simp only [pexec,Option.some.injEq,Prod.mk.injEq] at h
   obtain ⟨_,rfl⟩:=h
   exact y_clo hF hop h0 hys
  | _=>simp [compile,hop] at hc
 | _=>simp [compile,hop] at hc
theorem xexec_sound (hc:compile P o=some i) (hF:FR w σ μ fr a) (hS:Sim P B w0 w σ μ) {ob:Prop} {y:V} {σ':Store} (h:xexec fr σ i=some (ob,y,σ')) (hob:ob):Does P o a B w0 w σ μ y σ':=by
 cases hop:o.op with
 | move x =>
  simp only [compile,hop,Option.map_eq_some_iff] at hc
  obtain ⟨x',hx,rfl⟩:=hc
  simp [xexec] at h
 | assign x =>
  simp only [compile,hop,Option.map_eq_some_iff] at hc
  obtain ⟨x',hx,rfl⟩:=hc
  simp [xexec] at h
 | pick c x z =>
  simp only [compile,hop] at hc
  split at hc<;>simp only [Option.some.injEq,reduceCtorEq] at hc
  subst hc;simp [xexec] at h
 | box T x =>
  simp only [compile,hop,Option.map_eq_some_iff] at hc
  obtain ⟨x',hx,rfl⟩:=hc
  exact d_box hF hS hop hx h hob
 | alloc T =>
  simp only [compile,hop] at hc
  split at hc<;>(try simp only [reduceCtorEq] at hc)
  rename_i t ht
  split at hc<;>(try simp only [reduceCtorEq] at hc)
  rename_i z hz
  simp only [Option.map_eq_some_iff] at hc
  obtain ⟨zs,hzs,rfl⟩:=hc
  exact d_alloc hF hS hop ht hz hzs h
 | build T parts =>
  simp only [compile,hop] at hc
  split at hc<;>(try simp only [reduceCtorEq] at hc)
  all_goals
   split at hc<;>(try simp only [reduceCtorEq] at hc)
   split at hc<;>(try simp only [reduceCtorEq] at hc)
   simp only [Option.map_eq_some_iff] at hc
   obtain ⟨ps,hps,rfl⟩:=hc
   simp [xexec] at h
 | buildSlice T len parts =>
  simp only [compile,hop] at hc
  split at hc<;>(try simp only [reduceCtorEq] at hc)
  rename_i E hT
  split at hc<;>(try simp only [reduceCtorEq] at hc)
  rename_i t ht
  split at hc<;>(try simp only [reduceCtorEq] at hc)
  rename_i z hz
  split at hc<;>(try simp only [reduceCtorEq] at hc)
  rename_i hcond
  simp only [Option.map_eq_some_iff] at hc
  obtain ⟨xs,hps,rfl⟩:=hc
  split at h
  ·exact d_bown hF hS hop hT ht hz hcond.1 hcond.2.1 hcond.2.2.1 hcond.2.2.2 hps h hob
  ·simp [xexec] at h
 | load T x =>
  simp only [compile,hop] at hc
  split at hc<;>simp only [Option.some.injEq,reduceCtorEq] at hc<;>(subst hc;simp [xexec] at h)
 | store T x z =>
  simp only [compile,hop] at hc
  split at hc<;>simp only [Option.some.injEq,reduceCtorEq] at hc
  rename_i x' z' t hx hz ht
  subst hc
  exact d_store hF hS hop ht hx hz h hob
 | nilCheck x =>
  simp only [compile,hop,Option.map_eq_some_iff] at hc
  obtain ⟨x',hx,rfl⟩:=hc
  simp [xexec] at h
 | binOp op T x z yT =>
  simp only [compile,hop] at hc
  split at hc<;>(try simp only [reduceCtorEq] at hc)
  split at hc
  ·split at hc
   ·simp only [Option.some.injEq] at hc;subst hc;simp [xexec] at h
   ·split at hc
    ·simp only [Option.some.injEq] at hc;subst hc;simp [xexec] at h
    ·simp only [Option.map_eq_some_iff] at hc
     obtain ⟨ks,hk,rfl⟩:=hc
     simp [xexec] at h
  ·simp only [Option.some.injEq] at hc;subst hc;simp [xexec] at h
 | unOp op T x =>
  simp only [compile,hop,Option.map_eq_some_iff] at hc
  obtain ⟨x',hx,rfl⟩:=hc
  simp [xexec] at h
 | convert s d x =>
  simp only [compile,hop] at hc
  split at hc<;>(try simp only [reduceCtorEq,Option.some.injEq] at hc)
  ·subst hc;simp [xexec] at h
  ·split at hc<;>simp only [reduceCtorEq,Option.some.injEq] at hc
   subst hc;simp [xexec] at h
 | slice T x lo hi mx =>
  cases mx with
  | some m=>simp [compile,hop] at hc
  | none =>
   simp only [compile,hop] at hc
   split at hc<;>(try simp only [reduceCtorEq,Option.some.injEq] at hc)
   ·subst hc;simp [xexec] at h
   ·split at hc<;>simp only [reduceCtorEq,Option.some.injEq] at hc
    subst hc;simp [xexec] at h
   ·split at hc<;>(try simp only [reduceCtorEq] at hc)
    split at hc<;>simp only [reduceCtorEq,Option.some.injEq] at hc
    subst hc;simp [xexec] at h
 | fieldAddr T x f =>
  simp only [compile,hop] at hc
  split at hc<;>(try simp only [reduceCtorEq] at hc)
  split at hc<;>(try simp only [reduceCtorEq] at hc)
  split at hc<;>(try simp only [reduceCtorEq] at hc)
  split at hc<;>simp only [reduceCtorEq,Option.some.injEq] at hc
  subst hc;simp [xexec] at h
 | indexAddr T x k =>
  simp only [compile,hop] at hc
  split at hc<;>(try simp only [reduceCtorEq] at hc)
  all_goals
   split at hc<;>simp only [reduceCtorEq,Option.some.injEq] at hc
   subst hc;simp [xexec] at h
 | index T x k =>
  simp only [compile,hop] at hc
  split at hc<;>simp only [reduceCtorEq,Option.some.injEq] at hc
  subst hc;simp [xexec] at h
 | extract x k =>
  simp only [compile,hop,Option.map_eq_some_iff] at hc
  obtain ⟨x',hx,rfl⟩:=hc
  simp [xexec] at h
 | makeSlice T l c =>
  simp only [compile,hop] at hc
  split at hc<;>(try simp only [reduceCtorEq] at hc)
  rename_i E hT
  split at hc<;>(try simp only [reduceCtorEq] at hc)
  rename_i t ht
  split at hc<;>(try simp only [reduceCtorEq] at hc)
  rename_i z l' c' hz hl hcc
  split at hc<;>(try simp only [reduceCtorEq] at hc)
  rename_i hcond
  simp only [Option.map_eq_some_iff] at hc
  obtain ⟨zs,hzs,rfl⟩:=hc
  exact d_mk hF hS hop hT ht hz hcond.1 hcond.2 hzs hl hcc h hob
 | lookup T m k ok =>
  simp only [compile,hop] at hc
  split at hc<;>(try simp only [reduceCtorEq] at hc)
  split at hc<;>simp only [reduceCtorEq,Option.some.injEq] at hc
  subst hc;simp [xexec] at h
 | mapUpdate T m k x =>
  simp only [compile,hop] at hc
  split at hc<;>(try simp only [reduceCtorEq] at hc)
  rename_i K E m' k' x' hT hm hk hx
  simp only [Option.map_eq_some_iff] at hc
  obtain ⟨kd,hkd,rfl⟩:=hc
  exact d_mupd hF hS hop hT hm hk hx hkd h hob
 | makeMap T r =>
  cases r with
  | some r=>simp [compile,hop] at hc
  | none =>
   simp only [compile,hop] at hc
   split at hc<;>simp only [reduceCtorEq,Option.some.injEq] at hc
   subst hc
   exact d_mkmap hS hF hop h
 | call c =>
  simp only [compile,hop] at hc
  obtain ⟨callee,args,argTypes⟩:=c
  unfold compileCall at hc
  dsimp only at hc
  split at hc
  ·split at hc<;>simp only [reduceCtorEq,Option.some.injEq] at hc<;>(subst hc;simp [xexec] at h)
  ·split at hc<;>simp only [reduceCtorEq,Option.some.injEq] at hc
   subst hc;simp [xexec] at h
  ·split at hc<;>simp only [reduceCtorEq,Option.some.injEq] at hc
   subst hc;simp [xexec] at h
  ·rename_i x z T U e1 e2
   have ea:args=#[x,z]:=by cases args;simp_all
   have et:argTypes=#[T,U]:=by cases argTypes;simp_all
   subst ea;subst et
   split at hc<;>(try simp only [reduceCtorEq] at hc)
   rename_i E x' z' hT hx hz
   split at hc<;>(try simp only [reduceCtorEq] at hc)
   rename_i t ht
   split at hc<;>(try simp only [reduceCtorEq] at hc)
   rename_i zv hzv
   split at hc
   ·rename_i hTU;subst hTU
    split at hc<;>simp only [reduceCtorEq,Option.some.injEq] at hc
    rename_i hcond
    subst hc
    exact d_app hS hF hop hT ht hzv hcond.1 hcond.2 hx hz h hob
   ·split at hc<;>(try simp only [reduceCtorEq] at hc)
    rename_i hU
    split at hc<;>simp only [reduceCtorEq,Option.some.injEq] at hc
    rename_i hcond
    subst hc
    have hzs:zv.cells.size=t.size:=by
     obtain ⟨h1,_,h2⟩:=hcond
     rw [h1]
     cases zv<;>first | rfl | simp [isU8Zero] at h2
    exact d_apps hS hF hop hT hU ht hzv hcond.1 hcond.2.1 hzs hx hz h hob
  ·split at hc<;>(try simp only [reduceCtorEq] at hc)
   split at hc<;>(try simp only [reduceCtorEq] at hc)
   simp only [Option.map_eq_some_iff] at hc
   obtain ⟨zs,_,rfl⟩:=hc
   simp [xexec] at h
  ·simp only [Option.map_eq_some_iff] at hc
   obtain ⟨zs,_,rfl⟩:=hc
   simp [xexec] at h
  ·simp at hc
 | makeFunc fn first caps =>
  cases fn with
  | func f =>
   simp only [compile,hop] at hc
   split at hc<;>simp only [Option.map_eq_some_iff,reduceCtorEq] at hc
   obtain ⟨ys,_,rfl⟩:=hc
   simp [xexec] at h
  | _=>simp [compile,hop] at hc
 | _=>simp [compile,hop] at hc
end
end Go.Pm

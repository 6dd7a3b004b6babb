/- A part of the proof of the statement of the last text of this claim; its conditions stand there. -/
import Derived.ChangeKeysEq
import Derived.Test.YtkkjfegefckehaaGreatDoorB8
set_option linter.all false

namespace Go.Pm
open Go Go.RowKit
theorem TR{zs:List V}{n i j:Nat}{x:V}(h:fe (List.replicate n zs) i j=some x):i<n∧zs[j]?=some x:=by
 obtain⟨r,h1,h2⟩:=kL h;have hi:i<n:=by have:=(ae.1 h1).1;simpa using this
 rw[List.getElem?_replicate,if_pos hi]at h1;simp only[aa]at h1;subst h1;exact⟨hi,h2⟩
theorem Iu(z:Array Value)(j:Nat)(h:j<z.size):z[j]! = z.getD j undef:=by simp[h]
theorem CR.A8{w:World}{σ:ag}{μ:Mem}(ss:List (Option Nat)){xs:List V}{vs:Array Value}(h:CR w σ μ xs vs):VR w σ μ (.agg (Pm.dw ss xs)) (.agg vs):=(CR.dw ss h).Rr
theorem oy{P:Program}{K kd:Nat}(h:pj P K=some kd):
  (kd=0∧∃ q,P.underlying K=some (.int q))∨(kd=1∧P.underlying K=some .string)∨(kd=3∧∃ e q,P.underlying K=some (.array 2 e)∧P.underlying e=some (.int q)∧P.cellsOf e=1):=by
 unfold pj at h;split at h
 ·rename_i q hq;simp only[aa]at h;exact .inl ⟨h.symm,q,hq⟩
 ·rename_i hq;simp only[aa]at h;exact .inr (.inl ⟨h.symm,hq⟩)
 ·rename_i e hq;split at h
  ·rename_i q he;split at h
   ·rename_i hc;simp only[aa]at h;exact .inr (.inr ⟨h.symm,e,q,hq,he,hc⟩)
   ·simp at h
  ·simp at h
 ·simp at h
theorem DO{P:Program}{w:World}{σ:ag}{μ:Mem}{K:TypeId}{kd:Nat}{d:TypeDesc}(hK:P.underlying K=some d)(Az:pj P K=some kd)(h3:kd≠3){k:V}{kv:Value}(hk:VR w σ μ k kv):
  ∀ (es:List (V×V)) (ents:List MapEntry) (n:Nat) (r:Option (Nat×V)),ents.length=es.length→(∀ (i:Nat) (a x:V),es[i]?=some (a,x)→∃ e:MapEntry,ents[i]?=some e∧VR w σ μ a e.key∧VR w σ μ x e.val)→gH kd k es n=some r →
   (r=none∧Instr.findNow d kv ents n=some none)∨∃ i x e a,r=some (n+i,x)∧es[i]?=some (a,x)∧ents[i]?=some e∧di kd k a=some true∧Instr.findNow d kv ents n=some (some (n+i,e.val))
 | [],ents,n,r,hl,_,h=>by
  have:ents=[]:=bL hl;subst this;simp only[gH,aa]at h;subst h;exact .inl ⟨rfl,rfl⟩
 | (a,x)::es,ents,n,r,hl,hr,h=>by
  cases ents with
  | nil=>simp at hl
  | cons e ents =>
   obtain⟨e',he,h1,h2⟩:=hr 0 a x rfl;simp only[ao,aa]at he;subst he
   have hs:∀ b,di kd k a=some b→Instr.sameNow d kv e.key=some b:=by
    intro b hb;rcases oy Az with⟨rfl,q,hq⟩ | ⟨rfl,hq⟩ | ⟨rfl,_⟩
    ·rw[hK]at hq;simp only[aa]at hq;subst hq;cases k<;>(try (simp[di]at hb;done));cases a<;>(try (simp[di]at hb;done));simp only[di]at hb;split at hb<;>simp only[aa,reduceCtorEq]at hb;rename_i Qm;subst Qm;rw[hk.iP,h1.iP];simp[Instr.sameNow,hb]
    ·rw[hK]at hq;simp only[aa]at hq;subst hq;cases k<;>(try (simp[di]at hb;done));cases a<;>(try (simp[di]at hb;done));simp only[di,aa]at hb;obtain⟨s,rfl,rfl,_⟩:=hk.nO;obtain⟨s',hs',rfl,_⟩:=h1.nO;rw[hs'];simp only[Instr.sameNow,aa];rw[beq_toListBytes,toList_data,toList_data];exact hb
    ·exact absurd rfl h3
   simp only[gH]at h;split at h
   ·rename_i hb;simp only[aa]at h;subst h;exact .inr ⟨0,x,e,a,rfl,rfl,rfl,hb,by simp[Instr.findNow,hs true hb]⟩
   ·rename_i hb
    have ih:=DO hK Az h3 hk es ents (n+1) r (by simpa using hl) (fun i a x hi=>by
     obtain⟨e2,h3,h4⟩:=hr (i+1) a x hi;exact⟨e2,by simpa using h3,h4⟩) h
    rcases ih with⟨h3,h4⟩ | ⟨i,y,e2,a2,h3,h4,h5,h6,h7⟩
    ·exact .inl ⟨h3,by simp[Instr.findNow,hs false hb,h4]⟩
    ·exact .inr ⟨i+1,y,e2,a2,by rw[h3];congr 2;omega,h4,by simpa using h5,h6,by simp only[Instr.findNow,hs false hb,h7];congr 3;omega⟩
   ·simp at h
theorem Bb{xs ys:List V}{r:Bool}(h:G7 xs ys=some r):∃ k a l b a' b',xs=[.i k a,.i l b]∧ys=[.i k a',.i l b']∧r=(a==a'&&b==b'):=by
 unfold G7 at h;split at h
 ·split at h<;>simp only[aa,reduceCtorEq]at h;rename_i hk;obtain⟨rfl,rfl⟩:=hk;exact⟨_,_,_,_,_,_,rfl,rfl,h.symm⟩
 ·simp at h
theorem VR.pair{w:World}{σ:ag}{μ:Mem}{k l:IntKind}{a b:Int}{v:Value}(h:VR w σ μ (.agg [.i k a,.i l b]) v):v=.agg #[.int k a,.int l b]:=by
 obtain⟨vs,rfl,hl,hv⟩:=h.qS;have h0:=(hv 0 _ rfl).iP;have h1:=(hv 1 _ rfl).iP;obtain⟨l⟩:=vs
 match l,hl with
 | [x,y],_=>simp at h0 h1;rw[h0,h1]
theorem EA{P:Program}{w:World}{K e:TypeId}{q:IntKind}(hK:P.underlying K=some (.array 2 e))(he:P.underlying e=some (.int q))(hc:P.cellsOf e=1)(k l:IntKind)(a b a' b':Int):
  (Op.equal K (.agg #[.int k a,.int l b]) (.agg #[.int k a',.int l b'])).run P w=.ok (a==a'&&b==b') w:=by
 have hi:∃ i,P.info? e=some i:=by
  unfold Program.underlying at he;cases h:P.info? e with
  | none=>simp[h]at he
  | some i=>exact⟨i,rfl⟩
 obtain⟨i,hi⟩:=hi;have hA:jr P e=some false:=by simp[jr,he]
 have hp:∀ (x y:Value) (j:Nat) (z:Value),#[x,y][j]?=some z→(part e #[x,y] j).run P w=.ok z w:=by
  intro x y j z hz;simp only[part,Sem.run_bind,pK hA,Result.andThen_ok,aD,if_false,hz];rfl
 have gen:∀ n,(Op.equalIn (n+2) K (.agg #[.int k a,.int l b]) (.agg #[.int k a',.int l b'])).run P w=.ok (a==a'&&b==b') w:=by
  intro n;rw[run_equalIn_array w (n+1) _ _ hK hi,hc]
  simp only[show List.range 2=[0,1]from rfl,Op.eqItems,Sem.run_bind,hp (.int k a) (.int l b) 0 (.int k a) rfl,hp (.int k a) (.int l b) 1 (.int l b) rfl,hp (.int k a') (.int l b') 0 (.int k a') rfl,hp (.int k a') (.int l b') 1 (.int l b') rfl,Result.andThen_ok,
   run_equalIn_int w n e k q _ _ he,run_equalIn_int w n e l q _ _ he,qC]
  cases(a==a')<;>cases h:(b==b')<;>simp[hp (.int k a) (.int l b) 1 (.int l b) rfl,hp (.int k a') (.int l b') 1 (.int l b') rfl,run_equalIn_int w n e l q b b' he,h]
 exact gen 9998
theorem wJ{P:Program}{w:World}{σ:ag}{μ:Mem}{K e:TypeId}{q:IntKind}(hK:P.underlying K=some (.array 2 e))(he:P.underlying e=some (.int q))(hc:P.cellsOf e=1){k:V}{kv:Value}(hk:VR w σ μ k kv):
  ∀ (es:List (V×V)) (ents:List MapEntry) (n:Nat) (r:Option (Nat×V)),ents.length=es.length→(∀ (i:Nat) (a x:V),es[i]?=some (a,x)→∃ e:MapEntry,ents[i]?=some e∧VR w σ μ a e.key∧VR w σ μ x e.val)→gH 3 k es n=some r →
   (r=none∧(Instr.findAsking K kv ents n).run P w=.ok none w)∨∃ i x e a,r=some (n+i,x)∧es[i]?=some (a,x)∧ents[i]?=some e∧di 3 k a=some true∧(Instr.findAsking K kv ents n).run P w=.ok (some (n+i,e.val)) w
 | [],ents,n,r,hl,_,h=>by
  have:ents=[]:=bL hl;subst this;simp only[gH,aa]at h;subst h;exact .inl ⟨rfl,by simp[Instr.findAsking]⟩
 | (a,x)::es,ents,n,r,hl,hr,h=>by
  cases ents with
  | nil=>simp at hl
  | cons e2 ents =>
   obtain⟨e',he',h1,h2⟩:=hr 0 a x rfl;simp only[ao,aa]at he';subst he'
   have hs:∀ b,di 3 k a=some b→(Op.equal K kv e2.key).run P w=.ok b w:=by
    intro b hb;cases k<;>(try (simp[di]at hb;done));cases a<;>(try (simp[di]at hb;done));simp only[di]at hb;obtain⟨k1,a1,l1,b1,a2,b2,rfl,rfl,rfl⟩:=Bb hb;rw[hk.pair,h1.pair];exact EA hK he hc _ _ _ _ _ _
   simp only[gH]at h;split at h
   ·rename_i hb;simp only[aa]at h;subst h;exact .inr ⟨0,x,e2,a,rfl,rfl,rfl,hb,by simp[Instr.findAsking,hs true hb]⟩
   ·rename_i hb
    have ih:=wJ hK he hc hk es ents (n+1) r (by simpa using hl) (fun i a x hi=>by
     obtain⟨e2,h3,h4⟩:=hr (i+1) a x hi;exact⟨e2,by simpa using h3,h4⟩) h
    rcases ih with⟨h3,h4⟩ | ⟨i,y,e2,a2,h3,h4,h5,h6,h7⟩
    ·exact .inl ⟨h3,by simp[Instr.findAsking,hs false hb,h4]⟩
    ·exact .inr ⟨i+1,y,e2,a2,by rw[h3];congr 2;omega,h4,by simpa using h5,h6,by simp only[Instr.findAsking,Sem.run_bind,hs false hb,Result.andThen_ok,aD,if_false,h7];congr 3;omega⟩
   ·simp at h
theorem sV{P:Program}{w:World}{σ:ag}{μ:Mem}{K:TypeId}{kd:Nat}(Az:pj P K=some kd){k:V}{kv:Value}(hk:VR w σ μ k kv)
  (es:List (V×V)) (ents:List MapEntry) (r:Option (Nat×V)) (hl:ents.length=es.length) (hr:∀ (i:Nat) (a x:V),es[i]?=some (a,x)→∃ e:MapEntry,ents[i]?=some e∧VR w σ μ a e.key∧VR w σ μ x e.val) (h:gH kd k es 0=some r) :
   (r=none∧(Instr.findKey K kv ents).run P w=.ok none w)∨∃ i x e a,r=some (i,x)∧es[i]?=some (a,x)∧ents[i]?=some e∧di kd k a=some true∧(Instr.findKey K kv ents).run P w=.ok (some (i,e.val)) w:=by
 by_cases h3:kd=3
 ·subst h3;rcases oy Az with⟨h,_⟩ | ⟨h,_⟩ | ⟨_,e,q,hK,he,hc⟩
  ·omega
  ·omega
  ·have hf:=wJ hK he hc hk es ents 0 r hl hr h
   have hn:Instr.findNow (.array 2 e) kv ents 0=some none∧ents=[]∨Instr.findNow (.array 2 e) kv ents 0=none:=by
    cases ents with
    | nil=>exact .inl ⟨rfl,rfl⟩
    | cons a b=>exact .inr (by simp[Instr.findNow,Instr.sameNow])
   rcases hn with⟨hn,rfl⟩ | hn
   ·rcases hf with⟨h4,h5⟩ | ⟨i,x,e,a,_,_,h6,_⟩
    ·exact .inl ⟨h4,by simp[Instr.findKey,run_underlying hK,hn]⟩
    ·simp at h6
   ·simp only[aK]at hf;rcases hf with⟨h4,h5⟩ | ⟨i,x,e,a,h4,h5,h6,h7,h8⟩
    ·exact .inl ⟨h4,by simp[Instr.findKey,run_underlying hK,hn,h5]⟩
    ·exact .inr ⟨i,x,e,a,h4,h5,h6,h7,by simp[Instr.findKey,run_underlying hK,hn,h8]⟩
 ·have hd:∃ d,P.underlying K=some d:=by
   rcases oy Az with⟨_,_,h⟩ | ⟨_,h⟩ | ⟨_,_,_,h,_⟩<;>exact⟨_,h⟩
  obtain⟨d,hd⟩:=hd;have hf:=DO hd Az h3 hk es ents 0 r hl hr h;simp only[aK]at hf;rcases hf with⟨h4,h5⟩ | ⟨i,x,e,a,h4,h5,h6,h7,h8⟩
  ·exact .inl ⟨h4,by simp[Instr.findKey,run_underlying hd,h5]⟩
  ·exact .inr ⟨i,x,e,a,h4,h5,h6,h7,by simp[Instr.findKey,run_underlying hd,h8]⟩
theorem run_checkKey{P:Program}{w:World}{σ:ag}{μ:Mem}{K:TypeId}{kd:Nat}(Az:pj P K=some kd)(em:Bool)(n:Nat){k:V}{v:Value}(hk:VR w σ μ k v)(ff:rS kd k=true):(Instr.checkKey em (n+2) K v).run P w=.ok () w:=by
 rcases oy Az with⟨_,_,h⟩ | ⟨_,h⟩ | ⟨rfl,e,q,h,he,hc⟩
 ·simp[Instr.checkKey,run_underlying h]
 ·simp[Instr.checkKey,run_underlying h]
 ·unfold rS at ff;rw[if_pos rfl]at ff;split at ff
  ·rename_i k1 a1 l1 b1;rw[hk.pair]
   have hi:∃ i,P.info? e=some i:=by
    unfold Program.underlying at he;cases h:P.info? e with
    | none=>simp[h]at he
    | some i=>exact⟨i,rfl⟩
   obtain⟨i,hi⟩:=hi;have hA:jr P e=some false:=by simp[jr,he]
   have hp:∀ (x y:Value) (j:Nat) (z:Value),#[x,y][j]?=some z→(part e #[x,y] j).run P w=.ok z w:=by
    intro x y j z hz;simp only[part,Sem.run_bind,pK hA,Result.andThen_ok,aD,if_false,hz];rfl
   have hs:(sizeOf e).run P w=.ok 1 w:=by rw[run_sizeOf w hi,hc]
   have h0:=hp (.int k1 a1) (.int l1 b1) 0 (.int k1 a1) rfl;have h1:=hp (.int k1 a1) (.int l1 b1) 1 (.int l1 b1) rfl
   have DD:∀ v:Value,(∃ q a,v=.int q a)→(Instr.checkKey em (n+1) e v).run P w=.ok () w:=by
    rintro v ⟨_,_,rfl⟩;simp[Instr.checkKey,run_underlying he]
   have c0:=DD (.int k1 a1) ⟨_,_,rfl⟩;have c1:=DD (.int l1 b1) ⟨_,_,rfl⟩;rw[Instr.checkKey];simp only[Sem.run_bind,run_underlying h,Result.andThen_ok];simp only[Std.Legacy.Range.forIn_eq_forIn_range',Std.Legacy.Range.size,QZ,Nat.add_one_sub_one,Nat.div_one,show List.range' 0 2=[0,1]from rfl,List.forIn_cons,List.forIn_nil];simp only[Sem.run_bind,hs,Result.andThen_ok,qC,h0,h1,c0,c1,Sem.run_pure]
  ·simp at ff
theorem Rf{P:Program}{w:World}{σ:ag}{μ:Mem}{E:TypeId}{z:V}(h:zeroV P E=some z):∃ v,(zeroValue E).run P w=.ok v w∧VR w σ μ z v:=by
 unfold zeroV at h;split at h
 ·rename_i t ht;split at h
  ·rename_i cs hz;simp only[ar]at h;obtain⟨zs,qE,rfl⟩:=h;exact⟨_,by simp[zeroValue,typeInfo,ht,hz],(od (cs:=cs) qE).A8 _⟩
  ·rename_i z' iQ hz;exact⟨_,by simp[zeroValue,typeInfo,ht,hz],AI h⟩
  ·simp at h
 ·simp at h
section dh
variable {P:Program} {o:Oper} {a:Act} {B:Nat} {w0 w:World} {σ:ag} {μ:Mem} {fr:List V} (hF:FR w σ μ fr a) (hS:jw P B w0 w σ μ)
include hF hS
theorem Yo{T K E:TypeId}{x:Operand}{x':O}(ho:o.op=.call { callee:=.builtin .len,args:=#[x],argTypes:=#[T] })(hT:P.underlying T=some (.map K E))(hx:cO x=some x')
  {ob:Prop} {y:V} (h:bm fr σ (.ET x')=some (ob,y)):Yields P o a w σ μ y:=by
 have h1:=eQ hF hx;simp only[bm]at h;split at h
 ·rename_i hp;simp only[aa,aI]at h;obtain⟨_,rfl⟩:=h;rw[hp]at h1;have hv:a.eval x=.map none:=h1.Dx;refine .pure (v:=.int .i64 0) ?_ (.i _ _);simp[execOp,ho,resolve,invoke,builtin,hv,Builtin.len_,run_underlying hT,goInt]
 ·rename_i id hp;split at h
  ·rename_i K' E' es hb;simp only[aa,aI]at h;obtain⟨_,rfl⟩:=h;rw[hp]at h1;obtain⟨r,hv,hm,_⟩:=h1.H8;obtain⟨r',ents,clock,hm',_,hh,hR⟩:=hS.obj id _ hb;rw[hm]at hm';simp only[Value.map.injEq,aa]at hm';subst hm';refine .pure (v:=.int .i64 es.length) ?_ (.i _ _);have hg:(getObj r).run P w=.ok (.map ents clock) w:=by simp[getObj,Sem.run,hh]
   simp[execOp,ho,resolve,invoke,builtin,hv,Builtin.len_,run_underlying hT,goInt,hg,hR.1]
  ·simp at h
 ·simp at h
theorem Yr{T K E:TypeId}{m k:Operand}{m' k':O}{kd:Nat}{z:V}{ok:Bool}(ho:o.op=.lookup T m k ok)(hT:P.underlying T=some (.map K E))(hm:cO m=some m')(hk:cO k=some k')(Az:pj P K=some kd)(hz:zeroV P E=some z)
  {ob:Prop} {y:V} (h:bm fr σ (.look kd z ok m' k')=some (ob,y)) (ff:ob):Yields P o a w σ μ y:=by
 have h1:=eQ hF hm;have h2:=eQ hF hk;obtain⟨zv,hzr,hzv⟩:=Rf (w:=w) (σ:=σ) (μ:=μ) hz
 have hko:rS kd (ev fr k')=true:=by
  simp only[bm]at h;split at h<;>simp only[aa,aI,reduceCtorEq]at h<;>(obtain⟨rfl,_⟩:=h;exact ff)
 have To:∀ (u:V) (v:Value) (q:Bool),VR w σ μ u v→(Instr.lookup T (a.eval m) (a.eval k) ok).run P w=.ok (if ok then .tuple #[v,.bool q]else v) w→Yields P o a w σ μ (if ok then .iK [u,.b q]else u):=by
  intro u v q hu hr;refine .pure (v:=if ok then .tuple #[v,.bool q]else v) (by simp[execOp,ho,hr]) ?_;cases ok
  ·exact hu
  ·refine .iK _ _ rfl fun i x hx=>?_
   match i with
   | 0=>simp only[ao,aa]at hx;subst hx;exact hu
   | 1=>simp only[bQ,ao,aa]at hx;subst hx;exact .b _
   | i+2=>simp at hx
 have hes:∀ (r:Option (Option (Nat×V))),iD σ kd (ev fr m') (ev fr k')=r→∀ q,r=some q →
   (q=none→(Instr.lookup T (a.eval m) (a.eval k) ok).run P w=.ok (if ok then .tuple #[zv,.bool false]else zv) w) ∧
   (∀ n u,q=some (n,u)→∃ v,VR w σ μ u v∧(Instr.lookup T (a.eval m) (a.eval k) ok).run P w=.ok (if ok then .tuple #[v,.bool true]else v) w):=by
  intro r hr q hq;unfold iD at hr;split at hr
  ·rename_i hp;rw[hp]at h1;have hv:a.eval m=.map none:=h1.Dx;rw[← hr]at hq;simp only[aa]at hq;subst hq;refine⟨fun _=>?_,fun n u h=>by simp at h⟩;rw[hv];have DD:=run_checkKey (P:=P) (w:=w) Az true 9998 h2 hko
   have hfk:(Instr.findKey K (a.eval k) []).run P w=.ok none w:=by
    rcases sV Az h2 [] [] none rfl (by simp) rfl with⟨_,h⟩ | ⟨_,_,_,_,h,_⟩
    ·exact h
    ·simp at h
   cases ok<;>simp[Instr.lookup,run_underlying hT,DD,hfk,hzr]
  ·rename_i id hp;rw[hp]at h1;obtain⟨rr,hv,zi,_⟩:=h1.H8;split at hr
   ·rename_i K' E' es hb;obtain⟨r',ents,clock,hm',_,hh,hR⟩:=hS.obj id _ hb;rw[zi]at hm';simp only[Value.map.injEq,aa]at hm';subst hm';have hg:(getObj rr).run P w=.ok (.map ents clock) w:=by simp[getObj,Sem.run,hh]
    rw[← hr]at hq
    have hf:=sV Az h2 es ents.toList q (by rw[aY];exact hR.1) (fun i a x hi=>by
     obtain⟨_,_,e,h3,h4,h5⟩:=hR.2.1 i a x hi;exact⟨e,by simpa using h3,h4,h5⟩) hq
    have DD:=run_checkKey (P:=P) (w:=w) Az ents.isEmpty 9998 h2 hko;refine⟨fun hn=>?_,fun n u hn=>?_⟩
    ·rcases hf with⟨_,h3⟩ | ⟨i,x,e,a2,h3,_⟩
     ·rw[hv];cases ok<;>simp[Instr.lookup,run_underlying hT,hg,DD,h3,hzr]
     ·rw[hn]at h3;simp at h3
    ·rcases hf with⟨h3,_⟩ | ⟨i,x,e,a2,h3,h4,h5,_,h6⟩
     ·rw[hn]at h3;simp at h3
     ·rw[hn]at h3;simp only[aa,aI]at h3;obtain⟨_,rfl⟩:=h3;obtain⟨_,_,e2,h7,_,h8⟩:=hR.2.1 i a2 u h4
      have:e2=e:=by
       have h9:ents[i]?=some e:=by simpa using h5
       rw[h7]at h9;simpa using h9
      subst this;refine⟨e2.val,h8,?_⟩;rw[hv];cases ok<;>simp[Instr.lookup,run_underlying hT,hg,DD,h6]
   ·rw[← hr]at hq;simp at hq
  ·rw[← hr]at hq;simp at hq
 simp only[bm]at h;generalize hr:iD σ kd (ev fr m') (ev fr k')=r at h;have hq:=hes r hr;cases r with
 | none=>simp at h
 | some q =>
  obtain⟨h3,h4⟩:=hq q rfl;cases q with
  | none =>
   simp only[aa,aI]at h;obtain⟨_,rfl⟩:=h;exact To _ _ _ hzv (h3 rfl)
  | some q =>
   obtain⟨n,u⟩:=q;simp only[aa,aI]at h;obtain⟨_,rfl⟩:=h;obtain⟨v,h5,h6⟩:=h4 n u rfl;exact To _ _ _ h5 h6
end dh
section Kl
variable {P:Program} {o:Oper} {a:Act} {B:Nat} {w0 w:World} {σ:ag} {μ:Mem} {fr:List V} (hF:FR w σ μ fr a) (hS:jw P B w0 w σ μ)
include hF hS
theorem ajd{T E:TypeId}{t:TypeInfo}{z:Value}{l c:Operand}{l' c':O}{zs0:List V}{szs:List (Option Nat)}(ho:o.op=.makeSlice T l c)(hT:P.underlying T=some (.slice E))(ht:P.info? E=some t)(hz:t.zero=some z)
  (gO:0<t.size) (qE:z.cells.size=t.size) (UE:la z.cells.toList=some zs0) (hl:cO l=some l') (hc:cO c=some c')
  {ob:Prop} {r:V} {σ':ag} (h:cE fr σ (.mk E t.size t.bytes (dw szs zs0) l' c')=some (ob,r,σ')) (ff:ob):AQ P o a B w0 w σ μ r σ':=by
 have h1:=eQ hF hl;have h2:=eQ hF hc;simp only[cE]at h;split at h
 ·rename_i k n k2 m hn hm;simp only[aa,aI]at h;obtain⟨rfl,rfl,rfl⟩:=h;obtain⟨Oz,hnm,hm0,hby,ZS,S6⟩:=ff;rw[hn]at h1;rw[hm]at h2;have UI:Ti P E t.size t.bytes:=⟨gO,t,z,ht,hz,rfl,rfl,qE⟩;obtain⟨M,rfl⟩:=Int.eq_ofNat_of_zero_le hm0;have hCR:CR w σ μ (dw szs zs0) z.cells:=(od UE).dw szs;have hzl:(dw szs zs0).length=t.size:=by rw[hCR.1];exact qE
  have rl:t.bytes*M≤281474976710656:=by
   have h3:((M*t.bytes:Nat):Int)≤281474976710656:=by rw[Int.natCast_mul];exact hby
   rw[jL];exact Int.ofNat_le.1 h3
  have hM:M≤maxLen:=Int.ofNat_le.1 ZS
  have fin:∀ (v:Value) (w':World) (N:Nat) (vals:List Value),(Instr.makeSlice T (a.eval l) (a.eval c)).run P w=.ok v w'→w'.ownsRow B E t.size v N vals→w.grownBy w' none→(∀ b,lf v=some b→w.heap.size≤b)→n.toNat=N →
    mq w σ μ (List.replicate N (dw szs zs0)) t.size vals→AQ P o a B w0 w σ μ (.own σ.length 0) (σ++[.row E t.size t.bytes 0 false (List.replicate n.toNat (dw szs zs0))]):=by
   intro v w' N vals hr gD hg hbk hN cP;rw[hN];have lQ:=hS.uE (w':=w') (.row E t.size t.bytes 0 false (List.replicate N (dw szs zs0))) v hg hbk (fun hp=>⟨UI,vals,by rw[List.length_replicate];exact gD,cP.bY hp.bY⟩);refine⟨v,w',_,.inl (by simp only[execOp,ho,Sem.run_bind,hr,Result.andThen_ok,Sem.run_pure]),lQ.1,?_,lQ.2⟩;have:=VR.qc (w:=w') (σ:=σ++[.row E t.size t.bytes 0 false (List.replicate N (dw szs zs0))]) (μ:=wu μ σ.length v) (id:=σ.length) (E:=E) (sz:=t.size) (by':=t.bytes) (g:=0) (sh:=false) (xs:=List.replicate N (dw szs zs0)) (by simp)
   rwa [fo]at this
  rcases hnm with rfl | rfl
  ·obtain⟨w',hr,gD,hg⟩:=run_make_full (P:=P) w B T E t z t.size hT ht hz rfl k k2 M rl hM hS.base;refine fin _ w' M _ (by rw[h1.iP,h2.iP];exact hr) gD hg (fun b hb=>by simp only[lf,aa]at hb;omega) (by simp) ⟨fun r hr=>by rw[List.eq_of_mem_replicate hr];exact hzl,fun i j x hx=>?_⟩;obtain⟨hi,hj⟩:=TR hx;have xO:j<t.size:=by rw[← hzl];exact(ae.1 hj).1
   have KK:i*t.size+j<M*t.size:=by
    have:(i+1)*t.size≤M*t.size:=cA _ hi;rw[Nat.add_mul,oh]at this;omega
   refine⟨S6 x (bh hj),z.cells.getD j undef,?_,hCR.2 j x hj⟩;have aiz:(i*t.size+j) % z.cells.size=j:=by rw[qE,Nat.add_comm,Nat.add_mul_mod_self_right,iG xO]
   simp only[madeCells,tf,Array.toList_range,aZ,ky KK,cU,aiz];rw[Iu _ _ (by omega)]
  ·obtain⟨w',hr,gD,hg⟩:=run_make_own (P:=P) w B T E t z t.size hT ht hz rfl k k2 M rl hM hS.base;exact fin _ w' 0 _ (by rw[h1.iP,h2.iP];exact hr) gD hg (fun b hb=>by simp only[lf,aa]at hb;omega) (by simp) ⟨by simp,fun i j x hx=>by simp[fe]at hx⟩
 ·simp at h
theorem aaG{T E:TypeId}{len:Nat}{parts:Array (Nat×Operand)}{t:TypeInfo}{z:Value}{xs:List O}{szs:List (Option Nat)}(ho:o.op=.buildSlice T len parts)(hT:P.underlying T=some (.slice E))(ht:P.info? E=some t)(hz:t.zero=some z)
  (hn:parts.size=len) (gO:0<t.size) (UE:z.cells.size=t.size) (AA:len*t.size≤2^24) (zN:vk 0 parts.toList=some xs) {ob:Prop} {r:V} {σ':ag} (h:cE fr σ (.Nc E t.size t.bytes szs xs)=some (ob,r,σ')) (ff:ob):AQ P o a B w0 w σ μ r σ':=by
 simp only[cE,aa,aI]at h;obtain⟨rfl,rfl,rfl⟩:=h;obtain⟨fD,uZ⟩:=ff;obtain⟨cells',eP,KE,qV,DE⟩:=Ec hF hS ho hT ht hz hn gO UE AA zN fD (fun r hr=>(uZ r hr).1);generalize hrw:(xs.map fun x=>dw szs (fI (ev fr x)))=rows at uZ KE DE ⊢;have UI:Ti P E t.size t.bytes:=⟨gO,t,z,ht,hz,rfl,rfl,UE⟩;have hg:w.grownBy (w.alloc (.cells cells' E)) none:=World.grownBy_alloc w _ none
 have ZS:len≤maxLen:=by
  have:len≤len*t.size:=af8 _ gO;unfold maxLen;omega
 have gD:=World.ownsRow_lit (e:=E) w cells' len hS.base ZS qV
 have lQ:=hS.uE (w':=w.alloc (.cells cells' E)) (.row E t.size t.bytes 0 false rows) (.slice (some ⟨w.heap.size,0,none⟩) len len) hg (fun b hb=>by simp only[lf,aa]at hb;omega)
  (fun hp=>⟨UI,cells'.toList,by rw[KE];exact gD,fun r hr=>(uZ r hr).1,fun i j x hx=>by
   obtain⟨fk,hv⟩:=DE i j x hx;obtain⟨r,hr,hj⟩:=kL hx;refine⟨(uZ r (bh hr)).2 x (bh hj),_,?_,hp.bY _ _ hv⟩;simp[fk]⟩)
 refine⟨_,_,_,.inl eP,lQ.1,?_,lQ.2⟩;have:=VR.qc (w:=w.alloc (.cells cells' E)) (σ:=σ++[.row E t.size t.bytes 0 false rows]) (μ:=wu μ σ.length (.slice (some ⟨w.heap.size,0,none⟩) len len)) (id:=σ.length) (E:=E) (sz:=t.size) (by':=t.bytes) (g:=0) (sh:=false) (xs:=rows) (by simp)
 rwa [fo]at this
theorem VR.sameBits{k a:V}{kv av:Value}{kd:Nat}(hk:VR w σ μ k kv)(ha:VR w σ μ a av)(h:di kd k a=some true):Instr.sameBits 10000 av kv=true:=by
 cases k<;>cases a<;>(try (simp[di]at h;done))
 ·rw[hk.rT,ha.rT]
  match kd with
  | 2=>simp only[di,aa,beq_iff_eq]at h;subst h;simp[Instr.sameBits]
  | 0=>simp[di]at h
  | 1=>simp[di]at h
  | n+3=>simp[di]at h
 ·rw[hk.iP,ha.iP]
  match kd with
  | 0 =>
   simp only[di]at h;split at h<;>simp only[aa,beq_iff_eq,reduceCtorEq]at h;rename_i Qm;subst Qm;subst h;simp[Instr.sameBits]
  | 1=>simp[di]at h
  | 2=>simp[di]at h
  | n+3=>simp[di]at h
 ·obtain⟨s,rfl,hs,_⟩:=hk.nO;obtain⟨s',rfl,hs',_⟩:=ha.nO
  match kd with
  | 1 =>
   simp only[di,aa,beq_iff_eq]at h;subst h;simp only[Instr.sameBits];rw[beq_toListBytes,toList_data,toList_data,hs,hs'];simp
  | 0=>simp[di]at h
  | 2=>simp[di]at h
  | n+3=>simp[di]at h
 ·match kd with
  | 3 =>
   simp only[di]at h;obtain⟨k1,a1,l1,b1,a2,b2,rfl,rfl,hr⟩:=Bb h;rw[hk.pair,ha.pair];have hr':=hr.symm;simp only[aC,beq_iff_eq]at hr';obtain⟨rfl,rfl⟩:=hr';simp[Instr.sameBits]
  | 0=>simp[di]at h
  | 1=>simp[di]at h
  | 2=>simp[di]at h
  | n+4=>simp[di]at h
theorem aaF{T K E:TypeId}{m k x:Operand}{m' k' x':O}{kd:Nat}{szs:List (Option Nat)}(ho:o.op=.mapUpdate T m k x)(hT:P.underlying T=some (.map K E))(hm:cO m=some m')(hk:cO k=some k')(hx:cO x=some x')(Az:pj P K=some kd)
  {ob:Prop} {r:V} {σ':ag} (h:cE fr σ (.Kj kd szs m' k' x')=some (ob,r,σ')) (ff:ob):AQ P o a B w0 w σ μ r σ':=by
 have h1:=eQ hF hm;have h2:=eQ hF hk;have h3:=eQ hF hx
 have hko:rS kd (ev fr k')=true:=by
  simp only[cE]at h;split at h
  ·split at h
   ·split at h<;>simp only[aa,aI,reduceCtorEq]at h<;>(obtain⟨rfl,_⟩:=h;exact ff.1)
   ·simp at h
  ·simp at h
 simp only[cE]at h;generalize hxv:nk szs (ev fr x')=xv at h
 have h3':VR w σ μ xv (a.eval x):=by
  rw[← hxv];unfold nk;split
  ·rename_i xs hp;rw[hp]at h3;obtain⟨vs,hv,hl,Ic⟩:=h3.qS;rw[hv];exact CR.A8 (xs:=xs) szs ⟨hl,Ic⟩
  ·exact h3
 split at h
 ·rename_i id hp;rw[hp]at h1;obtain⟨rr,hv,zi,_⟩:=h1.H8;split at h
  ·rename_i K' E' es hb;obtain⟨r',ents,clock,hm',hB,hh,hR⟩:=hS.obj id _ hb;rw[zi]at hm';simp only[Value.map.injEq,aa]at hm';subst hm';have fk:id<σ.length:=(ae.1 hb).1;have KE:rr<w.heap.size:=(cg.1 hh).1;have hg:∀ (w2:World),w2.heap[rr]?=some (.map ents clock)→(getObj rr).run P w2=.ok (.map ents clock) w2:=fun w2 h=>by simp[getObj,Sem.run,h]
   have DD:=run_checkKey (P:=P) (w:=w) Az false 9998 h2 hko
   have fin:∀ (es':List (V×V)) (ents':Array MapEntry) (clock':Nat),(execOp a.eval o).run P w=.ok .skip { w with heap:=w.heap.setIfInBounds rr (.map ents' clock') }→Us w σ μ es' ents' clock'→AQ P o a B w0 w σ μ .u (σ.set id (.map K' E' es')):=by
    intro es' ents' clock' hr hMR
    have Q7:=hS.update (w':={ w with heap:=w.heap.setIfInBounds rr (.map ents' clock') }) (σ':=σ.set id (.map K' E' es')) (μ':=μ) id (some rr)
     ⟨rfl,rfl,rfl,by simp,fun j _ hj=>by simp only;rw[ei (fun e=>hj (by rw[e]))]⟩
     (fun b rl=>⟨_,hb,by simp,by simp only[aa]at rl;subst rl;simp[zi,lf]⟩)
     (by simp) (fun j hj=>bn (fun e=>hj e.symm)) (fun _ _=>rfl)
     (fun b rl=>.inl ⟨_,hb,by simp,rl⟩)
     (fun b off v2 o2 h4 _ h5 h6 _=>by
      simp only[zi,lf,aa]at h5;subst h5;simp[World.cell?,hh]at h6)
     (fun T2 cs2 h4=>by rw[hb]at h4;simp at h4)
     (fun K2 E2 es2 h4=>by rw[hb]at h4;simp only[aa,Ob.map.injEq]at h4;obtain⟨rfl,rfl,rfl⟩:=h4;exact⟨⟨_,aF fk⟩,rfl⟩)
     (fun E2 sz2 by2 g2 sh2 xs2 _ h4=>by simp[fk]at h4)
     (fun Wv o2 h4=>by
      simp only[aF fk,aa]at h4;subst h4;exact⟨rr,ents',clock',zi,hB,by simp[KE],hMR.bY Wv.bY⟩)
    exact⟨undef,_,μ,.inr ⟨hr,rfl⟩,Q7.1,.u _,Q7.2⟩
   have E0:∀ ob2,(setObj rr ob2).run P w=.ok () { w with heap:=w.heap.setIfInBounds rr ob2 }:=fun ob2=>by simp[setObj,Sem.run,hh]
   split at h
   ·rename_i hf;simp only[aa,aI]at h;obtain⟨rfl,rfl,rfl⟩:=h
    have DC:=sV Az h2 es ents.toList none (by rw[aY];exact hR.1) (fun i a x hi=>by
     obtain⟨_,_,e,h3,h4,h5⟩:=hR.2.1 i a x hi;exact⟨e,by simpa using h3,h4,h5⟩) hf
    have hfn':(Instr.findKey K (a.eval k) ents.toList).run P w=.ok none w:=by
     rcases DC with⟨_,h⟩ | ⟨i,x,e,a2,h,_⟩
     ·exact h
     ·simp at h
    refine fin _ (ents.push { key:=a.eval k,val:=a.eval x,born:=clock }) (clock+1) ?_ ?_
    ·simp[execOp,ho,hv,Instr.mapUpdate,run_underlying hT,hg w hh,DD,hfn',E0]
    ·refine⟨by simp[hR.1],fun i a2 y hi=>?_,fun i e he=>?_,fun i j e e' he he' Z6=>?_⟩
     ·by_cases qB:i<es.length
      ·rw[aH qB]at hi;obtain⟨h4,h5,e,h6,h7⟩:=hR.2.1 i a2 y hi;exact⟨h4,h5,e,by rw[akZ (by rw[hR.1];exact qB)];have:=h6;rw[Array.getElem?_eq_getElem (by rw[hR.1];exact qB)]at this;exact this,h7⟩
      ·have hie:i=es.length:=by
        have:=(ae.1 hi).1;simp at this;omega
       subst hie;simp only[List.getElem?_concat_length,aa,aI]at hi;obtain⟨rfl,rfl⟩:=hi;exact⟨Dq ff.1,ff.2,_,by rw[← hR.1];exact AS,h2,h3'⟩
     ·rw[Array.getElem?_push]at he;split at he
      ·simp only[aa]at he;subst he;exact Nat.lt_succ_self _
      ·exact Nat.lt_succ_of_lt (hR.2.2.1 i e he)
     ·rw[Array.getElem?_push]at he he';split at he
      ·split at he'
       ·omega
       ·simp only[aa]at he;subst he;have:=hR.2.2.1 j e' he';simp only at Z6;omega
      ·split at he'
       ·simp only[aa]at he';subst he';have:=hR.2.2.1 i e he;simp only at Z6;omega
       ·exact hR.2.2.2 i j e e' he he' Z6
   ·rename_i i0 x0 hf;simp only[aa,aI]at h;obtain⟨rfl,rfl,rfl⟩:=h
    have DC:=sV Az h2 es ents.toList _ (by rw[aY];exact hR.1) (fun i a x hi=>by
     obtain⟨_,_,e,h3,h4,h5⟩:=hR.2.1 i a x hi;exact⟨e,by simpa using h3,h4,h5⟩) hf
    rcases DC with⟨h4,_⟩ | ⟨i,y,e,a2,h4,h5,h6,h7,h8⟩
    ·simp at h4
    ·simp only[aa,aI]at h4;obtain⟨rfl,rfl⟩:=h4;obtain⟨_,_,e2,h9,ML,_⟩:=hR.2.1 i0 a2 x0 h5
     have hee:e2=e:=by
      have:ents[i0]?=some e:=by simpa using h6
      rw[h9]at this;simpa using this
     subst hee;have hsb:=VR.sameBits hF hS h2 ML h7;refine fin _ (ents.modify i0 fun e=>{ e with key:=a.eval k,val:=a.eval x }) clock ?_ ?_
     ·simp[execOp,ho,hv,Instr.mapUpdate,run_underlying hT,hg w hh,DD,h8,h9,Instr.keyThatStays,hsb,E0]
     ·have qB:i0<es.length:=(ae.1 h5).1
      have Tu:∀ (i:Nat) (e3:MapEntry),(ents.modify i0 fun e=>{ e with key:=a.eval k,val:=a.eval x })[i]?=some e3→∃ e4,ents[i]?=some e4∧e4.born=e3.born:=by
       intro i e3 he;rw[fU]at he;split at he
       ·simp only[ar]at he;obtain⟨e4,Qo,rfl⟩:=he;exact⟨e4,Qo,rfl⟩
       ·exact⟨e3,he,rfl⟩
      refine⟨by simp[hR.1],fun i a3 y hi=>?_,fun i e3 he=>?_,fun i j e3 e4 he he' Z6=>?_⟩
      ·by_cases Tn:i=i0
       ·subst Tn;rw[aF qB]at hi;simp only[aa,aI]at hi;obtain⟨rfl,rfl⟩:=hi;exact⟨Dq ff.1,ff.2,{ e2 with key:=a.eval k,val:=a.eval x },by rw[fU,if_pos rfl,h9];rfl,h2,h3'⟩
       ·rw[bn (fun e=>Tn e.symm)]at hi;obtain⟨Qo,h12,e3,h13,h14⟩:=hR.2.1 i a3 y hi;exact⟨Qo,h12,e3,by rw[fU,if_neg (fun e=>Tn e.symm)];exact h13,h14⟩
      ·obtain⟨e4,Qo,h12⟩:=Tu i e3 he;rw[← h12];exact hR.2.2.1 i e4 Qo
      ·obtain⟨e5,Qo,h12⟩:=Tu i e3 he;obtain⟨e6,h13,h14⟩:=Tu j e4 he';exact hR.2.2.2 i j e5 e6 Qo h13 (by rw[h12,h14,Z6])
   ·simp at h
  ·simp at h
 ·simp at h
end Kl
theorem Kv{P:Program}{T:TypeId}{t:TypeInfo}{q:Bool}(h:jr P T=some q):(((if q then some t.size else none):Option Nat)=none∧jr P T=some false)∨(((if q then some t.size else none):Option Nat)=some t.size∧jr P T=some true):=by
 cases q
 ·exact .inl ⟨rfl,h⟩
 ·exact .inr ⟨rfl,h⟩
section
variable {P:Program} {o:Oper} {i:I} {a:Act} {B:Nat} {w0 w:World} {σ:ag} {μ:Mem} {fr:List V}
theorem IJ{w:World}{σ:ag}{μ:Mem}{fr:List V}{a:Act}(h:FR w σ μ fr a):∀ (xs:List Operand) (ys:List O),Yf xs=some ys→ys.length=xs.length∧∀ (i:Nat) (y:V),(ys.map (ev fr))[i]?=some y→VR w σ μ y ((xs.map a.eval).getD i undef)
 | [],ys,hc=>by simp only[Yf,aa]at hc;subst hc;simp
 | x::xs,ys,hc=>by
  simp only[Yf]at hc;split at hc<;>simp only[aa,reduceCtorEq]at hc;rename_i y zs hy qE;subst hc;obtain⟨h1,h2⟩:=IJ h xs zs qE;refine⟨by simp[h1],fun i z hz=>?_⟩;cases i with
  | zero =>
   simp only[ay,ao,aa]at hz;subst hz;simpa using eQ h hy
  | succ i=>simpa using h2 i z (by simpa using hz)
theorem abo{f:Nat}{first caps:Array Operand}{ys:List O}(hF:FR w σ μ fr a)(ho:o.op=.makeFunc (.func f) first caps)(h0:first.size=0)(hy:Yf caps.toList=some ys):Yields P o a w σ μ (.fn f (ys.map (ev fr))):=by
 obtain⟨h1,h2⟩:=IJ hF _ _ hy;have hf:first=#[]:=UA h0
 subst hf;refine .pure (v:=.func (.func f) #[] (caps.map a.eval)) ?_ (.fn f _ _ (by simp[h1]) fun i x hx=>?_)
 ·simp[execOp,ho,Instr.makeFunc]
 ·have:=h2 i x hx;simpa[List.getD_eq_getElem?_getD]using this
theorem JS(hc:compile P o=some i)(hF:FR w σ μ fr a)(hS:jw P B w0 w σ μ){ob:Prop}{y:V}(h:bm fr σ i=some (ob,y))(ff:ob):Yields P o a w σ μ y:=by
 cases gl:o.op with
 | move x =>
  simp only[compile,gl,ar]at hc;obtain⟨x',hx,rfl⟩:=hc;simp only[bm,aa,aI]at h;obtain⟨_,rfl⟩:=h;exact XF hF (.inl gl) hx
 | assign x =>
  simp only[compile,gl,ar]at hc;obtain⟨x',hx,rfl⟩:=hc;simp only[bm,aa,aI]at h;obtain⟨_,rfl⟩:=h;exact XF hF (.inr gl) hx
 | pick c x z =>
  simp only[compile,gl]at hc;split at hc<;>simp only[aa,reduceCtorEq]at hc;rename_i c' x' z' hc' hx hz;subst hc;simp only[bm]at h;split at h<;>simp only[aa,aI,reduceCtorEq]at h;rename_i p hp;obtain⟨_,rfl⟩:=h;exact Yn hF gl hc' hx hz hp
 | box T x =>
  simp only[compile,gl,ar]at hc;obtain⟨x',hx,rfl⟩:=hc;simp[bm]at h
 | alloc T =>
  simp only[compile,gl]at hc;split at hc<;>(try simp only[reduceCtorEq]at hc);split at hc<;>(try simp only[reduceCtorEq]at hc);simp only[ar]at hc;obtain⟨zs,_,rfl⟩:=hc;simp[bm]at h
 | build T parts =>
  simp only[compile,gl]at hc;split at hc<;>(try simp only[reduceCtorEq]at hc)
  ·rename_i t fs ht hu;split at hc<;>(try simp only[reduceCtorEq]at hc);rename_i z hz;split at hc<;>(try simp only[reduceCtorEq]at hc);rename_i zs places qE rV;simp only[ar]at hc;obtain⟨ps,zN,rfl⟩:=hc;exact UN hF hS gl ht hu hz qE rV zN h ff
  ·rename_i t n E ht hu;split at hc<;>(try simp only[reduceCtorEq]at hc);rename_i z te hz hte;split at hc<;>(try simp only[reduceCtorEq]at hc);rename_i zs qE;simp only[ar]at hc;obtain⟨ps,zN,rfl⟩:=hc;exact Ri hF hS gl ht hu hz hte qE zN h ff
 | buildSlice T len parts =>
  simp only[compile,gl]at hc;split at hc<;>(try simp only[reduceCtorEq]at hc);rename_i E hT;split at hc<;>(try simp only[reduceCtorEq]at hc);rename_i t ht;split at hc<;>(try simp only[reduceCtorEq]at hc);rename_i z hz;split at hc<;>(try simp only[reduceCtorEq]at hc);rename_i kR;simp only[ar]at hc;obtain⟨xs,zN,rfl⟩:=hc;split at h
  ·simp[bm]at h
  ·exact Rj hF hS gl hT ht hz kR.1 kR.2.1 kR.2.2.1 kR.2.2.2 zN h ff
 | load T x =>
  simp only[compile,gl]at hc;split at hc<;>simp only[aa,reduceCtorEq]at hc
  ·rename_i x' t hx hA ht;subst hc;exact Rh hF hS gl hx ht (.inr ⟨rfl,hA⟩) h ff
  ·rename_i x' t hx hA ht;subst hc;exact Rh hF hS gl hx ht (.inl ⟨rfl,hA⟩) h ff
 | store T x z =>
  simp only[compile,gl]at hc;split at hc<;>simp only[aa,reduceCtorEq]at hc;subst hc;simp[bm]at h
 | nilCheck x =>
  simp only[compile,gl,ar]at hc;obtain⟨x',hx,rfl⟩:=hc;exact UM hF hS gl hx h
 | binOp op T x z yT =>
  simp only[compile,gl]at hc;split at hc<;>(try simp only[reduceCtorEq]at hc);rename_i x' z' hx hz;split at hc
  ·rename_i hq;split at hc
   ·simp only[aa]at hc;subst hc;exact XG hF gl hx hz h ff
   ·split at hc
    ·rename_i hb;simp only[aa]at hc;subst hc
     have hT:P.underlying T=some .bool:=by
      unfold Ug at hb;split at hb
      ·assumption
      ·simp at hb
     exact abq hF gl hq hT hx hz h
    ·simp only[ar]at hc;obtain⟨ks,hk,rfl⟩:=hc;exact abp hF gl hq hk hx hz h
  ·simp only[aa]at hc;subst hc;exact XG hF gl hx hz h ff
 | unOp op T x =>
  simp only[compile,gl,ar]at hc;obtain⟨x',hx,rfl⟩:=hc;exact aga hF gl hx h
 | convert s d x =>
  simp only[compile,gl]at hc;split at hc<;>(try simp only[reduceCtorEq,aa]at hc)
  ·rename_i k0 k x' hs hd hx;subst hc;simp only[bm]at h;split at h<;>simp only[aa,aI,reduceCtorEq]at h;rename_i k1 n hp;obtain⟨_,rfl⟩:=h;exact abn hF gl hs hd hx hp
  ·rename_i e x' hs hd hx;split at hc<;>simp only[reduceCtorEq,aa]at hc;rename_i he;subst hc;exact abr hF hS gl hs he hd hx h
 | slice T x lo hi mx =>
  cases mx with
  | some m=>simp[compile,gl]at hc
  | none =>
   simp only[compile,gl]at hc;split at hc<;>(try simp only[reduceCtorEq,aa]at hc)
   ·rename_i x' lo' hi' hT hx hl hh;subst hc;exact Rg hF hS gl hT hx hl hh h ff
   ·rename_i E x' lo' hi' hT hx hl hh;split at hc<;>simp only[reduceCtorEq,aa]at hc;rename_i t ht;subst hc;exact UL hF hS gl hT ht hx hl hh h ff
   ·rename_i n E x' hT hx hl hh;split at hc<;>(try simp only[reduceCtorEq]at hc);rename_i t ht;split at hc<;>simp only[reduceCtorEq,aa]at hc;rename_i kR;subst hc;have e1:lo=none:=by cases lo<;>simp[wj]at hl ⊢
    have e2:hi=none:=by cases hi<;>simp[wj]at hh ⊢
    subst e1;subst e2;exact abt hF hS gl hT ht kR.1 hx h ff
 | fieldAddr T x f =>
  simp only[compile,gl]at hc;split at hc<;>(try simp only[reduceCtorEq]at hc);rename_i fs x' hT hx;split at hc<;>(try simp only[reduceCtorEq]at hc);rename_i fd hf;split at hc<;>(try simp only[reduceCtorEq]at hc);rename_i t ht;split at hc<;>simp only[reduceCtorEq,aa]at hc;rename_i gO;subst hc;exact abl hF (fun id o ho=>⟨B,hS.obj id o ho⟩) gl hx hT hf ht gO h
 | indexAddr T x k =>
  simp only[compile,gl]at hc;split at hc<;>(try simp only[reduceCtorEq]at hc)
  ·rename_i E x' k' hT hx hk;split at hc<;>simp only[reduceCtorEq,aa]at hc;rename_i t ht;subst hc;exact abk hF hS gl hT ht hx hk h ff
  ·rename_i n E x' k' hT hx hk;split at hc<;>simp only[reduceCtorEq,aa]at hc;rename_i t ht;subst hc;exact Ys hF hS gl hT ht hx hk h ff
 | index T x k =>
  simp only[compile,gl]at hc;split at hc<;>simp only[reduceCtorEq,aa]at hc;rename_i x' k' hT hx hk;subst hc;exact Ym hF hS gl hT hx hk h ff
 | extract x k =>
  simp only[compile,gl,ar]at hc;obtain⟨x',hx,rfl⟩:=hc;simp only[bm]at h;split at h<;>(try simp only[reduceCtorEq]at h);rename_i xs hp;split at h<;>simp only[aa,aI,reduceCtorEq]at h;rename_i z hz;obtain⟨_,rfl⟩:=h;exact abm hF gl hx hp hz
 | makeSlice T l c =>
  simp only[compile,gl]at hc;split at hc<;>(try simp only[reduceCtorEq]at hc);split at hc<;>(try simp only[reduceCtorEq]at hc);split at hc<;>(try simp only[reduceCtorEq]at hc);split at hc<;>(try simp only[reduceCtorEq]at hc);simp only[ar]at hc;obtain⟨zs,_,rfl⟩:=hc;simp[bm]at h
 | lookup T m k ok =>
  simp only[compile,gl]at hc;split at hc<;>(try simp only[reduceCtorEq]at hc);rename_i K E m' k' hT hm hk;split at hc<;>simp only[reduceCtorEq,aa]at hc;rename_i kd z Az hz;subst hc;exact Yr hF hS gl hT hm hk Az hz h ff
 | mapUpdate T m k x =>
  simp only[compile,gl]at hc;split at hc<;>(try simp only[reduceCtorEq]at hc);simp only[ar]at hc;obtain⟨kd,_,rfl⟩:=hc;simp[bm]at h
 | makeMap T r =>
  cases r with
  | some r=>simp[compile,gl]at hc
  | none =>
   simp only[compile,gl]at hc;split at hc<;>simp only[reduceCtorEq,aa]at hc;subst hc;simp[bm]at h
 | call c =>
  simp only[compile,gl]at hc;obtain⟨callee,args,argTypes⟩:=c;unfold mW at hc;dsimp only at hc;split at hc
  ·rename_i x T e1 e2;have ea:args=#[x]:=by cases args;simp_all
   have et:argTypes=#[T]:=by cases argTypes;simp_all
   subst ea;subst et;split at hc<;>simp only[reduceCtorEq,aa]at hc
   ·rename_i x' hT hx;subst hc;exact Yl hF hS gl hT hx h
   ·rename_i E x' hT hx;subst hc;exact abj hF hS gl hT hx h
   ·rename_i K E x' hT hx;subst hc;exact Yo hF hS gl hT hx h
  ·rename_i x z e1;have ea:args=#[x,z]:=by cases args;simp_all
   subst ea;split at hc<;>simp only[reduceCtorEq,aa]at hc;rename_i x' z' hx hz;subst hc;exact Yq hF hS gl hx hz h rfl
  ·rename_i x z e1;have ea:args=#[x,z]:=by cases args;simp_all
   subst ea;split at hc<;>simp only[reduceCtorEq,aa]at hc;rename_i x' z' hx hz;subst hc;exact Yp hF hS gl hx hz h
  ·split at hc<;>(try simp only[reduceCtorEq]at hc);split at hc<;>(try simp only[reduceCtorEq]at hc);split at hc<;>(try simp only[reduceCtorEq]at hc);split at hc
   ·split at hc<;>simp only[reduceCtorEq,aa]at hc;subst hc;simp[bm]at h
   ·split at hc<;>(try simp only[reduceCtorEq]at hc);split at hc<;>simp only[reduceCtorEq,aa]at hc;subst hc;simp[bm]at h
  ·split at hc<;>(try simp only[reduceCtorEq]at hc);split at hc<;>(try simp only[reduceCtorEq]at hc);simp only[ar]at hc;obtain⟨zs,_,rfl⟩:=hc;simp[bm]at h
  ·simp only[ar]at hc;obtain⟨zs,_,rfl⟩:=hc;simp[bm]at h
  ·simp at hc
 | makeFunc fn first caps =>
  cases fn with
  | func f =>
   simp only[compile,gl]at hc;split at hc<;>simp only[ar,reduceCtorEq]at hc;rename_i h0;obtain⟨ys,B9,rfl⟩:=hc;simp only[bm,aa,aI]at h;obtain⟨_,rfl⟩:=h;exact abo hF gl h0 B9
  | _=>simp[compile,gl]at hc
 | _=>simp[compile,gl]at hc
theorem IU(hc:compile P o=some i)(hF:FR w σ μ fr a)(hS:jw P B w0 w σ μ){ob:Prop}{y:V}{σ':ag}(h:cE fr σ i=some (ob,y,σ'))(ff:ob):AQ P o a B w0 w σ μ y σ':=by
 cases gl:o.op with
 | move x =>
  simp only[compile,gl,ar]at hc;obtain⟨x',hx,rfl⟩:=hc;simp[cE]at h
 | assign x =>
  simp only[compile,gl,ar]at hc;obtain⟨x',hx,rfl⟩:=hc;simp[cE]at h
 | pick c x z =>
  simp only[compile,gl]at hc;split at hc<;>simp only[aa,reduceCtorEq]at hc;subst hc;simp[cE]at h
 | box T x =>
  simp only[compile,gl,ar]at hc;obtain⟨x',hx,rfl⟩:=hc;exact afj hF hS gl hx h ff
 | alloc T =>
  simp only[compile,gl]at hc;split at hc<;>(try simp only[reduceCtorEq]at hc);rename_i t ht;split at hc<;>(try simp only[reduceCtorEq]at hc);rename_i z hz;simp only[ar]at hc;obtain⟨zs,qE,rfl⟩:=hc;exact Xp hF hS gl ht hz qE h
 | build T parts =>
  simp only[compile,gl]at hc;split at hc<;>(try simp only[reduceCtorEq]at hc)
  all_goals
   split at hc<;>(try simp only[reduceCtorEq]at hc);split at hc<;>(try simp only[reduceCtorEq]at hc);simp only[ar]at hc;obtain⟨ps,zN,rfl⟩:=hc;simp[cE]at h
 | buildSlice T len parts =>
  simp only[compile,gl]at hc;split at hc<;>(try simp only[reduceCtorEq]at hc);rename_i E hT;split at hc<;>(try simp only[reduceCtorEq]at hc);rename_i t ht;split at hc<;>(try simp only[reduceCtorEq]at hc);rename_i z hz;split at hc<;>(try simp only[reduceCtorEq]at hc);rename_i kR;simp only[ar]at hc;obtain⟨xs,zN,rfl⟩:=hc;split at h
  ·exact aaG hF hS gl hT ht hz kR.1 kR.2.1 kR.2.2.1 kR.2.2.2 zN h ff
  ·simp[cE]at h
 | load T x =>
  simp only[compile,gl]at hc;split at hc<;>simp only[aa,reduceCtorEq]at hc<;>(subst hc;simp[cE]at h)
 | store T x z =>
  simp only[compile,gl]at hc;split at hc<;>simp only[aa,reduceCtorEq]at hc;rename_i x' z' t hx hz ht;subst hc;exact Xn hF hS gl ht hx hz h ff
 | nilCheck x =>
  simp only[compile,gl,ar]at hc;obtain⟨x',hx,rfl⟩:=hc;simp[cE]at h
 | binOp op T x z yT =>
  simp only[compile,gl]at hc;split at hc<;>(try simp only[reduceCtorEq]at hc);split at hc
  ·split at hc
   ·simp only[aa]at hc;subst hc;simp[cE]at h
   ·split at hc
    ·simp only[aa]at hc;subst hc;simp[cE]at h
    ·simp only[ar]at hc;obtain⟨ks,hk,rfl⟩:=hc;simp[cE]at h
  ·simp only[aa]at hc;subst hc;simp[cE]at h
 | unOp op T x =>
  simp only[compile,gl,ar]at hc;obtain⟨x',hx,rfl⟩:=hc;simp[cE]at h
 | convert s d x =>
  simp only[compile,gl]at hc;split at hc<;>(try simp only[reduceCtorEq,aa]at hc)
  ·subst hc;simp[cE]at h
  ·split at hc<;>simp only[reduceCtorEq,aa]at hc;subst hc;simp[cE]at h
 | slice T x lo hi mx =>
  cases mx with
  | some m=>simp[compile,gl]at hc
  | none =>
   simp only[compile,gl]at hc;split at hc<;>(try simp only[reduceCtorEq,aa]at hc)
   ·subst hc;simp[cE]at h
   ·split at hc<;>simp only[reduceCtorEq,aa]at hc;subst hc;simp[cE]at h
   ·split at hc<;>(try simp only[reduceCtorEq]at hc);split at hc<;>simp only[reduceCtorEq,aa]at hc;subst hc;simp[cE]at h
 | fieldAddr T x f =>
  simp only[compile,gl]at hc;split at hc<;>(try simp only[reduceCtorEq]at hc);split at hc<;>(try simp only[reduceCtorEq]at hc);split at hc<;>(try simp only[reduceCtorEq]at hc);split at hc<;>simp only[reduceCtorEq,aa]at hc;subst hc;simp[cE]at h
 | indexAddr T x k =>
  simp only[compile,gl]at hc;split at hc<;>(try simp only[reduceCtorEq]at hc)
  all_goals
   split at hc<;>simp only[reduceCtorEq,aa]at hc;subst hc;simp[cE]at h
 | index T x k =>
  simp only[compile,gl]at hc;split at hc<;>simp only[reduceCtorEq,aa]at hc;subst hc;simp[cE]at h
 | extract x k =>
  simp only[compile,gl,ar]at hc;obtain⟨x',hx,rfl⟩:=hc;simp[cE]at h
 | makeSlice T l c =>
  simp only[compile,gl]at hc;split at hc<;>(try simp only[reduceCtorEq]at hc);rename_i E hT;split at hc<;>(try simp only[reduceCtorEq]at hc);rename_i t ht;split at hc<;>(try simp only[reduceCtorEq]at hc);rename_i z l' c' hz hl BT;split at hc<;>(try simp only[reduceCtorEq]at hc);rename_i kR;simp only[ar]at hc;obtain⟨zs,qE,rfl⟩:=hc;exact ajd hF hS gl hT ht hz kR.1 kR.2 qE hl BT h ff
 | lookup T m k ok =>
  simp only[compile,gl]at hc;split at hc<;>(try simp only[reduceCtorEq]at hc);split at hc<;>simp only[reduceCtorEq,aa]at hc;subst hc;simp[cE]at h
 | mapUpdate T m k x =>
  simp only[compile,gl]at hc;split at hc<;>(try simp only[reduceCtorEq]at hc);rename_i K E m' k' x' hT hm hk hx;simp only[ar]at hc;obtain⟨kd,Az,rfl⟩:=hc;exact aaF hF hS gl hT hm hk hx Az h ff
 | makeMap T r =>
  cases r with
  | some r=>simp[compile,gl]at hc
  | none =>
   simp only[compile,gl]at hc;split at hc<;>simp only[reduceCtorEq,aa]at hc;subst hc;exact Xo hS hF gl h
 | call c =>
  simp only[compile,gl]at hc;obtain⟨callee,args,argTypes⟩:=c;unfold mW at hc;dsimp only at hc;split at hc
  ·split at hc<;>simp only[reduceCtorEq,aa]at hc<;>(subst hc;simp[cE]at h)
  ·split at hc<;>simp only[reduceCtorEq,aa]at hc;subst hc;simp[cE]at h
  ·split at hc<;>simp only[reduceCtorEq,aa]at hc;subst hc;simp[cE]at h
  ·rename_i x z T U e1 e2;have ea:args=#[x,z]:=by cases args;simp_all
   have et:argTypes=#[T,U]:=by cases argTypes;simp_all
   subst ea;subst et;split at hc<;>(try simp only[reduceCtorEq]at hc);rename_i E x' z' hT hx hz;split at hc<;>(try simp only[reduceCtorEq]at hc);rename_i t ht;split at hc<;>(try simp only[reduceCtorEq]at hc);rename_i zv hzv;split at hc
   ·rename_i hTU;subst hTU;split at hc<;>simp only[reduceCtorEq,aa]at hc;rename_i kR;subst hc;exact afk hS hF gl hT ht hzv kR.1 kR.2 hx hz h ff
   ·split at hc<;>(try simp only[reduceCtorEq]at hc);rename_i hU;split at hc<;>simp only[reduceCtorEq,aa]at hc;rename_i kR;subst hc
    have qE:zv.cells.size=t.size:=by
     obtain⟨h1,_,h2⟩:=kR;rw[h1];cases zv<;>first | rfl | simp[Ks]at h2
    exact aaH hS hF gl hT hU ht hzv kR.1 kR.2.1 qE hx hz h ff
  ·split at hc<;>(try simp only[reduceCtorEq]at hc);split at hc<;>(try simp only[reduceCtorEq]at hc);simp only[ar]at hc;obtain⟨zs,_,rfl⟩:=hc;simp[cE]at h
  ·simp only[ar]at hc;obtain⟨zs,_,rfl⟩:=hc;simp[cE]at h
  ·simp at hc
 | makeFunc fn first caps =>
  cases fn with
  | func f =>
   simp only[compile,gl]at hc;split at hc<;>simp only[ar,reduceCtorEq]at hc;obtain⟨ys,_,rfl⟩:=hc;simp[cE]at h
  | _=>simp[compile,gl]at hc
 | _=>simp[compile,gl]at hc
end
end Go.Pm

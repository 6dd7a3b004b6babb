/- A part of a proof; the claim's last text says of what. -/
import Derived.Laws.Cells
import Derived.Laws.Tables
import Derived.Laws.StructEq
import Derived.Laws.Slices
import Derived.Laws.Strings3
import Derived.Laws.DeepStrings4
import Derived.Laws.BytesString
import Derived.Laws.Concat
import Derived.Laws.Cover1
import Derived.Laws.Bits
import Derived.Test.YtlakkaamfadipaaGreatDoorL3
set_option linter.all false

namespace Go.Pm
open Go Go.RowKit
theorem bsize(s:ByteArray):s.size=s.data.toList.length:=by rw[aF];rfl
theorem grownBy_refl(w:World)(row:Option Nat):w.grownBy w row:=⟨rfl,rfl,rfl,aq _,fun _ _ _=>rfl⟩
theorem tl{w:World}{J:ae}{μ:Mem}{v:Value}{x:V}(h:tm v=some x):VR w J μ x v:=by
 unfold tm at h;split at h<;>try (simp only[aa,reduceCtorEq]at h;try subst h)
 ·exact .b _
 ·exact .i _ _
 ·split at h
  ·simp only[aa]at h;subst h;exact .s _ _ rfl (by assumption)
  ·simp at h
 ·exact .nil
 ·exact .fp
 ·exact .cV
theorem FR.at{w:World}{J:ae}{μ:Mem}{fr:List V}{a:Act}(h:FR w J μ fr a)(n:Nat):VR w J μ (fr.getD n .u) (a.tmps.getD n undef):=by
 cases hx:fr[n]? with
 | none=>simp only[List.getD,hx,uN];exact .u _
 | some x=>simp only[List.getD,hx,eW];exact h.2.2 n x hx
theorem cn{w:World}{J:ae}{μ:Mem}{fr:List V}{a:Act}(h:FR w J μ fr a){x:Operand}{y:O}(hx:cO x=some y):VR w J μ (ev fr y) (a.eval x):=by
 cases x with
 | tmp t=>simp only[cO,aa]at hx;subst hx;exact h.at t
 | const v =>
  simp only[cO]at hx;cases hv:tm v with
  | none=>simp[hv]at hx
  | some z=>simp only[hv,bL,aa]at hx;subst hx;exact tl hv
 | global g=>simp[cO]at hx
 | func f=>simp only[cO,aa]at hx;subst hx;exact .fn f [] #[] rfl (by simp)
section
variable {w:World} {J:ae} {μ:Mem} {v:Value}
theorem VR.lW{x:Bool}(h:VR w J μ (.b x) v):v=.bool x:=by cases h;rfl
theorem VR.dI{k:IntKind}{n:Int}(h:VR w J μ (.i k n) v):v=.int k n:=by cases h;rfl
theorem VR.kb{l:List UInt8}(h:VR w J μ (.s l) v):∃ x:ByteArray,v=.string x∧x.data.toList=l∧l.length≤maxLen:=by cases h with | s _ x hl hm=>exact⟨x,rfl,hl,hm⟩
theorem VR.kM(h:VR w J μ .nil v):v=.slice none 0 0:=by cases h;rfl
theorem VR.fX{xs:List V}(h:VR w J μ (.agg xs) v):∃ vs:Array Value,v=.agg vs∧xs.length=vs.size∧∀ i x,xs[i]?=some x→VR w J μ x (vs.getD i undef):=by
 cases h with | agg _ vs hl hv=>exact⟨vs,rfl,hl,hv⟩
theorem VR.AL{xs:List V}(h:VR w J μ (.fa xs) v):∃ vs:Array Value,v=.tuple vs∧xs.length=vs.size∧∀ i x,xs[i]?=some x→VR w J μ x (vs.getD i undef):=by
 cases h with | fa _ vs hl hv=>exact⟨vs,rfl,hl,hv⟩
def mb(w:World)(J:ae)(μ:Mem)(xs:List (List V))(sz b o:Nat)(f:Nat→Nat→Value):Prop :=
 (∀ r∈xs,r.length=sz)∧(∀ i j x,eV xs i j=some x→w.cell? ⟨b,o+i*sz+j,none⟩=some (f i j)∧¬ wr J μ b (o+i*sz+j)∧x.pure=true) ∧
 (∀ i j x,eV xs i j=some x→VR w J μ x (f i j))
theorem VR.wB{sz:Nat}{xs:List (List V)}(h:VR w J μ (.sl sz xs) v):(xs=[]∧∃ a,v=.slice a 0 0)∨∃ b o cap f,v=.slice (some ⟨b,o,none⟩) xs.length cap∧xs.length≤cap∧cap≤maxLen∧mb w J μ xs sz b o f:=by
 cases h with
 | yK _=>exact .inl ⟨rfl,_,rfl⟩
 | sle _ a=>exact .inl ⟨rfl,_,rfl⟩
 | sl _ _ b o cap f hlen jL bT hc hv=>exact .inr ⟨b,o,cap,f,rfl,hlen,jL,bT,hc,hv⟩
theorem VR.mH{sz:Nat}{xs:List (List V)}(h:VR w J μ (.lit sz xs) v):(xs=[]∧v=.slice none 0 0)∨∃ b o f,v=.slice (some ⟨b,o,none⟩) xs.length xs.length∧xs.length≤maxLen∧mb w J μ xs sz b o f:=by
 cases h with
 | AG _=>exact .inl ⟨rfl,rfl⟩
 | lit _ _ b o f jL bT hc hv=>exact .inr ⟨b,o,f,rfl,jL,bT,hc,hv⟩
theorem VR.iL{id g:Nat}(h:VR w J μ (.own id g) v){E sz by':Nat}{sh:Bool}{xs:List (List V)}(ho:J[id]?=some (.row E sz by' g sh xs)):v=μ id:=by
 cases h with | own _ _ _ hid h=>exact(h _ _ _ _ _ _ ho).2 rfl
theorem VR.mF{id g lo hi:Nat}(h:VR w J μ (.sub id g lo hi) v){E sz by':Nat}{sh:Bool}{xs:List (List V)}(ho:J[id]?=some (.row E sz by' g sh xs)):lo≤hi∧hi≤xs.length∧v=iR (μ id) lo hi sz:=by
 cases h with | sub _ _ _ _ _ hid h=>exact(h _ _ _ _ _ _ ho).2 rfl
theorem VR.mG{id off:Nat}(h:VR w J μ (.ptr id off) v):∃ b,μ id=.pointer (some ⟨b,0,none⟩)∧v=.pointer (some ⟨b,off,none⟩)∧∃ T cs,J[id]?=some (.box T cs):=by
 cases h with | ptr _ _ b h hm=>exact⟨b,hm,rfl,h⟩
theorem VR.AN{sz:Nat}{xs:List (List V)}{i off:Nat}(h:VR w J μ (.ep sz xs i off) v):∃ (b o:Nat) (f:Nat→Value),v=.pointer (some ⟨b,o+off,none⟩)∧i<xs.length∧(∀ r∈xs,r.length=sz) ∧
  (∀ j x,eV xs i j=some x→w.cell? ⟨b,o+j,none⟩=some (f j)∧¬ wr J μ b (o+j)∧x.pure=true)∧(∀ j x,eV xs i j=some x→VR w J μ x (f j)):=by
 cases h with | ep _ _ _ _ b o f hi bT hc hv=>exact⟨b,o,f,rfl,hi,bT,hc,hv⟩
theorem VR.AM{id g i off:Nat}(h:VR w J μ (.rp id g i off) v){E sz by':Nat}{sh:Bool}{xs:List (List V)}(ho:J[id]?=some (.row E sz by' g sh xs)):i<xs.length∧v=S9 (μ id) i off sz:=by
 cases h with | rp _ _ _ _ _ hid h=>exact(h _ _ _ _ _ _ ho).2 rfl
theorem VR.wC(h:VR w J μ .cV v):v=.map none:=by cases h;rfl
theorem VR.Ex{id:Nat}(h:VR w J μ (.it id) v):v=μ id∧∃ st m E n ps c,J[id]?=some (.iter st m E n ps c):=by
 cases h with | it _ _ h hm=>exact⟨hm.symm,h⟩
theorem VR.Gb{id n:Nat}(h:VR w J μ (.r7 id n) v):∃ b,v=.slice (some ⟨b,0,none⟩) n n∧μ id=.pointer (some ⟨b,0,none⟩)∧∃ T cs,J[id]?=some (.box T cs):=by
 cases h with | r7 _ _ b h hm=>exact⟨b,rfl,hm,h⟩
theorem VR.oV{id:Nat}(h:VR w J μ (.mp id) v):∃ r,v=.map (some r)∧μ id=.map (some r)∧∃ K E es,J[id]?=some (.map K E es):=by
 cases h with | mp _ r h hm=>exact⟨r,rfl,hm,h⟩
end
theorem eP{xs:List (List V)}{i j:Nat}{x:V}(h:eV xs i j=some x):∃ r,xs[i]?=some r∧r[j]?=some x:=by
 unfold eV at h;cases hx:xs[i]? with
 | none=>simp[hx]at h
 | some r=>simp only[hx,ey]at h;exact⟨r,rfl,h⟩
theorem l8{xs:List (List V)}{i j:Nat}{r:List V}(h:xs[i]?=some r):eV xs i j=r[j]?:=by simp[eV,h]
theorem yN{xs:List (List V)}{sz:Nat}(bT:∀ r∈xs,r.length=sz){i j:Nat}(hi:i<xs.length)(hj:j<sz):∃ x,eV xs i j=some x:=by
 have hr:=bT xs[i] (cg hi);exact⟨xs[i][j]'(by omega),by simp[eV,an hi,an (show j<xs[i].length by omega)]⟩
def Yields(P:Program)(o:Oper)(a:Act)(w:World)(J:ae)(μ:Mem)(x:V):Prop :=
 ∃ v w',(execOp a.eval o).run P w=.ok (.value v) w'∧w.grownBy w' none∧VR w' J μ x v
theorem Yields.pure{P:Program}{o:Oper}{a:Act}{w:World}{J:ae}{μ:Mem}{x:V}{v:Value}(h:(execOp a.eval o).run P w=.ok (.value v) w)(hv:VR w J μ x v):Yields P o a w J μ x :=
 ⟨v,w,h,grownBy_refl w none,hv⟩
section b9
variable {P:Program} {o:Oper} {a:Act} {w:World} {J:ae} {μ:Mem} {fr:List V} (hF:FR w J μ fr a)
include hF
theorem O8{x:Operand}{y:O}(ho:o.op=.move x∨o.op=.assign x)(hx:cO x=some y):Yields P o a w J μ (ev fr y):=by
 refine .pure (v:=a.eval x) ?_ (cn hF hx);rcases ho with ho | ho<;>simp[execOp,ho]
theorem PY{c x y:Operand}{c' x' y':O}(ho:o.op=.pick c x y)(hc:cO c=some c')(hx:cO x=some x')(hy:cO y=some y'){p:Bool}(hp:ev fr c'=.b p):
  Yields P o a w J μ (match ev fr x',ev fr y' with | .b q,.b r=>.b (bif p then q else r) | q,r=>bif p then q else r):=by
 have h1:=(hp▸cn hF hc).lW;have h2:=cn hF hx;have h3:=cn hF hy;refine .pure (v:=if p then a.eval x else a.eval y) (by simp[execOp,ho,h1,asBool]) ?_;split
 ·rename_i q r hq hr;rw[hq]at h2;rw[hr]at h3;rw[h2.lW,h3.lW];cases p<;>exact .b _
 ·cases p
  ·exact h3
  ·exact h2
theorem WS{op:UnOp}{T:Nat}{x:Operand}{x':O}(ho:o.op=.unOp op T x)(hx:cO x=some x'){ob:Prop}{y:V}(h:aJ fr J (.un op x')=some (ob,y)):Yields P o a w J μ y:=by
 have h1:=cn hF hx;simp only[aJ]at h;split at h
 ·rename_i p hp;simp only[aa,ao]at h;obtain⟨_,rfl⟩:=h;rw[hp]at h1;exact .pure (v:=.bool !p) (by simp[execOp,ho,h1.lW,Op.unary]) (.b _)
 ·rename_i k n hp;simp only[aa,ao]at h;obtain⟨_,rfl⟩:=h;rw[hp]at h1;exact .pure (v:=.int k (k.wrap (0 - n))) (by simp[execOp,ho,h1.dI,Op.unary,Op.intArith]) (.i _ _)
 ·simp at h
theorem SH{s d:TypeId}{x:Operand}{x':O}{k k0:IntKind}(ho:o.op=.convert s d x)(hs:P.underlying s=some (.int k0))(hd:P.underlying d=some (.int k))(hx:cO x=some x'){k1:IntKind}{n:Int}(hp:ev fr x'=.i k1 n):
  Yields P o a w J μ (.i k (k.wrap n)):=by
 have h1:=(hp▸cn hF hx).dI;exact .pure (v:=.int k (k.wrap n)) (by simp[execOp,ho,h1,convert,run_underlying hs,run_underlying hd,Conv.intToInt]) (.i _ _)
theorem SF{x:Operand}{x':O}{k:Nat}(ho:o.op=.extract x k)(hx:cO x=some x'){xs:List V}(hp:ev fr x'=.fa xs){y:V}(hy:xs[k]?=some y):Yields P o a w J μ y:=by
 obtain⟨vs,hv,hl,s8⟩:=(hp▸cn hF hx).AL;have cM:k<vs.size:=by rw[← hl];exact(ab.1 hy).1
 refine .pure (v:=vs.getD k undef) (by simp[execOp,ho,hv,Instr.extract,cM]) (s8 k y hy)
theorem SE(hS:∀ id o,J[id]?=some o→∃ B,uL P B w J μ (μ id) o){T:TypeId}{x:Operand}{x':O}{f:Nat}{fs:Array Field}{fd:Field}{t:TypeInfo}(ho:o.op=.fieldAddr T x f)(hx:cO x=some x')(hT:P.underlying T=some (.struct fs))(hf:fs[f]?=some fd)(ht:P.info? fd.type=some t)(eI:t.size≠0)
  {ob:Prop} {y:V} (h:aJ fr J (.gi fd.offset x')=some (ob,y)):Yields P o a w J μ y:=by
 have h1:=cn hF hx
 have cx:∀ b off,a.eval x=.pointer (some ⟨b,off,none⟩)→(execOp a.eval o).run P w=.ok (.value (.pointer (some ⟨b,off+fd.offset,none⟩))) w:=by
  intro b off he;simp[execOp,ho,he,Instr.fieldAt,run_underlying hT,hf,Instr.sureAddr,fieldPlace,sizeOf,typeInfo,ht,eI,Addr.add_lit]
 simp only[aJ]at h;split at h<;>(try simp only[aa,ao,reduceCtorEq]at h)
 ·rename_i id off hp;obtain⟨_,rfl⟩:=h;rw[hp]at h1;obtain⟨b,hm,hv,hb⟩:=h1.mG;exact .pure (cx b off hv) (.ptr id _ b hb hm)
 ·rename_i sz xs i off hp;obtain⟨_,rfl⟩:=h;rw[hp]at h1;obtain⟨b,o',f',hv,hi,bT,hc,NN⟩:=h1.AN;refine .pure (cx b (o'+off) hv) ?_;have:=VR.ep (w:=w) (J:=J) (μ:=μ) sz xs i (off+fd.offset) b o' f' hi bT hc NN
  rwa [← Nat.add_assoc]at this
 ·rename_i id g i off hp;split at h
  ·rename_i E sz by' g' sh xs ho';split at h<;>simp only[aa,ao,reduceCtorEq]at h;rename_i hg;subst hg;obtain⟨_,rfl⟩:=h;rw[hp]at h1;obtain⟨hi,hv⟩:=h1.AM ho';obtain⟨B,hB⟩:=hS id _ ho';obtain⟨hT',vals,⟨_,hw⟩,_⟩:=hB;rcases hw with⟨_,hn⟩ | ⟨b,cap,cur,hm,_⟩
   ·omega
   ·have hv':a.eval x=.pointer (some ⟨b,i*sz+off,none⟩):=by rw[hv,hm];rfl
    refine .pure (cx b _ hv') (.rp id g i _ _ (ab.1 ho').1 ?_);intro E2 sz2 by2 g2 sh2 xs2 h2;rw[ho']at h2;simp only[aa,Ob.row.injEq]at h2;obtain⟨rfl,rfl,rfl,rfl,rfl,rfl⟩:=h2;exact⟨aq _,fun _=>⟨hi,by rw[hm];simp[S9,iF]⟩⟩
  ·simp at h
end b9
end Go.Pm

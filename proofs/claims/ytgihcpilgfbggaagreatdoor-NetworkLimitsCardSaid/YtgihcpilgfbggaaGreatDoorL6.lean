/- A part of the proof that for every input the law NetworkLimits returns true and leaves its argument as it was. -/
import Derived.Laws.Cells
import Derived.Laws.Tables
import Derived.Laws.StructEq
import Derived.Laws.Slices
import Derived.Laws.Strings3
import Derived.Laws.DeepStrings4
import Derived.Laws.BytesString
import Derived.Laws.Concat
import Derived.Laws.Cover1
import Derived.Laws.Bits
import Derived.Test.YtgihcpilgfbggaaGreatDoorL2
set_option linter.all false

namespace Go.Pm
open Go Go.RowKit
theorem bsize(s:ByteArray):s.size=s.data.toList.length:=by rw[aL];rfl
theorem grownBy_refl(w:World)(row:Option Nat):w.grownBy w row:=⟨rfl,rfl,rfl,aw _,fun _ _ _=>rfl⟩
theorem uR{w:World}{σ:ah}{μ:Mem}{v:Value}{x:V}(h:uS v=some x):VR w σ μ x v:=by
 unfold uS at h;split at h<;>try (simp only[aa,reduceCtorEq]at h;try subst h)
 ·exact .b _
 ·exact .i _ _
 ·split at h
  ·simp only[aa]at h;subst h;exact .s _ _ rfl (by assumption)
  ·simp at h
 ·exact .nil
 ·exact .ie
 ·exact .fE
theorem FR.at{w:World}{σ:ah}{μ:Mem}{fr:List V}{a:Act}(h:FR w σ μ fr a)(n:Nat):VR w σ μ (fr.getD n .u) (a.tmps.getD n undef):=by
 cases hx:fr[n]? with
 | none=>simp only[List.getD,hx,NF];exact .u _
 | some x=>simp only[List.getD,hx,lI];exact h.2.2 n x hx
theorem dK{w:World}{σ:ah}{μ:Mem}{fr:List V}{a:Act}(h:FR w σ μ fr a){x:Operand}{y:O}(hx:cO x=some y):VR w σ μ (ev fr y) (a.eval x):=by
 cases x with
 | tmp t=>simp only[cO,aa]at hx;subst hx;exact h.at t
 | const v =>
  simp only[cO]at hx;cases hv:uS v with
  | none=>simp[hv]at hx
  | some z=>simp only[hv,cg,aa]at hx;subst hx;exact uR hv
 | global g=>simp[cO]at hx
 | func f=>simp only[cO,aa]at hx;subst hx;exact .fn f [] #[] rfl (by simp)
section
variable {w:World} {σ:ah} {μ:Mem} {v:Value}
theorem VR.ow{x:Bool}(h:VR w σ μ (.b x) v):v=.bool x:=by cases h;rfl
theorem VR.gl{k:IntKind}{n:Int}(h:VR w σ μ (.i k n) v):v=.int k n:=by cases h;rfl
theorem VR.lU{l:List UInt8}(h:VR w σ μ (.s l) v):∃ x:ByteArray,v=.string x∧x.data.toList=l∧l.length≤maxLen:=by cases h with | s _ x hl hm=>exact⟨x,rfl,hl,hm⟩
theorem VR.lA(h:VR w σ μ .nil v):v=.slice none 0 0:=by cases h;rfl
theorem VR.nz{xs:List V}(h:VR w σ μ (.agg xs) v):∃ vs:Array Value,v=.agg vs∧xs.length=vs.size∧∀ i x,xs[i]?=some x→VR w σ μ x (vs.getD i undef):=by
 cases h with | agg _ vs hl hv=>exact⟨vs,rfl,hl,hv⟩
theorem VR.Cp{xs:List V}(h:VR w σ μ (.gZ xs) v):∃ vs:Array Value,v=.tuple vs∧xs.length=vs.size∧∀ i x,xs[i]?=some x→VR w σ μ x (vs.getD i undef):=by
 cases h with | gZ _ vs hl hv=>exact⟨vs,rfl,hl,hv⟩
def mY(w:World)(σ:ah)(μ:Mem)(xs:List (List V))(sz b o:Nat)(f:Nat→Nat→Value):Prop :=
 (∀ r∈xs,r.length=sz)∧(∀ i j x,ft xs i j=some x→w.cell? ⟨b,o+i*sz+j,none⟩=some (f i j)∧¬ wr σ μ b (o+i*sz+j)∧x.pure=true) ∧
 (∀ i j x,ft xs i j=some x→VR w σ μ x (f i j))
theorem VR.Cq{sz:Nat}{xs:List (List V)}(h:VR w σ μ (.sl sz xs) v):(xs=[]∧∃ a,v=.slice a 0 0)∨∃ b o cap f,v=.slice (some ⟨b,o,none⟩) xs.length cap∧xs.length≤cap∧cap≤maxLen∧mY w σ μ xs sz b o f:=by
 cases h with
 | zY _=>exact .inl ⟨rfl,_,rfl⟩
 | sle _ a=>exact .inl ⟨rfl,_,rfl⟩
 | sl _ _ b o cap f hlen ku cm hc hv=>exact .inr ⟨b,o,cap,f,rfl,hlen,ku,cm,hc,hv⟩
theorem VR.ny{sz:Nat}{xs:List (List V)}(h:VR w σ μ (.lit sz xs) v):(xs=[]∧v=.slice none 0 0)∨∃ b o f,v=.slice (some ⟨b,o,none⟩) xs.length xs.length∧xs.length≤maxLen∧mY w σ μ xs sz b o f:=by
 cases h with
 | Ce _=>exact .inl ⟨rfl,rfl⟩
 | lit _ _ b o f ku cm hc hv=>exact .inr ⟨b,o,f,rfl,ku,cm,hc,hv⟩
theorem VR.jY{id g:Nat}(h:VR w σ μ (.own id g) v){E sz by':Nat}{sh:Bool}{xs:List (List V)}(ho:σ[id]?=some (.row E sz by' g sh xs)):v=μ id:=by
 cases h with | own _ _ _ hid h=>exact(h _ _ _ _ _ _ ho).2 rfl
theorem VR.nw{id g lo hi:Nat}(h:VR w σ μ (.sub id g lo hi) v){E sz by':Nat}{sh:Bool}{xs:List (List V)}(ho:σ[id]?=some (.row E sz by' g sh xs)):lo≤hi∧hi≤xs.length∧v=jI (μ id) lo hi sz:=by
 cases h with | sub _ _ _ _ _ hid h=>exact(h _ _ _ _ _ _ ho).2 rfl
theorem VR.oT{id off:Nat}(h:VR w σ μ (.ptr id off) v):∃ b,μ id=.pointer (some ⟨b,0,none⟩)∧v=.pointer (some ⟨b,off,none⟩)∧∃ T cs,σ[id]?=some (.box T cs):=by
 cases h with | ptr _ _ b h hm=>exact⟨b,hm,rfl,h⟩
theorem VR.Ct{sz:Nat}{xs:List (List V)}{i off:Nat}(h:VR w σ μ (.ep sz xs i off) v):∃ (b o:Nat) (f:Nat→Value),v=.pointer (some ⟨b,o+off,none⟩)∧i<xs.length∧(∀ r∈xs,r.length=sz) ∧
  (∀ j x,ft xs i j=some x→w.cell? ⟨b,o+j,none⟩=some (f j)∧¬ wr σ μ b (o+j)∧x.pure=true)∧(∀ j x,ft xs i j=some x→VR w σ μ x (f j)):=by
 cases h with | ep _ _ _ _ b o f hi cm hc hv=>exact⟨b,o,f,rfl,hi,cm,hc,hv⟩
theorem VR.Cr{id g i off:Nat}(h:VR w σ μ (.rp id g i off) v){E sz by':Nat}{sh:Bool}{xs:List (List V)}(ho:σ[id]?=some (.row E sz by' g sh xs)):i<xs.length∧v=UC (μ id) i off sz:=by
 cases h with | rp _ _ _ _ _ hid h=>exact(h _ _ _ _ _ _ ho).2 rfl
theorem VR.xO(h:VR w σ μ .fE v):v=.map none:=by cases h;rfl
theorem VR.Cs{id:Nat}(h:VR w σ μ (.mp id) v):∃ r,v=.map (some r)∧μ id=.map (some r)∧∃ K E es,σ[id]?=some (.map K E es):=by
 cases h with | mp _ r h hm=>exact⟨r,rfl,hm,h⟩
end
theorem ib{xs:List (List V)}{i j:Nat}{x:V}(h:ft xs i j=some x):∃ r,xs[i]?=some r∧r[j]?=some x:=by
 unfold ft at h;cases hx:xs[i]? with
 | none=>simp[hx]at h
 | some r=>simp only[hx,fY]at h;exact⟨r,rfl,h⟩
theorem mW{xs:List (List V)}{i j:Nat}{r:List V}(h:xs[i]?=some r):ft xs i j=r[j]?:=by simp[ft,h]
theorem z8{xs:List (List V)}{sz:Nat}(cm:∀ r∈xs,r.length=sz){i j:Nat}(hi:i<xs.length)(hj:j<sz):∃ x,ft xs i j=some x:=by
 have hr:=cm xs[i] (dj hi);exact⟨xs[i][j]'(by omega),by simp[ft,ao hi,ao (show j<xs[i].length by omega)]⟩
def Yields(P:Program)(o:Oper)(a:Act)(w:World)(σ:ah)(μ:Mem)(x:V):Prop :=
 ∃ v w',(execOp a.eval o).run P w=.ok (.value v) w'∧w.grownBy w' none∧VR w' σ μ x v
theorem Yields.pure{P:Program}{o:Oper}{a:Act}{w:World}{σ:ah}{μ:Mem}{x:V}{v:Value}(h:(execOp a.eval o).run P w=.ok (.value v) w)(hv:VR w σ μ x v):Yields P o a w σ μ x :=
 ⟨v,w,h,grownBy_refl w none,hv⟩
section cx
variable {P:Program} {o:Oper} {a:Act} {w:World} {σ:ah} {μ:Mem} {fr:List V} (hF:FR w σ μ fr a)
include hF
theorem QB{x:Operand}{y:O}(ho:o.op=.move x∨o.op=.assign x)(hx:cO x=some y):Yields P o a w σ μ (ev fr y):=by
 refine .pure (v:=a.eval x) ?_ (dK hF hx);rcases ho with ho | ho<;>simp[execOp,ho]
theorem Rh{c x y:Operand}{c' x' y':O}(ho:o.op=.pick c x y)(hc:cO c=some c')(hx:cO x=some x')(hy:cO y=some y'){p:Bool}(hp:ev fr c'=.b p):
  Yields P o a w σ μ (match ev fr x',ev fr y' with | .b q,.b r=>.b (bif p then q else r) | q,r=>bif p then q else r):=by
 have h1:=(hp▸dK hF hc).ow;have h2:=dK hF hx;have h3:=dK hF hy;refine .pure (v:=if p then a.eval x else a.eval y) (by simp[execOp,ho,h1,asBool]) ?_;split
 ·rename_i q r hq hr;rw[hq]at h2;rw[hr]at h3;rw[h2.ow,h3.ow];cases p<;>exact .b _
 ·cases p
  ·exact h3
  ·exact h2
theorem Yj{op:UnOp}{T:Nat}{x:Operand}{x':O}(ho:o.op=.unOp op T x)(hx:cO x=some x'){ob:Prop}{y:V}(h:aS fr σ (.un op x')=some (ob,y)):Yields P o a w σ μ y:=by
 have h1:=dK hF hx;simp only[aS]at h;split at h
 ·rename_i p hp;simp only[aa,aA]at h;obtain⟨_,rfl⟩:=h;rw[hp]at h1;exact .pure (v:=.bool !p) (by simp[execOp,ho,h1.ow,Op.unary]) (.b _)
 ·rename_i k n hp;simp only[aa,aA]at h;obtain⟨_,rfl⟩:=h;rw[hp]at h1;exact .pure (v:=.int k (k.wrap (0 - n))) (by simp[execOp,ho,h1.gl,Op.unary,Op.intArith]) (.i _ _)
 ·simp at h
theorem Uk{s d:TypeId}{x:Operand}{x':O}{k k0:IntKind}(ho:o.op=.convert s d x)(hs:P.underlying s=some (.int k0))(hd:P.underlying d=some (.int k))(hx:cO x=some x'){k1:IntKind}{n:Int}(hp:ev fr x'=.i k1 n):
  Yields P o a w σ μ (.i k (k.wrap n)):=by
 have h1:=(hp▸dK hF hx).gl;exact .pure (v:=.int k (k.wrap n)) (by simp[execOp,ho,h1,convert,run_underlying hs,run_underlying hd,Conv.intToInt]) (.i _ _)
theorem Uj{x:Operand}{x':O}{k:Nat}(ho:o.op=.extract x k)(hx:cO x=some x'){xs:List V}(hp:ev fr x'=.gZ xs){y:V}(hy:xs[k]?=some y):Yields P o a w σ μ y:=by
 obtain⟨vs,hv,hl,Cx⟩:=(hp▸dK hF hx).Cp;have eC:k<vs.size:=by rw[← hl];exact(ab.1 hy).1
 refine .pure (v:=vs.getD k undef) (by simp[execOp,ho,hv,Instr.extract,eC]) (Cx k y hy)
theorem Ui(hS:∀ id o,σ[id]?=some o→∃ B,zN P B w σ μ (μ id) o){T:TypeId}{x:Operand}{x':O}{f:Nat}{fs:Array Field}{fd:Field}{t:TypeInfo}(ho:o.op=.fieldAddr T x f)(hx:cO x=some x')(hT:P.underlying T=some (.struct fs))(hf:fs[f]?=some fd)(ht:P.info? fd.type=some t)(fq:t.size≠0)
  {ob:Prop} {y:V} (h:aS fr σ (.eG fd.offset x')=some (ob,y)):Yields P o a w σ μ y:=by
 have h1:=dK hF hx
 have dx:∀ b off,a.eval x=.pointer (some ⟨b,off,none⟩)→(execOp a.eval o).run P w=.ok (.value (.pointer (some ⟨b,off+fd.offset,none⟩))) w:=by
  intro b off he;simp[execOp,ho,he,Instr.fieldAt,run_underlying hT,hf,Instr.sureAddr,fieldPlace,sizeOf,typeInfo,ht,fq,Addr.add_lit]
 simp only[aS]at h;split at h<;>(try simp only[aa,aA,reduceCtorEq]at h)
 ·rename_i id off hp;obtain⟨_,rfl⟩:=h;rw[hp]at h1;obtain⟨b,hm,hv,hb⟩:=h1.oT;exact .pure (dx b off hv) (.ptr id _ b hb hm)
 ·rename_i sz xs i off hp;obtain⟨_,rfl⟩:=h;rw[hp]at h1;obtain⟨b,o',f',hv,hi,cm,hc,Ko⟩:=h1.Ct;refine .pure (dx b (o'+off) hv) ?_;have:=VR.ep (w:=w) (σ:=σ) (μ:=μ) sz xs i (off+fd.offset) b o' f' hi cm hc Ko
  rwa [← Nat.add_assoc]at this
 ·rename_i id g i off hp;split at h
  ·rename_i E sz by' g' sh xs ho';split at h<;>simp only[aa,aA,reduceCtorEq]at h;rename_i hg;subst hg;obtain⟨_,rfl⟩:=h;rw[hp]at h1;obtain⟨hi,hv⟩:=h1.Cr ho';obtain⟨B,hB⟩:=hS id _ ho';obtain⟨hT',vals,⟨_,hw⟩,_⟩:=hB;rcases hw with⟨_,hn⟩ | ⟨b,cap,cur,hm,_⟩
   ·omega
   ·have hv':a.eval x=.pointer (some ⟨b,i*sz+off,none⟩):=by rw[hv,hm];rfl
    refine .pure (dx b _ hv') (.rp id g i _ _ (ab.1 ho').1 ?_);intro E2 sz2 by2 g2 sh2 xs2 h2;rw[ho']at h2;simp only[aa,Ob.row.injEq]at h2;obtain⟨rfl,rfl,rfl,rfl,rfl,rfl⟩:=h2;exact⟨aw _,fun _=>⟨hi,by rw[hm];simp[UC,Nat.add_assoc]⟩⟩
  ·simp at h
end cx
end Go.Pm

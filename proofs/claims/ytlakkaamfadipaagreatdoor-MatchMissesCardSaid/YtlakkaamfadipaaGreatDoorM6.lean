/- A part of a proof; the claim's last text says of what. -/
import Derived.Laws.Cells
import Derived.Laws.Tables
import Derived.Laws.StructEq
import Derived.Laws.Slices
import Derived.Laws.Strings3
import Derived.Laws.DeepStrings4
import Derived.Laws.BytesString
import Derived.Laws.Concat
import Derived.Laws.Cover1
import Derived.Laws.Bits
import Derived.Test.YtlakkaamfadipaaGreatDoorM2
set_option linter.all false
open Option renaming some->N,none->Y
open List renaming length->F

namespace Go.Pm
open Go Go.RowKit
variable{R:Act}{X:Mem}{T:aT}{U:ag}{S:ao}
def bsize(s:ByteArray):s.size=F s.data.toList:=by rw[aW];rfl
def grownBy_refl(w:aT)(row:bP):w.grownBy w row:=⟨rfl,rfl,rfl,ax _,λ_ _ _=>rfl⟩
def yD{v:Value}{x:V}(h:yE v=N x):VR T U X x v:=by
 unfold yE at h;split at h<;>try (simp only[aa,reduceCtorEq]at h;try subst h)
 .exact .b _
 .exact .i _ _
 .split at h;.simp only[aa]at h;subst h;exact .s _ _ rfl (by assumption)
  simp at h
 .exact .nil
 .exact .gO
 exact .eE
def FR.at(h:FR T U X S R)(n:Nat):VR T U X (S.getD n .u) (R.tmps.getD n undef):=by cases a:S[n]? with|none=>simp only[List.getD,a,Ae];exact .u _|some x=>simp only[List.getD,a,gM];exact h.2.2 n x a
def dp(h:FR T U X S R){x:Operand}{y:O}(a:cO x=N y):VR T U X (ev S y) (R.eval x):=by
 cases x with
 |tmp t=>simp only[cO,aa]at a;subst a;exact h.at t
 |const v =>
  simp only[cO]at a;cases b:yE v with
  |none=>simp[b]at a
  |some z=>simp only[b,b5,aa]at a;subst a;exact yD b
 |global g=>simp[cO]at a
 |func f=>simp only[cO,aa]at a;subst a;exact .fn f [] #[] rfl (by simp)
section
variable {w:aT} {J:ag} {μ:Mem} {v:Value}
def VR.oR{x:Bool}(h:VR w J μ (.b x) v):v=.bool x:=by cases h;rfl
def VR.fE{k:IntKind}{n:Int}(h:VR w J μ (.i k n) v):v=.int k n:=by cases h;rfl
def VR.mi{l:aJ}(h:VR w J μ (.s l) v):∃x:ByteArray,v=.string x/\x.data.toList=l/\F l<=maxLen:=by cases h with|s _ x b a=>exact⟨x,rfl,b,a⟩
def VR.nz(h:VR w J μ .nil v):v=.slice Y 0 0:=by cases h;rfl
def VR.iZ{b:ao}(h:VR w J μ (.agg b) v):∃a:Array Value,v=.agg a/\F b=a.size/\∀i x,b[i]?=N x->VR w J μ x (a.getD i undef):=by cases h with|agg _ a d c=>exact⟨a,rfl,d,c⟩
def VR.Gx{b:ao}(h:VR w J μ (.gy b) v):∃a:Array Value,v=.tuple a/\F b=a.size/\∀i x,b[i]?=N x->VR w J μ x (a.getD i undef):=by cases h with|gy _ a d c=>exact⟨a,rfl,d,c⟩
def pc(w:aT)(J:ag)(μ:Mem)(c:cD)(a b o:Nat)(f:Nat->Nat->Value):Prop :=(∀r∈c,F r=a)/\(∀i j x,gp c i j=N x->w.cell? ⟨b,o+i*a+j,Y⟩=N (f i j)/\¬wr J μ b (o+i*a+j)/\x.pure=true) /\(∀i j x,gp c i j=N x->VR w J μ x (f i j))
def VR.BS{g:Nat}{d:cD}(h:VR w J μ (.sl g d) v):(d=[]/\∃a,v=.slice a 0 0)\/∃b o c f,v=.slice (N ⟨b,o,Y⟩) (F d) c/\F d<=c/\c<=maxLen/\pc w J μ d g b o f:=by cases h with|Dh _=>exact .inl ⟨rfl,_,rfl⟩|sle _ a=>exact .inl ⟨rfl,_,rfl⟩|sl _ _ b o c f e j i l k=>exact .inr ⟨b,o,c,f,rfl,e,j,i,l,k⟩
def VR.pL{c:Nat}{a:cD}(h:VR w J μ (.lit c a) v):(a=[]/\v=.slice Y 0 0)\/∃b o f,v=.slice (N ⟨b,o,Y⟩) (F a) (F a)/\F a<=maxLen/\pc w J μ a c b o f:=by cases h with|Gt _=>exact .inl ⟨rfl,rfl⟩|lit _ _ b o f d i g e=>exact .inr ⟨b,o,f,rfl,d,i,g,e⟩
def VR.kE{id g:Nat}(h:VR w J μ (.own id g) v){E b a:Nat}{f:Bool}{d:cD}(c:J[id]?=N (.row E b a g f d)):v=μ id:=by cases h with|own _ _ _ e h=>exact(h _ _ _ _ _ _ c).2 rfl
def VR.pJ{id g b a:Nat}(h:VR w J μ (.sub id g b a) v){E d c:Nat}{j:Bool}{e:cD}(f:J[id]?=N (.row E d c g j e)):b<=a/\a<=F e/\v=lk (μ id) b a d:=by cases h with|sub _ _ _ _ _ i h=>exact(h _ _ _ _ _ _ f).2 rfl
def VR.pK{id a:Nat}(h:VR w J μ (.ptr id a) v):∃b,μ id=.pointer (N ⟨b,0,Y⟩)/\v=.pointer (N ⟨b,a,Y⟩)/\∃T d,J[id]?=N (.box T d):=by cases h with|ptr _ _ b h c=>exact⟨b,c,rfl,h⟩
def VR.Gz{d:Nat}{c:cD}{i a:Nat}(h:VR w J μ (.ep d c i a) v):∃(b o:Nat) (f:Nat->Value),v=.pointer (N ⟨b,o+a,Y⟩)/\i<F c/\(∀r∈c,F r=d) /\(∀j x,gp c i j=N x->w.cell? ⟨b,o+j,Y⟩=N (f j)/\¬wr J μ b (o+j)/\x.pure=true)/\(∀j x,gp c i j=N x->VR w J μ x (f j)):=by cases h with|ep _ _ _ _ b o f g e l k=>exact⟨b,o,f,rfl,g,e,l,k⟩
def VR.Gy{id g i a:Nat}(h:VR w J μ (.rp id g i a) v){E c b:Nat}{j:Bool}{d:cD}(e:J[id]?=N (.row E c b g j d)):i<F d/\v=rpv (μ id) i a c:=by cases h with|rp _ _ _ _ _ f h=>exact(h _ _ _ _ _ _ e).2 rfl
def VR.BT(h:VR w J μ .eE v):v=.map Y:=by cases h;rfl
def VR.Lc{id:Nat}(h:VR w J μ (.it id) v):v=μ id/\∃a m E n d c,J[id]?=N (.iter a m E n d c):=by cases h with|it _ _ h b=>exact⟨b.symm,h⟩
def VR.Na{id n:Nat}(h:VR w J μ (.sy id n) v):∃b,v=.slice (N ⟨b,0,Y⟩) n n/\μ id=.pointer (N ⟨b,0,Y⟩)/\∃T c,J[id]?=N (.box T c):=by cases h with|sy _ _ b h a=>exact⟨b,rfl,a,h⟩
def VR.ta{id:Nat}(h:VR w J μ (.mp id) v):∃r,v=.map (N r)/\μ id=.map (N r)/\∃K E b,J[id]?=N (.map K E b):=by cases h with|mp _ r h a=>exact⟨r,rfl,a,h⟩
end
variable{i j:Nat}{x:V}{X:cD}
def iD(h:gp X i j=N x):∃r,X[i]?=N r/\r[j]?=N x:=by unfold gp at h;cases a:X[i]? with|none=>simp[a]at h|some r=>simp only[a,iV]at h;exact⟨r,rfl,h⟩
def o7{r:ao}(h:X[i]?=N r):gp X i j=r[j]?:=by simp[gp,h]
def Ei(c:∀r∈X,F r=i){a:Nat}(b:j<F X)(d:a<i):∃x,gp X j a=N x:=by have e:=c X[j] (cS b);exact⟨X[j][a]'(by omega),by simp[gp,an b,an (show a<X[j].length by omega)]⟩
def Yields(P:aM)(o:Oper)(a:Act)(w:aT)(J:ag)(μ:Mem)(x:V):Prop :=∃v b,(execOp a.eval o).run P w=.ok (.value v) b/\w.grownBy b Y/\VR b J μ x v
def Yields.pure{P:aM}{o:Oper}{a:Act}{w:aT}{J:ag}{μ:Mem}{v:Value}(h:(execOp a.eval o).run P w=.ok (.value v) w)(b:VR w J μ x v):Yields P o a w J μ x :=⟨v,w,h,grownBy_refl w Y,b⟩
section de
variable {P:aM} {o:Oper} {a:Act} {w:aT} {J:ag} {μ:Mem} {fr:ao} (hF:FR w J μ fr a)
include hF
theorem Xw{x:Operand}{y:O}(b:o.op=.move x\/o.op=.assign x)(c:cO x=N y):Yields P o a w J μ (ev fr y):=by refine .pure (v:=a.eval x) ?_ (dp hF c);rcases b with b|b<;>simp[execOp,b]
theorem Yl{c x y:Operand}{f g h:O}(j:o.op=.pick c x y)(t:cO c=N f)(m:cO x=N g)(k:cO y=N h){p:Bool}(i:ev fr f=.b p):
  Yields P o a w J μ (match ev fr g,ev fr h with|.b q,.b r=>.b (bif p then q else r)|q,r=>bif p then q else r):=by
 have s:=(i▸dp hF t).oR;have d:=dp hF m;have e:=dp hF k;refine .pure (v:=if p then a.eval x else a.eval y) (by simp[execOp,j,s,asBool]) ?_;split;.rename_i q r n l;rw[n]at d;rw[l]at e;rw[d.oR,e.oR];cases p<;>exact .b _
 cases p;.exact e
 exact d
theorem afU{e:UnOp}{T:Nat}{x:Operand}{g:O}(f:o.op=.unOp e T x)(l:cO x=N g){j:Prop}{y:V}(h:ba fr J (.un e g)=N (j,y)):Yields P o a w J μ y:=by
 have c:=dp hF l;simp only[ba]at h;split at h;.rename_i p d;simp only[aa,aB]at h;obtain⟨_,rfl⟩:=h;rw[d]at c;exact .pure (v:=.bool !p) (by simp[execOp,f,c.oR,Op.unary]) (.b _)
 .rename_i k n d;simp only[aa,aB]at h;obtain⟨_,rfl⟩:=h;rw[d]at c;exact .pure (v:=.int k (k.wrap (0 - n))) (by simp[execOp,f,c.fE,Op.unary,Op.intArith]) (.i _ _)
 simp at h
theorem abh{s d:TypeId}{x:Operand}{b:O}{k h:IntKind}(g:o.op=.convert s d x)(j:P.underlying s=N (.int h))(c:P.underlying d=N (.int k))(m:cO x=N b){e:IntKind}{n:Int}(f:ev fr b=.i e n):
  Yields P o a w J μ (.i k (k.wrap n)):=by have l:=(f▸dp hF m).fE;exact .pure (v:=.int k (k.wrap n)) (by simp[execOp,g,l,convert,run_underlying j,run_underlying c,Conv.intToInt]) (.i _ _)
theorem abf{x:Operand}{e:O}{k:Nat}(g:o.op=.extract x k)(m:cO x=N e){d:ao}(f:ev fr e=.gy d){y:V}(c:d[k]?=N y):Yields P o a w J μ y:=by
 obtain⟨b,i,j,l⟩:=(f▸dp hF m).Gx;have h:k<b.size:=by rw[<- j];exact(ab.1 c).1
 refine .pure (v:=b.getD k undef) (by simp[execOp,g,i,Instr.extract,h]) (l k y c)
theorem abe(hS:∀id o,J[id]?=N o->∃B,Ad P B w J μ (μ id) o){T:TypeId}{x:Operand}{v:O}{f:Nat}{C:Array Field}{k:Field}{t:TypeInfo}(R:o.op=.fieldAddr T x f)(X:cO x=N v)(hT:P.underlying T=N (.struct C))(hf:C[f]?=N k)(G:P.info? k.type=N t)(H:t.size≠0) {L:Prop} {y:V} (h:ba fr J (.fV k.offset v)=N (L,y)):Yields P o a w J μ y:=by
 have e:=dp hF X;have r:∀b c,a.eval x=.pointer (N ⟨b,c,Y⟩)->(execOp a.eval o).run P w=.ok (.value (.pointer (N ⟨b,c+k.offset,Y⟩))) w:=by intro b c he;simp[execOp,R,he,Instr.fieldAt,run_underlying hT,hf,Instr.sureAddr,fieldPlace,sizeOf,typeInfo,G,H,Addr.add_lit]
 simp only[ba]at h;split at h<;>(try simp only[aa,aB,reduceCtorEq]at h);.rename_i id c l;obtain⟨_,rfl⟩:=h;rw[l]at e;obtain⟨b,m,j,I⟩:=e.pK;exact .pure (r b c j) (.ptr id _ b I m)
 .rename_i p z i c l;obtain⟨_,rfl⟩:=h;rw[l]at e;obtain⟨b,D,U,j,q,W,hc,V8⟩:=e.Gz;refine .pure (r b (D+c) j) ?_;have:=VR.ep (w:=w) (J:=J) (μ:=μ) p z i (c+k.offset) b D U q W hc V8;rwa [<- Nat.add_assoc]at this
 rename_i id g i c l;split at h
 .rename_i E p af g' sh z d;split at h<;>simp only[aa,aB,reduceCtorEq]at h;rename_i hg;subst hg;obtain⟨_,rfl⟩:=h;rw[l]at e;obtain⟨q,j⟩:=e.Gy d;obtain⟨B,hB⟩:=hS id _ d;obtain⟨S,u,⟨_,Q⟩,_⟩:=hB;rcases Q with⟨_,hn⟩|⟨b,ad,M,m,_⟩;.omega
  have s:a.eval x=.pointer (N ⟨b,i*p+c,Y⟩):=by rw[j,m];rfl
  refine .pure (r b _ s) (.rp id g i _ _ (ab.1 d).1 ?_);intro E2 K ac g2 ap am n;rw[d]at n;simp only[aa,Ob.row.injEq]at n;obtain⟨rfl,rfl,rfl,rfl,rfl,rfl⟩:=n;exact⟨ax _,λ_=>⟨q,by rw[m];simp[rpv,gB]⟩⟩
 simp at h
end de
end Go.Pm

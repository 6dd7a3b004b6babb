/- A part of a proof; the claim's last text says of what. -/
import Derived.Laws.Cells
import Derived.Laws.Tables
import Derived.Laws.StructEq
import Derived.Laws.Slices
import Derived.Laws.Strings3
import Derived.Laws.DeepStrings4
import Derived.Laws.BytesString
import Derived.Laws.Concat
import Derived.Laws.Cover1
import Derived.Laws.Bits
import Derived.Lib.Strings
import Derived.Laws.BytesArg
import Derived.Test.YtfeddmfijllgmaaGreatDoorB2
set_option linter.all false
open Option renaming some->S,none->Z
open List renaming length->Y

namespace Go.Pm
open Go Go.RowKit
variable{Q:Act}{X:Mem}{R:aB}{T:aj}{U:bQ}
theorem bsize(s:ByteArray):s.size=Y s.data.toList:=by rw[bf];rfl
theorem grownBy_refl(w:bQ)(row:dE):w.grownBy w row:=⟨rfl,rfl,rfl,aM _,λ_ _ _=>rfl⟩
theorem FD{v:Value}{x:V}(h:FE v=S x):VR U T X x v:=by
 unfold FE at h;split at h<;>try (simp only[ab,reduceCtorEq]at h;try subst h)
 .exact .b _
 .exact .i _ _
 .split at h;.simp only[ab]at h;subst h;exact .s _ _ rfl (by assumption)
  simp at h
 .exact .nil
 .exact .mV
 exact .l0
theorem FR.at(h:FR U T X R Q)(n:Nat):VR U T X (R.getD n .u) (Q.tmps.getD n undef):=by cases a:R[n]? with|none=>simp only[List.getD,a,aeY];exact .u _|some x=>simp only[List.getD,a,pY];exact h.2.2 n x a
theorem ix(h:FR U T X R Q){x:Operand}{y:O}(a:cO x=S y):VR U T X (ev R y) (Q.eval x):=by
 cases x with
 |tmp t=>simp only[cO,ab]at a;subst a;exact h.at t
 |const v =>
  simp only[cO]at a;cases b:FE v with
  |none=>simp[b]at a
  |some z=>simp only[b,dV,ab]at a;subst a;exact FD b
 |global g=>simp[cO]at a
 |func f=>simp only[cO,ab]at a;subst a;exact .fn f [] #[] rfl (by simp)
section
variable {w:bQ} {J:aj} {μ:Mem} {v:Value}
theorem VR.xU{x:Bool}(h:VR w J μ (.b x) v):v=.bool x:=by cases h;rfl
theorem VR.kK{k:IntKind}{n:Int}(h:VR w J μ (.i k n) v):v=.int k n:=by cases h;rfl
theorem VR.sG{l:aR}(h:VR w J μ (.s l) v):∃x:ByteArray,v=.string x/\x.data.toList=l/\Y l<=maxLen:=by cases h with|s _ x b a=>exact⟨x,rfl,b,a⟩
theorem VR.pJ(h:VR w J μ .nil v):v=.slice Z 0 0:=by cases h;rfl
theorem VR.wO{b:aB}(h:VR w J μ (.agg b) v):∃a:Array Value,v=.agg a/\Y b=a.size/\∀i x,b[i]?=S x->VR w J μ x (a.getD i undef):=by cases h with|agg _ a d c=>exact⟨a,rfl,d,c⟩
theorem VR.PT{b:aB}(h:VR w J μ (.jg b) v):∃a:Array Value,v=.tuple a/\Y b=a.size/\∀i x,b[i]?=S x->VR w J μ x (a.getD i undef):=by cases h with|jg _ a d c=>exact⟨a,rfl,d,c⟩
def we(w:bQ)(J:aj)(μ:Mem)(a:fx)(c b o:Nat)(f:Nat->Nat->Value):Prop :=(∀r∈a,Y r=c)/\(∀i j x,gv a i j=S x->w.cell? ⟨b,o+i*c+j,Z⟩=S (f i j)/\¬wr J μ b (o+i*c+j)/\x.pure=true) /\(∀i j x,gv a i j=S x->VR w J μ x (f i j))
theorem VR.JX{g:Nat}{e:fx}(h:VR w J μ (.sl g e) v):(e=[]/\∃a,v=.slice a 0 0)\/∃b o c f,v=.slice (S ⟨b,o,Z⟩) e.length c/\Y e<=c/\c<=maxLen/\we w J μ e g b o f:=by cases h with|FX _=>exact .inl ⟨rfl,_,rfl⟩|sle _ a=>exact .inl ⟨rfl,_,rfl⟩|sl _ _ b o c f d l j k i=>exact .inr ⟨b,o,c,f,rfl,d,l,j,k,i⟩
theorem VR.wN{c:Nat}{a:fx}(h:VR w J μ (.lit c a) v):(a=[]/\v=.slice Z 0 0)\/∃b o f,v=.slice (S ⟨b,o,Z⟩) a.length (Y a)/\Y a<=maxLen/\we w J μ a c b o f:=by cases h with|PO _=>exact .inl ⟨rfl,rfl⟩|lit _ _ b o f g d e i=>exact .inr ⟨b,o,f,rfl,g,d,e,i⟩
theorem VR.nv{id g:Nat}(h:VR w J μ (.own id g) v){E f a:Nat}{d:Bool}{e:fx}(c:J[id]?=S (.row E f a g d e)):v=μ id:=by cases h with|own _ _ _ b h=>exact(h _ _ _ _ _ _ c).2 rfl
theorem VR.wM{id g c a:Nat}(h:VR w J μ (.sub id g c a) v){E e b:Nat}{j:Bool}{d:fx}(i:J[id]?=S (.row E e b g j d)):c<=a/\a<=Y d/\v=pS (μ id) c a e:=by cases h with|sub _ _ _ _ _ f h=>exact(h _ _ _ _ _ _ i).2 rfl
theorem VR.yG{id a:Nat}(h:VR w J μ (.ptr id a) v):∃b,μ id=.pointer (S ⟨b,0,Z⟩)/\v=.pointer (S ⟨b,a,Z⟩)/\∃T d,J[id]?=S (.box T d):=by cases h with|ptr _ _ b h c=>exact⟨b,c,rfl,h⟩
theorem VR.PX{d:Nat}{c:fx}{i a:Nat}(h:VR w J μ (.ep d c i a) v):∃(b o:Nat) (f:Nat->Value),v=.pointer (S ⟨b,o+a,Z⟩)/\i<Y c/\(∀r∈c,Y r=d) /\(∀j x,gv c i j=S x->w.cell? ⟨b,o+j,Z⟩=S (f j)/\¬wr J μ b (o+j)/\x.pure=true)/\(∀j x,gv c i j=S x->VR w J μ x (f j)):=by cases h with|ep _ _ _ _ b o f e k l g=>exact⟨b,o,f,rfl,e,k,l,g⟩
theorem VR.PU{id g i a:Nat}(h:VR w J μ (.rp id g i a) v){E d b:Nat}{j:Bool}{c:fx}(f:J[id]?=S (.row E d b g j c)):i<Y c/\v=rpv (μ id) i a d:=by cases h with|rp _ _ _ _ _ e h=>exact(h _ _ _ _ _ _ f).2 rfl
theorem VR.JY(h:VR w J μ .l0 v):v=.map Z:=by cases h;rfl
theorem VR.PV{id:Nat}(h:VR w J μ (.mp id) v):∃r,v=.map (S r)/\μ id=.map (S r)/\∃K E a,J[id]?=S (.map K E a):=by cases h with|mp _ r h b=>exact⟨r,rfl,b,h⟩
end
variable{i j:Nat}{x:V}{X:fx}
theorem ln(h:gv X i j=S x):∃r,X[i]?=S r/\r[j]?=S x:=by unfold gv at h;cases a:X[i]? with|none=>simp[a]at h|some r=>simp only[a,kz]at h;exact⟨r,rfl,h⟩
theorem v7{r:aB}(h:X[i]?=S r):gv X i j=r[j]?:=by simp[gv,h]
theorem Mq(c:∀r∈X,Y r=i){a:Nat}(b:j<Y X)(d:a<i):∃x,gv X j a=S x:=by have e:=c X[j] (eJ b);exact⟨X[j][a]'(by omega),by simp[gv,aD b,aD (show a<X[j].length by omega)]⟩
def Yields(P:bG)(o:Oper)(a:Act)(w:bQ)(J:aj)(μ:Mem)(x:V):Prop :=∃v b,(execOp a.eval o).run P w=.ok (.value v) b/\w.grownBy b Z/\VR b J μ x v
theorem Yields.pure{P:bG}{o:Oper}{a:Act}{w:bQ}{J:aj}{μ:Mem}{v:Value}(h:(execOp a.eval o).run P w=.ok (.value v) w)(b:VR w J μ x v):Yields P o a w J μ x :=⟨v,w,h,grownBy_refl w Z,b⟩
section fD
variable {P:bG} {o:Oper} {a:Act} {w:bQ} {J:aj} {μ:Mem} {fr:aB} (hF:FR w J μ fr a)
include hF
theorem aiP{x:Operand}{y:O}(b:o.op=.move x\/o.op=.assign x)(c:cO x=S y):Yields P o a w J μ (ev fr y):=by refine .pure (v:=a.eval x) ?_ (ix hF c);rcases b with b|b<;>simp[execOp,b]
theorem ajy{c x y:Operand}{f g h:O}(m:o.op=.pick c x y)(n:cO c=S f)(k:cO x=S g)(t:cO y=S h){p:Bool}(s:ev fr f=.b p):
  Yields P o a w J μ (match ev fr g,ev fr h with|.b q,.b r=>.b (bif p then q else r)|q,r=>bif p then q else r):=by
 have i:=(s▸ix hF n).xU;have d:=ix hF k;have e:=ix hF t;refine .pure (v:=if p then a.eval x else a.eval y) (by simp[execOp,m,i,asBool]) ?_;split;.rename_i q r j l;rw[j]at d;rw[l]at e;rw[d.xU,e.xU];cases p<;>exact .b _
 cases p;.exact e
 exact d
theorem asU{e:UnOp}{T:Nat}{x:Operand}{f:O}(g:o.op=.unOp e T x)(l:cO x=S f){j:Prop}{y:V}(h:ct fr J (.un e f)=S (j,y)):Yields P o a w J μ y:=by
 have c:=ix hF l;simp only[ct]at h;split at h;.rename_i p d;simp only[ab,bm]at h;obtain⟨_,rfl⟩:=h;rw[d]at c;exact .pure (v:=.bool !p) (by simp[execOp,g,c.xU,Op.unary]) (.b _)
 .rename_i k n d;simp only[ab,bm]at h;obtain⟨_,rfl⟩:=h;rw[d]at c;exact .pure (v:=.int k (k.wrap (0 - n))) (by simp[execOp,g,c.kK,Op.unary,Op.intArith]) (.i _ _)
 simp at h
theorem amV{s d:TypeId}{x:Operand}{b:O}{k h:IntKind}(e:o.op=.convert s d x)(c:P.underlying s=S (.int h))(f:P.underlying d=S (.int k))(l:cO x=S b){j:IntKind}{n:Int}(m:ev fr b=.i j n):
  Yields P o a w J μ (.i k (k.wrap n)):=by have g:=(m▸ix hF l).kK;exact .pure (v:=.int k (k.wrap n)) (by simp[execOp,e,g,convert,run_underlying c,run_underlying f,Conv.intToInt]) (.i _ _)
theorem amU{x:Operand}{b:O}{k:Nat}(g:o.op=.extract x k)(j:cO x=S b){d:aB}(l:ev fr b=.jg d){y:V}(e:d[k]?=S y):Yields P o a w J μ y:=by
 obtain⟨c,i,m,f⟩:=(l▸ix hF j).PT;have h:k<c.size:=by rw[<- m];exact(ag.1 e).1
 refine .pure (v:=c.getD k undef) (by simp[execOp,g,i,Instr.extract,h]) (f k y e)
theorem amT(hS:∀id o,J[id]?=S o->∃B,Ma P B w J μ (μ id) o){T:TypeId}{x:Operand}{z:O}{f:Nat}{v:Array Field}{l:Field}{t:TypeInfo}(ho:o.op=.fieldAddr T x f)(K:cO x=S z)(F:P.underlying T=S (.struct v))(I:v[f]?=S l)(M:P.info? l.type=S t)(N:t.size≠0) {ob:Prop} {y:V} (h:ct fr J (.tU l.offset z)=S (ob,y)):Yields P o a w J μ y:=by
 have e:=ix hF K;have u:∀b c,a.eval x=.pointer (S ⟨b,c,Z⟩)->(execOp a.eval o).run P w=.ok (.value (.pointer (S ⟨b,c+l.offset,Z⟩))) w:=by intro b c he;simp[execOp,ho,he,Instr.fieldAt,run_underlying F,I,Instr.sureAddr,fieldPlace,sizeOf,typeInfo,M,N,Addr.add_lit]
 simp only[ct]at h;split at h<;>(try simp only[ab,bm,reduceCtorEq]at h);.rename_i id c k;obtain⟨_,rfl⟩:=h;rw[k]at e;obtain⟨b,m,j,hb⟩:=e.yG;exact .pure (u b c j) (.ptr id _ b hb m)
 .rename_i n C i c k;obtain⟨_,rfl⟩:=h;rw[k]at e;obtain⟨b,A,f',j,q,U,W,p⟩:=e.PX;refine .pure (u b (A+c) j) ?_;have:=VR.ep (w:=w) (J:=J) (μ:=μ) n C i (c+l.offset) b A f' q U W p;rwa [<- Nat.add_assoc]at this
 rename_i id g i c k;split at h
 .rename_i E n Q g' sh C d;split at h<;>simp only[ab,bm,reduceCtorEq]at h;rename_i L;subst L;obtain⟨_,rfl⟩:=h;rw[k]at e;obtain⟨q,j⟩:=e.PU d;obtain⟨B,R⟩:=hS id _ d;obtain⟨am,D,⟨_,hw⟩,_⟩:=R;rcases hw with⟨_,hn⟩|⟨b,an,H,m,_⟩;.omega
  have s:a.eval x=.pointer (S ⟨b,i*n+c,Z⟩):=by rw[j,m];rfl
  refine .pure (u b _ s) (.rp id g i _ _ (ag.1 d).1 ?_);intro E2 X af g2 ad ac r;rw[d]at r;simp only[ab,Ob.row.injEq]at r;obtain⟨rfl,rfl,rfl,rfl,rfl,rfl⟩:=r;exact⟨aM _,λ_=>⟨q,by rw[m];simp[rpv,bP]⟩⟩
 simp at h
end fD
variable{q:Bool}{R:Mem}{b T:Nat}{Q:aj}{U:bG}{X N:bQ}
theorem uV{T:TypeId}(h:mo U T=S q):(isAgg T).run U X=.ok q X:=by
 unfold mo at h;split at h<;>simp only[ab,reduceCtorEq]at h<;>subst h;.rename_i f a;simp[isAgg,run_underlying a]
 .rename_i n e a;simp[isAgg,run_underlying a]
 rename_i d b c a;simp only[isAgg,Sem.run_bind,run_underlying a,Result.andThen_ok];cases d<;>first|rfl|(exact absurd rfl (b _))|(exact absurd rfl (c _ _))
theorem Iy{a:TypeId}{v:Value}(c:mo U a=S false)(d:X.cell? ⟨b,T,Z⟩=S v): (Instr.loadAt a (.pointer (S ⟨b,T,Z⟩))).run U X=.ok v X:=by simp[Instr.loadAt,Instr.sureAddr,loadVar,uV c,d]
theorem Iz{P:bG}{a:TypeId}{t:TypeInfo}(f:Nat->Value)(c:mo P a=S true)(d:P.info? a=S t)(g:∀j,j<t.size->X.cell? ⟨b,T+j,Z⟩=S (f j)):
  (Instr.loadAt a (.pointer (S ⟨b,T,Z⟩))).run P X=.ok (.agg ((List.range t.size).map f).toArray) X:=by have e:=run_loadCells (P:=P) X ⟨b,T,Z⟩ t.size f (λj h=>by rw[Addr.add_lit];exact g j h);simp[Instr.loadAt,Instr.sureAddr,loadVar,uV c,sizeOf,typeInfo,d,e]
theorem sf{a:Array Value}{fr:Nat×Nat}(h:X.heap[b]?=S (.cells a T fr))(j:Nat):X.cell? ⟨b,j,Z⟩=a[j]?:=by simp[World.cell?,h]
theorem l8.rowAt(hS:l8 U b X N Q R){id E e l g:Nat}{f:fx}(C:Q[id]?=S (.row E e l g q f)): Ti U E e l/\(∀r∈f,Y r=e)/\((R id=.slice Z 0 0/\f=[]) \/∃a c d,R id=.slice (S ⟨a,0,Z⟩) f.length c/\N.heap[a]?=S (.cells d E (0,0))/\Y f<=c/\c<=maxLen/\d.size=c*e /\∀i j x,gv f i j=S x->x.pure=true/\∃v,N.cell? ⟨a,i*e+j,Z⟩=S v/\VR N Q R x v):=by
 obtain⟨u,s,⟨I,B⟩,D,t⟩:=hS.obj id _ C;refine⟨u,D,?_⟩;rcases B with⟨m,n⟩|⟨a,c,d,m,n,p,F,A,H,z⟩;.exact .inl ⟨m,cd n⟩
 refine .inr ⟨a,c,d,m,p,F,A,H,λi j x o=>⟨(t i j x o).1,?_⟩⟩;obtain⟨v,k,y⟩:=(t i j x o).2;refine⟨v,?_,y⟩;rw[sf p];rw[<- z]at k;have w:i*e+j<Y f*e:=by
  rcases jP (i*e+j) (Y f*e)with h|h;.exact h
  rw[cH (by simp;omega)]at k;simp at k
 rw[cD w]at k;simpa using k
theorem l8.TI(hS:l8 U b X N Q R){id T:Nat}{d:aB}(i:Q[id]?=S (.box T d)): ∃a c,R id=.pointer (S ⟨a,0,Z⟩)/\b<=a/\N.heap[a]?=S (.cells c T (0,0))/\c.size=Y d/\∀j x,d[j]?=S x->∃u,N.cell? ⟨a,j,Z⟩=S u/\VR N Q R x u:=by obtain⟨a,c,f,g,e,l,n⟩:=hS.obj id _ i;refine⟨a,c,f,g,e,l,λj x h=>?_⟩;obtain⟨u,m,k⟩:=n j x h;exact⟨u,by rw[sf e];exact m,k⟩
theorem SE{P:bG}{J:aj}{μ:Mem}{T:TypeId}{t:TypeInfo}{b off:Nat}{k:dE}{row:aB}(x:P.info? T=S t) (p:(k=Z/\mo P T=S false)\/(k=S t.size/\mo P T=S true)) (d:Nat) (r:∀j y,row[d+j]?=S y->∃u,X.cell? ⟨b,off+j,Z⟩=S u/\VR X J μ y u) : (k=Z->∀y,row[d]?=S y->∃v,(Instr.loadAt T (.pointer (S ⟨b,off,Z⟩))).run P X=.ok v X/\VR X J μ y v) /\(∀n,k=S n->d+n<=Y row->∃v,(Instr.loadAt T (.pointer (S ⟨b,off,Z⟩))).run P X=.ok v X/\VR X J μ (.agg ((row.drop d).take n)) v):=by
 constructor;.rintro rfl y a;obtain⟨u,c,g⟩:=r 0 y a;have e:=p.resolve_right (by simp);exact⟨u,Iy e.2 (by simpa using c),g⟩
 rintro n rfl A;have e:=p.resolve_left (by simp);simp only[ab]at e;obtain⟨rfl,e⟩:=e;have o:∀j,j<t.size->∃u,X.cell? ⟨b,off+j,Z⟩=S u/\∃y,row[d+j]?=S y/\VR X J μ y u:=by
  intro j s;have q:d+j<Y row:=by omega
  obtain⟨u,c,g⟩:=r j row[d+j] (aD q);exact⟨u,c,row[d+j],aD q,g⟩
 let f:Nat->Value:=λj=>(X.cell? ⟨b,off+j,Z⟩).getD undef;have m:∀j,j<t.size->X.cell? ⟨b,off+j,Z⟩=S (f j):=by intro j s;obtain⟨u,c,_⟩:=o j s;simp[f,c]
 refine⟨.agg ((List.range t.size).map f).toArray,Iz f e x m,.agg _ _ (by simp;omega) ?_⟩;intro i y a;have l:i<t.size:=by
  rcases jP i t.size with h|h;.exact h
  rw[cH (by simp;omega)]at a;simp at a
 rw[cD l,ei]at a;obtain⟨u,c,B,g,w⟩:=o i l;rw[g]at a;simp only[ab]at a;subst a;have:(((List.range t.size).map f).toArray.getD i undef)=u:=by
  have z:f i=u:=by simp[f,c]
  simp[l,z]
 rw[this];exact w
theorem Fk{P:bG}{o:Oper}{a:Act}{J:aj}{μ:Mem}{c:TypeId}{x:Operand}{t:TypeInfo}{k:dE}{row:aB} (i:o.op=.load c x) (h:a.eval x=.pointer (S ⟨b,T,Z⟩)) (p:P.info? c=S t) (e:(k=Z/\mo P c=S false)\/(k=S t.size/\mo P c=S true)) (d:Nat) (q:∀j y,row[d+j]?=S y->∃u,X.cell? ⟨b,T+j,Z⟩=S u/\VR X J μ y u) : (k=Z->∀y,row[d]?=S y->Yields P o a X J μ y)/\(∀n,k=S n->d+n<=Y row->Yields P o a X J μ (.agg ((row.drop d).take n))):=by
 obtain⟨l,m⟩:=SE (P:=P) (row:=row) p e d q;constructor;.intro e y s;obtain⟨v,f,g⟩:=l e y s;exact .pure (v:=v) (by simp[execOp,i,h,f]) g
 intro n e r;obtain⟨v,f,g⟩:=m n e r;exact .pure (v:=v) (by simp[execOp,i,h,f]) g
section fD
variable {P:bG} {o:Oper} {a:Act} {B:Nat} {w0 w:bQ} {J:aj} {μ:Mem} {fr:aB} (hF:FR w J μ fr a) (hS:l8 P B w0 w J μ)
include hF hS
theorem aaW{T:TypeId}{x:Operand}{Q:O}{t:TypeInfo}{k:dE}(M:o.op=.load T x)(W:cO x=S Q)(F:P.info? T=S t) (D:(k=Z/\mo P T=S false)\/(k=S t.size/\mo P T=S true)) {R:Prop} {y:V} (h:ct fr J (.load k Q)=S (R,y)) (v:R):Yields P o a w J μ y:=by
 have q:=ix hF W;simp only[ct]at h;split at h
 .rename_i id c A;rw[A]at q;obtain⟨b,H,r,_⟩:=q.yG;split at h
  .rename_i T' cs B;obtain⟨b',vs,n,hB,hh,jl,X⟩:=hS.TI B;rw[H]at n;simp only[Value.pointer.injEq,ab,Addr.mk.injEq,cK]at n;subst n;have m:=Fk (P:=P) (J:=J) (μ:=μ) (row:=cs) (k:=k) M r F D c (λj z d=>X _ z d);split at h
   .split at h;.rename_i z d;simp only[ab,bm]at h;obtain⟨_,rfl⟩:=h;exact m.1 rfl _ d
    simp at h
   simp only[ab,bm]at h;obtain⟨rfl,rfl⟩:=h;exact m.2 _ rfl v
  simp at h
 .rename_i N e i c A;rw[A]at q;obtain⟨b,o',f,r,p,eG,hc,I⟩:=q.PX;have l:e[i]?=S e[i]:=aD p;have m:=Fk (P:=P) (J:=J) (μ:=μ) (row:=e[i]) (k:=k) M r F D c (λj z d=>by
   have C:gv e i (c+j)=S z:=by rw[v7 l];exact d
   exact⟨f (c+j),by rw[bP];exact(hc _ z C).1,I _ z C⟩);split at h
  .split at h;.rename_i z d;simp only[ab,bm]at h;obtain⟨_,rfl⟩:=h;rw[v7 l]at d;exact m.1 rfl _ d
   simp at h
  simp only[ab,bm]at h;obtain⟨rfl,rfl⟩:=h;have s:e.getD i []=e[i]:=by simp[p]
  rw[s]at v |-;exact m.2 _ rfl v
 .rename_i id g i c A;rw[A]at q;split at h
  .rename_i E N ac g' sh e B;split at h
   .rename_i s;subst s;obtain⟨p,r⟩:=q.PU B;obtain⟨_,eG,K⟩:=hS.rowAt B;have l:e[i]?=S e[i]:=aD p;rcases K with⟨_,hn⟩|⟨b,ad,U,H,hh,_,_,_,K⟩;.subst hn;simp at p
    have L:a.eval x=.pointer (S ⟨b,i*N+c,Z⟩):=by rw[r,H];rfl
    have m:=Fk (P:=P) (J:=J) (μ:=μ) (row:=e[i]) (k:=k) M L F D c (λj z d=>by
     have C:gv e i (c+j)=S z:=by rw[v7 l];exact d
     obtain⟨_,u,h3,h4⟩:=K _ _ z C;exact⟨u,by rw[bP];exact h3,h4⟩);split at h
    .split at h;.rename_i z d;simp only[ab,bm]at h;obtain⟨_,rfl⟩:=h;rw[v7 l]at d;exact m.1 rfl _ d
     simp at h
    simp only[ab,bm]at h;obtain⟨rfl,rfl⟩:=h;have s:e.getD i []=e[i]:=by simp[p]
    rw[s]at v |-;exact m.2 _ rfl v
   simp at h
  simp at h
 simp at h
theorem afk{x:Operand}{q:O}(H:o.op=.nilCheck x)(u:cO x=S q){z:Prop}{y:V}(h:ct fr J (.Cn q)=S (z,y)):Yields P o a w J μ y:=by
 have c:=ix hF u;have m:∀n,a.eval x=.pointer (S n)->(execOp a.eval o).run P w=.ok (.value (.pointer (S n))) w:=by intro n C;simp[execOp,H,C]
 simp only[ct]at h;split at h<;>(try simp only[ab,bm,reduceCtorEq]at h);.rename_i id e l;obtain⟨_,rfl⟩:=h;rw[l]at c;have d:=c;obtain⟨b,r,f,K⟩:=c.yG;rw[f]at d;exact .pure (m _ f) d
 .rename_i p A i e l;obtain⟨_,rfl⟩:=h;rw[l]at c;have d:=c;obtain⟨b,N,L,f,_⟩:=c.PX;rw[f]at d;exact .pure (m _ f) d
 rename_i id g i e l;split at h
 .rename_i E p D Q M A k;split at h<;>simp only[ab,bm,reduceCtorEq]at h;rename_i v;subst v;obtain⟨_,rfl⟩:=h;rw[l]at c;have d:=c;obtain⟨s,f⟩:=c.PU k;obtain⟨_,_,F⟩:=hS.rowAt k;rcases F with⟨_,B⟩|⟨b,I,t,r,_⟩;.subst B;simp at s
  have j:a.eval x=.pointer (S ⟨b,i*p+e,Z⟩):=by rw[f,r];rfl
  rw[j]at d;exact .pure (m _ j) d
 simp at h
theorem ajB{x y:Operand}{d e:O}{T ts}(j:o.op=.call { callee:=.builtin .max,args:=#[x,y],argTypes:=ts })(g:cO x=S d)(n:cO y=S e){l:Prop}{z:V}(h:ct fr J (.max2 d e)=S (l,z))(_:T=ts):Yields P o a w J μ z:=by
 have b:=ix hF g;have c:=ix hF n;simp only[ct]at h;split at h;.rename_i k p r q m f;simp only[ab,bm]at h;obtain⟨_,rfl⟩:=h;rw[m]at b;rw[f]at c;refine .pure (v:=.int k (if p<q then q else p)) ?_ (.i _ _);simp[execOp,j,resolve,invoke,builtin,b.kK,c.kK,run_max_int2]
 simp at h
theorem ajA{x y:Operand}{d e:O}{ts}(j:o.op=.call { callee:=.builtin .min,args:=#[x,y],argTypes:=ts })(g:cO x=S d)(n:cO y=S e){l:Prop}{z:V}(h:ct fr J (.min2 d e)=S (l,z)):Yields P o a w J μ z:=by
 have b:=ix hF g;have c:=ix hF n;simp only[ct]at h;split at h;.rename_i k p r q m f;simp only[ab,bm]at h;obtain⟨_,rfl⟩:=h;rw[m]at b;rw[f]at c;refine .pure (v:=.int k (if q<p then q else p)) ?_ (.i _ _);simp[execOp,j,resolve,invoke,builtin,b.kK,c.kK,run_min_int2]
 simp at h
end fD
variable{i:Nat}{T:aj}{U:bQ}{X:fx}
theorem Ew{P:bG}{t e:TypeId}(h:P.underlying t=S (.slice e)):P.elem t=e:=by simp[Program.elem,h]
theorem we.row{μ:Mem}{xs:fx}{sz b o:Nat}{f:Nat->Nat->Value}(h:we U T μ xs sz b o f)(c:i<Y xs)(off:Nat): VR U T μ (.ep sz xs i off) (.pointer (S ⟨b,o+i*sz+off,Z⟩)) := .ep sz xs i off b (o+i*sz) (f i) c h.1 (λj x a=>h.2.1 i j x a) (λj x a=>h.2.2 i j x a)
theorem H0{n a j:Nat}{x:V}(h:gv ((X.drop i).take n) a j=S x):gv X (i+a) j=S x:=by
 obtain⟨r,b,d⟩:=ln h;have c:a<n:=by
  rcases jP a n with h|h;.exact h
  rw[cH (by simp;omega)]at b;simp at b
 rw[cD c,ei]at b;rw[v7 b,d]
theorem we.sub{μ:Mem}{b o:Nat}{f:Nat->Nat->Value}(h:we U T μ X i b o f)(c n:Nat): we U T μ ((X.drop c).take n) i b (o+c*i) (λa j=>f (c+a) j):=by
 refine⟨λr g=>h.1 r (eO (dY g)),λa j x d=>?_,λa j x d=>h.2.2 _ _ _ (H0 d)⟩;have:=h.2.1 _ _ _ (H0 d);have e:o+c*i+a*i+j=o+(c+a)*i+j:=by rw[dK];omega
 rw[e];exact this
theorem Lm{P:bG}{w:bQ}{t e:TypeId}{j:TypeInfo}(m:P.underlying t=S (.slice e))(q:P.info? e=S j)(a:Option Addr)(len b:Nat)(i d:Option Value)(l h:Int) (r:(i=Z/\l=0)\/∃k,i=S (.int k l)) (p:(d=Z/\h=len)\/∃k,d=S (.int k h)) (h0:0<=l) (h1:l<=h) (o:h<=b) : (Instr.sliceAt t (.slice a len b) i d Z).run P w=.ok (pS (.slice a len b) l.toNat h.toNat j.size) w:=by
 have c:P.underlying t=S (.slice (P.elem t)):=by rw[Ew m];exact m
 have g:(sizeOf (P.elem t)).run P w=.ok j.size w:=by rw[Ew m];simp[sizeOf,typeInfo,q]
 have f:0<=h:=by omega
 rw[run_sliceAt_slice (w:=w) t _ i d Z c];have s:(h.toNat:Int)=h:=Int.toNat_of_nonneg f;rcases r with⟨rfl,rfl⟩|⟨k,rfl⟩<;>rcases p with⟨rfl,rfl⟩|⟨n,rfl⟩;.rw[run_slice_all (w:=w) t a len b c,g];simp[sliced,pS]
 .rw[run_slice_h (w:=w) t a len b c n h f o,g];simp[sliced,pS]
 .rw[run_slice_l (w:=w) t a len b c k l h0 h1,g];simp[sliced,pS]
 rw[run_slice_lh (w:=w) t a len b c k n l h h0 h1 o,g];simp[sliced,pS]
theorem Ix{P:bG}{w:bQ}{t:TypeId}(b:P.underlying t=S .string)(s:ByteArray)(d a:Option Value)(l h:Int) (i:(d=Z/\l=0)\/∃k,d=S (.int k l)) (g:(a=Z/\h=s.size)\/∃k,a=S (.int k h)) (h0:0<=l) (h1:l<=h) (f:h<=s.size) : (Instr.sliceAt t (.string s) d a Z).run P w=.ok (.string (s.extract l.toNat h.toNat)) w:=by
 have c:0<=h:=by omega
 rw[run_sliceAt_string (w:=w) t _ d a Z b];rcases i with⟨rfl,rfl⟩|⟨k,rfl⟩<;>rcases g with⟨rfl,rfl⟩|⟨e,rfl⟩;.rw[run_slice_string_all (w:=w) t s b];simp
 .rw[run_slice_string_to_if (w:=w) t s e h b,aQ ⟨c,f⟩];simp
 .rw[run_slice_string_from_if (w:=w) t s k l b,aQ ⟨h0,by omega⟩];simp
 rw[run_slice_string_if (w:=w) t s k e l h b,aQ ⟨c,f⟩,aQ ⟨h0,h1⟩]
theorem Qi(s:ByteArray)(i j:Nat):(s.extract i j).data.toList=(s.data.toList.drop i).take (j - i):=by rw[ByteArray.data_extract,Array.toList_extract,List.extract_eq_take_drop]
section fD
variable {P:bG} {o:Oper} {a:Act} {B:Nat} {w0 w:bQ} {J:aj} {μ:Mem} {fr:aB} (hF:FR w J μ fr a) (hS:l8 P B w0 w J μ)
include hF hS
theorem amS{T E:TypeId}{t:TypeInfo}{x i:Operand}{X i':O}(ho:o.op=.indexAddr T x i)(B:P.underlying T=S (.slice E))(ht:P.info? E=S t)(hx:cO x=S X)(D:cO i=S i') {ob:Prop} {y:V} (h:ct fr J (.idx t.size X i')=S (ob,y)) (e:ob):Yields P o a w J μ y:=by
 have l:=ix hF hx;have z:=ix hF D;have R:P.underlying T=S (.slice (P.elem T)):=by rw[Ew B];exact B
 simp only[ct]at h;split at h
 .rename_i k n v;rw[v]at z;have z:=z.kK;have A:∀b d len c,a.eval x=.slice (S ⟨b,d,Z⟩) len c->0<=n->n<len->(execOp a.eval o).run P w=.ok (.value (.pointer (S ⟨b,d+n.toNat*t.size,Z⟩))) w:=by intro b d len c he Vp sH;simp[execOp,ho,he,z,run_indexAt_slice (w:=w) T _ len c k n R,Vp,sH,Ew B,sizeOf,typeInfo,ht,Addr.add_lit]
  split at h
  .rename_i H L q;split at h<;>simp only[ab,bm,reduceCtorEq]at h;rename_i M;subst M;obtain⟨rfl,rfl⟩:=h;rw[q]at l;rcases l.JX with⟨rfl,_⟩|⟨b,d,c,f,m,_,_,r⟩;.simp at e;omega
   refine .pure (A b d _ c m e.1 e.2) ?_;exact r.row (by omega) 0
  .rename_i H L q;split at h<;>simp only[ab,bm,reduceCtorEq]at h;rename_i M;subst M;obtain⟨rfl,rfl⟩:=h;rw[q]at l;rcases l.wN with⟨rfl,_⟩|⟨b,d,f,m,_,r⟩;.simp at e;omega
   refine .pure (A b d _ _ m e.1 e.2) ?_;exact r.row (by omega) 0
  .rename_i id g q;split at h
   .rename_i E' H U g' sh L j;split at h<;>simp only[ab,bm,reduceCtorEq]at h;rename_i I;obtain⟨rfl,rfl⟩:=I;obtain⟨rfl,rfl⟩:=h;rw[q]at l;have m:=l.nv j;obtain⟨_,_,r⟩:=hS.rowAt j;rcases r with⟨_,v⟩|⟨b,c,F,u,_⟩;.subst v;simp at e;omega
    refine .pure (A b 0 _ c (m.trans u) e.1 e.2) (.rp id g _ _ _ (ag.1 j).1 ?_);intro E2 W Q g2 N K p;rw[j]at p;simp only[ab,Ob.row.injEq]at p;obtain⟨rfl,rfl,rfl,rfl,rfl,rfl⟩:=p;exact⟨aM _,λ_=>⟨by omega,by rw[u];simp[rpv]⟩⟩
   simp at h
  .rename_i id g s D q;split at h
   .rename_i E' H U g' sh L j;split at h<;>simp only[ab,bm,reduceCtorEq]at h;rename_i I;obtain⟨rfl,rfl⟩:=I;obtain⟨rfl,rfl⟩:=h;rw[q]at l;obtain⟨ac,TX,m⟩:=l.wM j;obtain⟨_,_,r⟩:=hS.rowAt j;rcases r with⟨_,v⟩|⟨b,c,F,u,_,J7,_⟩;.subst v;simp at TX;subst TX;simp at e;omega
    have jw:¬c=s:=by omega
    have C:a.eval x=.slice (S ⟨b,s*t.size,Z⟩) (D - s) (c - s):=by rw[m,u];simp[pS,jw,Addr.add_lit]
    refine .pure (A b (s*t.size) _ (c - s) C e.1 e.2) (.rp id g _ _ _ (ag.1 j).1 ?_);intro E2 W Q g2 N K p;rw[j]at p;simp only[ab,Ob.row.injEq]at p;obtain⟨rfl,rfl,rfl,rfl,rfl,rfl⟩:=p;exact⟨aM _,λ_=>⟨by omega,by rw[u];simp[rpv,dK]⟩⟩
   simp at h
  simp at h
 simp at h
theorem ajD{T E:TypeId}{n:Nat}{t:TypeInfo}{x i:Operand}{p q:O}(F:o.op=.indexAddr T x i)(f:P.underlying T=S (.array n E))(H:P.info? E=S t)(C:cO x=S p)(z:cO i=S q) {r:Prop} {y:V} (h:ct fr J (.TO n t.size p q)=S (r,y)) (K:r):Yields P o a w J μ y:=by
 have l:=ix hF C;have d:=ix hF z;have s:P.arrayLen T=n:=by simp[Program.arrayLen,f]
 have j:P.elem T=E:=by simp[Program.elem,f]
 have e:P.underlying T=S (.array (P.arrayLen T) (P.elem T)):=by rw[s,j];exact f
 simp only[ct]at h;split at h<;>simp only[ab,bm,reduceCtorEq]at h;rename_i id c k m L A;obtain⟨rfl,rfl⟩:=h;rw[L]at l;rw[A]at d;obtain⟨b,I,B,u⟩:=l.yG;have d:=d.kK;refine .pure (v:=.pointer (S ⟨b,c+m.toNat*t.size,Z⟩)) ?_ (.ptr id _ b u I);have g:=run_indexAt_array (P:=P) (w:=w) T ⟨b,c,Z⟩ k m e;rw[s,j,aQ K]at g;have D:(sizeOf E).run P w=.ok t.size w:=by simp[sizeOf,typeInfo,H]
 rw[D,Result.andThen_ok,Addr.add_lit]at g;simp only[execOp,F,B,d,Sem.run_bind,g,Result.andThen_ok,Sem.run_pure]
theorem am0{T E:TypeId}{n:Nat}{t:TypeInfo}{x:Operand}{u:O}(W:o.op=.slice T x Z Z Z)(l:P.underlying T=S (.array n E))(M:P.info? E=S t)(U:t.size=1)(d:cO x=S u) {A:Prop} {y:V} (h:ct fr J (.asl n u)=S (A,y)) (iD:A):Yields P o a w J μ y:=by
 have C:=ix hF d;have D:P.arrayLen T=n:=by simp[Program.arrayLen,l]
 have B:P.elem T=E:=by simp[Program.elem,l]
 have m:P.underlying T=S (.array (P.arrayLen T) (P.elem T)):=by rw[D,B];exact l
 simp only[ct]at h;split at h<;>(try simp only[reduceCtorEq]at h);rename_i sz e i Q;split at h<;>simp only[ab,bm,reduceCtorEq]at h;rename_i N;obtain⟨rfl,rfl⟩:=h;rw[Q]at C;obtain⟨b,g,f,H,F,eG,X,R⟩:=C.PX;have I:(sizeOf E).run P w=.ok t.size w:=by simp[sizeOf,typeInfo,M]
 have p:=run_sliceAt_array_all (P:=P) w T ⟨b,g,Z⟩ m;rw[D,B,I,Result.andThen_ok]at p;have K:slicedAt ⟨b,g,Z⟩ 0 n n t.size=.slice (S ⟨b,g,Z⟩) n n:=by simp[slicedAt,Addr.add_lit]
 rw[K]at p;refine .pure (v:=.slice (S ⟨b,g,Z⟩) n n) ?_ ?_;.simp only[execOp,W,H,cu,Option.map_none,Sem.run_bind,p,Result.andThen_ok,Sem.run_pure]
 have z:∀(k j:Nat) (x:V),gv ((e.getD i []).map λc=>[c]) k j=S x->j=0/\gv e i k=S x:=by
  have q:e[i]?=S (e.getD i []):=by simp[aA,aD F]
  intro k j x d;simp only[gv,q,kz];generalize e.getD i []=row at d;simp only[gv,bR]at d;cases s:row[k]? with
  |none=>simp[s]at d
  |some c =>simp only[s,dV,kz]at d;cases j with|zero =>simp only[aC]at d;exact⟨rfl,d⟩|succ j=>simp at d
 have r:=VR.sl (w:=w) (J:=J) (μ:=μ) 1 ((e.getD i []).map λc=>[c]) b g n (λk _=>f k) (by simp only[aa];omega) (by unfold maxLen;omega) (by simp) (λk j x d=>by
   obtain⟨rfl,L⟩:=z k j x d;have:=X k x L;simpa using this)
  (λk j x d=>R k x (z k j x d).2);simp only[aa]at r;rw[N]at r;exact r
theorem ajx{T:TypeId}{x i:Operand}{e f:O}(z:o.op=.index T x i)(p:P.underlying T=S .string)(u:cO x=S e)(r:cO i=S f) {g:Prop} {y:V} (h:ct fr J (.Rj e f)=S (g,y)) (B:g):Yields P o a w J μ y:=by
 have b:=ix hF u;have c:=ix hF r;simp only[ct]at h;split at h<;>simp only[ab,bm,reduceCtorEq]at h;rename_i l k n E C;obtain⟨rfl,rfl⟩:=h;rw[E]at b;rw[C]at c;obtain⟨s,t,j,_⟩:=b.sG;have D:s.size=Y l:=by rw[<- j];exact bsize s
 refine .pure (v:=.int .u8 (l.getD n.toNat 0).toNat) ?_ (.i _ _);have A:0<=n/\n<s.size:=by rw[D];exact B
 have q:n.toNat<Y l:=by omega
 have m:s[n.toNat]'(by omega)=l.getD n.toNat 0:=by subst j;rw[aA,aD q];simp[ByteArray.getElem_eq_getElem_data]
 have d:=run_index_string (P:=P) (w:=w) T s k n p;rw[dif_pos A,m]at d;simp only[execOp,z,t,c.kK,Sem.run_bind,d,Result.andThen_ok,Sem.run_pure]
theorem ajw{T:TypeId}{x:Operand}{b:O}(e:o.op=.call { callee:=.builtin .len,args:=#[x],argTypes:=#[T] })(d:P.underlying T=S .string)(k:cO x=S b) {f:Prop} {y:V} (h:ct fr J (.len true b)=S (f,y)):Yields P o a w J μ y:=by
 have c:=ix hF k;simp only[ct]at h;split at h<;>simp only[ab,bm,reduceCtorEq]at h;rename_i l m;obtain⟨_,rfl⟩:=h;rw[m]at c;obtain⟨s,g,n,_⟩:=c.sG;have j:s.size=Y l:=by rw[<- n];exact bsize s
 refine .pure (v:=.int .i64 (Y l)) ?_ (.i _ _);simp[execOp,e,resolve,invoke,builtin,g,run_len_string (w:=w) T _ s d,goInt,j]
theorem FP{T E:TypeId}{x:Operand}{D:O}(N:o.op=.call { callee:=.builtin .len,args:=#[x],argTypes:=#[T] })(C:P.underlying T=S (.slice E))(H:cO x=S D) {K:Prop} {y:V} (h:ct fr J (.len false D)=S (K,y)):Yields P o a w J μ y:=by
 have e:=ix hF H;have z:P.underlying T=S (.slice (P.elem T)):=by rw[Ew C];exact C
 have k:∀b n c,a.eval x=.slice b n c->Yields P o a w J μ (.i .i64 n):=by intro b n c L;refine .pure (v:=.int .i64 n) ?_ (.i _ _);simp[execOp,N,resolve,invoke,builtin,L,run_len_slice (w:=w) T _ b n c z,goInt]
 simp only[ct]at h;split at h<;>(try simp only[ab,bm,reduceCtorEq]at h);.rename_i j;obtain⟨_,rfl⟩:=h;rw[j]at e;exact k _ _ _ e.pJ
 .rename_i s u j;obtain⟨_,rfl⟩:=h;rw[j]at e;rcases e.wN with⟨rfl,d⟩|⟨b,q,f,d,_⟩;.exact k _ _ _ d
  exact k _ _ _ d
 .rename_i s u j;obtain⟨_,rfl⟩:=h;rw[j]at e;rcases e.JX with⟨rfl,_,d⟩|⟨b,q,p,f,d,_⟩;.exact k _ _ _ d
  exact k _ _ _ d
 .rename_i id g j;split at h
  .rename_i M s A Q I u m;split at h<;>simp only[ab,bm,reduceCtorEq]at h;rename_i t;subst t;obtain⟨_,rfl⟩:=h;rw[j]at e;have d:=e.nv m;obtain⟨_,_,B⟩:=hS.rowAt m;rcases B with⟨l,F⟩|⟨b,p,r,l,_⟩;.subst F;exact k _ _ _ (d.trans l)
   exact k _ _ _ (d.trans l)
  simp at h
 rename_i id g U R j;split at h
 .rename_i M s A Q I u m;split at h<;>simp only[ab,bm,reduceCtorEq]at h;rename_i t;subst t;obtain⟨_,rfl⟩:=h;rw[j]at e;obtain⟨_,_,d⟩:=e.wM m;obtain⟨_,_,B⟩:=hS.rowAt m;rcases B with⟨l,F⟩|⟨b,p,r,l,_⟩;.rw[l]at d;exact k _ _ _ d
  rw[l]at d;exact k _ _ _ d
 simp at h
theorem aaV{T:TypeId}{x:Operand}{d c:Option Operand}{u:O}{f j:Option O}(N:o.op=.slice T x d c Z)(D:P.underlying T=S .string)(F:cO x=S u)(n:B1 d=S f)(m:B1 c=S j) {A:Prop} {y:V} (h:ct fr J (.yr u f j)=S (A,y)) (t:A):Yields P o a w J μ y:=by
 have B:=ix hF F;simp only[ct]at h;split at h
 .rename_i l H;rw[H]at B;obtain⟨s,E,C,R⟩:=B.sG;have U:s.size=Y l:=by rw[<- C];exact bsize s
  split at h<;>simp only[ab,bm,reduceCtorEq]at h;rename_i p q e g;obtain⟨rfl,rfl⟩:=h;have M:(d.map a.eval=Z/\p=0)\/∃k,d.map a.eval=S (.int k p):=by cases d with|none =>simp only[B1,ab]at n;subst n;simp only[ab]at e;exact .inl ⟨rfl,e.symm⟩|some z =>simp only[B1,aL]at n;obtain⟨K,r,rfl⟩:=n;have i:=ix hF r;dsimp only at e;split at e<;>simp only[ab,reduceCtorEq]at e;rename_i k Q b;subst e;rw[b]at i;exact .inr ⟨k,by simp[i.kK]⟩
  have I:(c.map a.eval=Z/\q=s.size)\/∃k,c.map a.eval=S (.int k q):=by cases c with|none =>simp only[B1,ab]at m;subst m;simp only[ab]at g;exact .inl ⟨rfl,by omega⟩|some z =>simp only[B1,aL]at m;obtain⟨K,r,rfl⟩:=m;have i:=ix hF r;dsimp only at g;split at g<;>simp only[ab,reduceCtorEq]at g;rename_i k Q b;subst g;rw[b]at i;exact .inr ⟨k,by simp[i.kK]⟩
  have L:=Ix (P:=P) (w:=w) D s (d.map a.eval) (c.map a.eval) p q M I t.1 t.2.1 (by have:=t.2.2;omega);refine .pure (v:=.string (s.extract p.toNat q.toNat)) ?_ (.s _ _ ?_ ?_);.simp[execOp,N,E,L]
  .rw[Qi,C]
  have:=List.length_take_le (q.toNat - p.toNat) (l.drop p.toNat);have W:Y (l.drop p.toNat)<=Y l:=by simp
  simp only[bj,ca];omega
 simp at h
theorem afi{T E:TypeId}{t:TypeInfo}{x:Operand}{L K:Option Operand}{x':O}{N ac:Option O}(ho:o.op=.slice T x L K Z)(hT:P.underlying T=S (.slice E))(ht:P.info? E=S t)(hx:cO x=S x')(hl:B1 L=S N)(hh:B1 K=S ac) {ob:Prop} {y:V} (h:ct fr J (.slice t.size x' N ac)=S (ob,y)) (s:ob):Yields P o a w J μ y:=by
 have A:=ix hF hx;simp only[ct]at h;split at h;.simp at h
 rename_i n d;split at h
 .rename_i p q I R;have qe:(L.map a.eval=Z/\p=0)\/∃k,L.map a.eval=S (.int k p):=by cases L with|none =>simp only[B1,ab]at hl;subst hl;simp only[ab]at I;exact .inl ⟨rfl,I.symm⟩|some z =>simp only[B1,aL]at hl;obtain⟨z',hz,rfl⟩:=hl;have X:=ix hF hz;dsimp only at I;split at I<;>simp only[ab,reduceCtorEq]at I;rename_i k p' H;subst I;rw[H]at X;exact .inr ⟨k,by simp[X.kK]⟩
  have TX:(K.map a.eval=Z/\q=(n:Int))\/∃k,K.map a.eval=S (.int k q):=by cases K with|none =>simp only[B1,ab]at hh;subst hh;simp only[ab]at R;exact .inl ⟨rfl,by omega⟩|some z =>simp only[B1,aL]at hh;obtain⟨z',hz,rfl⟩:=hh;have X:=ix hF hz;dsimp only at R;split at R<;>simp only[ab,reduceCtorEq]at R;rename_i k p' H;subst R;rw[H]at X;exact .inr ⟨k,by simp[X.kK]⟩
  have M:∀b c,a.eval x=.slice b n c->0<=p->p<=q->q<=c->(execOp a.eval o).run P w=.ok (.value (pS (.slice b n c) p.toNat q.toNat t.size)) w:=by intro b c he j F af;have u:=Lm (P:=P) (w:=w) hT ht b n c (L.map a.eval) (K.map a.eval) p q qe TX j F af;simp[execOp,ho,he,u]
  have W:∀m b i e f,a.eval x=.slice (S ⟨b,i,Z⟩) m.length e->Y m<=e->e<=maxLen->we w J μ m t.size b i f->n=Y m->0<=p/\p<=q/\q<=n ->Yields P o a w J μ (.sl t.size ((m.drop p.toNat).take (q.toNat - p.toNat))):=by
   intro m b i e f he hc CZ u ad ⟨j,F,hqn⟩;subst ad;refine .pure (M _ e he j F (by omega)) ?_;have B:Y ((m.drop p.toNat).take (q.toNat - p.toNat))=q.toNat - p.toNat:=by simp;omega
   by_cases Q:e=p.toNat
   .have:q.toNat - p.toNat=0:=by omega
    simp only[pS,Q,aU,this,jE,iP];exact .sl t.size [] b i 0 (λ_ _=>undef) (by simp) (by simp[maxLen]) (by simp) (by simp[gv]) (by simp[gv])
   simp only[pS,Q,bw,dV,Addr.add_lit];have:=u.sub p.toNat (q.toNat - p.toNat);have h5:=VR.sl (w:=w) (J:=J) (μ:=μ) t.size _ b _ (e - p.toNat) _ (by rw[B];omega) (by omega) this.1 this.2.1 this.2.2;rwa [B]at h5
  split at h;.rename_i D;simp only[ab,bm]at h;obtain⟨rfl,rfl⟩:=h;rw[D]at A d;simp only[ab]at d;obtain⟨rfl,rfl⟩:=s;have l:=A.pJ;subst d;refine .pure (v:=.slice Z 0 0) ?_ .nil;rw[M Z 0 l (by omega) (by omega) (by omega)];simp[pS]
  .rename_i sz m D;simp only[ab,bm]at h;obtain⟨rfl,rfl⟩:=h;rw[D]at A d;dsimp only at d;split at d<;>simp only[ab,reduceCtorEq]at d;rename_i jl;subst jl;rcases A.wN with⟨rfl,l⟩|⟨b,i,f,l,r,u⟩
   .simp only[ai]at d;subst d;have j:p=0:=by omega
    have C:q=0:=by omega
    subst j;subst C;refine .pure (M Z 0 l (by omega) (by omega) (by omega)) ?_;simp only[pS,gO,aU,ar5,ar2,iP];exact .FX _
   exact W m b i _ f l (aM _) r u d.symm s
  .rename_i sz m D;simp only[ab,bm]at h;obtain⟨rfl,rfl⟩:=h;rw[D]at A d;dsimp only at d;split at d<;>simp only[ab,reduceCtorEq]at d;rename_i jl;subst jl;rcases A.JX with⟨rfl,a0,l⟩|⟨b,i,e,f,l,hc,r,u⟩
   .simp only[ai]at d;subst d;have j:p=0:=by omega
    have C:q=0:=by omega
    subst j;subst C;refine .pure (M a0 0 l (by omega) (by omega) (by omega)) ?_;simp only[pS,gO,aU,ar5,ar2,iP];cases a0 with|none=>exact .FX _|some a0=>exact .sle _ a0
   exact W m b i e f l hc r u d.symm s
  .rename_i id g D;simp only[ab,bm]at h;obtain⟨rfl,rfl⟩:=h;rw[D]at A d;dsimp only at d;split at d
   .rename_i E' sz an g' sh m hb;split at d<;>simp only[ab,reduceCtorEq]at d;rename_i hg;obtain⟨rfl,rfl⟩:=hg;subst d;have l:=A.nv hb;obtain⟨_,_,u⟩:=hS.rowAt hb;have U:∀v,μ id=v->VR w J μ (.sub id g p.toNat q.toNat) (pS v p.toNat q.toNat t.size):=by intro v r;refine .sub id g _ _ _ (ag.1 hb).1 ?_;intro E2 ap aE g2 av au h3;rw[hb]at h3;simp only[ab,Ob.row.injEq]at h3;obtain⟨rfl,rfl,rfl,rfl,rfl,rfl⟩:=h3;exact⟨aM _,λ_=>⟨by omega,by omega,by rw[r]⟩⟩
    rcases u with⟨r,d⟩|⟨b,e,am,r,_,pU,_⟩;.subst d;exact .pure (M Z 0 (l.trans r) s.1 s.2.1 (by simpa using s.2.2)) (U _ r)
    exact .pure (M _ e (l.trans r) s.1 s.2.1 (by have:=s.2.2;omega)) (U _ r)
   simp at d
  simp at h
 simp at h
end fD
end Go.Pm

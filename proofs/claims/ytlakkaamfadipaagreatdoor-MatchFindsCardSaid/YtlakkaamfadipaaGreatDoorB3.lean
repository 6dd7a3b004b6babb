/- A part of a proof; the claim's last text says of what. -/
import Derived.Laws.Cells
import Derived.Laws.Tables
import Derived.Laws.StructEq
import Derived.Laws.Slices
import Derived.Laws.Strings3
import Derived.Laws.DeepStrings4
import Derived.Laws.BytesString
import Derived.Laws.Concat
import Derived.Laws.Cover1
import Derived.Laws.Bits
import Derived.Lib.Strings
import Derived.Laws.BytesArg
import Derived.Test.YtlakkaamfadipaaGreatDoorB2
set_option linter.all false

namespace Go.Pm
open Go Go.RowKit
def bsize(s:ByteArray):s.size=s.data.toList.length:=by rw[bh];rfl
def grownBy_refl(w:bD)(row:cU):w.grownBy w row:=⟨rfl,rfl,rfl,aD _,λ_ _ _=>rfl⟩
def Gg{w:bD}{J:ak}{μ:Mem}{v:Value}{x:V}(h:Gh v=some x):VR w J μ x v:=by
 unfold Gh at h;split at h<;>try (simp only[ae,reduceCtorEq]at h;try subst h)
 .exact .b _
 .exact .i _ _
 .split at h
  .simp only[ae]at h;subst h;exact .s _ _ rfl (by assumption)
  .simp at h
 .exact .nil
 .exact .mu
 .exact .jG
def FR.at{w:bD}{J:ak}{μ:Mem}{fr:aB}{a:Act}(h:FR w J μ fr a)(n:Nat):VR w J μ (fr.getD n .u) (a.tmps.getD n undef):=by
 cases b:fr[n]? with
 |none=>simp only[List.getD,b,ue];exact .u _
 |some x=>simp only[List.getD,b,kQ];exact h.2.2 n x b
def fu{w:bD}{J:ak}{μ:Mem}{fr:aB}{a:Act}(h:FR w J μ fr a){x:Operand}{y:O}(b:cO x=some y):VR w J μ (ev fr y) (a.eval x):=by
 cases x with
 |tmp t=>simp only[cO,ae]at b;subst b;exact h.at t
 |const v =>
  simp only[cO]at b;cases c:Gh v with
  |none=>simp[c]at b
  |some z=>simp only[c,cL,ae]at b;subst b;exact Gg c
 |global g=>simp[cO]at b
 |func f=>simp only[cO,ae]at b;subst b;exact .fn f [] #[] rfl (by simp)
section
variable {w:bD} {J:ak} {μ:Mem} {v:Value}
def VR.vE{x:Bool}(h:VR w J μ (.b x) v):v=.bool x:=by cases h;rfl
def VR.iF{k:IntKind}{n:Int}(h:VR w J μ (.i k n) v):v=.int k n:=by cases h;rfl
def VR.qf{l:aG}(h:VR w J μ (.s l) v):∃x:ByteArray,v=.string x/\x.data.toList=l/\l.length<=maxLen:=by cases h with|s _ x b a=>exact⟨x,rfl,b,a⟩
def VR.tl(h:VR w J μ .nil v):v=.slice none 0 0:=by cases h;rfl
def VR.mi{xs:aB}(h:VR w J μ (.agg xs) v):∃a:Array Value,v=.agg a/\xs.length=a.size/\∀i x,xs[i]?=some x->VR w J μ x (a.getD i undef):=by
 cases h with|agg _ a c b=>exact⟨a,rfl,c,b⟩
def VR.Oy{xs:aB}(h:VR w J μ (.iQ xs) v):∃a:Array Value,v=.tuple a/\xs.length=a.size/\∀i x,xs[i]?=some x->VR w J μ x (a.getD i undef):=by
 cases h with|iQ _ a c b=>exact⟨a,rfl,c,b⟩
def v7(w:bD)(J:ak)(μ:Mem)(xs:dF)(sz b o:Nat)(f:Nat->Nat->Value):Prop :=
 (∀r∈xs,r.length=sz)/\(∀i j x,gj xs i j=some x->w.cell? ⟨b,o+i*sz+j,none⟩=some (f i j)/\¬wr J μ b (o+i*sz+j)/\x.pure=true) /\
 (∀i j x,gj xs i j=some x->VR w J μ x (f i j))
def VR.JC{sz:Nat}{xs:dF}(h:VR w J μ (.sl sz xs) v):(xs=[]/\∃a,v=.slice a 0 0)\/∃b o c f,v=.slice (some ⟨b,o,none⟩) xs.length c/\xs.length<=c/\c<=maxLen/\v7 w J μ xs sz b o f:=by
 cases h with
 |K4 _=>exact .inl ⟨rfl,_,rfl⟩
 |sle _ a=>exact .inl ⟨rfl,_,rfl⟩
 |sl _ _ b o c f d e g j i=>exact .inr ⟨b,o,c,f,rfl,d,e,g,j,i⟩
def VR.wZ{sz:Nat}{xs:dF}(h:VR w J μ (.lit sz xs) v):(xs=[]/\v=.slice none 0 0)\/∃b o f,v=.slice (some ⟨b,o,none⟩) xs.length xs.length/\xs.length<=maxLen/\v7 w J μ xs sz b o f:=by
 cases h with
 |Ou _=>exact .inl ⟨rfl,rfl⟩
 |lit _ _ b o f a e d c=>exact .inr ⟨b,o,f,rfl,a,e,d,c⟩
def VR.mK{id g:Nat}(h:VR w J μ (.own id g) v){E sz by':Nat}{sh:Bool}{xs:dF}(a:J[id]?=some (.row E sz by' g sh xs)):v=μ id:=by
 cases h with|own _ _ _ b h=>exact(h _ _ _ _ _ _ a).2 rfl
def VR.wX{id g a hi:Nat}(h:VR w J μ (.sub id g a hi) v){E sz by':Nat}{sh:Bool}{xs:dF}(b:J[id]?=some (.row E sz by' g sh xs)):a<=hi/\hi<=xs.length/\v=pO (μ id) a hi sz:=by
 cases h with|sub _ _ _ _ _ c h=>exact(h _ _ _ _ _ _ b).2 rfl
def VR.wY{id off:Nat}(h:VR w J μ (.ptr id off) v):∃b,μ id=.pointer (some ⟨b,0,none⟩)/\v=.pointer (some ⟨b,off,none⟩)/\∃T cs,J[id]?=some (.box T cs):=by
 cases h with|ptr _ _ b h a=>exact⟨b,a,rfl,h⟩
def VR.OA{sz:Nat}{xs:dF}{i off:Nat}(h:VR w J μ (.ep sz xs i off) v):∃(b o:Nat) (f:Nat->Value),v=.pointer (some ⟨b,o+off,none⟩)/\i<xs.length/\(∀r∈xs,r.length=sz) /\
  (∀j x,gj xs i j=some x->w.cell? ⟨b,o+j,none⟩=some (f j)/\¬wr J μ b (o+j)/\x.pure=true)/\(∀j x,gj xs i j=some x->VR w J μ x (f j)):=by
 cases h with|ep _ _ _ _ b o f a c e d=>exact⟨b,o,f,rfl,a,c,e,d⟩
def VR.Oz{id g i off:Nat}(h:VR w J μ (.rp id g i off) v){E sz by':Nat}{sh:Bool}{xs:dF}(a:J[id]?=some (.row E sz by' g sh xs)):i<xs.length/\v=rpv (μ id) i off sz:=by
 cases h with|rp _ _ _ _ _ b h=>exact(h _ _ _ _ _ _ a).2 rfl
def VR.JD(h:VR w J μ .jG v):v=.map none:=by cases h;rfl
def VR.TM{id:Nat}(h:VR w J μ (.it id) v):v=μ id/\∃a m E n d c,J[id]?=some (.iter a m E n d c):=by
 cases h with|it _ _ h b=>exact⟨b.symm,h⟩
def VR.VE{id n:Nat}(h:VR w J μ (.Af id n) v):∃b,v=.slice (some ⟨b,0,none⟩) n n/\μ id=.pointer (some ⟨b,0,none⟩)/\∃T cs,J[id]?=some (.box T cs):=by
 cases h with|Af _ _ b h a=>exact⟨b,rfl,a,h⟩
def VR.AQ{id:Nat}(h:VR w J μ (.mp id) v):∃r,v=.map (some r)/\μ id=.map (some r)/\∃K E b,J[id]?=some (.map K E b):=by
 cases h with|mp _ r h a=>exact⟨r,rfl,a,h⟩
end
def jz{xs:dF}{i j:Nat}{x:V}(h:gj xs i j=some x):∃r,xs[i]?=some r/\r[j]?=some x:=by
 unfold gj at h;cases a:xs[i]? with
 |none=>simp[a]at h
 |some r=>simp only[a,gv]at h;exact⟨r,rfl,h⟩
def vW{xs:dF}{i j:Nat}{r:aB}(h:xs[i]?=some r):gj xs i j=r[j]?:=by simp[gj,h]
def Mo{xs:dF}{sz:Nat}(a:∀r∈xs,r.length=sz){i j:Nat}(hi:i<xs.length)(b:j<sz):∃x,gj xs i j=some x:=by
 have c:=a xs[i] (dC hi);exact⟨xs[i][j]'(by omega),by simp[gj,ax hi,ax (show j<xs[i].length by omega)]⟩
def Yields(P:bo)(o:Oper)(a:Act)(w:bD)(J:ak)(μ:Mem)(x:V):Prop :=
 ∃v b,(execOp a.eval o).run P w=.ok (.value v) b/\w.grownBy b none/\VR b J μ x v
def Yields.pure{P:bo}{o:Oper}{a:Act}{w:bD}{J:ak}{μ:Mem}{x:V}{v:Value}(h:(execOp a.eval o).run P w=.ok (.value v) w)(b:VR w J μ x v):Yields P o a w J μ x :=
 ⟨v,w,h,grownBy_refl w none,b⟩
section fa
variable {P:bo} {o:Oper} {a:Act} {w:bD} {J:ak} {μ:Mem} {fr:aB} (hF:FR w J μ fr a)
include hF
theorem afN{x:Operand}{y:O}(b:o.op=.move x\/o.op=.assign x)(c:cO x=some y):Yields P o a w J μ (ev fr y):=by
 refine .pure (v:=a.eval x) ?_ (fu hF c);rcases b with b|b<;>simp[execOp,b]
theorem agN{c x y:Operand}{f g h:O}(j:o.op=.pick c x y)(t:cO c=some f)(m:cO x=some g)(k:cO y=some h){p:Bool}(i:ev fr f=.b p):
  Yields P o a w J μ (match ev fr g,ev fr h with|.b q,.b r=>.b (bif p then q else r)|q,r=>bif p then q else r):=by
 have s:=(i▸fu hF t).vE;have d:=fu hF m;have e:=fu hF k;refine .pure (v:=if p then a.eval x else a.eval y) (by simp[execOp,j,s,asBool]) ?_;split
 .rename_i q r n l;rw[n]at d;rw[l]at e;rw[d.vE,e.vE];cases p<;>exact .b _
 .cases p
  .exact e
  .exact d
theorem ao2{e:UnOp}{T:Nat}{x:Operand}{g:O}(f:o.op=.unOp e T x)(l:cO x=some g){j:Prop}{y:V}(h:bT fr J (.un e g)=some (j,y)):Yields P o a w J μ y:=by
 have c:=fu hF l;simp only[bT]at h;split at h
 .rename_i p d;simp only[ae,aQ]at h;obtain⟨_,rfl⟩:=h;rw[d]at c;exact .pure (v:=.bool !p) (by simp[execOp,f,c.vE,Op.unary]) (.b _)
 .rename_i k n d;simp only[ae,aQ]at h;obtain⟨_,rfl⟩:=h;rw[d]at c;exact .pure (v:=.int k (k.wrap (0 - n))) (by simp[execOp,f,c.iF,Op.unary,Op.intArith]) (.i _ _)
 .simp at h
theorem ajO{s d:TypeId}{x:Operand}{b:O}{k h:IntKind}(g:o.op=.convert s d x)(j:P.underlying s=some (.int h))(c:P.underlying d=some (.int k))(m:cO x=some b){e:IntKind}{n:Int}(f:ev fr b=.i e n):
  Yields P o a w J μ (.i k (k.wrap n)):=by
 have l:=(f▸fu hF m).iF;exact .pure (v:=.int k (k.wrap n)) (by simp[execOp,g,l,convert,run_underlying j,run_underlying c,Conv.intToInt]) (.i _ _)
theorem ajM{x:Operand}{d:O}{k:Nat}(g:o.op=.extract x k)(l:cO x=some d){xs:aB}(f:ev fr d=.iQ xs){y:V}(c:xs[k]?=some y):Yields P o a w J μ y:=by
 obtain⟨b,h,i,j⟩:=(f▸fu hF l).Oy;have e:k<b.size:=by rw[<- i];exact(ah.1 c).1
 refine .pure (v:=b.getD k undef) (by simp[execOp,g,h,Instr.extract,e]) (j k y c)
theorem ajL(hS:∀id o,J[id]?=some o->∃B,HE P B w J μ (μ id) o){T:TypeId}{x:Operand}{z:O}{f:Nat}{C:Array Field}{k:Field}{t:TypeInfo}(M:o.op=.fieldAddr T x f)(R:cO x=some z)(hT:P.underlying T=some (.struct C))(hf:C[f]?=some k)(F:P.info? k.type=some t)(S:t.size≠0)
  {I:Prop} {y:V} (h:bT fr J (.pq k.offset z)=some (I,y)):Yields P o a w J μ y:=by
 have e:=fu hF R
 have r:∀b c,a.eval x=.pointer (some ⟨b,c,none⟩)->(execOp a.eval o).run P w=.ok (.value (.pointer (some ⟨b,c+k.offset,none⟩))) w:=by
  intro b c U;simp[execOp,M,U,Instr.fieldAt,run_underlying hT,hf,Instr.sureAddr,fieldPlace,sizeOf,typeInfo,F,S,Addr.add_lit]
 simp only[bT]at h;split at h<;>(try simp only[ae,aQ,reduceCtorEq]at h)
 .rename_i id c l;obtain⟨_,rfl⟩:=h;rw[l]at e;obtain⟨b,m,j,G⟩:=e.wY;exact .pure (r b c j) (.ptr id _ b G m)
 .rename_i p A i c l;obtain⟨_,rfl⟩:=h;rw[l]at e;obtain⟨b,D,Q,j,q,dd,X,u⟩:=e.OA;refine .pure (r b (D+c) j) ?_;have:=VR.ep (w:=w) (J:=J) (μ:=μ) p A i (c+k.offset) b D Q q dd X u
  rwa [<- Nat.add_assoc]at this
 .rename_i id g i c l;split at h
  .rename_i E p aa g' sh A d;split at h<;>simp only[ae,aQ,reduceCtorEq]at h;rename_i Y;subst Y;obtain⟨_,rfl⟩:=h;rw[l]at e;obtain⟨q,j⟩:=e.Oz d;obtain⟨B,hB⟩:=hS id _ d;obtain⟨N,v,⟨_,L⟩,_⟩:=hB;rcases L with⟨_,hn⟩|⟨b,Z,K,m,_⟩
   .omega
   .have s:a.eval x=.pointer (some ⟨b,i*p+c,none⟩):=by rw[j,m];rfl
    refine .pure (r b _ s) (.rp id g i _ _ (ah.1 d).1 ?_);intro E2 H W g2 ac ab n;rw[d]at n;simp only[ae,Ob.row.injEq]at n;obtain⟨rfl,rfl,rfl,rfl,rfl,rfl⟩:=n;exact⟨aD _,λ_=>⟨q,by rw[m];simp[rpv,iW]⟩⟩
  .simp at h
end fa
def pE{P:bo}{w:bD}{T:TypeId}{q:Bool}(h:jC P T=some q):(isAgg T).run P w=.ok q w:=by
 unfold jC at h;split at h<;>simp only[ae,reduceCtorEq]at h<;>subst h
 .rename_i f a;simp[isAgg,run_underlying a]
 .rename_i n e a;simp[isAgg,run_underlying a]
 .rename_i d c b a;simp only[isAgg,Sem.run_bind,run_underlying a,Result.andThen_ok];cases d<;>first|rfl|(exact absurd rfl (c _))|(exact absurd rfl (b _ _))
def IH{P:bo}{w:bD}{T:TypeId}{b off:Nat}{v:Value}(hT:jC P T=some false)(a:w.cell? ⟨b,off,none⟩=some v):
  (Instr.loadAt T (.pointer (some ⟨b,off,none⟩))).run P w=.ok v w:=by
 simp[Instr.loadAt,Instr.sureAddr,loadVar,pE hT,a]
def II{P:bo}{w:bD}{T:TypeId}{t:TypeInfo}{b off:Nat}(f:Nat->Value)(hT:jC P T=some true)(d:P.info? T=some t)(e:∀j,j<t.size->w.cell? ⟨b,off+j,none⟩=some (f j)):
  (Instr.loadAt T (.pointer (some ⟨b,off,none⟩))).run P w=.ok (.agg ((List.range t.size).map f).toArray) w:=by
 have c:=run_loadCells (P:=P) w ⟨b,off,none⟩ t.size f (λj a=>by rw[Addr.add_lit];exact e j a);simp[Instr.loadAt,Instr.sureAddr,loadVar,pE hT,sizeOf,typeInfo,d,c]
def se{w:bD}{b:Nat}{a:Array Value}{T:Nat}{fr:Nat×Nat}(h:w.heap[b]?=some (.cells a T fr))(j:Nat):w.cell? ⟨b,j,none⟩=a[j]?:=by
 simp[World.cell?,h]
def lj.rowAt{P:bo}{B:Nat}{w0 w:bD}{J:ak}{μ:Mem}(hS:lj P B w0 w J μ){id E sz by' g:Nat}{sh:Bool}{xs:dF}(t:J[id]?=some (.row E sz by' g sh xs)):
  Ti P E sz by'/\(∀r∈xs,r.length=sz)/\((μ id=.slice none 0 0/\xs=[]) \/
   ∃b a c,μ id=.slice (some ⟨b,0,none⟩) xs.length a/\w.heap[b]?=some (.cells c E (0,0))/\xs.length<=a/\a<=maxLen/\c.size=a*sz /\
    ∀i j x,gj xs i j=some x->x.pure=true/\∃v,w.cell? ⟨b,i*sz+j,none⟩=some v/\VR w J μ x v):=by
 obtain⟨hT,k,⟨C,s⟩,u,l⟩:=hS.obj id _ t;refine⟨hT,u,?_⟩;rcases s with⟨e,f⟩|⟨b,a,c,e,f,m,o,p,y,q⟩
 .exact .inl ⟨e,aW f⟩
 .refine .inr ⟨b,a,c,e,m,o,p,y,λi j x n=>⟨(l i j x n).1,?_⟩⟩;obtain⟨v,d,z⟩:=(l i j x n).2;refine⟨v,?_,z⟩;rw[se m];rw[<- q]at d
  have A:i*sz+j<xs.length*sz:=by
   rcases kE (i*sz+j) (xs.length*sz)with h|h
   .exact h
   .rw[cI (by simp;omega)]at d;simp at d
  rw[cz A]at d;simpa using d
def lj.Wa{P:bo}{B:Nat}{w0 w:bD}{J:ak}{μ:Mem}(hS:lj P B w0 w J μ){id T:Nat}{cs:aB}(d:J[id]?=some (.box T cs)):
  ∃b a,μ id=.pointer (some ⟨b,0,none⟩)/\B<=b/\w.heap[b]?=some (.cells a T (0,0))/\a.size=cs.length/\∀j x,cs[j]?=some x->∃u,w.cell? ⟨b,j,none⟩=some u/\VR w J μ x u:=by
 obtain⟨b,a,i,e,c,h,l⟩:=hS.obj id _ d;refine⟨b,a,i,e,c,h,λj x f=>?_⟩;obtain⟨u,g,k⟩:=l j x f;exact⟨u,by rw[se c];exact g,k⟩
def Q8{P:bo}{w:bD}{J:ak}{μ:Mem}{T:TypeId}{t:TypeInfo}{b off:Nat}{k:cU}{row:aB}(s:P.info? T=some t)
  (o:(k=none/\jC P T=some false)\/(k=some t.size/\jC P T=some true)) (d:Nat)
  (r:∀j y,row[d+j]?=some y->∃u,w.cell? ⟨b,off+j,none⟩=some u/\VR w J μ y u) :
  (k=none->∀y,row[d]?=some y->∃v,(Instr.loadAt T (.pointer (some ⟨b,off,none⟩))).run P w=.ok v w/\VR w J μ y v) /\
  (∀n,k=some n->d+n<=row.length->∃v,(Instr.loadAt T (.pointer (some ⟨b,off,none⟩))).run P w=.ok v w/\VR w J μ (.agg ((row.drop d).take n)) v):=by
 constructor
 .rintro rfl y a;obtain⟨u,c,e⟩:=r 0 y a;have hT:=o.resolve_right (by simp);exact⟨u,IH hT.2 (by simpa using c),e⟩
 .rintro n rfl B;have hT:=o.resolve_left (by simp);simp only[ae]at hT;obtain⟨rfl,hT⟩:=hT
  have p:∀j,j<t.size->∃u,w.cell? ⟨b,off+j,none⟩=some u/\∃y,row[d+j]?=some y/\VR w J μ y u:=by
   intro j q;have m:d+j<row.length:=by omega
   obtain⟨u,c,e⟩:=r j row[d+j] (ax m);exact⟨u,c,row[d+j],ax m,e⟩
  let f:Nat->Value:=λj=>(w.cell? ⟨b,off+j,none⟩).getD undef
  have l:∀j,j<t.size->w.cell? ⟨b,off+j,none⟩=some (f j):=by
   intro j q;obtain⟨u,c,_⟩:=p j q;simp[f,c]
  refine⟨.agg ((List.range t.size).map f).toArray,II f hT s l,.agg _ _ (by simp;omega) ?_⟩;intro i y a
  have g:i<t.size:=by
   rcases kE i t.size with h|h
   .exact h
   .rw[cI (by simp;omega)]at a;simp at a
  rw[cz g,db]at a;obtain⟨u,c,A,e,z⟩:=p i g;rw[e]at a;simp only[ae]at a;subst a
  have:(((List.range t.size).map f).toArray.getD i undef)=u:=by
   have x:f i=u:=by simp[f,c]
   simp[g,x]
  rw[this];exact z
def FO{P:bo}{o:Oper}{a:Act}{w:bD}{J:ak}{μ:Mem}{T:TypeId}{x:Operand}{t:TypeInfo}{b off:Nat}{k:cU}{row:aB}
  (g:o.op=.load T x) (h:a.eval x=.pointer (some ⟨b,off,none⟩)) (m:P.info? T=some t)
  (c:(k=none/\jC P T=some false)\/(k=some t.size/\jC P T=some true)) (d:Nat)
  (r:∀j y,row[d+j]?=some y->∃u,w.cell? ⟨b,off+j,none⟩=some u/\VR w J μ y u) :
  (k=none->∀y,row[d]?=some y->Yields P o a w J μ y)/\(∀n,k=some n->d+n<=row.length->Yields P o a w J μ (.agg ((row.drop d).take n))):=by
 obtain⟨q,i⟩:=Q8 (P:=P) (row:=row) m c d r;constructor
 .intro c y l;obtain⟨v,e,f⟩:=q c y l;exact .pure (v:=v) (by simp[execOp,g,h,e]) f
 .intro n c p;obtain⟨v,e,f⟩:=i n c p;exact .pure (v:=v) (by simp[execOp,g,h,e]) f
section fa
variable {P:bo} {o:Oper} {a:Act} {B:Nat} {w0 w:bD} {J:ak} {μ:Mem} {fr:aB} (hF:FR w J μ fr a) (hS:lj P B w0 w J μ)
include hF hS
theorem Y2{T:TypeId}{x:Operand}{Q:O}{t:TypeInfo}{k:cU}(F:o.op=.load T x)(X:cO x=some Q)(D:P.info? T=some t)
  (H:(k=none/\jC P T=some false)\/(k=some t.size/\jC P T=some true)) {M:Prop} {y:V} (h:bT fr J (.load k Q)=some (M,y)) (s:M):Yields P o a w J μ y:=by
 have p:=fu hF X;simp only[bT]at h;split at h
 .rename_i id c v;rw[v]at p;obtain⟨b,K,q,_⟩:=p.wY;split at h
  .rename_i T' S C;obtain⟨b',vs,m,hB,hh,jD,pN⟩:=hS.Wa C;rw[K]at m;simp only[Value.pointer.injEq,ae,Addr.mk.injEq,kP]at m;subst m;have l:=FO (P:=P) (J:=J) (μ:=μ) (row:=S) (k:=k) F q D H c (λj z d=>pN _ z d);split at h
   .split at h
    .rename_i z d;simp only[ae,aQ]at h;obtain⟨_,rfl⟩:=h;exact l.1 rfl _ d
    .simp at h
   .simp only[ae,aQ]at h;obtain⟨rfl,rfl⟩:=h;exact l.2 _ rfl s
  .simp at h
 .rename_i N e i c v;rw[v]at p;obtain⟨b,o',f,q,n,dd,Y,L⟩:=p.OA;have A:e[i]?=some e[i]:=ax n
  have l:=FO (P:=P) (J:=J) (μ:=μ) (row:=e[i]) (k:=k) F q D H c (λj z d=>by
   have B:gj e i (c+j)=some z:=by rw[vW A];exact d
   exact⟨f (c+j),by rw[iW];exact(Y _ z B).1,L _ z B⟩)
  split at h
  .split at h
   .rename_i z d;simp only[ae,aQ]at h;obtain⟨_,rfl⟩:=h;rw[vW A]at d;exact l.1 rfl _ d
   .simp at h
  .simp only[ae,aQ]at h;obtain⟨rfl,rfl⟩:=h;have r:e.getD i []=e[i]:=by simp[n]
   rw[r]at s |-;exact l.2 _ rfl s
 .rename_i id g i c v;rw[v]at p;split at h
  .rename_i E N aa g' sh e C;split at h
   .rename_i r;subst r;obtain⟨n,q⟩:=p.Oz C;obtain⟨_,dd,I⟩:=hS.rowAt C;have A:e[i]?=some e[i]:=ax n;rcases I with⟨_,hn⟩|⟨b,Z,U,K,hh,_,_,_,I⟩
    .subst hn;simp at n
    .have G:a.eval x=.pointer (some ⟨b,i*N+c,none⟩):=by rw[q,K];rfl
     have l:=FO (P:=P) (J:=J) (μ:=μ) (row:=e[i]) (k:=k) F G D H c (λj z d=>by
      have B:gj e i (c+j)=some z:=by rw[vW A];exact d
      obtain⟨_,u,W,R⟩:=I _ _ z B;exact⟨u,by rw[iW];exact W,R⟩)
     split at h
     .split at h
      .rename_i z d;simp only[ae,aQ]at h;obtain⟨_,rfl⟩:=h;rw[vW A]at d;exact l.1 rfl _ d
      .simp at h
     .simp only[ae,aQ]at h;obtain⟨rfl,rfl⟩:=h;have r:e.getD i []=e[i]:=by simp[n]
      rw[r]at s |-;exact l.2 _ rfl s
   .simp at h
  .simp at h
 .simp at h
theorem acY{x:Operand}{p:O}(A:o.op=.nilCheck x)(G:cO x=some p){u:Prop}{y:V}(h:bT fr J (.gU p)=some (u,y)):Yields P o a w J μ y:=by
 have c:=fu hF G
 have m:∀n,a.eval x=.pointer (some n)->(execOp a.eval o).run P w=.ok (.value (.pointer (some n))) w:=by
  intro n H;simp[execOp,A,H]
 simp only[bT]at h;split at h<;>(try simp only[ae,aQ,reduceCtorEq]at h)
 .rename_i id e k;obtain⟨_,rfl⟩:=h;rw[k]at c;have d:=c;obtain⟨b,r,f,I⟩:=c.wY;rw[f]at d;exact .pure (m _ f) d
 .rename_i q C i e k;obtain⟨_,rfl⟩:=h;rw[k]at c;have d:=c;obtain⟨b,N,M,f,_⟩:=c.OA;rw[f]at d;exact .pure (m _ f) d
 .rename_i id g i e k;split at h
  .rename_i E q v L K C l;split at h<;>simp only[ae,aQ,reduceCtorEq]at h;rename_i s;subst s;obtain⟨_,rfl⟩:=h;rw[k]at c;have d:=c;obtain⟨D,f⟩:=c.Oz l;obtain⟨_,_,B⟩:=hS.rowAt l;rcases B with⟨_,F⟩|⟨b,t,z,r,_⟩
   .subst F;simp at D
   .have j:a.eval x=.pointer (some ⟨b,i*q+e,none⟩):=by rw[f,r];rfl
    rw[j]at d;exact .pure (m _ j) d
  .simp at h
theorem agQ{x y:Operand}{c e:O}{T ts}(g:o.op=.call { callee:=.builtin .max,args:=#[x,y],argTypes:=ts })(l:cO x=some c)(j:cO y=some e){n:Prop}{z:V}(h:bT fr J (.max2 c e)=some (n,z))(_:T=ts):Yields P o a w J μ z:=by
 have d:=fu hF l;have b:=fu hF j;simp only[bT]at h;split at h
 .rename_i k p r q f m;simp only[ae,aQ]at h;obtain⟨_,rfl⟩:=h;rw[f]at d;rw[m]at b;refine .pure (v:=.int k (if p<q then q else p)) ?_ (.i _ _);simp[execOp,g,resolve,invoke,builtin,d.iF,b.iF,run_max_int2]
 .simp at h
theorem agP{x y:Operand}{c e:O}{ts}(g:o.op=.call { callee:=.builtin .min,args:=#[x,y],argTypes:=ts })(l:cO x=some c)(j:cO y=some e){n:Prop}{z:V}(h:bT fr J (.min2 c e)=some (n,z)):Yields P o a w J μ z:=by
 have d:=fu hF l;have b:=fu hF j;simp only[bT]at h;split at h
 .rename_i k p r q f m;simp only[ae,aQ]at h;obtain⟨_,rfl⟩:=h;rw[f]at d;rw[m]at b;refine .pure (v:=.int k (if q<p then q else p)) ?_ (.i _ _);simp[execOp,g,resolve,invoke,builtin,d.iF,b.iF,run_min_int2]
 .simp at h
end fa
def EO{P:bo}{t e:TypeId}(h:P.underlying t=some (.slice e)):P.elem t=e:=by simp[Program.elem,h]
def v7.row{w:bD}{J:ak}{μ:Mem}{xs:dF}{sz b o:Nat}{f:Nat->Nat->Value}(h:v7 w J μ xs sz b o f){i:Nat}(hi:i<xs.length)(off:Nat):
  VR w J μ (.ep sz xs i off) (.pointer (some ⟨b,o+i*sz+off,none⟩)) :=
 .ep sz xs i off b (o+i*sz) (f i) hi h.1 (λj x a=>h.2.1 i j x a) (λj x a=>h.2.2 i j x a)
def Ia{xs:dF}{b n i j:Nat}{x:V}(h:gj ((xs.drop b).take n) i j=some x):gj xs (b+i) j=some x:=by
 obtain⟨r,a,c⟩:=jz h
 have d:i<n:=by
  rcases kE i n with h|h
  .exact h
  .rw[cI (by simp;omega)]at a;simp at a
 rw[cz d,db]at a;rw[vW a,c]
def v7.sub{w:bD}{J:ak}{μ:Mem}{xs:dF}{sz b o:Nat}{f:Nat->Nat->Value}(h:v7 w J μ xs sz b o f)(a n:Nat):
  v7 w J μ ((xs.drop a).take n) sz b (o+a*sz) (λi j=>f (a+i) j):=by
 refine⟨λr d=>h.1 r (cH (cF d)),λi j x c=>?_,λi j x c=>h.2.2 _ _ _ (Ia c)⟩;have:=h.2.1 _ _ _ (Ia c);have e:o+a*sz+i*sz+j=o+(a+i)*sz+j:=by rw[cJ];omega
 rw[e];exact this
def Li{P:bo}{w:bD}{t e:TypeId}{m:TypeInfo}(j:P.underlying t=some (.slice e))(hi:P.info? e=some m)(a:Option Addr)(len b:Nat)(i d:Option Value)(l h:Int)
  (q:(i=none/\l=0)\/∃k,i=some (.int k l)) (p:(d=none/\h=len)\/∃k,d=some (.int k h)) (h0:0<=l) (h1:l<=h) (n:h<=b) :
  (Instr.sliceAt t (.slice a len b) i d none).run P w=.ok (pO (.slice a len b) l.toNat h.toNat m.size) w:=by
 have c:P.underlying t=some (.slice (P.elem t)):=by rw[EO j];exact j
 have g:(sizeOf (P.elem t)).run P w=.ok m.size w:=by rw[EO j];simp[sizeOf,typeInfo,hi]
 have f:0<=h:=by omega
 rw[run_sliceAt_slice (w:=w) t _ i d none c];have r:(h.toNat:Int)=h:=Int.toNat_of_nonneg f;rcases q with⟨rfl,rfl⟩|⟨k,rfl⟩<;>rcases p with⟨rfl,rfl⟩|⟨o,rfl⟩
 .rw[run_slice_all (w:=w) t a len b c,g];simp[sliced,pO]
 .rw[run_slice_h (w:=w) t a len b c o h f n,g];simp[sliced,pO]
 .rw[run_slice_l (w:=w) t a len b c k l h0 h1,g];simp[sliced,pO]
 .rw[run_slice_lh (w:=w) t a len b c k o l h h0 h1 n,g];simp[sliced,pO]
def IG{P:bo}{w:bD}{t:TypeId}(b:P.underlying t=some .string)(s:ByteArray)(d a:Option Value)(l h:Int)
  (i:(d=none/\l=0)\/∃k,d=some (.int k l)) (g:(a=none/\h=s.size)\/∃k,a=some (.int k h)) (h0:0<=l) (h1:l<=h) (e:h<=s.size) :
  (Instr.sliceAt t (.string s) d a none).run P w=.ok (.string (s.extract l.toNat h.toNat)) w:=by
 have c:0<=h:=by omega
 rw[run_sliceAt_string (w:=w) t _ d a none b];rcases i with⟨rfl,rfl⟩|⟨k,rfl⟩<;>rcases g with⟨rfl,rfl⟩|⟨f,rfl⟩
 .rw[run_slice_string_all (w:=w) t s b];simp
 .rw[run_slice_string_to_if (w:=w) t s f h b,az ⟨c,e⟩];simp
 .rw[run_slice_string_from_if (w:=w) t s k l b,az ⟨h0,by omega⟩];simp
 .rw[run_slice_string_if (w:=w) t s k f l h b,az ⟨c,e⟩,az ⟨h0,h1⟩]
def OU(s:ByteArray)(i j:Nat):(s.extract i j).data.toList=(s.data.toList.drop i).take (j - i):=by
 rw[ByteArray.data_extract,Array.toList_extract,List.extract_eq_take_drop]
section fa
variable {P:bo} {o:Oper} {a:Act} {B:Nat} {w0 w:bD} {J:ak} {μ:Mem} {fr:aB} (hF:FR w J μ fr a) (hS:lj P B w0 w J μ)
include hF hS
theorem ajK{T E:TypeId}{t:TypeInfo}{x i:Operand}{W X:O}(ho:o.op=.indexAddr T x i)(hT:P.underlying T=some (.slice E))(Y:P.info? E=some t)(hx:cO x=some W)(hi:cO i=some X)
  {U:Prop} {y:V} (h:bT fr J (.idx t.size W X)=some (U,y)) (e:U):Yields P o a w J μ y:=by
 have j:=fu hF hx;have B:=fu hF hi;have L:P.underlying T=some (.slice (P.elem T)):=by rw[EO hT];exact hT
 simp only[bT]at h;split at h
 .rename_i k n A;rw[A]at B;have B:=B.iF
  have z:∀b d len c,a.eval x=.slice (some ⟨b,d,none⟩) len c->0<=n->n<len->(execOp a.eval o).run P w=.ok (.value (.pointer (some ⟨b,d+n.toNat*t.size,none⟩))) w:=by
   intro b d len c he TT Ac;simp[execOp,ho,he,B,run_indexAt_slice (w:=w) T _ len c k n L,TT,Ac,EO hT,sizeOf,typeInfo,Y,Addr.add_lit]
  split at h
  .rename_i I M p;split at h<;>simp only[ae,aQ,reduceCtorEq]at h;rename_i Q;subst Q;obtain⟨rfl,rfl⟩:=h;rw[p]at j;rcases j.JC with⟨rfl,_⟩|⟨b,d,c,f,q,_,_,r⟩
   .simp at e;omega
   .refine .pure (z b d _ c q e.1 e.2) ?_;exact r.row (by omega) 0
  .rename_i I M p;split at h<;>simp only[ae,aQ,reduceCtorEq]at h;rename_i Q;subst Q;obtain⟨rfl,rfl⟩:=h;rw[p]at j;rcases j.wZ with⟨rfl,_⟩|⟨b,d,f,q,_,r⟩
   .simp at e;omega
   .refine .pure (z b d _ _ q e.1 e.2) ?_;exact r.row (by omega) 0
  .rename_i id g p;split at h
   .rename_i E' I G g' Z M l;split at h<;>simp only[ae,aQ,reduceCtorEq]at h;rename_i C;obtain⟨rfl,rfl⟩:=C;obtain⟨rfl,rfl⟩:=h;rw[p]at j;have q:=j.mK l;obtain⟨_,_,r⟩:=hS.rowAt l;rcases r with⟨_,A⟩|⟨b,c,H,u,_⟩
    .subst A;simp at e;omega
    .refine .pure (z b 0 _ c (q.trans u) e.1 e.2) (.rp id g _ _ _ (ah.1 l).1 ?_);intro E2 D R g2 N K s;rw[l]at s;simp only[ae,Ob.row.injEq]at s;obtain⟨rfl,rfl,rfl,rfl,rfl,rfl⟩:=s;exact⟨aD _,λ_=>⟨by omega,by rw[u];simp[rpv]⟩⟩
   .simp at h
  .rename_i id g v hi p;split at h
   .rename_i E' I G g' Z M l;split at h<;>simp only[ae,aQ,reduceCtorEq]at h;rename_i C;obtain⟨rfl,rfl⟩:=C;obtain⟨rfl,rfl⟩:=h;rw[p]at j;obtain⟨aa,S,q⟩:=j.wX l;obtain⟨_,_,r⟩:=hS.rowAt l;rcases r with⟨_,A⟩|⟨b,c,H,u,_,Ez,_⟩
    .subst A;simp at S;subst S;simp at e;omega
    .have iR:¬c=v:=by omega
     have TR:a.eval x=.slice (some ⟨b,v*t.size,none⟩) (hi - v) (c - v):=by rw[q,u];simp[pO,iR,Addr.add_lit]
     refine .pure (z b (v*t.size) _ (c - v) TR e.1 e.2) (.rp id g _ _ _ (ah.1 l).1 ?_);intro E2 D R g2 N K s;rw[l]at s;simp only[ae,Ob.row.injEq]at s;obtain⟨rfl,rfl,rfl,rfl,rfl,rfl⟩:=s;exact⟨aD _,λ_=>⟨by omega,by rw[u];simp[rpv,cJ]⟩⟩
   .simp at h
  .rename_i id m p;split at h<;>simp only[ae,aQ,reduceCtorEq]at h;rename_i AS;obtain⟨rfl,rfl⟩:=h;rw[p]at j;obtain⟨b,q,u,F⟩:=j.VE;refine .pure (z b 0 _ _ q e.1 e.2) ?_;rw[AS,Pc,aY];exact .ptr id _ b F u
  .simp at h
 .simp at h
theorem agT{T E:TypeId}{n:Nat}{t:TypeInfo}{x i:Operand}{r p:O}(u:o.op=.indexAddr T x i)(hT:P.underlying T=some (.array n E))(z:P.info? E=some t)(C:cO x=some r)(hi:cO i=some p)
  {q:Prop} {y:V} (h:bT fr J (.Sl n t.size r p)=some (q,y)) (H:q):Yields P o a w J μ y:=by
 have l:=fu hF C;have d:=fu hF hi;have g:P.arrayLen T=n:=by simp[Program.arrayLen,hT]
 have j:P.elem T=E:=by simp[Program.elem,hT]
 have e:P.underlying T=some (.array (P.arrayLen T) (P.elem T)):=by rw[g,j];exact hT
 simp only[bT]at h;split at h<;>simp only[ae,aQ,reduceCtorEq]at h;rename_i id c k m s F;obtain⟨rfl,rfl⟩:=h;rw[s]at l;rw[F]at d;obtain⟨b,D,G,A⟩:=l.wY;have d:=d.iF;refine .pure (v:=.pointer (some ⟨b,c+m.toNat*t.size,none⟩)) ?_ (.ptr id _ b A D);have f:=run_indexAt_array (P:=P) (w:=w) T ⟨b,c,none⟩ k m e;rw[g,j,az H]at f;have B:(sizeOf E).run P w=.ok t.size w:=by simp[sizeOf,typeInfo,z]
 rw[B,Result.andThen_ok,Addr.add_lit]at f;simp only[execOp,u,G,d,Sem.run_bind,f,Result.andThen_ok,Sem.run_pure]
theorem ajT{T E:TypeId}{n:Nat}{t:TypeInfo}{x:Operand}{A:O}(K:o.op=.slice T x none none none)(hT:P.underlying T=some (.array n E))(F:P.info? E=some t)(G:t.size=1)(d:cO x=some A)
  {z:Prop} {y:V} (h:bT fr J (.asl n A)=some (z,y)) (U:z):Yields P o a w J μ y:=by
 have u:=fu hF d;have B:P.arrayLen T=n:=by simp[Program.arrayLen,hT]
 have C:P.elem T=E:=by simp[Program.elem,hT]
 have l:P.underlying T=some (.array (P.arrayLen T) (P.elem T)):=by rw[B,C];exact hT
 simp only[bT]at h;split at h<;>(try simp only[reduceCtorEq]at h);rename_i W e i I;split at h<;>simp only[ae,aQ,reduceCtorEq]at h;rename_i N;obtain⟨rfl,rfl⟩:=h;rw[I]at u;obtain⟨b,g,f,Q,M,X,S,D⟩:=u.OA;have L:(sizeOf E).run P w=.ok t.size w:=by simp[sizeOf,typeInfo,F]
 have m:=run_sliceAt_array_all (P:=P) w T ⟨b,g,none⟩ l;rw[B,C,L,Result.andThen_ok]at m
 have R:slicedAt ⟨b,g,none⟩ 0 n n t.size=.slice (some ⟨b,g,none⟩) n n:=by
  simp[slicedAt,Addr.add_lit]
 rw[R]at m;refine .pure (v:=.slice (some ⟨b,g,none⟩) n n) ?_ ?_
 .simp only[execOp,K,Q,de,lJ,Sem.run_bind,m,Result.andThen_ok,Sem.run_pure]
 .have r:∀(k j:Nat) (x:V),gj ((e.getD i []).map λc=>[c]) k j=some x->j=0/\gj e i k=some x:=by
   have q:e[i]?=some (e.getD i []):=by simp[aq,ax M]
   intro k j x d;simp only[gj,q,gv];generalize e.getD i []=row at d;simp only[gj,ck]at d;cases s:row[k]? with
   |none=>simp[s]at d
   |some c =>
    simp only[s,cL,gv]at d;cases j with
    |zero =>
     simp only[aM]at d;exact⟨rfl,d⟩
    |succ j=>simp at d
  have p:=VR.sl (w:=w) (J:=J) (μ:=μ) 1 ((e.getD i []).map λc=>[c]) b g n (λk _=>f k) (by simp only[ag];omega) (by unfold maxLen;omega) (by simp)
   (λk j x d=>by
    obtain⟨rfl,H⟩:=r k j x d;have:=S k x H;simpa using this)
   (λk j x d=>D k x (r k j x d).2)
  simp only[ag]at p;rw[N]at p;exact p
theorem agM{T:TypeId}{x i:Operand}{j f:O}(q:o.op=.index T x i)(hT:P.underlying T=some .string)(t:cO x=some j)(hi:cO i=some f)
  {g:Prop} {y:V} (h:bT fr J (.Dy j f)=some (g,y)) (B:g):Yields P o a w J μ y:=by
 have e:=fu hF t;have c:=fu hF hi;simp only[bT]at h;split at h<;>simp only[ae,aQ,reduceCtorEq]at h;rename_i l k n m u;obtain⟨rfl,rfl⟩:=h;rw[m]at e;rw[u]at c;obtain⟨s,A,b,_⟩:=e.qf;have z:s.size=l.length:=by rw[<- b];exact bsize s
 refine .pure (v:=.int .u8 (l.getD n.toNat 0).toNat) ?_ (.i _ _);have C:0<=n/\n<s.size:=by rw[z];exact B
 have p:n.toNat<l.length:=by omega
 have r:s[n.toNat]'(by omega)=l.getD n.toNat 0:=by
  subst b;rw[aq,ax p];simp[ByteArray.getElem_eq_getElem_data]
 have d:=run_index_string (P:=P) (w:=w) T s k n hT;rw[dif_pos C,r]at d;simp only[execOp,q,A,c.iF,Sem.run_bind,d,Result.andThen_ok,Sem.run_pure]
theorem agK{T:TypeId}{f:Nat}{e:Array Field}{b:Field}{x:Operand}{i:O}(n:o.op=.field T x f)(hT:P.underlying T=some (.struct e))(m:e[f]?=some b)(u:jC P b.type=some false)(r:cO x=some i)
  {t:Prop} {y:V} (h:bT fr J (.Wn b.offset i)=some (t,y)):Yields P o a w J μ y:=by
 have g:=fu hF r;simp only[bT]at h;split at h
 .rename_i A k;rw[k]at g;obtain⟨c,s,p,q⟩:=g.mi;split at h<;>simp only[ae,aQ,reduceCtorEq]at h;rename_i z j;obtain⟨_,rfl⟩:=h;have l:b.offset<c.size:=by rw[<- p];exact(ah.1 j).1
  have d:c[b.offset]?=some (c.getD b.offset undef):=by simp[l]
  refine .pure (v:=c.getD b.offset undef) ?_ (q _ _ j);simp only[execOp,n,s,Instr.field,run_underlying hT,m,asAgg,part,pE u,Sem.run_bind,Sem.run_pure,Result.andThen_ok,aI,aS,d]
 .simp at h
theorem agJ{T E:TypeId}{n:Nat}{x i:Operand}{A C:O}(K:o.op=.index T x i)(hT:P.underlying T=some (.array n E))(f:jC P E=some false)(R:P.cellsOf E=1)(M:cO x=some A)(hi:cO i=some C)
  {z:Prop} {y:V} (h:bT fr J (.SJ n A C)=some (z,y)) (H:z):Yields P o a w J μ y:=by
 have t:=fu hF M;have s:=fu hF hi;simp only[bT]at h;split at h<;>simp only[ae,aQ,reduceCtorEq]at h;rename_i m k j I N;obtain⟨rfl,rfl⟩:=h;rw[I]at t;rw[N]at s;obtain⟨c,Q,U,D⟩:=t.mi;obtain⟨F,g,S⟩:=H;have B:j.toNat<m.length:=by omega
 have l:j.toNat<c.size:=by omega
 have q:c[j.toNat]?=some (c.getD j.toNat undef):=by simp[l]
 have r:∃p,P.info? E=some p:=by
  unfold jC Program.underlying at f;cases h:P.info? E with
  |none=>simp[h]at f
  |some i=>exact⟨i,rfl⟩
 obtain⟨p,b⟩:=r
 have L:(sizeOf E).run P w=.ok 1 w:=by
  have e:p.size=1:=by simpa[Program.cellsOf,b]using R
  simp[sizeOf,typeInfo,b,e]
 have G:m.getD j.toNat .u=m[j.toNat]:=by rw[aq,ax B];rfl
 rw[G];refine .pure (v:=c.getD j.toNat undef) ?_ (D _ _ (ax B));have d:0<=j/\j<(n:Int):=⟨F,g⟩;simp only[execOp,K,Q,s.iF,Instr.index,asIntOf,run_underlying hT,part,pE f,Sem.run_bind,Sem.run_pure,Result.andThen_ok,az d,L,Pc,aI,aS,q]
theorem agS{T E:TypeId}{t:TypeInfo}{x B m:Operand}{A u D:O}(U:o.op=.slice T x none (some B) (some m))(hT:P.underlying T=some (.slice E))(K:P.info? E=some t)(hx:cO x=some A)(l:cO B=some u)(F:cO m=some D)
  {z:Prop} {y:V} (h:bT fr J (.clip t.size A u D)=some (z,y)) (M:z):Yields P o a w J μ y:=by
 have v:=fu hF hx;have r:=fu hF l;have C:=fu hF F;simp only[bT]at h;split at h
 .rename_i k1 p k2 q R L;rw[R]at r;rw[L]at C;split at h
  .rename_i sz Z G;split at h<;>simp only[ae,aQ,reduceCtorEq]at h;rename_i jD;obtain⟨rfl,rfl⟩:=h;subst jD;rw[G]at v;obtain⟨I,H,e⟩:=M;have hs:(sizeOf E).run P w=.ok t.size w:=by simp[sizeOf,typeInfo,K]
   have s:∀(b:Option Addr) (n c:Nat),a.eval x=.slice b n c->q<=c->(execOp a.eval o).run P w=.ok (.value (.slice (if q.toNat=0 then b else b.map (·.add 0)) p.toNat q.toNat)) w:=by
    intro b n c he N;have Q:0<=q/\q<=(c:Int):=by omega
    have S:p<=max q 0:=by omega
    simp[execOp,U,he,r.iF,C.iF,Instr.sliceAt,Instr.slice,Instr.sliceBounds,Instr.sliceBound,asIntOf,run_underlying hT,Q,S,I,hs]
   rcases v.JC with⟨rfl,b,k⟩|⟨b,X,i,f,k,hc,F,Y⟩
   .have W:p=0:=by simp at e;omega
    have Pr:q=0:=by simp at e;omega
    subst W;subst Pr;refine .pure (s b 0 0 k (by omega)) ?_;simp only[ajp,aT,mA];cases b with
    |none=>exact .K4 _
    |some b=>exact .sle _ _
   .refine .pure (s _ _ i k (by omega)) ?_;have d:(Z.take p.toNat).length=p.toNat:=by simp;omega
    have g:=Y.sub 0 p.toNat;simp only[mD,YC,de]at g;have j:=VR.sl (w:=w) (J:=J) (μ:=μ) t.size _ b _ q.toNat _ (by rw[d];omega) (by omega) g.1 g.2.1 g.2.2;rw[d]at j;split
    .exact j
    .simpa[Addr.add_lit]using j
  .simp at h
 .simp at h
theorem agL{T:TypeId}{x:Operand}{c:O}(e:o.op=.call { callee:=.builtin .len,args:=#[x],argTypes:=#[T] })(hT:P.underlying T=some .string)(m:cO x=some c)
  {j:Prop} {y:V} (h:bT fr J (.len true c)=some (j,y)):Yields P o a w J μ y:=by
 have b:=fu hF m;simp only[bT]at h;split at h<;>simp only[ae,aQ,reduceCtorEq]at h;rename_i l d;obtain⟨_,rfl⟩:=h;rw[d]at b;obtain⟨s,f,g,_⟩:=b.qf;have k:s.size=l.length:=by rw[<- g];exact bsize s
 refine .pure (v:=.int .i64 l.length) ?_ (.i _ _);simp[execOp,e,resolve,invoke,builtin,f,run_len_string (w:=w) T _ s hT,goInt,k]
theorem ajJ{T E:TypeId}{x:Operand}{C:O}(K:o.op=.call { callee:=.builtin .len,args:=#[x],argTypes:=#[T] })(hT:P.underlying T=some (.slice E))(L:cO x=some C)
  {H:Prop} {y:V} (h:bT fr J (.len false C)=some (H,y)):Yields P o a w J μ y:=by
 have e:=fu hF L;have z:P.underlying T=some (.slice (P.elem T)):=by rw[EO hT];exact hT
 have k:∀b n c,a.eval x=.slice b n c->Yields P o a w J μ (.i .i64 n):=by
  intro b n c M;refine .pure (v:=.int .i64 n) ?_ (.i _ _);simp[execOp,K,resolve,invoke,builtin,M,run_len_slice (w:=w) T _ b n c z,goInt]
 simp only[bT]at h;split at h<;>(try simp only[ae,aQ,reduceCtorEq]at h)
 .rename_i j;obtain⟨_,rfl⟩:=h;rw[j]at e;exact k _ _ _ e.tl
 .rename_i t B j;obtain⟨_,rfl⟩:=h;rw[j]at e;rcases e.wZ with⟨rfl,d⟩|⟨b,u,f,d,_⟩
  .exact k _ _ _ d
  .exact k _ _ _ d
 .rename_i t B j;obtain⟨_,rfl⟩:=h;rw[j]at e;rcases e.JC with⟨rfl,_,d⟩|⟨b,u,p,f,d,_⟩
  .exact k _ _ _ d
  .exact k _ _ _ d
 .rename_i id g j;split at h
  .rename_i G t r I F B m;split at h<;>simp only[ae,aQ,reduceCtorEq]at h;rename_i q;subst q;obtain⟨_,rfl⟩:=h;rw[j]at e;have d:=e.mK m;obtain⟨_,_,A⟩:=hS.rowAt m;rcases A with⟨l,D⟩|⟨b,p,s,l,_⟩
   .subst D;exact k _ _ _ (d.trans l)
   .exact k _ _ _ (d.trans l)
  .simp at h
 .rename_i id g Q N j;split at h
  .rename_i G t r I F B m;split at h<;>simp only[ae,aQ,reduceCtorEq]at h;rename_i q;subst q;obtain⟨_,rfl⟩:=h;rw[j]at e;obtain⟨_,_,d⟩:=e.wX m;obtain⟨_,_,A⟩:=hS.rowAt m;rcases A with⟨l,D⟩|⟨b,p,s,l,_⟩
   .rw[l]at d;exact k _ _ _ d
   .rw[l]at d;exact k _ _ _ d
  .simp at h
 .rename_i id n j;obtain⟨_,rfl⟩:=h;rw[j]at e;obtain⟨b,d,_⟩:=e.VE;exact k _ _ _ d
theorem Y1{T:TypeId}{x:Operand}{d hi:Option Operand}{B:O}{i f:Option O}(F:o.op=.slice T x d hi none)(hT:P.underlying T=some .string)(H:cO x=some B)(j:B6 d=some i)(m:B6 hi=some f)
  {A:Prop} {y:V} (h:bT fr J (.za B i f)=some (A,y)) (n:A):Yields P o a w J μ y:=by
 have u:=fu hF H;simp only[bT]at h;split at h
 .rename_i l E;rw[E]at u;obtain⟨s,I,t,Q⟩:=u.qf;have N:s.size=l.length:=by rw[<- t];exact bsize s
  split at h<;>simp only[ae,aQ,reduceCtorEq]at h;rename_i p q c e;obtain⟨rfl,rfl⟩:=h
  have L:(d.map a.eval=none/\p=0)\/∃k,d.map a.eval=some (.int k p):=by
   cases d with
   |none =>
    simp only[B6,ae]at j;subst j;simp only[ae]at c;exact .inl ⟨rfl,c.symm⟩
   |some z =>
    simp only[B6,aF]at j;obtain⟨D,r,rfl⟩:=j;have g:=fu hF r;dsimp only at c;split at c<;>simp only[ae,reduceCtorEq]at c;rename_i k K b;subst c;rw[b]at g;exact .inr ⟨k,by simp[g.iF]⟩
  have C:(hi.map a.eval=none/\q=s.size)\/∃k,hi.map a.eval=some (.int k q):=by
   cases hi with
   |none =>
    simp only[B6,ae]at m;subst m;simp only[ae]at e;exact .inl ⟨rfl,by omega⟩
   |some z =>
    simp only[B6,aF]at m;obtain⟨D,r,rfl⟩:=m;have g:=fu hF r;dsimp only at e;split at e<;>simp only[ae,reduceCtorEq]at e;rename_i k K b;subst e;rw[b]at g;exact .inr ⟨k,by simp[g.iF]⟩
  have G:=IG (P:=P) (w:=w) hT s (d.map a.eval) (hi.map a.eval) p q L C n.1 n.2.1 (by have:=n.2.2;omega);refine .pure (v:=.string (s.extract p.toNat q.toNat)) ?_ (.s _ _ ?_ ?_)
  .simp[execOp,F,I,G]
  .rw[OU,t]
  .have:=List.length_take_le (q.toNat - p.toNat) (l.drop p.toNat);have M:(l.drop p.toNat).length<=l.length:=by simp
   simp only[aP,bA];omega
 .simp at h
theorem acX{T E:TypeId}{t:TypeInfo}{x:Operand}{H hi:Option Operand}{x':O}{Q L:Option O}(ho:o.op=.slice T x H hi none)(hT:P.underlying T=some (.slice E))(ht:P.info? E=some t)(hx:cO x=some x')(S:B6 H=some Q)(W:B6 hi=some L)
  {ob:Prop} {y:V} (h:bT fr J (.slice t.size x' Q L)=some (ob,y)) (r:ob):Yields P o a w J μ y:=by
 have A:=fu hF hx;simp only[bT]at h;split at h
 .simp at h
 .rename_i n d;split at h
  .rename_i p q G K
   have vJ:(H.map a.eval=none/\p=0)\/∃k,H.map a.eval=some (.int k p):=by
    cases H with
    |none =>
     simp only[B6,ae]at S;subst S;simp only[ae]at G;exact .inl ⟨rfl,G.symm⟩
    |some z =>
     simp only[B6,aF]at S;obtain⟨z',X,rfl⟩:=S;have M:=fu hF X;dsimp only at G;split at G<;>simp only[ae,reduceCtorEq]at G;rename_i k p' B;subst G;rw[B]at M;exact .inr ⟨k,by simp[M.iF]⟩
   have SB:(hi.map a.eval=none/\q=(n:Int))\/∃k,hi.map a.eval=some (.int k q):=by
    cases hi with
    |none =>
     simp only[B6,ae]at W;subst W;simp only[ae]at K;exact .inl ⟨rfl,by omega⟩
    |some z =>
     simp only[B6,aF]at W;obtain⟨z',X,rfl⟩:=W;have M:=fu hF X;dsimp only at K;split at K<;>simp only[ae,reduceCtorEq]at K;rename_i k p' B;subst K;rw[B]at M;exact .inr ⟨k,by simp[M.iF]⟩
   have I:∀b c,a.eval x=.slice b n c->0<=p->p<=q->q<=c->(execOp a.eval o).run P w=.ok (.value (pO (.slice b n c) p.toNat q.toNat t.size)) w:=by
    intro b c he C D aa;have s:=Li (P:=P) (w:=w) hT ht b n c (H.map a.eval) (hi.map a.eval) p q vJ SB C D aa;simp[execOp,ho,he,s]
   have N:∀l b i e f,a.eval x=.slice (some ⟨b,i,none⟩) l.length e->l.length<=e->e<=maxLen->v7 w J μ l t.size b i f->n=l.length->0<=p/\p<=q/\q<=n ->
     Yields P o a w J μ (.sl t.size ((l.drop p.toNat).take (q.toNat - p.toNat))):=by
    intro l b i e f he hc Co s ab ⟨C,D,hqn⟩;subst ab;refine .pure (I _ e he C D (by omega)) ?_;have u:((l.drop p.toNat).take (q.toNat - p.toNat)).length=q.toNat - p.toNat:=by simp;omega
    by_cases TZ:e=p.toNat
    .have:q.toNat - p.toNat=0:=by omega
     simp only[pO,TZ,aT,this,mA,jm];exact .sl t.size [] b i 0 (λ_ _=>undef) (by simp) (by simp[maxLen]) (by simp) (by simp[gj]) (by simp[gj])
    .simp only[pO,TZ,aS,cL,Addr.add_lit];have:=s.sub p.toNat (q.toNat - p.toNat);have h5:=VR.sl (w:=w) (J:=J) (μ:=μ) t.size _ b _ (e - p.toNat) _ (by rw[u];omega) (by omega) this.1 this.2.1 this.2.2
     rwa [u]at h5
   split at h
   .rename_i F;simp only[ae,aQ]at h;obtain⟨rfl,rfl⟩:=h;rw[F]at A d;simp only[ae]at d;obtain⟨rfl,rfl⟩:=r;have j:=A.tl;subst d;refine .pure (v:=.slice none 0 0) ?_ .nil;rw[I none 0 j (by omega) (by omega) (by omega)];simp[pO]
   .rename_i sz l F;simp only[ae,aQ]at h;obtain⟨rfl,rfl⟩:=h;rw[F]at A d;dsimp only at d;split at d<;>simp only[ae,reduceCtorEq]at d;rename_i Z;subst Z;rcases A.wZ with⟨rfl,j⟩|⟨b,i,f,j,m,s⟩
    .simp only[al]at d;subst d;have C:p=0:=by omega
     have Pr:q=0:=by omega
     subst C;subst Pr;refine .pure (I none 0 j (by omega) (by omega) (by omega)) ?_;simp only[pO,ajp,aT,aok,aoi,jm];exact .K4 _
    .exact N l b i _ f j (aD _) m s d.symm r
   .rename_i sz l F;simp only[ae,aQ]at h;obtain⟨rfl,rfl⟩:=h;rw[F]at A d;dsimp only at d;split at d<;>simp only[ae,reduceCtorEq]at d;rename_i Z;subst Z;rcases A.JC with⟨rfl,U,j⟩|⟨b,i,e,f,j,hc,m,s⟩
    .simp only[al]at d;subst d;have C:p=0:=by omega
     have Pr:q=0:=by omega
     subst C;subst Pr;refine .pure (I U 0 j (by omega) (by omega) (by omega)) ?_;simp only[pO,ajp,aT,aok,aoi,jm];cases U with
     |none=>exact .K4 _
     |some U=>exact .sle _ U
    .exact N l b i e f j hc m s d.symm r
   .rename_i id g F;simp only[ae,aQ]at h;obtain⟨rfl,rfl⟩:=h;rw[F]at A d;dsimp only at d;split at d
    .rename_i E' sz am g' sh l R;split at d<;>simp only[ae,reduceCtorEq]at d;rename_i hg;obtain⟨rfl,rfl⟩:=hg;subst d;have j:=A.mK R;obtain⟨_,_,s⟩:=hS.rowAt R
     have oo:∀v,μ id=v->VR w J μ (.sub id g p.toNat q.toNat) (pO v p.toNat q.toNat t.size):=by
      intro v m;refine .sub id g _ _ _ (ah.1 R).1 ?_;intro E2 ac af g2 av ap Y;rw[R]at Y;simp only[ae,Ob.row.injEq]at Y;obtain⟨rfl,rfl,rfl,rfl,rfl,rfl⟩:=Y;exact⟨aD _,λ_=>⟨by omega,by omega,by rw[m]⟩⟩
     rcases s with⟨m,d⟩|⟨b,e,ad,m,_,qi,_⟩
     .subst d;exact .pure (I none 0 (j.trans m) r.1 r.2.1 (by simpa using r.2.2)) (oo _ m)
     .exact .pure (I _ e (j.trans m) r.1 r.2.1 (by have:=r.2.2;omega)) (oo _ m)
    .simp at d
   .simp at h
  .simp at h
end fa
end Go.Pm

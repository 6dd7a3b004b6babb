/- A part of a proof; the claim's last text says of what. -/
import Derived.Lib.AppendStr
import Derived.Test.YtlakkaamfadipaaGreatDoorB4
set_option linter.all false

namespace Go.Pm
open Go Go.RowKit
structure Src (P:bo) (w:bD) (U:TypeId) (x:Value) (size m:Nat) (news:List Value):Prop where
 ty:∃d,P.underlying U=some d/\∀k,d≠.int k
 len:∀w':bD,(Builtin.lenOf x).run P w'=.ok m w'
 first:(Builtin.firstCells size m x).run P w=.ok news.toArray w
 aiV:(Builtin.firstCells size m x).run P w.drew=.ok news.toArray w.drew
 TH:news.length=m*size
 one:∀u∈news,u.oneCell'=true
section
variable {P:bo} {w:bD} {T U ty E:TypeId} {t:TypeInfo} {z:Value} {x:Value} {m:Nat} {news:List Value}
def uF(hT:P.underlying T=some (.slice E))(g:P.info? E=some t)(c:Src P w U x t.size 0 news)(a:Option Addr)(n b:Nat)(h:n<=b):
  (Builtin.append_ #[T,U] ty #[.slice a n b,x]).run P w=.ok (.slice a n b) w:=by
 obtain⟨d,e,j⟩:=c.ty;have i:news=[]:=aW (by simpa using c.TH);have f:=c.first;subst i;cases a with
 |none=>simp[Builtin.append_,run_underlying hT,run_underlying e,sizeOf,typeInfo,g,c.len,h,f]
 |some a=>simp[Builtin.append_,run_underlying hT,run_underlying e,sizeOf,typeInfo,g,c.len,h,f,storeCells]
def Nu(hT:P.underlying T=some (.slice E))(k:P.info? E=some t)(c:Src P w U x t.size m news)(g n b:Nat)(a:Array Value)(l:w.heap[g]?=some (.cells a E (0,0)))
  (i:n+m<=b) (j:n*t.size+news.length<=a.size) :
  (Builtin.append_ #[T,U] ty #[.slice (some ⟨g,0,none⟩) n b,x]).run P w =
   .ok (.slice (some ⟨g,0,none⟩) (n+m) b) (w.setRow g (a.toList.take (n*t.size)++news++a.toList.drop (n*t.size+news.length)).toArray):=by
 obtain⟨d,f,o⟩:=c.ty;have h:=c.first;have e:=run_storeCells_at P g (n*t.size) E news 0 a w l (by simpa using j) c.one;simp only[de]at e;simp[Builtin.append_,run_underlying hT,run_underlying f,sizeOf,typeInfo,k,c.len,i,h,Addr.add_lit,e]
def zg(hT:P.underlying T=some (.slice E))(s:P.info? E=some t)(C:t.zero=some z)(h:Src P w U x t.size m news)(a:Option Addr)(n e:Nat)(c:List Value)
  (l:c.length=n*t.size) (q:(a=none/\n=0)\/∃b,a=some b/\∀j v,c[j]?=some v->w.cell? (b.add j)=some v)
  (A:e<n+m) (k:n+m<=maxLen) (y:(n+m)*t.bytes<=140737488355328) :
  (Builtin.append_ #[T,U] ty #[.slice a n e,x]).run P w =
   .ok (.slice (some ⟨w.heap.size,0,none⟩) (n+m) (grownCap w (n+m) e E))
    (w.drew.alloc (.cells (c.toArray++news.toArray++Builtin.zeroCells z.cells (grownCap w (n+m) e E - (n+m))) E)):=by
 obtain⟨d,o,D⟩:=h.ty;have p:=h.aiV;have B:¬(n+m<=e):=by omega
 have g:¬(9223372036854775807<((n:Int)+(m:Int))):=by unfold maxLen at k;omega
 have r:=growslice_fits A y;have f:¬(281474976710656<Builtin.nextslicecap (n+m) e*t.bytes):=by omega
 have i:(Builtin.firstCells t.size n (.slice a n e)).run P w.drew=.ok c.toArray w.drew:=by
  rcases q with⟨rfl,rfl⟩|⟨b,rfl,u⟩
  .have:c=[]:=aW (by simpa using l);subst this;simp[Builtin.firstCells]
  .exact run_firstCells_some (P:=P) w.drew t.size n b n e c l (by simpa using u)
 simp[Builtin.append_,run_underlying hT,run_underlying o,sizeOf,typeInfo,zeroValue,s,C,h.len,B,g,f,Question.forced,p,i,newRow,grownCap];congr 2;apply Array.ext';simp[bk]
def Av(hT:P.underlying T=some (.slice E))(y:P.info? E=some t)(J:t.zero=some z)(S:z.cells.size=t.size)(o:Src P w U x t.size m news)(B:Nat)(v:Value)(n:Nat)(vals:List Value)
  (l:w.ownsRow B E t.size v n vals) (p:n+m<=maxLen) (K:(n+m)*t.bytes<=140737488355328) (X:B<=w.heap.size) :
  ∃v' w',(Builtin.append_ #[T,U] ty #[v,x]).run P w=.ok v' w'/\w'.ownsRow B E t.size v' (n+m) (vals++news)/\w.grownBy w' (lZ v) /\
   (∀b,lZ v'=some b->lZ v=some b\/w.heap.size<=b)/\(∀b,lZ v=some b->∀j u,vals[j]?=some u->w'.cell? ⟨b,j,none⟩=some u):=by
 have f:(vals++news).length=(n+m)*t.size:=by rw[aj,l.1,o.TH,cJ]
 have grown:∀(d:Nat),d<n+m->∀(row:cU),
   (w.drew.alloc (.cells (vals.toArray++news.toArray++Builtin.zeroCells z.cells (grownCap w (n+m) d E - (n+m))) E)).ownsRow B E t.size
    (.slice (some ⟨w.heap.size,0,none⟩) (n+m) (grownCap w (n+m) d E)) (n+m) (vals++news) /\
   w.grownBy (w.drew.alloc (.cells (vals.toArray++news.toArray++Builtin.zeroCells z.cells (grownCap w (n+m) d E - (n+m))) E)) row:=by
  intro d Y row;have O:=grownCap_ge w (n+m) d E;have A:grownCap w (n+m) d E<=maxLen:=grownCap_le_maxLen w (n+m) d E p;refine⟨⟨f,.inr ⟨w.heap.size,_,_,rfl,X,heap_alloc_new w.drew _,O,A,?_,?_⟩⟩,⟨rfl,rfl,rfl,by simp,λk G _=>heap_alloc_old w.drew _ k G⟩⟩
  .simp only[sq,eU,size_zeroCells,S,l.1,o.TH,<- Nat.add_mul];congr 1;omega
  .simp only[Sv,bk];rw[<- List.append_assoc,<- f];exact jT
 by_cases W:m=0
 .subst W;have Q:news=[]:=aW (by simpa using o.TH);subst Q
  have r:(Builtin.append_ #[T,U] ty #[v,x]).run P w=.ok v w:=by
   rcases l.2 with⟨rfl,rfl⟩|⟨g,a,h,rfl,_,_,L,_⟩
   .exact uF hT y o none 0 0 (aD _)
   .exact uF hT y o _ n a L
  refine⟨v,w,r,by simpa using l,grownBy_refl w _,λb c=>.inl c,λb c j u s=>?_⟩;rcases l.2 with⟨rfl,rfl⟩|⟨g,a,h,rfl,_⟩
  .simp[lZ]at c
  .simp only[lZ,ae]at c;subst c;have:=l.cells (g:=g) rfl j u s
   rwa [Addr.add_lit,aY]at this
 .rcases l.2 with⟨rfl,rfl⟩|⟨g,a,h,rfl,C,F,L,A,V,I⟩
  .have N:vals=[]:=aW (by simpa using l.1);subst N;have r:=zg (ty:=ty) hT y J o none 0 0 [] (by simp) (.inl ⟨rfl,rfl⟩) (by omega) p K;have i:=grown 0 (by omega) (lZ (.slice none 0 0));refine⟨_,_,r,i.1,i.2,λb c=>?_,λb c=>?_⟩
   .simp only[lZ,ae]at c;exact .inr (by omega)
   .simp[lZ]at c
  .have holds:∀j u,vals[j]?=some u->w.cell? ((⟨g,0,none⟩:Addr).add j)=some u:=l.cells (g:=g) rfl
   by_cases D:n+m<=a
   .have q:n*t.size+news.length<=h.size:=by rw[o.TH,V,<- Nat.add_mul];exact bI _ D
    have r:=Nu (ty:=ty) hT y o g n a h F D q;refine⟨_,_,r,⟨f,.inr ⟨g,a,_,rfl,C,setRow_heap w g h _ E _ F,D,A,?_,?_⟩⟩,⟨rfl,rfl,rfl,by simp,λk _ G=>setRow_other w g k _ (λe=>G (by simp[lZ,e]))⟩,λb c=>.inl c,λb c j u s=>?_⟩
    .simp only[eU,aj,aP,bA,bh];omega
    .rw[I,<- f];exact jT
    .simp only[lZ,ae]at c;subst c;rw[cell_setRow_same w g j h _ E _ F];have M:j<vals.length:=(ah.1 s).1;rw[I];simp only[sj];rw[bk,ay M,s]
   .have r:=zg (ty:=ty) hT y J o (some ⟨g,0,none⟩) n a vals l.1 (.inr ⟨_,rfl,holds⟩) (by omega) p K;have i:=grown a (by omega) (lZ (.slice (some ⟨g,0,none⟩) n a));refine⟨_,_,r,i.1,i.2,λb c=>?_,λb c j u s=>?_⟩
    .simp only[lZ,ae]at c;exact .inr (by omega)
    .simp only[lZ,ae]at c;subst c;have H:=holds j u s;rw[Addr.add_lit,aY]at H;have R:=World.block_lt_of_cell? w _ H
     have:(w.drew.alloc (.cells (vals.toArray++news.toArray++Builtin.zeroCells z.cells (grownCap w (n+m) a E - (n+m))) E)).cell? ⟨g,j,none⟩=w.drew.cell? ⟨g,j,none⟩ :=
      World.cell?_alloc_lt w.drew _ _ R
     rw[this,World.cell?_drew];exact H
def P3(hT:P.underlying T=some (.slice E))(l:P.info? E=some t)(A:t.zero=some z)(s:z.cells.size=t.size)(f:Src P w U x t.size m news)(B:Nat)(a:Option Addr)(n:Nat)(c:List Value)
  (g:c.length=n*t.size) (h:(a=none/\n=0)\/∃b,a=some b/\∀j v,c[j]?=some v->w.cell? (b.add j)=some v) (C:0<m) (e:n+m<=maxLen) (p:(n+m)*t.bytes<=140737488355328) (u:B<=w.heap.size) :
  ∃v' w',(Builtin.append_ #[T,U] ty #[.slice a n n,x]).run P w=.ok v' w'/\w'.ownsRow B E t.size v' (n+m) (c++news)/\w.grownBy w' none/\(∀b,lZ v'=some b->w.heap.size<=b):=by
 have d:(c++news).length=(n+m)*t.size:=by rw[aj,g,f.TH,cJ]
 have i:=zg (ty:=ty) hT l A f a n n c g h (by omega) e p;have q:=grownCap_ge w (n+m) n E;have y:grownCap w (n+m) n E<=maxLen:=grownCap_le_maxLen w (n+m) n E e;refine⟨_,_,i,⟨d,.inr ⟨w.heap.size,_,_,rfl,u,heap_alloc_new w.drew _,q,y,?_,?_⟩⟩,⟨rfl,rfl,rfl,by simp,λk r _=>heap_alloc_old w.drew _ k r⟩,λb o=>?_⟩
 .simp only[sq,eU,size_zeroCells,s,g,f.TH,<- Nat.add_mul];congr 1;omega
 .simp only[Sv,bk];rw[<- List.append_assoc,<- d];exact jT
 .simp only[lZ,ae]at o;omega
end
def Nd.src{P:bo}{B:Nat}{w0 w:bD}{J:ak}{μ:Mem}(hS:lj P B w0 w J μ){T E:TypeId}(hT:P.underlying T=some (.slice E)){xs:dF}{sz:Nat}{v:Value}(h:Nd w J μ xs sz v):
  ∃news,Src P w T v sz xs.length news/\kN w J μ xs sz news:=by
 have c:∃d,P.underlying T=some d/\∀k,d≠.int k:=⟨_,hT,λk=>by simp⟩;rcases h.here with⟨rfl,e,rfl⟩|⟨b,n,m,rfl,o⟩
 .cases e with
  |none=>exact⟨[],⟨c,λ_=>by simp[Builtin.lenOf],by simp[Builtin.firstCells],by simp[Builtin.firstCells],by simp,by simp⟩,by simp,by simp[gj]⟩
  |some e=>exact⟨[],⟨c,λ_=>by simp[Builtin.lenOf],run_firstCells_some w sz _ e _ _ [] (by simp) (by simp),run_firstCells_some w.drew sz _ e _ _ [] (by simp) (by simp),by simp,by simp⟩,by simp,by simp[gj]⟩
 .obtain⟨a,f,g,p,l⟩:=h.cells (λi j x q=>wI (o i j x q).1) hS;exact⟨a,⟨c,λ_=>by simp[Builtin.lenOf],run_firstCells_some w sz _ _ _ _ a f g,run_firstCells_some w.drew sz _ _ _ _ a f (by simpa using g),f,p⟩,l⟩
def SX{P:bo}{w:bD}{J:ak}{μ:Mem}{U:TypeId}(g:P.underlying U=some .string)(s:ByteArray):
  Src P w U (.string s) 1 (gp s.data.toList).length (Lib.strCells s)/\kN w J μ (gp s.data.toList) 1 (Lib.strCells s):=by
 have a:(gp s.data.toList).length=s.size:=by rw[bsize];simp[gp]
 refine⟨⟨⟨_,g,λk=>by simp⟩,λ_=>?_,?_,?_,?_,Lib.strCells_oneCell s⟩,?_,?_⟩
 .rw[a];simp[Builtin.lenOf]
 .rw[a];exact Lib.run_firstCells_string w 1 s
 .rw[a];exact Lib.run_firstCells_string w.drew 1 s
 .rw[a,Lib.strCells_length];simp
 .intro r d;simp only[gp,bF]at d;obtain⟨c,_,rfl⟩:=d;rfl
 .intro i j x f;obtain⟨r,e,b⟩:=jz f;simp only[gp,ck,aF]at e;obtain⟨c,h,rfl⟩:=e;cases j with
  |zero =>
   simp only[aM,ae]at b;subst b;refine⟨rfl,.int .u8 c.toNat,?_,.i _ _⟩;simp[Lib.strCells,h]
  |succ j=>simp at b
def kN.append{w:bD}{J:ak}{μ:Mem}{xs ys:dF}{sz:Nat}{c m:List Value}(h:kN w J μ xs sz c)(k:kN w J μ ys sz m)(n:c.length=xs.length*sz):kN w J μ (xs++ys) sz (c++m):=by
 refine⟨λr a=>?_,λi j x p=>?_⟩
 .rcases bP.1 a with a|a
  .exact h.1 r a
  .exact k.1 r a
 .obtain⟨r,f,l⟩:=jz p
  by_cases o:i<xs.length
  .rw[ay o]at f;have b:gj xs i j=some x:=by rw[vW f];exact l
   obtain⟨g,v,d,a⟩:=h.2 i j x b;exact⟨g,v,by rw[ay (ah.1 d).1];exact d,a⟩
  .rw[aU (by omega)]at f;have b:gj ys (i - xs.length) j=some x:=by rw[vW f];exact l
   obtain⟨g,v,d,a⟩:=k.2 _ j x b;refine⟨g,v,?_,a⟩
   have e:i*sz+j=c.length+((i - xs.length)*sz+j):=by
    rw[n];have:i*sz=xs.length*sz+(i - xs.length)*sz:=by rw[<- Nat.add_mul];congr 1;omega
    omega
   rw[e,aU (by omega)];simpa using d
def zR(P:bo)(o:Oper)(a:Act)(B:Nat)(w0 w:bD)(J:ak)(μ:Mem)(x:V)(J':ak):Prop :=
 ∃v c b,((execOp a.eval o).run P w=.ok (.value v) c\/((execOp a.eval o).run P w=.ok .skip c/\x=.u))/\lj P B w0 c J' b/\VR c J' b x v/\s7 w J μ c J' b
def s7.trans{w:bD}{J:ak}{μ:Mem}{w':bD}{J':ak}{μ':Mem}{k:bD}{j:ak}{i:Mem}(p:s7 w J μ w' J' μ')(q:s7 w' J' μ' k j i):s7 w J μ k j i:=by
 refine⟨λb o v g d=>?_,cu p.len q.len,λid T O h=>?_,λid K E U h=>?_,λid G m E n M c h=>?_,λid E D l C Q S F h=>?_⟩
 .obtain⟨a,f⟩:=p.cell b o v g d;exact q.cell b o v a f
 .obtain⟨⟨s,g⟩,d⟩:=p.box id T O h;obtain⟨a,f⟩:=q.box id T s g;exact⟨a,f.trans d⟩
 .obtain⟨⟨N,y,g⟩,d⟩:=p.map id K E U h;obtain⟨a,f⟩:=q.map id K N y g;exact⟨a,f.trans d⟩
 .obtain⟨⟨t,P,g⟩,d⟩:=p.itr id G m E n M c h;obtain⟨a,f⟩:=q.itr id G m E n t P g;exact⟨a,f.trans d⟩
 .obtain⟨A,x,u,g,d,a⟩:=q.row id E D l C Q S (fv F p.len) h;obtain⟨I,r,z,f,R,L⟩:=p.row id E D l A x u F g;refine⟨I,r,z,f,cu R d,λe=>?_⟩;have H:A=C:=by omega
  have B:I=A:=by omega
  exact⟨(L B).1.trans (a H).1,(a H).2.trans (L B).2⟩
def Oe{P:bo}{B:Nat}{w0 w:bD}{J:ak}{μ:Mem}(hS:lj P B w0 w J μ)(T:Nat)(cs:aB)(a:Array Value)(h:CR w J μ cs a):
  ∃μ',lj P B w0 (w.alloc (.cells a T)) (J++[.box T cs]) μ'/\VR (w.alloc (.cells a T)) (J++[.box T cs]) μ' (.ptr J.length 0) (.pointer (some ⟨w.heap.size,0,none⟩))/\s7 w J μ (w.alloc (.cells a T)) (J++[.box T cs]) μ':=by
 have d:=hS.z6 (w':=w.alloc (.cells a T)) (.box T cs) (.pointer (some ⟨w.heap.size,0,none⟩)) (World.grownBy_alloc w _ none) (by simp[lZ]) (λe=>by
  refine⟨w.heap.size,a,rfl,hS.base,heap_alloc_new w _,h.1.symm,λj x c=>?_⟩;have b:j<a.size:=by rw[<- h.1];exact(ah.1 c).1
  exact⟨a[j],bO b,by have:=(h.2 j x c).mono e;simpa[b]using this⟩)
 exact⟨_,d.1,.ptr _ 0 _ ⟨T,cs,by simp⟩ (gR _ _ _),d.2⟩
def zb{α:Type}(l ys:List α)(off j:Nat)(h:off+ys.length<=l.length):(l.take off++ys++l.drop (off+ys.length))[j]?=if off<=j/\j<off+ys.length then ys[j - off]? else l[j]?:=by
 have a:(l.take off).length=off:=by simp;omega
 by_cases c:j<off
 .rw[an (by omega),bk,ay (by omega),cz c]
 .by_cases d:j<off+ys.length
  .rw[az (by omega),ay (by rw[aj,a];omega),aU (by omega),a]
  .have b:(l.take off++ys).length=off+ys.length:=by rw[aj,a]
   rw[an (by omega),aU (by omega),b,db];congr 1;omega
section Q5
variable {P:bo} {o:Oper} {a:Act} {B:Nat} {w0 w:bD} {J:ak} {μ:Mem} {fr:aB} (hF:FR w J μ fr a) (hS:lj P B w0 w J μ)
include hF hS
theorem an8{T:TypeId}{x:Operand}{d:O}(e:o.op=.box T x)(l:cO x=some d){c:Prop}{y:V}{J':ak}(h:dE fr J (.box T d)=some (c,y,J'))(g:c):zR P o a B w0 w J μ y J':=by
 simp only[dE,ae,aQ]at h;obtain⟨rfl,rfl,rfl⟩:=h;have k:=pZ hS (fu hF l) g;obtain⟨b,i,f,j⟩:=Oe hS T _ _ k.1;exact⟨_,_,b,.inl (by simp[execOp,e,Instr.box,newVar,newRow]),i,f,j⟩
theorem afw{T:TypeId}{t:TypeInfo}{z:Value}{zs:aB}(c:o.op=.alloc T)(i:P.info? T=some t)(k:t.zero=some z)(e:mP z.cells.toList=some zs){g:Prop}{y:V}{J':ak}(h:dE fr J (.alloc T zs)=some (g,y,J')):zR P o a B w0 w J μ y J':=by
 simp only[dE,ae,aQ]at h;obtain⟨_,rfl,rfl⟩:=h;obtain⟨b,f,d,j⟩:=Oe hS T _ _ (qQ (w:=w) (J:=J) (μ:=μ) e);exact⟨_,_,b,.inl (by simp[execOp,c,Instr.alloc,zeroValue,typeInfo,i,k,newVar,newRow]),f,d,j⟩
theorem aft{T:TypeId}{t:TypeInfo}{ad x:Operand}{am Y:O}{G:List (cU)}(ho:o.op=.store T ad x)(ht:P.info? T=some t)(ha:cO ad=some am)(hx:cO x=some Y){ob:Prop}{y:V}{J':ak}(h:dE fr J (.store t.size G am Y)=some (ob,y,J'))(fR:ob):zR P o a B w0 w J μ y J':=by
 have h1:=fu hF ha;have h2:=fu hF hx
 have fD:∀b c (m:Array Value) E,a.eval ad=.pointer (some ⟨b,c,none⟩)->w.heap[b]?=some (.cells m E (0,0))->(a.eval x).cells.size=t.size->c+(a.eval x).cells.size<=m.size->(∀u∈(a.eval x).cells,u.oneCell'=true) ->
   (execOp a.eval o).run P w=.ok .skip (w.setRow b (m.toList.take c++(a.eval x).cells.toList++m.toList.drop (c+(a.eval x).cells.size)).toArray):=by
  intro b c m E he I hs hf h1;have ui:=run_storeCells_at P b c E (a.eval x).cells.toList 0 m w I (by simpa using hf) (λv hv=>h1 v (by simpa using hv));simp only[de,bh]at ui;simp[execOp,ho,he,Instr.storeAt,Instr.sureAddr,storeVar,sizeOf,typeInfo,ht,hs,ui]
 simp only[dE]at h;split at h
 .rename_i id c hp;split at h
  .rename_i T' cs s;simp only[ae,aQ]at h;obtain⟨rfl,rfl,rfl⟩:=h;obtain⟨ll,l,CV⟩:=fR;rw[hp]at h1;obtain⟨b,W,hv,_⟩:=h1.wY;obtain⟨b',R,S,hB,I,jD,M⟩:=hS.Wa s;rw[W]at S;simp only[Value.pointer.injEq,ae,Addr.mk.injEq,kP]at S;subst S;obtain⟨hC,JL⟩:=pZ hS h2 ll;have A:(a.eval x).cells.size=t.size:=by rw[<- hC.1];exact l
   have hr:=fD b c R T' hv I A (by rw[A,jD];exact CV) JL;have fk:id<J.length:=(ah.1 s).1;generalize Q:(R.toList.take c++(a.eval x).cells.toList++R.toList.drop (c+(a.eval x).cells.size)).toArray=arr at hr
   have wg:=hS.update (w':=w.setRow b arr) (J':=J.set id (.box T' (cs.take c++jw (ev fr Y)++cs.drop (c+t.size)))) (μ':=μ) id (some b)
    ⟨rfl,rfl,rfl,by simp,λk _ hk=>setRow_other w b k _ (λe=>hk (by simp[e]))⟩
    (λb2 L=>⟨_,s,by simp,by simp only[ae]at L;subst L;simp[W,lZ]⟩)
    (by simp) (λj N=>bz (λe=>N e.symm)) (λ_ _=>rfl)
    (λb2 L=>.inl ⟨_,s,by simp,L⟩)
    (λb2 ab v2 o2 f _ F _ n=>absurd ⟨id,o2,f,F,by rw[s]at f;simp only[ae]at f;subst f;trivial⟩ n)
    (λT2 a1 f=>by rw[s]at f;simp only[ae,Ob.box.injEq]at f;obtain⟨rfl,rfl⟩:=f;exact⟨⟨_,aL fk⟩,rfl⟩)
    (λK E es f=>by rw[s]at f;simp at f)
    (λE d af g' sh q _ f=>by simp[fk]at f)
    (λX o2 f=>by
     simp only[aL fk,ae]at f;subst f;refine⟨b,arr,W,hB,setRow_heap w b R arr T' (0,0) I,?_,λj y H=>?_⟩
     .rw[<- Q];simp only[eU,aj,aP,bA,bh];rw[A,jD,l]
     .have a0:CR w J μ cs R:=⟨jD.symm,λi z hz=>by
       obtain⟨u,F,n⟩:=M i z hz;rw[se I]at F;simpa[cx,F]using n⟩
      have yu:=a0.fill hC c (by rw[l];exact CV);rw[l]at yu;obtain⟨e1,e2⟩:=yu
      have N:j<arr.size:=by
       rw[<- Q];have:=(ah.1 H).1;simp only[eU,aj,aP,bA,bh];simp only[aj,aP,bA]at this;rw[A,jD];rw[l]at this;exact this
      refine⟨arr[j],bO N,?_⟩
      by_cases aa:j<c
      .rw[bk,ay (by simp;omega),cz aa]at H;obtain⟨u,F,n⟩:=M j y H;rw[se I]at F
       have:arr[j]=u:=by
        have p:arr[j]?=some u:=by
         rw[<- Q];simp only[sj];rw[bk,ay (by simp;omega),cz aa];simpa using F
        rw[bO N]at p;simpa using p
       rw[this];exact n.mono X
      .by_cases av:j<c+t.size
       .have BG:(cs.take c).length=c:=by simp;omega
        rw[ay (by simp only[aj,BG,l];omega),aU (by omega),BG]at H;have n:=hC.2 _ y H;have pJ:j - c<(a.eval x).cells.size:=by rw[A];omega
        have:arr[j]=(a.eval x).cells.getD (j - c) undef:=by
         have p:arr[j]?=some ((a.eval x).cells.getD (j - c) undef):=by
          rw[<- Q];simp only[sj];have B0:(R.toList.take c).length=c:=by simp;omega
          rw[ay (by simp only[aj,B0,bh];omega),aU (by omega),B0];simp[pJ]
         rw[bO N]at p;simpa using p
        rw[this];exact n.mono X
       .have BG:(cs.take c++jw (ev fr Y)).length=c+t.size:=by rw[aj,l];simp;omega
        rw[aU (by omega),BG,db]at H;have e3:c+t.size+(j - (c+t.size))=j:=by omega
        rw[e3]at H;obtain⟨u,F,n⟩:=M j y H;rw[se I]at F
        have:arr[j]=u:=by
         have p:arr[j]?=some u:=by
          rw[<- Q];simp only[sj];have B0:(R.toList.take c++(a.eval x).cells.toList).length=c+t.size:=by simp[A];omega
          rw[aU (by omega),B0,db,A,e3];simpa using F
         rw[bO N]at p;simpa using p
        rw[this];exact n.mono X)
   exact⟨undef,_,μ,.inr ⟨hr,rfl⟩,wg.1,.u _,wg.2⟩
  .simp at h
 .rename_i id g i c hp;split at h
  .rename_i E d af g' sh q s;split at h
   .rename_i hg;obtain⟨rfl,rfl⟩:=hg;simp only[ae,aQ]at h;obtain⟨rfl,rfl,rfl⟩:=h;obtain⟨ll,a3,l,CV,hi⟩:=fR;rw[hp]at h1;obtain⟨_,hv⟩:=h1.Oz s;obtain⟨VT,a4,⟨LG,hw⟩,dd,ap⟩:=hS.obj id _ s;rcases hw with⟨_,hn⟩|⟨b,ac,m,W,hB,I,Ez,Co,M,JJ⟩
    .omega
    .have a2:a.eval ad=.pointer (some ⟨b,i*d+c,none⟩):=by rw[hv,W];rfl
     obtain⟨VW,JL⟩:=pZ hS h2 ll;have hC:=VW.eT G;have A:(a.eval x).cells.size=t.size:=by rw[<- VW.1];exact l
     have VM:(eT G (jw (ev fr Y))).length=t.size:=by rw[hC.1];exact A
     have ba:(i+1)*d<=q.length*d:=bI _ hi;have be:q.length*d<=ac*d:=bI _ Ez;have a6:(i+1)*d=i*d+d:=by rw[cJ,ir]
     have hr:=fD b (i*d+c) m E a2 I A (by rw[A,M];omega) JL;have fk:id<J.length:=(ah.1 s).1;generalize Q:(m.toList.take (i*d+c)++(a.eval x).cells.toList++m.toList.drop (i*d+c+(a.eval x).cells.size)).toArray=arr at hr;have Rq:q.getD i []=q[i]:=by simp[hi]
     have U:q[i].length=d:=dd _ (dC hi)
     have CW:∀j,arr.toList[j]?=if i*d+c<=j/\j<i*d+c+t.size then(a.eval x).cells.toList[j - (i*d+c)]? else m.toList[j]?:=by
      intro j;rw[<- Q];have:=zb m.toList (a.eval x).cells.toList (i*d+c) j (by rw[bh,bh,A,M];omega);rw[bh,A]at this;rw[A];exact this
     have J0:arr.size=m.size:=by
      rw[<- Q];simp only[eU,aj,aP,bA,bh];rw[A,M];omega
     have wg:=hS.update (w':=w.setRow b arr) (J':=J.set id (.row E d af g false (q.set i ((q.getD i []).take c++eT G (jw (ev fr Y))++(q.getD i []).drop (c+t.size))))) (μ':=μ) id (some b)
      ⟨rfl,rfl,rfl,by simp,λk _ hk=>setRow_other w b k _ (λe=>hk (by simp[e]))⟩
      (λb2 L=>⟨_,s,by simp,by simp only[ae]at L;subst L;simp[W,lZ]⟩)
      (by simp) (λj N=>bz (λe=>N e.symm)) (λ_ _=>rfl)
      (λb2 L=>.inl ⟨_,s,by simp,L⟩)
      (λb2 ab v2 o2 f _ F _ n=>absurd ⟨id,o2,f,F,by rw[s]at f;simp only[ae]at f;subst f;intro hf;simp at hf⟩ n)
      (λT2 a1 f=>by rw[s]at f;simp at f)
      (λK E es f=>by rw[s]at f;simp at f)
      (λE2 a5 a7 g2 a9 a8 _ f=>by
       simp only[aL fk,ae,Ob.row.injEq]at f;obtain⟨rfl,rfl,rfl,rfl,rfl,rfl⟩:=f;exact⟨g,false,q,s,aD _,λ_=>⟨by simp,rfl⟩⟩)
      (λX o2 f=>by
       simp only[aL fk,ae]at f;subst f;refine⟨VT,arr.toList.take (q.length*d),⟨?_,.inr ⟨b,ac,arr,by simpa using W,hB,setRow_heap w b m arr E (0,0) I,by simpa using Ez,Co,by rw[J0,M],by simp⟩⟩,?_,?_⟩
       .simp only[aP,bh,J0,M,fq];omega
       .intro r aE;rcases uj aE with n|n
        .exact dd r n
        .rw[n,Rq];simp only[aj,aP,bA,U,VM];omega
       .intro D C y H;obtain⟨r,n,p⟩:=jz H;have Pt:D<q.length:=by have:=(ah.1 n).1;simpa using this
        by_cases OK:D=i
        .subst OK;rw[aL hi]at n;simp only[ae]at n;subst n;rw[Rq]at p;have MR:=zb q[D] (eT G (jw (ev fr Y))) c C (by rw[VM,U];exact CV);rw[VM]at MR;rw[MR]at p
         have av:C<d:=by
          have:=(ah.1 (MR▸p:_)).1;simp only[aj,aP,bA,U,VM]at this;omega
         have Hu:D*d+C<q.length*d:=by omega
         by_cases hc:c<=C/\C<c+t.size
         .rw[az hc]at p;refine⟨a3 y (bE p),(a.eval x).cells.getD (C - c) undef,?_,(hC.2 _ y p).mono X⟩;rw[cz Hu,CW,az (by omega)];have e1:D*d+C - (D*d+c)=C - c:=by omega
          have e2:C - c<(a.eval x).cells.size:=by rw[A];omega
          rw[e1];simp[e2]
         .rw[an hc]at p;have ft:gj q D C=some y:=by rw[vW (ax hi)];exact p
          obtain⟨Z,u,h7,h8⟩:=ap D C y ft;refine⟨Z,u,?_,h8.mono X⟩;rw[cz Hu,CW,an (by omega)];rw[<- JJ,cz Hu]at h7;exact h7
        .rw[bz (λe=>OK e.symm)]at n;have ft:gj q D C=some y:=by rw[vW n];exact p
         obtain⟨Z,u,h7,h8⟩:=ap D C y ft
         have av:C<d:=by
          rw[<- dd r (bE n)];exact(ah.1 p).1
         have Hu:D*d+C<q.length*d:=by
          have:(D+1)*d<=q.length*d:=bI _ Pt;rw[cJ,ir]at this;omega
         refine⟨Z,u,?_,h8.mono X⟩;rw[cz Hu,CW,an ?_]
         .rw[<- JJ,cz Hu]at h7;exact h7
         .rintro⟨h9,AU⟩;rcases Nat.lt_or_gt_of_ne OK with Hz|Hz
          .have:(D+1)*d<=i*d:=bI _ Hz;rw[cJ,ir]at this;omega
          .have:(i+1)*d<=D*d:=bI _ Hz;rw[cJ,ir]at this;omega)
     exact⟨undef,_,μ,.inr ⟨hr,rfl⟩,wg.1,.u _,wg.2⟩
   .simp at h
  .simp at h
 .simp at h
end Q5
def lj.grow{P:bo}{B:Nat}{w0 w:bD}{J:ak}{μ:Mem}(hS:lj P B w0 w J μ){id E sz by' g:Nat}{sh sh':Bool}{xs xs':dF}(a:J[id]?=some (.row E sz by' g sh xs)){w':bD}{v':Value}{vals vals':List Value}
  (D:w.grownBy w' (lZ (μ id))) (A:∀b,lZ v'=some b->lZ (μ id)=some b\/w.heap.size<=b)
  (m:∀b,lZ (μ id)=some b->∀j u,vals[j]?=some u->w'.cell? ⟨b,j,none⟩=some u) (Q:vals.length=xs.length*sz\/sh=false) (d:sh=true->∀b,lZ (μ id)=some b->∀j u,w.cell? ⟨b,j,none⟩=some u->j<xs.length*sz->vals[j]?=some u)
  (t:sh=true->sh'=true/\xs.length<=xs'.length) (G:w'.ownsRow B E sz v' xs'.length vals')
  (L:∀J' μ',uc w J μ w' J' μ'->kN w' J' μ' xs' sz vals') :
  lj P B w0 w' (J.set id (.row E sz by' (g+1) sh' xs')) (yO μ id v')/\s7 w J μ w' (J.set id (.row E sz by' (g+1) sh' xs')) (yO μ id v'):=by
 have n:id<J.length:=(ah.1 a).1;refine hS.update id (lZ (μ id)) D (λb i=>⟨_,a,by simp,i⟩) (by simp) (λj l=>bz (λe=>l e.symm)) (λj l=>sI μ id v' j l) ?_ ?_ ?_ ?_ ?_ ?_
 .intro b i;rw[gR]at i;rcases A b i with h|h
  .exact .inl ⟨_,a,by simp,h⟩
  .exact .inr h
 .intro b c u o q _ k z x;rw[a]at q;simp only[ae]at q;subst q;have f:¬(sh=true->xs.length*sz<=c):=λf=>x ⟨id,_,a,k,f⟩
  have r:sh=true:=by
   cases sh with
   |true=>rfl
   |false=>exact absurd (λh=>by simp at h) f
  have y:c<xs.length*sz:=Nat.lt_of_not_le λh=>f λ_=>h;refine⟨m b k c u (d r b k c u z y),λV s W=>?_⟩;simp only[aL n,ae]at s;subst s;intro p;have S:=p (t r).1;have O:xs.length*sz<=xs'.length*sz:=bI _ (t r).2;omega
 .intro T M h;rw[a]at h;simp at h
 .intro K E U h;rw[a]at h;simp at h
 .intro N v C R I H _ h;simp only[aL n,ae,Ob.row.injEq]at h;obtain⟨rfl,rfl,rfl,rfl,rfl,rfl⟩:=h;exact⟨g,sh,xs,a,by omega,λe=>by omega⟩
 .intro F o h;simp only[aL n,ae]at h;subst h;rw[gR];exact⟨(hS.obj id _ a).1,vals',G,L _ _ F.jF⟩
def VR.uq{w:bD}{J:ak}{μ:Mem}{id E sz by' g:Nat}{sh:Bool}{xs:dF}(h:J[id]?=some (.row E sz by' g sh xs)):VR w J μ (.own id g) (μ id) :=
 .own id g _ (ah.1 h).1 λi d e f c b a=>by
  rw[h]at a;simp only[ae,Ob.row.injEq]at a;obtain⟨rfl,rfl,rfl,rfl,rfl,rfl⟩:=a;exact⟨aD _,λ_=>rfl⟩
section Q5
variable {P:bo} {o:Oper} {a:Act} {B:Nat} {w0 w:bD} {J:ak} {μ:Mem} {fr:aB} (hS:lj P B w0 w J μ)
include hS
theorem V3{T U E:TypeId}{t:TypeInfo}{z:Value}{x y:Operand}{xV:V}{ys:dF}{news:List Value}(ho:o.op=.call { callee:=.builtin .append,args:=#[x,y],argTypes:=#[T,U] })
  (hT:P.underlying T=some (.slice E)) (I:P.info? E=some t) (W:t.zero=some z) (jD:0<t.size) (qF:z.cells.size=t.size) (F:VR w J μ xV (a.eval x)) (Q:Src P w U (a.eval y) t.size ys.length news) (D:kN w J μ ys t.size news)
  {ob:Prop} {r:V} {J':ak} (h:E9 E t.size t.bytes J xV ys=some (ob,r,J')) (K:ob):zR P o a B w0 w J μ r J':=by
 have VT:Ti P E t.size t.bytes:=⟨jD,t,z,I,W,rfl,rfl,qF⟩
 have O:∀v w',(Builtin.append_ #[T,U] o.type #[a.eval x,a.eval y]).run P w=.ok v w'->(execOp a.eval o).run P w=.ok (.value v) w':=by
  intro v w' hr;simp only[execOp,ho,resolve,invoke,builtin,Sem.run_bind,Sem.run_pure,Result.andThen_ok,List.map_toArray,aH,bR,hr]
 unfold E9 at h;split at h
 .
  simp only[ae,aQ]at h;obtain⟨rfl,rfl,rfl⟩:=h;have l:=F.tl;obtain⟨v',w',q,n,s,p,G⟩:=Av (ty:=o.type) hT I W qF Q B (.slice none 0 0) 0 [] (World.ownsRow_nil w B E t.size) (by simpa using K.2) (by simpa using K.1) hS.base;simp only[aY,bc]at n
  have A:=hS.z6 (w':=w') (.row E t.size t.bytes 0 false ys) v' s (λb m=>by
   rcases p b m with h6|h6
   .simp[lZ]at h6
   .exact h6) (λhp=>⟨VT,news,n,D.jF hp.jF⟩)
  refine⟨v',w',_,.inl (O _ _ (by rw[l];exact q)),A.1,?_,A.2⟩;have:=VR.uq (w:=w') (J:=J++[.row E t.size t.bytes 0 false ys]) (μ:=yO μ J.length v') (id:=J.length) (E:=E) (sz:=t.size) (by':=t.bytes) (g:=0) (sh:=false) (xs:=ys) (by simp)
  rwa [gR]at this
 .
  rename_i X xs;split at h
  .rename_i Z;subst Z;simp only[ae,aQ]at h;obtain⟨rfl,rfl,rfl⟩:=h
   by_cases M:ys=[]
   .subst M;simp only[List.isEmpty_nil,aT];rcases F.wZ with⟨rfl,l⟩|⟨b,aE,f,l,_⟩
    .exact⟨_,w,μ,.inl (O _ _ (by rw[l];exact uF hT I Q none 0 0 (aD _))),hS,l▸F,s7.refl _ _ _⟩
    .exact⟨_,w,μ,.inl (O _ _ (by rw[l];exact uF hT I Q _ _ _ (aD _))),hS,l▸F,s7.refl _ _ _⟩
   .have iR:ys.isEmpty=false:=by cases ys<;>simp_all
    have wy:0<ys.length:=cT.2 M;simp only[iR,aI,aS];have Sz:=FA hS F (sz:=t.size) (xs:=xs) (by simp[rowsOf])
    have aa:∃(R:Option Addr) (d:List Value),a.eval x=.slice R xs.length xs.length/\d.length=xs.length*t.size/\((R=none/\xs.length=0)\/∃b,R=some b/\∀j v,d[j]?=some v->w.cell? (b.add j)=some v)/\kN w J μ xs t.size d:=by
     rcases F.wZ with⟨rfl,l⟩|⟨b,aE,f,l,N,hr⟩
     .exact⟨none,[],l,by simp,.inl ⟨rfl,rfl⟩,by simp,by simp[gj]⟩
     .rw[l]at Sz;obtain⟨vals,q,n,s,p⟩:=Sz.cells (λi j y M=>wI (hr.2.1 i j y M).2.2) hS;exact⟨_,vals,l,q,.inr ⟨_,rfl,n⟩,p⟩
    obtain⟨R,d,l,vI,ap,a0⟩:=aa;obtain⟨v',w',q,n,s,p⟩:=P3 (ty:=o.type) hT I W qF Q B R xs.length d vI ap wy K.2 K.1 hS.base;have A:=hS.z6 (w':=w') (.row E t.size t.bytes 0 false (xs++ys)) v' s p (λhp=>⟨VT,d++news,by rw[aj];exact n,(a0.append D vI).jF hp.jF⟩);refine⟨v',w',_,.inl (O _ _ (by rw[l];exact q)),A.1,?_,A.2⟩;have:=VR.uq (w:=w') (J:=J++[.row E t.size t.bytes 0 false (xs++ys)]) (μ:=yO μ J.length v') (id:=J.length) (E:=E) (sz:=t.size) (by':=t.bytes) (g:=0) (sh:=false) (xs:=xs++ys) (by simp)
    rwa [gR]at this
  .simp at h
 .
  rename_i id g;split at h
  .rename_i E' X am g' sh xs m;split at h
   .rename_i Y;obtain⟨rfl,rfl,rfl,rfl⟩:=Y;simp only[ae,aQ]at h;obtain⟨rfl,rfl,rfl⟩:=h;have l:=F.mK m;obtain⟨_,vals,H,dd⟩:=hS.obj id _ m;obtain⟨v',w',q,n,s,p,G⟩:=Av (ty:=o.type) hT I W qF Q B (μ id) xs.length vals H K.2 K.1 hS.base;have fk:id<J.length:=(ah.1 m).1
    have A:=hS.grow m (sh':=sh) (xs':=xs++ys) (v':=v') (vals:=vals) (vals':=vals++news) s p G (.inl H.1) (λ_ b mj j u Y hj=>by
      have ab:j<vals.length:=by rw[H.1];exact hj
      have:=H.cells (g:=b) (by
       have:(μ id).ownBlock=lZ (μ id):=by
        rcases H.2 with⟨N,_⟩|⟨g,C,S,N,_⟩<;>rw[N]<;>rfl
       rw[this];exact mj) j vals[j] (ax ab)
      rw[Addr.add_lit,aY,Y]at this;simp only[ae]at this;rw[ax ab,this]) (λh=>⟨h,by simp⟩) (by rw[aj];exact n) (λJ' av k=>(dd.append D H.1).jF k)
    refine⟨v',w',_,.inl (O _ _ (by rw[l];exact q)),A.1,?_,A.2⟩;have:=VR.uq (w:=w') (J:=J.set id (.row E t.size t.bytes (g+1) sh (xs++ys))) (μ:=yO μ id v') (id:=id) (E:=E) (sz:=t.size) (by':=t.bytes) (g:=g+1) (sh:=sh) (xs:=xs++ys) (aL fk)
    rwa [gR]at this
   .simp at h
  .simp at h
 .
  rename_i id g lo e;split at h
  .rename_i E' X am g' sh xs m;split at h
   .rename_i Y;obtain⟨rfl,rfl,rfl,rfl,rfl,rfl⟩:=Y;simp only[ae,aQ]at h;obtain⟨rfl,rfl,rfl⟩:=h;obtain⟨_,_,l⟩:=F.wX m;obtain⟨_,vals,H,dd⟩:=hS.obj id _ m;obtain⟨SB,yQ,mj⟩:=K
    have c:w.ownsRow B E t.size (a.eval x) e (vals.take (e*t.size))/\lZ (a.eval x)=lZ (μ id):=by
     have a2:e*t.size<=xs.length*t.size:=bI _ SB;rcases H with⟨LG,⟨N,A⟩|⟨b,C,S,N,q,n,s,p,G,h6⟩⟩
     .have h0:e=0:=by omega
      subst h0;rw[l,N];exact⟨⟨by simp,.inl ⟨rfl,rfl⟩⟩,rfl⟩
     .rw[l,N]
      have he:pO (.slice (some ⟨b,0,none⟩) xs.length C) 0 e t.size=.slice (some ⟨b,0,none⟩) e C:=by
       simp[pO,Addr.add_lit]
      rw[he];refine⟨⟨by simp only[aP,LG];omega,.inr ⟨b,C,S,rfl,q,n,by omega,p,G,?_⟩⟩,rfl⟩;rw[<- h6,lB,fb a2]
    have L:kN w J μ (xs.take e) t.size (vals.take (e*t.size)):=by
     refine⟨λr hr=>dd.1 r (cF hr),λi j y M=>?_⟩;have a1:gj (List.take (e - 0) (List.drop 0 xs)) i j=some y:=by simpa using M
     have q:=Ia a1;rw[aY]at q;obtain⟨hp,u,n,s⟩:=dd.2 i j y q;refine⟨hp,u,?_,s⟩;obtain⟨r,p,G⟩:=jz M
     have af:i<e:=by
      have:=(ah.1 p).1;simp at this;omega
     have hj:j<t.size:=by
      rw[<- dd.1 r (cF (bE p))];exact(ah.1 G).1
     have:(i+1)*t.size<=e*t.size:=bI _ af;rw[cJ,ir]at this;rw[cz (by omega)];exact n
    have ac:(xs.take e).length=e:=by simp;omega
    obtain⟨v',w',q,n,s,p,G⟩:=Av (ty:=o.type) hT I W qF Q B (a.eval x) e _ c.1 mj yQ hS.base;rw[c.2]at s;have fk:id<J.length:=(ah.1 m).1;have A:=hS.grow m (sh':=false) (xs':=xs.take e++ys) (v':=v') (vals:=vals.take (e*t.size)) (vals':=vals.take (e*t.size)++news) s (λb m=>by rw[<- c.2];exact p b m) (λb m=>G b (by rw[c.2];exact m)) (.inr rfl) (λh=>by simp at h) (λh=>by simp at h) (by rw[aj,ac];exact n) (λJ' av k=>(L.append D (by rw[ac];exact c.1.1)).jF k);refine⟨v',w',_,.inl (O _ _ q),A.1,?_,A.2⟩;have:=VR.uq (w:=w') (J:=J.set id (.row E t.size t.bytes (g+1) false (xs.take e++ys))) (μ:=yO μ id v') (id:=id) (E:=E) (sz:=t.size) (by':=t.bytes) (g:=g+1) (sh:=false) (xs:=xs.take e++ys) (aL fk)
    rwa [gR]at this
   .simp at h
  .simp at h
 .simp at h
variable (hF:FR w J μ fr a)
include hF
theorem an9{T E:TypeId}{t:TypeInfo}{z:Value}{x y:Operand}{d c:O}(e:o.op=.call { callee:=.builtin .append,args:=#[x,y],argTypes:=#[T,T] })
  (hT:P.underlying T=some (.slice E)) (i:P.info? E=some t) (q:t.zero=some z) (k:0<t.size) (l:z.cells.size=t.size) (j:cO x=some d) (g:cO y=some c)
  {b:Prop} {r:V} {J':ak} (h:dE fr J (.app E t.size t.bytes d c)=some (b,r,J')) (m:b):zR P o a B w0 w J μ r J':=by
 simp only[dE]at h;split at h
 .rename_i s p;obtain⟨news,n,f⟩:=(FA hS (fu hF g) p).src hS hT;exact V3 hS e hT i q k l (fu hF j) n f h m
 .simp at h
theorem ai8{T U E:TypeId}{t:TypeInfo}{z:Value}{x y:Operand}{f e:O}(g:o.op=.call { callee:=.builtin .append,args:=#[x,y],argTypes:=#[T,U] })
  (hT:P.underlying T=some (.slice E)) (p:P.underlying U=some .string) (m:P.info? E=some t) (C:t.zero=some z) (c:t.size=1) (b:t.bytes=1) (u:z.cells.size=t.size) (q:cO x=some f) (k:cO y=some e)
  {d:Prop} {r:V} {J':ak} (h:dE fr J (.apps E f e)=some (d,r,J')) (v:d):zR P o a B w0 w J μ r J':=by
 simp only[dE]at h;split at h
 .rename_i l i;obtain⟨s,n,rfl,_⟩:=(i▸fu hF k).qf;obtain⟨A,j⟩:=SX (P:=P) (w:=w) (J:=J) (μ:=μ) p s;refine V3 (news:=Lib.strCells s) hS g hT m C (by omega) u (fu hF q) (by rw[n,c];exact A) (by rw[c];exact j) (by rw[c,b];exact h) v
 .simp at h
theorem afv{T K E:TypeId}(c:o.op=.makeMap T none){d:Prop}{r:V}{J':ak}(h:dE fr J (.GP K E)=some (d,r,J')):zR P o a B w0 w J μ r J':=by
 simp only[dE,ae,aQ]at h;obtain⟨_,rfl,rfl⟩:=h;have b:=hS.z6 (w':=w.alloc (.map #[] 0)) (.map K E []) (.map (some w.heap.size)) (World.grownBy_alloc w _ none) (by simp[lZ]) (λe=>⟨w.heap.size,#[],0,rfl,hS.base,heap_alloc_new w _,by simp,by simp,by simp,by simp⟩);refine⟨_,_,_,.inl (by simp[execOp,c,Instr.makeMap];rfl),b.1,?_,b.2⟩;exact .mp _ _ ⟨K,E,[],by simp⟩ (gR _ _ _)
end Q5
def abJ{zs:aB}{n i j:Nat}{x:V}(h:gj (List.replicate n zs) i j=some x):i<n/\zs[j]?=some x:=by
 obtain⟨r,a,c⟩:=jz h;have b:i<n:=by have:=(ah.1 a).1;simpa using this
 rw[wu,az b]at a;simp only[ae]at a;subst a;exact⟨b,c⟩
def rY(z:Array Value)(j:Nat)(h:j<z.size):z[j]! = z.getD j undef:=by simp[h]
def CR.AD{w:bD}{J:ak}{μ:Mem}(b:List (cU)){xs:aB}{a:Array Value}(h:CR w J μ xs a):VR w J μ (.agg (Pm.eT b xs)) (.agg a):=(CR.eT b h).Zi
def XJ{b:dK}{a:Nat}(h:ahM b=some a):(a=4/\b=[1,1])\/(a=5/\b=[0,1,0]):=by
 unfold ahM at h;split at h<;>simp at h
 .exact .inl ⟨h.symm,rfl⟩
 .exact .inr ⟨h.symm,rfl⟩
def tj{P:bo}{K b:Nat}(h:oG P K=some b):
  (b=0/\∃q,P.underlying K=some (.int q))\/(b=1/\P.underlying K=some .string)\/(b=3/\∃e q,P.underlying K=some (.array 2 e)/\P.underlying e=some (.int q)/\P.cellsOf e=1) \/
   (∃d c,P.underlying K=some (.struct d)/\P.stoodInHeld K=false/\ot P 0 d.toList=some c/\((b=4/\c=[1,1])\/(b=5/\c=[0,1,0]))):=by
 unfold oG at h;split at h
 .rename_i q a;simp only[ae]at h;exact .inl ⟨h.symm,q,a⟩
 .rename_i a;simp only[ae]at h;exact .inr (.inl ⟨h.symm,a⟩)
 .rename_i d a;split at h
  .rename_i j;rw[HH]at h;obtain⟨c,i,g⟩:=h;exact .inr (.inr (.inr ⟨d,c,a,j,i,XJ g⟩))
  .simp at h
 .rename_i e a;split at h
  .rename_i q f;split at h
   .rename_i k;simp only[ae]at h;exact .inr (.inr (.inl ⟨h.symm,e,q,a,f,k⟩))
   .simp at h
  .simp at h
 .simp at h
def Kc{P:bo}{w:bD}{J:ak}{μ:Mem}{K:TypeId}{m:Nat}{d:TypeDesc}(u:P.underlying K=some d)(B:oG P K=some m)(j:m<3){k:V}{kv:Value}(t:VR w J μ k kv):
  ∀(l:List (V×V)) (c:List MapEntry) (n:Nat) (r:Option (Nat×V)),c.length=l.length->(∀(i:Nat) (a x:V),l[i]?=some (a,x)->∃e:MapEntry,c[i]?=some e/\VR w J μ a e.key/\VR w J μ x e.val)->gV m k l n=some r ->
   (r=none/\Instr.findNow d kv c n=some none)\/∃i x e a,r=some (n+i,x)/\l[i]?=some (a,x)/\c[i]?=some e/\dD m k a=some true/\Instr.findNow d kv c n=some (some (n+i,e.val))
 |[],c,n,r,hl,_,h=>by
  have:c=[]:=aW hl;subst this;simp only[gV,ae]at h;subst h;exact .inl ⟨rfl,rfl⟩
 |(a,x)::l,c,n,r,hl,hr,h=>by
  cases c with
  |nil=>simp at hl
  |cons e c =>
   obtain⟨N,C,A,M⟩:=hr 0 a x rfl;simp only[aM,ae]at C;subst C
   have z:∀b,dD m k a=some b->Instr.sameNow d kv e.key=some b:=by
    intro b f;rcases tj B with⟨rfl,q,g⟩|⟨rfl,g⟩|⟨rfl,_⟩|⟨_,_,_,_,_,⟨rfl,_⟩|⟨rfl,_⟩⟩
    .rw[u]at g;simp only[ae]at g;subst g;cases k<;>(try (simp[dD]at f;done));cases a<;>(try (simp[dD]at f;done));simp only[dD]at f;split at f<;>simp only[ae,reduceCtorEq]at f;rename_i D;subst D;rw[t.iF,A.iF];simp[Instr.sameNow,f]
    .rw[u]at g;simp only[ae]at g;subst g;cases k<;>(try (simp[dD]at f;done));cases a<;>(try (simp[dD]at f;done));simp only[dD,ae]at f;obtain⟨s,rfl,rfl,_⟩:=t.qf;obtain⟨L,p,rfl,_⟩:=A.qf;rw[p];simp only[Instr.sameNow,ae];rw[beq_toListBytes,toList_data,toList_data];exact f
    all_goals omega
   simp only[gV]at h;split at h
   .rename_i f;simp only[ae]at h;subst h;exact .inr ⟨0,x,e,a,rfl,rfl,rfl,f,by simp[Instr.findNow,z true f]⟩
   .rename_i f
    have ih:=Kc u B j t l c (n+1) r (by simpa using hl) (λi a x G=>by
     obtain⟨v,j,o⟩:=hr (i+1) a x G;exact⟨v,by simpa using j,o⟩) h
    rcases ih with⟨j,o⟩|⟨i,y,v,I,j,o,E,H,F⟩
    .exact .inl ⟨j,by simp[Instr.findNow,z false f,o]⟩
    .exact .inr ⟨i+1,y,v,I,by rw[j];congr 2;omega,o,by simpa using E,H,by simp only[Instr.findNow,z false f,F];congr 3;omega⟩
   .simp at h
def AG{xs ys:aB}{r:Bool}(h:Tk xs ys=some r):∃k a l b c d,xs=[.i k a,.i l b]/\ys=[.i k c,.i l d]/\r=(a==c&&b==d):=by
 unfold Tk at h;split at h
 .split at h<;>simp only[ae,reduceCtorEq]at h;rename_i e;obtain⟨rfl,rfl⟩:=e;exact⟨_,_,_,_,_,_,rfl,rfl,h.symm⟩
 .simp at h
def Ao{xs ys:aB}{r:Bool}(h:IA xs ys=some r):∃a b d c,xs=[.s a,.s b]/\ys=[.s d,.s c]/\r=(a==d&&b==c):=by
 unfold IA at h;split at h
 .simp only[ae]at h;exact⟨_,_,_,_,rfl,rfl,h.symm⟩
 .simp at h
def CE{xs ys:aB}{r:Bool}(h:Ik xs ys=some r):∃k a b l c d f e,xs=[.i k a,.s b,.i l c]/\ys=[.i k d,.s f,.i l e]/\r=(a==d&&(b==f&&c==e)):=by
 unfold Ik at h;split at h
 .split at h<;>simp only[ae,reduceCtorEq]at h;rename_i g;obtain⟨rfl,rfl⟩:=g;exact⟨_,_,_,_,_,_,_,_,rfl,rfl,h.symm⟩
 .simp at h
def Np{xs ys:aB}{r:Bool}(h:IA xs ys=some r):gC [1,1] xs ys=some r/\xs.length=2/\ys.length=2:=by
 obtain⟨a,b,c,d,rfl,rfl,rfl⟩:=Ao h;exact⟨by simp[gC,dD],rfl,rfl⟩
def PF{xs ys:aB}{r:Bool}(h:Ik xs ys=some r):gC [0,1,0] xs ys=some r/\xs.length=3/\ys.length=3:=by
 obtain⟨k,a,b,l,c,d,f,e,rfl,rfl,rfl⟩:=CE h;exact⟨by simp[gC,dD],rfl,rfl⟩
def Au{c:Nat}{k a:V}(h:dD c k a=some true):k=a:=by
 unfold dD at h;split at h
 .split at h<;>simp_all
 .simp_all
 .simp_all
 .obtain⟨_,_,_,_,_,_,rfl,rfl,b⟩:=AG h;have:=b.symm;simp at this;obtain⟨rfl,rfl⟩:=this;rfl
 .obtain⟨_,_,_,_,rfl,rfl,b⟩:=Ao h;have:=b.symm;simp at this;obtain⟨rfl,rfl⟩:=this;rfl
 .obtain⟨_,_,_,_,_,_,_,_,rfl,rfl,b⟩:=CE h;have:=b.symm;simp at this;obtain⟨rfl,rfl,rfl⟩:=this;rfl
 .simp at h
def DA{P:bo}{w:bD}{J:ak}{μ:Mem}{K:TypeId}{b:Array Field}{c:dK}(i:P.underlying K=some (.struct b))(m:P.stoodInHeld K=false)(k:ot P 0 b.toList=some c)
  {xs ys:aB} {kv g:Value} (n:VR w J μ (.agg xs) kv) (o:VR w J μ (.agg ys) g) {r:Bool} (h:gC c xs ys=some r):(Op.equal K kv g).run P w=.ok r w:=by
 obtain⟨d,rfl,q,p⟩:=n.mi;obtain⟨e,rfl,s,l⟩:=o.mi;have a:P.fieldsOf K=b:=by simp[Program.fieldsOf,i]
 show(Op.equalIn 10000 K (.agg d) (.agg e)).run P w=.ok r w;rw[run_equalIn_struct w 9999 K d e (by rw[a];exact i) m,a];exact ze b.toList c 0 xs ys d e r 9998 k (λj z f=>by simpa using p j z f) (λj z f=>by simpa using l j z f) (by omega) (by omega) h
def WH{P:bo}{w:bD}{J:ak}{μ:Mem}{K:TypeId}{i:Nat}(r:oG P K=some i)(A:¬i<3){k:V}{kv:Value}(j:VR w J μ k kv):
  ∃d,P.underlying K=some d/\(∀e l n,Instr.findNow d kv (e::l) n=none)/\∀a g b,VR w J μ a g->dD i k a=some b->(Op.equal K kv g).run P w=.ok b w:=by
 rcases tj r with⟨rfl,_⟩|⟨rfl,_⟩|⟨rfl,e,q,f,s,t⟩|⟨y,x,f,o,m,p⟩
 .omega
 .omega
 .refine⟨_,f,λe l n=>by simp[Instr.findNow,Instr.sameNow],λa g b h c=>?_⟩;cases k<;>(try (simp[dD]at c;done));cases a<;>(try (simp[dD]at c;done));simp only[dD]at c;obtain⟨u,B,C,v,D,z,rfl,rfl,rfl⟩:=AG c;rw[j.pair,h.pair];exact Cf f s t _ _ _ _ _ _
 .refine⟨_,f,λe l n=>by simp[Instr.findNow,Instr.sameNow],λa g b h c=>?_⟩;rcases p with⟨rfl,rfl⟩|⟨rfl,rfl⟩
  .cases k<;>(try (simp[dD]at c;done));cases a<;>(try (simp[dD]at c;done));exact DA f o m j h (Np c).1
  .cases k<;>(try (simp[dD]at c;done));cases a<;>(try (simp[dD]at c;done));exact DA f o m j h (PF c).1
def Cs{P:bo}{w:bD}{J:ak}{μ:Mem}{K:TypeId}{o:Nat}{k:V}{kv:Value}(q:∀a s b,VR w J μ a s->dD o k a=some b->(Op.equal K kv s).run P w=.ok b w):
  ∀(g:List (V×V)) (c:List MapEntry) (n:Nat) (r:Option (Nat×V)),c.length=g.length->(∀(i:Nat) (a x:V),g[i]?=some (a,x)->∃e:MapEntry,c[i]?=some e/\VR w J μ a e.key/\VR w J μ x e.val)->gV o k g n=some r ->
   (r=none/\(Instr.findAsking K kv c n).run P w=.ok none w)\/∃i x e a,r=some (n+i,x)/\g[i]?=some (a,x)/\c[i]?=some e/\dD o k a=some true/\(Instr.findAsking K kv c n).run P w=.ok (some (n+i,e.val)) w
 |[],c,n,r,hl,_,h=>by
  have:c=[]:=aW hl;subst this;simp only[gV,ae]at h;subst h;exact .inl ⟨rfl,by simp[Instr.findAsking]⟩
 |(a,x)::g,c,n,r,hl,hr,h=>by
  cases c with
  |nil=>simp at hl
  |cons f c =>
   obtain⟨D,l,t,C⟩:=hr 0 a x rfl;simp only[aM,ae]at l;subst l;have p:∀b,dD o k a=some b->(Op.equal K kv f.key).run P w=.ok b w:=λb d=>q a _ b t d;simp only[gV]at h;split at h
   .rename_i d;simp only[ae]at h;subst h;exact .inr ⟨0,x,f,a,rfl,rfl,rfl,d,by simp[Instr.findAsking,p true d]⟩
   .rename_i d
    have ih:=Cs q g c (n+1) r (by simpa using hl) (λi a x z=>by
     obtain⟨f,m,j⟩:=hr (i+1) a x z;exact⟨f,by simpa using m,j⟩) h
    rcases ih with⟨m,j⟩|⟨i,y,f,B,m,j,v,A,u⟩
    .exact .inl ⟨m,by simp[Instr.findAsking,p false d,j]⟩
    .exact .inr ⟨i+1,y,f,B,by rw[m];congr 2;omega,j,by simpa using v,A,by simp only[Instr.findAsking,Sem.run_bind,p false d,Result.andThen_ok,aI,aS,u];congr 3;omega⟩
   .simp at h
def pr{P:bo}{w:bD}{J:ak}{μ:Mem}{K:TypeId}{n:Nat}(q:oG P K=some n){k:V}{kv:Value}(y:VR w J μ k kv)
  (l:List (V×V)) (b:List MapEntry) (r:Option (Nat×V)) (s:b.length=l.length) (t:∀(i:Nat) (a x:V),l[i]?=some (a,x)->∃e:MapEntry,b[i]?=some e/\VR w J μ a e.key/\VR w J μ x e.val) (h:gV n k l 0=some r) :
   (r=none/\(Instr.findKey K kv b).run P w=.ok none w)\/∃i x e a,r=some (i,x)/\l[i]?=some (a,x)/\b[i]?=some e/\dD n k a=some true/\(Instr.findKey K kv b).run P w=.ok (some (i,e.val)) w:=by
 by_cases u:n<3
 .have c:∃d,P.underlying K=some d:=by
   rcases tj q with⟨_,_,h⟩|⟨_,h⟩|⟨_,_,_,h,_⟩|⟨_,_,h,_⟩<;>exact⟨_,h⟩
  obtain⟨d,c⟩:=c;have j:=Kc c q u y l b 0 r s t h;simp only[aY]at j;rcases j with⟨f,g⟩|⟨i,x,e,a,f,g,m,p,o⟩
  .exact .inl ⟨f,by simp[Instr.findKey,run_underlying c,g]⟩
  .exact .inr ⟨i,x,e,a,f,g,m,p,by simp[Instr.findKey,run_underlying c,o]⟩
 .obtain⟨d,c,v,z⟩:=WH q u y;have j:=Cs z l b 0 r s t h;cases b with
  |nil =>
   rcases j with⟨f,g⟩|⟨i,x,e,a,_,_,m,_⟩
   .exact .inl ⟨f,by simp[Instr.findKey,run_underlying c,Instr.findNow]⟩
   .simp at m
  |cons A b =>
   simp only[aY]at j;rcases j with⟨f,g⟩|⟨i,x,e,a,f,g,m,p,o⟩
   .exact .inl ⟨f,by simp[Instr.findKey,run_underlying c,v,g]⟩
   .exact .inr ⟨i,x,e,a,f,g,m,p,by simp[Instr.findKey,run_underlying c,v,o]⟩
def zZ{P:bo}{w:bD}(i:Bool)(n:Nat)(c:Array Value):∀(e:List Field) (g:dK) (m:Nat),ot P m e=some g->c.size=m+g.length ->
  (forIn e PUnit.unit (λf _=>do
   if f.name ≠ "_" then
    Instr.checkKey i (n+1) f.type (<- part f.type c f.offset)
    pure (ForInStep.yield PUnit.unit)
   else pure (ForInStep.yield PUnit.unit):Field->PUnit->Sem (ForInStep PUnit))).run P w=.ok PUnit.unit w
 |[],_,_,_,_=>by simp
 |f::e,g,m,hf,hl=>by
  simp only[ot]at hf;split at hf
  .rename_i o;obtain⟨o,l⟩:=o
   have p:∃k a,g=k::a/\ot P (m+1) e=some a/\jC P f.type=some false/\∀v:Value,(Instr.checkKey i (n+1) f.type v).run P w=.ok () w:=by
    split at hf<;>simp only[ae,reduceCtorEq]at hf
    .rename_i k a b d;exact⟨0,a,hf.symm,d,by simp[jC,b],λv=>by simp[Instr.checkKey,run_underlying b]⟩
    .rename_i a b d;exact⟨1,a,hf.symm,d,by simp[jC,b],λv=>by simp[Instr.checkKey,run_underlying b]⟩
    .rename_i a b d;exact⟨2,a,hf.symm,d,by simp[jC,b],λv=>by simp[Instr.checkKey,run_underlying b]⟩
   obtain⟨k,a,rfl,d,r,q⟩:=p;have h:m<c.size:=by simp at hl;omega
   have j:(part f.type c f.offset).run P w=.ok (c.getD m undef) w:=by
    simp only[part,Sem.run_bind,pE r,Result.andThen_ok,aI,aS,o];rw[show c[m]?=some (c.getD m undef)by simp[h]];rfl
   have ih:=zZ (P:=P) (w:=w) i n c e a (m+1) d (by simp at hl;omega);simp only[List.forIn_cons,Sem.run_bind,fc,l,cP,aT,j,Result.andThen_ok,q,Sem.run_pure,ih]
  .simp at hf
def run_checkKey{P:bo}{w:bD}{J:ak}{μ:Mem}{K:TypeId}{u:Nat}(H:oG P K=some u)(m:Bool)(n:Nat){k:V}{v:Value}(r:VR w J μ k v)(b:qd u k=true):(Instr.checkKey m (n+2) K v).run P w=.ok () w:=by
 rcases tj H with⟨_,_,h⟩|⟨_,h⟩|⟨rfl,e,q,h,p,R⟩|⟨Q,t,h,B,O,E⟩
 .simp[Instr.checkKey,run_underlying h]
 .simp[Instr.checkKey,run_underlying h]
 .simp only[qd]at b;split at b
  .rename_i g o d l;rw[r.pair]
   have s:∃i,P.info? e=some i:=by
    unfold Program.underlying at p;cases h:P.info? e with
    |none=>simp[h]at p
    |some i=>exact⟨i,rfl⟩
   obtain⟨i,s⟩:=s;have I:jC P e=some false:=by simp[jC,p]
   have A:∀(x y:Value) (j:Nat) (z:Value),#[x,y][j]?=some z->(part e #[x,y] j).run P w=.ok z w:=by
    intro x y j z N;simp only[part,Sem.run_bind,pE I,Result.andThen_ok,aI,aS,N];rfl
   have B:(sizeOf e).run P w=.ok 1 w:=by rw[run_sizeOf w s,R]
   have D:=A (.int g o) (.int d l) 0 (.int g o) rfl;have F:=A (.int g o) (.int d l) 1 (.int d l) rfl
   have C:∀v:Value,(∃q a,v=.int q a)->(Instr.checkKey m (n+1) e v).run P w=.ok () w:=by
    rintro v ⟨_,_,rfl⟩;simp[Instr.checkKey,run_underlying p]
   have L:=C (.int g o) ⟨_,_,rfl⟩;have M:=C (.int d l) ⟨_,_,rfl⟩;rw[Instr.checkKey];simp only[Sem.run_bind,run_underlying h,Result.andThen_ok];simp only[Std.Legacy.Range.forIn_eq_forIn_range',Std.Legacy.Range.size,xG,Nat.add_one_sub_one,Nat.div_one,show List.range' 0 2=[0,1]from rfl,List.forIn_cons,List.forIn_nil];simp only[Sem.run_bind,B,Result.andThen_ok,Pc,D,F,L,M,Sem.run_pure]
  .simp at b
 .have f:∀c:Array Value,c.size=t.length->(Instr.checkKey m (n+2) K (.agg c)).run P w=.ok () w:=by
   intro c G;rw[Instr.checkKey];simp only[Sem.run_bind,run_underlying h,Result.andThen_ok];rw[<- Array.forIn_toList];have:=zZ (P:=P) (w:=w) m n c Q.toList t 0 O (by omega);simp at this |-;rw[this];rfl
  rcases E with⟨rfl,rfl⟩|⟨rfl,rfl⟩
  .simp only[qd]at b;split at b
   .obtain⟨c,rfl,d,_⟩:=r.mi;exact f c (by simpa using d.symm)
   .simp at b
  .simp only[qd]at b;split at b
   .obtain⟨c,rfl,d,_⟩:=r.mi;exact f c (by simpa using d.symm)
   .simp at b
def Pv{P:bo}{w:bD}{J:ak}{μ:Mem}{E:TypeId}{z:V}(h:zeroV P E=some z):∃v,(zeroValue E).run P w=.ok v w/\VR w J μ z v:=by
 unfold zeroV at h;split at h
 .rename_i t b;split at h
  .rename_i cs a;simp only[aF]at h;obtain⟨zs,c,rfl⟩:=h;exact⟨_,by simp[zeroValue,typeInfo,b,a],(qQ (cs:=cs) c).AD _⟩
  .rename_i d e a;exact⟨_,by simp[zeroValue,typeInfo,b,a],Gg h⟩
  .simp at h
 .simp at h
section fa
variable {P:bo} {o:Oper} {a:Act} {B:Nat} {w0 w:bD} {J:ak} {μ:Mem} {fr:aB} (hF:FR w J μ fr a) (hS:lj P B w0 w J μ)
include hF hS
theorem agO{T K E:TypeId}{x:Operand}{j:O}(g:o.op=.call { callee:=.builtin .len,args:=#[x],argTypes:=#[T] })(hT:P.underlying T=some (.map K E))(p:cO x=some j)
  {t:Prop} {y:V} (h:bT fr J (.Jj j)=some (t,y)):Yields P o a w J μ y:=by
 have d:=fu hF p;simp only[bT]at h;split at h
 .rename_i e;simp only[ae,aQ]at h;obtain⟨_,rfl⟩:=h;rw[e]at d;have f:a.eval x=.map none:=d.JD;refine .pure (v:=.int .i64 0) ?_ (.i _ _);simp[execOp,g,resolve,invoke,builtin,f,Builtin.len_,run_underlying hT,goInt]
 .rename_i id e;split at h
  .rename_i A z l m;simp only[ae,aQ]at h;obtain⟨_,rfl⟩:=h;rw[e]at d;obtain⟨r,f,q,_⟩:=d.AQ;obtain⟨u,c,clock,b,_,k,s⟩:=hS.obj id _ m;rw[q]at b;simp only[Value.map.injEq,ae]at b;subst b;refine .pure (v:=.int .i64 l.length) ?_ (.i _ _);have n:(getObj r).run P w=.ok (.map c clock) w:=by simp[getObj,Sem.run,k]
   simp[execOp,g,resolve,invoke,builtin,f,Builtin.len_,run_underlying hT,goInt,n,s.1]
  .simp at h
 .simp at h
theorem agR{T K E:TypeId}{m k:Operand}{I k':O}{t:Nat}{z:V}{ok:Bool}(ho:o.op=.lookup T m k ok)(hT:P.underlying T=some (.map K E))(hm:cO m=some I)(hk:cO k=some k')(D:oG P K=some t)(hz:zeroV P E=some z)
  {U:Prop} {y:V} (h:bT fr J (.look t z ok I k')=some (U,y)) (fR:U):Yields P o a w J μ y:=by
 have H:=fu hF hm;have C:=fu hF hk;obtain⟨zv,p,M⟩:=Pv (w:=w) (J:=J) (μ:=μ) hz
 have B:qd t (ev fr k')=true:=by
  simp only[bT]at h;split at h<;>simp only[ae,aQ,reduceCtorEq]at h<;>(obtain⟨rfl,_⟩:=h;exact fR)
 have Hw:∀(u:V) (v:Value) (q:Bool),VR w J μ u v->(Instr.lookup T (a.eval m) (a.eval k) ok).run P w=.ok (if ok then .tuple #[v,.bool q]else v) w->Yields P o a w J μ (if ok then .iQ [u,.b q]else u):=by
  intro u v q X g;refine .pure (v:=if ok then .tuple #[v,.bool q]else v) (by simp[execOp,ho,g]) ?_;cases ok
  .exact X
  .refine .iQ _ _ rfl λi x s=>?_
   match i with
   |0=>simp only[aM,ae]at s;subst s;exact X
   |1=>simp only[bX,aM,ae]at s;subst s;exact .b _
   |i+2=>simp at s
 have LL:∀(r:Option (Option (Nat×V))),ek J t (ev fr I) (ev fr k')=r->∀q,r=some q ->
   (q=none->(Instr.lookup T (a.eval m) (a.eval k) ok).run P w=.ok (if ok then .tuple #[zv,.bool false]else zv) w) /\
   (∀n u,q=some (n,u)->∃v,VR w J μ u v/\(Instr.lookup T (a.eval m) (a.eval k) ok).run P w=.ok (if ok then .tuple #[v,.bool true]else v) w):=by
  intro r g q f;unfold ek at g;split at g
  .rename_i Q;rw[Q]at H;have F:a.eval m=.map none:=H.JD;rw[<- g]at f;simp only[ae]at f;subst f;refine⟨λ_=>?_,λn u h=>by simp at h⟩;rw[F];have G:=run_checkKey (P:=P) (w:=w) D true 9998 C B
   have N:(Instr.findKey K (a.eval k) []).run P w=.ok none w:=by
    rcases pr D C [] [] none rfl (by simp) rfl with⟨_,h⟩|⟨_,_,_,_,h,_⟩
    .exact h
    .simp at h
   cases ok<;>simp[Instr.lookup,run_underlying hT,G,N,p]
  .rename_i id Q;rw[Q]at H;obtain⟨rr,F,pQ,_⟩:=H.AQ;split at g
   .rename_i K' E' es hb;obtain⟨r',d,clock,j,_,hh,S⟩:=hS.obj id _ hb;rw[pQ]at j;simp only[Value.map.injEq,ae]at j;subst j;have Z:(getObj rr).run P w=.ok (.map d clock) w:=by simp[getObj,Sem.run,hh]
    rw[<- g]at f
    have hf:=pr D C es d.toList q (by rw[bh];exact S.1) (λi a x hi=>by
     obtain⟨_,_,e,c,l,A⟩:=S.2.1 i a x hi;exact⟨e,by simpa using c,l,A⟩) f
    have G:=run_checkKey (P:=P) (w:=w) D d.isEmpty 9998 C B;refine⟨λL=>?_,λn u L=>?_⟩
    .rcases hf with⟨_,c⟩|⟨i,x,e,Y,c,_⟩
     .rw[F];cases ok<;>simp[Instr.lookup,run_underlying hT,Z,G,c,p]
     .rw[L]at c;simp at c
    .rcases hf with⟨c,_⟩|⟨i,x,e,Y,c,l,A,_,R⟩
     .rw[L]at c;simp at c
     .rw[L]at c;simp only[ae,aQ]at c;obtain⟨_,rfl⟩:=c;obtain⟨_,_,W,h7,_,h8⟩:=S.2.1 i Y u l
      have:W=e:=by
       have h9:d[i]?=some e:=by simpa using A
       rw[h7]at h9;simpa using h9
      subst this;refine⟨W.val,h8,?_⟩;rw[F];cases ok<;>simp[Instr.lookup,run_underlying hT,Z,G,R]
   .rw[<- g]at f;simp at f
  .rw[<- g]at f;simp at f
 simp only[bT]at h;generalize g:ek J t (ev fr I) (ev fr k')=r at h;have f:=LL r g;cases r with
 |none=>simp at h
 |some q =>
  obtain⟨c,l⟩:=f q rfl;cases q with
  |none =>
   simp only[ae,aQ]at h;obtain⟨_,rfl⟩:=h;exact Hw _ _ _ M (c rfl)
  |some q =>
   obtain⟨n,u⟩:=q;simp only[ae,aQ]at h;obtain⟨_,rfl⟩:=h;obtain⟨v,A,R⟩:=l n u rfl;exact Hw _ _ _ A R
end fa
end Go.Pm

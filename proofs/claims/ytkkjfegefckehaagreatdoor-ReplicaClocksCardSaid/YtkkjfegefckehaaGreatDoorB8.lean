/- A part of the proof of the statement of the last text of this claim; its conditions stand there. -/
import Derived.Lib.AppendStr
import Derived.Test.YtkkjfegefckehaaGreatDoorB7
set_option linter.all false

namespace Go.Pm
open Go Go.RowKit
structure Src (P:Program) (w:World) (U:TypeId) (x:Value) (size m:Nat) (news:List Value):Prop where
 ty:∃ d,P.underlying U=some d∧∀ k,d≠.int k
 len:∀ w':World,(Builtin.lenOf x).run P w'=.ok m w'
 first:(Builtin.firstCells size m x).run P w=.ok news.toArray w
 aaE:(Builtin.firstCells size m x).run P w.drew=.ok news.toArray w.drew
 Mx:news.length=m*size
 one:∀ u∈news,u.oneCell'=true
section
variable {P:Program} {w:World} {T U ty E:TypeId} {t:TypeInfo} {z:Value} {x:Value} {m:Nat} {news:List Value}
theorem pc(hT:P.underlying T=some (.slice E))(ht:P.info? E=some t)(hs:Src P w U x t.size 0 news)(a:Option Addr)(n cap:Nat)(hn:n≤cap):
  (Builtin.append_ #[T,U] ty #[.slice a n cap,x]).run P w=.ok (.slice a n cap) w:=by
 obtain⟨d,hd,hk⟩:=hs.ty;have Te:news=[]:=bL (by simpa using hs.Mx);have hf:=hs.first;subst Te;cases a with
 | none=>simp[Builtin.append_,run_underlying hT,run_underlying hd,sizeOf,typeInfo,ht,hs.len,hn,hf]
 | some a=>simp[Builtin.append_,run_underlying hT,run_underlying hd,sizeOf,typeInfo,ht,hs.len,hn,hf,storeCells]
theorem GM(hT:P.underlying T=some (.slice E))(ht:P.info? E=some t)(hs:Src P w U x t.size m news)(g n cap:Nat)(cur:Array Value)(hg:w.heap[g]?=some (.cells cur E (0,0)))
  (zh:n+m≤cap) (xP:n*t.size+news.length≤cur.size) :
  (Builtin.append_ #[T,U] ty #[.slice (some ⟨g,0,none⟩) n cap,x]).run P w =
   .ok (.slice (some ⟨g,0,none⟩) (n+m) cap) (w.setRow g (cur.toList.take (n*t.size)++news++cur.toList.drop (n*t.size+news.length)).toArray):=by
 obtain⟨d,hd,hk⟩:=hs.ty;have hf:=hs.first;have EZ:=run_storeCells_at P g (n*t.size) E news 0 cur w hg (by simpa using xP) hs.one;simp only[bC]at EZ;simp[Builtin.append_,run_underlying hT,run_underlying hd,sizeOf,typeInfo,ht,hs.len,zh,hf,Addr.add_lit,EZ]
theorem sg(hT:P.underlying T=some (.slice E))(ht:P.info? E=some t)(hz:t.zero=some z)(hs:Src P w U x t.size m news)(a:Option Addr)(n cap:Nat)(olds:List Value)
  (rB:olds.length=n*t.size) (ho:(a=none∧n=0)∨∃ b,a=some b∧∀ j v,olds[j]?=some v→w.cell? (b.add j)=some v)
  (hg:cap<n+m) (Yb:n+m≤maxLen) (xP:(n+m)*t.bytes≤140737488355328) :
  (Builtin.append_ #[T,U] ty #[.slice a n cap,x]).run P w =
   .ok (.slice (some ⟨w.heap.size,0,none⟩) (n+m) (grownCap w (n+m) cap E))
    (w.drew.alloc (.cells (olds.toArray++news.toArray++Builtin.zeroCells z.cells (grownCap w (n+m) cap E - (n+m))) E)):=by
 obtain⟨d,hd,hk⟩:=hs.ty;have hf:=hs.aaE;have hn:¬ (n+m≤cap):=by omega
 have h63':¬ (9223372036854775807<((n:Int)+(m:Int))):=by unfold maxLen at Yb;omega
 have h48:=growslice_fits hg xP;have h48':¬ (281474976710656<Builtin.nextslicecap (n+m) cap*t.bytes):=by omega
 have hfo:(Builtin.firstCells t.size n (.slice a n cap)).run P w.drew=.ok olds.toArray w.drew:=by
  rcases ho with⟨rfl,rfl⟩ | ⟨b,rfl,hb⟩
  ·have:olds=[]:=bL (by simpa using rB);subst this;simp[Builtin.firstCells]
  ·exact run_firstCells_some (P:=P) w.drew t.size n b n cap olds rB (by simpa using hb)
 simp[Builtin.append_,run_underlying hT,run_underlying hd,sizeOf,typeInfo,zeroValue,ht,hz,hs.len,hn,h63',h48',Question.forced,hf,hfo,newRow,grownCap];congr 2;apply Array.ext';simp[List.append_assoc]
theorem ub(hT:P.underlying T=some (.slice E))(ht:P.info? E=some t)(hz:t.zero=some z)(qE:z.cells.size=t.size)(hs:Src P w U x t.size m news)(B:Nat)(v:Value)(n:Nat)(vals:List Value)
  (gD:w.ownsRow B E t.size v n vals) (Yb:n+m≤maxLen) (xP:(n+m)*t.bytes≤140737488355328) (hB:B≤w.heap.size) :
  ∃ v' w',(Builtin.append_ #[T,U] ty #[v,x]).run P w=.ok v' w'∧w'.ownsRow B E t.size v' (n+m) (vals++news)∧w.grownBy w' (lf v) ∧
   (∀ b,lf v'=some b→lf v=some b∨w.heap.size≤b)∧(∀ b,lf v=some b→∀ j u,vals[j]?=some u→w'.cell? ⟨b,j,none⟩=some u):=by
 have hlen:(vals++news).length=(n+m)*t.size:=by rw[List.length_append,gD.1,hs.Mx,Nat.add_mul]
 have grown:∀ (old:Nat),old<n+m→∀ (row:Option Nat),
   (w.drew.alloc (.cells (vals.toArray++news.toArray++Builtin.zeroCells z.cells (grownCap w (n+m) old E - (n+m))) E)).ownsRow B E t.size
    (.slice (some ⟨w.heap.size,0,none⟩) (n+m) (grownCap w (n+m) old E)) (n+m) (vals++news) ∧
   w.grownBy (w.drew.alloc (.cells (vals.toArray++news.toArray++Builtin.zeroCells z.cells (grownCap w (n+m) old E - (n+m))) E)) row:=by
  intro old ho row;have OA:=grownCap_ge w (n+m) old E;have Il:grownCap w (n+m) old E≤maxLen:=grownCap_le_maxLen w (n+m) old E Yb;refine⟨⟨hlen,.inr ⟨w.heap.size,_,_,rfl,hB,heap_alloc_new w.drew _,OA,Il,?_,?_⟩⟩,⟨rfl,rfl,rfl,by simp,fun k hk _=>heap_alloc_old w.drew _ k hk⟩⟩
  ·simp only[lJ,gP,size_zeroCells,qE,gD.1,hs.Mx,← Nat.add_mul];congr 1;omega
  ·simp only[Lr,List.append_assoc];rw[← List.append_assoc,← hlen];exact mb
 by_cases hm:m=0
 ·subst hm;have Te:news=[]:=bL (by simpa using hs.Mx);subst Te
  have hr:(Builtin.append_ #[T,U] ty #[v,x]).run P w=.ok v w:=by
   rcases gD.2 with⟨rfl,rfl⟩ | ⟨g,cap,cur,rfl,_,_,UF,_⟩
   ·exact pc hT ht hs none 0 0 (aB _)
   ·exact pc hT ht hs _ n cap UF
  refine⟨v,w,hr,by simpa using gD,grownBy_refl w _,fun b hb=>.inl hb,fun b hb j u hj=>?_⟩;rcases gD.2 with⟨rfl,rfl⟩ | ⟨g,cap,cur,rfl,_⟩
  ·simp[lf]at hb
  ·simp only[lf,aa]at hb;subst hb;have:=gD.cells (g:=g) rfl j u hj
   rwa [Addr.add_lit,aK]at this
 ·rcases gD.2 with⟨rfl,rfl⟩ | ⟨g,cap,cur,rfl,hbg,hg,UF,Il,qV,KD⟩
  ·have hx:vals=[]:=bL (by simpa using gD.1);subst hx;have hr:=sg (ty:=ty) hT ht hz hs none 0 0 [] (by simp) (.inl ⟨rfl,rfl⟩) (by omega) Yb xP;have hgr:=grown 0 (by omega) (lf (.slice none 0 0));refine⟨_,_,hr,hgr.1,hgr.2,fun b hb=>?_,fun b hb=>?_⟩
   ·simp only[lf,aa]at hb;exact .inr (by omega)
   ·simp[lf]at hb
  ·have holds:∀ j u,vals[j]?=some u→w.cell? ((⟨g,0,none⟩:Addr).add j)=some u:=gD.cells (g:=g) rfl
   by_cases zh:n+m≤cap
   ·have hfit':n*t.size+news.length≤cur.size:=by rw[hs.Mx,qV,← Nat.add_mul];exact cA _ zh
    have hr:=GM (ty:=ty) hT ht hs g n cap cur hg zh hfit';refine⟨_,_,hr,⟨hlen,.inr ⟨g,cap,_,rfl,hbg,setRow_heap w g cur _ E _ hg,zh,Il,?_,?_⟩⟩,⟨rfl,rfl,rfl,by simp,fun k _ hk=>setRow_other w g k _ (fun e=>hk (by simp[lf,e]))⟩,fun b hb=>.inl hb,fun b hb j u hj=>?_⟩
    ·simp only[gP,List.length_append,aR,bH,aY];omega
    ·rw[KD,← hlen];exact mb
    ·simp only[lf,aa]at hb;subst hb;rw[cell_setRow_same w g j cur _ E _ hg];have xO:j<vals.length:=(ae.1 hj).1;rw[KD];simp only[r9];rw[List.append_assoc,aH xO,hj]
   ·have hr:=sg (ty:=ty) hT ht hz hs (some ⟨g,0,none⟩) n cap vals gD.1 (.inr ⟨_,rfl,holds⟩) (by omega) Yb xP;have hgr:=grown cap (by omega) (lf (.slice (some ⟨g,0,none⟩) n cap));refine⟨_,_,hr,hgr.1,hgr.2,fun b hb=>?_,fun b hb j u hj=>?_⟩
    ·simp only[lf,aa]at hb;exact .inr (by omega)
    ·simp only[lf,aa]at hb;subst hb;have h1:=holds j u hj;rw[Addr.add_lit,aK]at h1;have fk:=World.block_lt_of_cell? w _ h1
     have:(w.drew.alloc (.cells (vals.toArray++news.toArray++Builtin.zeroCells z.cells (grownCap w (n+m) cap E - (n+m))) E)).cell? ⟨g,j,none⟩=w.drew.cell? ⟨g,j,none⟩ :=
      World.cell?_alloc_lt w.drew _ _ fk
     rw[this,World.cell?_drew];exact h1
theorem Jv(hT:P.underlying T=some (.slice E))(ht:P.info? E=some t)(hz:t.zero=some z)(qE:z.cells.size=t.size)(hs:Src P w U x t.size m news)(B:Nat)(a:Option Addr)(n:Nat)(olds:List Value)
  (rB:olds.length=n*t.size) (ho:(a=none∧n=0)∨∃ b,a=some b∧∀ j v,olds[j]?=some v→w.cell? (b.add j)=some v) (hm:0<m) (Yb:n+m≤maxLen) (xP:(n+m)*t.bytes≤140737488355328) (hB:B≤w.heap.size) :
  ∃ v' w',(Builtin.append_ #[T,U] ty #[.slice a n n,x]).run P w=.ok v' w'∧w'.ownsRow B E t.size v' (n+m) (olds++news)∧w.grownBy w' none∧(∀ b,lf v'=some b→w.heap.size≤b):=by
 have hlen:(olds++news).length=(n+m)*t.size:=by rw[List.length_append,rB,hs.Mx,Nat.add_mul]
 have hr:=sg (ty:=ty) hT ht hz hs a n n olds rB ho (by omega) Yb xP;have OA:=grownCap_ge w (n+m) n E;have Il:grownCap w (n+m) n E≤maxLen:=grownCap_le_maxLen w (n+m) n E Yb;refine⟨_,_,hr,⟨hlen,.inr ⟨w.heap.size,_,_,rfl,hB,heap_alloc_new w.drew _,OA,Il,?_,?_⟩⟩,⟨rfl,rfl,rfl,by simp,fun k hk _=>heap_alloc_old w.drew _ k hk⟩,fun b hb=>?_⟩
 ·simp only[lJ,gP,size_zeroCells,qE,rB,hs.Mx,← Nat.add_mul];congr 1;omega
 ·simp only[Lr,List.append_assoc];rw[← List.append_assoc,← hlen];exact mb
 ·simp only[lf,aa]at hb;omega
end
theorem Gw.src{P:Program}{B:Nat}{w0 w:World}{σ:ag}{μ:Mem}(hS:jw P B w0 w σ μ){T E:TypeId}(hT:P.underlying T=some (.slice E)){xs:List (List V)}{sz:Nat}{v:Value}(h:Gw w σ μ xs sz v):
  ∃ news,Src P w T v sz xs.length news∧mq w σ μ xs sz news:=by
 have Wq:∃ d,P.underlying T=some d∧∀ k,d≠.int k:=⟨_,hT,fun k=>by simp⟩;rcases h.here with⟨rfl,a0,rfl⟩ | ⟨b,off,cap,rfl,hr⟩
 ·cases a0 with
  | none=>exact⟨[],⟨Wq,fun _=>by simp[Builtin.lenOf],by simp[Builtin.firstCells],by simp[Builtin.firstCells],by simp,by simp⟩,by simp,by simp[fe]⟩
  | some a0=>exact⟨[],⟨Wq,fun _=>by simp[Builtin.lenOf],run_firstCells_some w sz _ a0 _ _ [] (by simp) (by simp),run_firstCells_some w.drew sz _ a0 _ _ [] (by simp) (by simp),by simp,by simp⟩,by simp,by simp[fe]⟩
 ·obtain⟨vals,h1,h2,h3,h4⟩:=h.cells (fun i j x hx=>uy (hr i j x hx).1) hS;exact⟨vals,⟨Wq,fun _=>by simp[Builtin.lenOf],run_firstCells_some w sz _ _ _ _ vals h1 h2,run_firstCells_some w.drew sz _ _ _ _ vals h1 (by simpa using h2),h1,h3⟩,h4⟩
theorem LI{P:Program}{w:World}{σ:ag}{μ:Mem}{U:TypeId}(hU:P.underlying U=some .string)(s:ByteArray):
  Src P w U (.string s) 1 (al s.data.toList).length (Lib.strCells s)∧mq w σ μ (al s.data.toList) 1 (Lib.strCells s):=by
 have hl:(al s.data.toList).length=s.size:=by rw[bsize];simp[al]
 refine⟨⟨⟨_,hU,fun k=>by simp⟩,fun _=>?_,?_,?_,?_,Lib.strCells_oneCell s⟩,?_,?_⟩
 ·rw[hl];simp[Builtin.lenOf]
 ·rw[hl];exact Lib.run_firstCells_string w 1 s
 ·rw[hl];exact Lib.run_firstCells_string w.drew 1 s
 ·rw[hl,Lib.strCells_length];simp
 ·intro r hr;simp only[al,bK]at hr;obtain⟨c,_,rfl⟩:=hr;rfl
 ·intro i j x hx;obtain⟨r,h1,h2⟩:=kL hx;simp only[al,aZ,ar]at h1;obtain⟨c,hc,rfl⟩:=h1;cases j with
  | zero =>
   simp only[ao,aa]at h2;subst h2;refine⟨rfl,.int .u8 c.toNat,?_,.i _ _⟩;simp[Lib.strCells,hc]
  | succ j=>simp at h2
theorem mq.append{w:World}{σ:ag}{μ:Mem}{xs ys:List (List V)}{sz:Nat}{us vs:List Value}(h:mq w σ μ xs sz us)(k:mq w σ μ ys sz vs)(hl:us.length=xs.length*sz):mq w σ μ (xs++ys) sz (us++vs):=by
 refine⟨fun r hr=>?_,fun i j x hx=>?_⟩
 ·rcases List.mem_append.1 hr with hr | hr
  ·exact h.1 r hr
  ·exact k.1 r hr
 ·obtain⟨r,h1,h2⟩:=kL hx
  by_cases hi:i<xs.length
  ·rw[aH hi]at h1;have hx':fe xs i j=some x:=by rw[td h1];exact h2
   obtain⟨hp,v,hv,hr⟩:=h.2 i j x hx';exact⟨hp,v,by rw[aH (ae.1 hv).1];exact hv,hr⟩
  ·rw[aN (by omega)]at h1;have hx':fe ys (i - xs.length) j=some x:=by rw[td h1];exact h2
   obtain⟨hp,v,hv,hr⟩:=k.2 _ j x hx';refine⟨hp,v,?_,hr⟩
   have e:i*sz+j=us.length+((i - xs.length)*sz+j):=by
    rw[hl];have:i*sz=xs.length*sz+(i - xs.length)*sz:=by rw[← Nat.add_mul];congr 1;omega
    omega
   rw[e,aN (by omega)];simpa using hv
def AQ(P:Program)(o:Oper)(a:Act)(B:Nat)(w0 w:World)(σ:ag)(μ:Mem)(x:V)(σ':ag):Prop :=
 ∃ v w' μ',((execOp a.eval o).run P w=.ok (.value v) w'∨((execOp a.eval o).run P w=.ok .skip w'∧x=.u))∧jw P B w0 w' σ' μ'∧VR w' σ' μ' x v∧pF w σ μ w' σ' μ'
theorem pF.trans{w:World}{σ:ag}{μ:Mem}{w':World}{σ':ag}{μ':Mem}{w'':World}{σ'':ag}{μ'':Mem}(p:pF w σ μ w' σ' μ')(q:pF w' σ' μ' w'' σ'' μ''):pF w σ μ w'' σ'' μ'':=by
 refine⟨fun b o v h1 h2=>?_,bZ p.len q.len,fun id T cs h=>?_,fun id K E es h=>?_,fun id E sz by' g' sh xs hl h=>?_⟩
 ·obtain⟨h3,h4⟩:=p.cell b o v h1 h2;exact q.cell b o v h3 h4
 ·obtain⟨⟨cs',h1⟩,h2⟩:=p.box id T cs h;obtain⟨h3,h4⟩:=q.box id T cs' h1;exact⟨h3,h4.trans h2⟩
 ·obtain⟨⟨es',h1⟩,h2⟩:=p.map id K E es h;obtain⟨h3,h4⟩:=q.map id K E es' h1;exact⟨h3,h4.trans h2⟩
 ·obtain⟨g1,sh1,xs1,h1,h2,h3⟩:=q.row id E sz by' g' sh xs (fF hl p.len) h;obtain⟨g0,sh0,xs0,h4,h5,h6⟩:=p.row id E sz by' g1 sh1 xs1 hl h1;refine⟨g0,sh0,xs0,h4,bZ h5 h2,fun e=>?_⟩;have e1:g1=g':=by omega
  have e0:g0=g1:=by omega
  exact⟨(h6 e0).1.trans (h3 e1).1,(h3 e1).2.trans (h6 e0).2⟩
theorem Od{P:Program}{B:Nat}{w0 w:World}{σ:ag}{μ:Mem}(hS:jw P B w0 w σ μ)(T:Nat)(cs:List V)(vs:Array Value)(h:CR w σ μ cs vs):
  ∃ μ',jw P B w0 (w.alloc (.cells vs T)) (σ++[.box T cs]) μ'∧VR (w.alloc (.cells vs T)) (σ++[.box T cs]) μ' (.ptr σ.length 0) (.pointer (some ⟨w.heap.size,0,none⟩))∧pF w σ μ (w.alloc (.cells vs T)) (σ++[.box T cs]) μ':=by
 have hn:=hS.uE (w':=w.alloc (.cells vs T)) (.box T cs) (.pointer (some ⟨w.heap.size,0,none⟩)) (World.grownBy_alloc w _ none) (by simp[lf]) (fun hp=>by
  refine⟨w.heap.size,vs,rfl,hS.base,heap_alloc_new w _,h.1.symm,fun j x hx=>?_⟩;have hj:j<vs.size:=by rw[← h.1];exact(ae.1 hx).1
  exact⟨vs[j],Array.getElem?_eq_getElem hj,by have:=(h.2 j x hx).mono hp;simpa[hj]using this⟩)
 exact⟨_,hn.1,.ptr _ 0 _ ⟨T,cs,by simp⟩ (fo _ _ _),hn.2⟩
theorem Ct{α:Type}(l ys:List α)(off j:Nat)(h:off+ys.length≤l.length):(l.take off++ys++l.drop (off+ys.length))[j]?=if off≤j∧j<off+ys.length then ys[j - off]? else l[j]?:=by
 have KJ:(l.take off).length=off:=by simp;omega
 by_cases h1:j<off
 ·rw[if_neg (by omega),List.append_assoc,aH (by omega),bz h1]
 ·by_cases h2:j<off+ys.length
  ·rw[if_pos (by omega),aH (by rw[List.length_append,KJ];omega),aN (by omega),KJ]
  ·have IP:(l.take off++ys).length=off+ys.length:=by rw[List.length_append,KJ]
   rw[if_neg (by omega),aN (by omega),IP,dV];congr 1;omega
section Kl
variable {P:Program} {o:Oper} {a:Act} {B:Nat} {w0 w:World} {σ:ag} {μ:Mem} {fr:List V} (hF:FR w σ μ fr a) (hS:jw P B w0 w σ μ)
include hF hS
theorem afj{T:TypeId}{x:Operand}{x':O}(ho:o.op=.box T x)(hx:cO x=some x'){ob:Prop}{y:V}{σ':ag}(h:cE fr σ (.box T x')=some (ob,y,σ'))(ff:ob):AQ P o a B w0 w σ μ y σ':=by
 simp only[cE,aa,aI]at h;obtain⟨rfl,rfl,rfl⟩:=h;have hc:=mj hS (eQ hF hx) ff;obtain⟨μ',h1,h2,h3⟩:=Od hS T _ _ hc.1;exact⟨_,_,μ',.inl (by simp[execOp,ho,Instr.box,newVar,newRow]),h1,h2,h3⟩
theorem Xp{T:TypeId}{t:TypeInfo}{z:Value}{zs:List V}(ho:o.op=.alloc T)(ht:P.info? T=some t)(hz:t.zero=some z)(qE:la z.cells.toList=some zs){ob:Prop}{y:V}{σ':ag}(h:cE fr σ (.alloc T zs)=some (ob,y,σ')):AQ P o a B w0 w σ μ y σ':=by
 simp only[cE,aa,aI]at h;obtain⟨_,rfl,rfl⟩:=h;obtain⟨μ',h1,h2,h3⟩:=Od hS T _ _ (od (w:=w) (σ:=σ) (μ:=μ) qE);exact⟨_,_,μ',.inl (by simp[execOp,ho,Instr.alloc,zeroValue,typeInfo,ht,hz,newVar,newRow]),h1,h2,h3⟩
theorem Xn{T:TypeId}{t:TypeInfo}{ad x:Operand}{ad' x':O}{szs:List (Option Nat)}(ho:o.op=.store T ad x)(ht:P.info? T=some t)(ha:cO ad=some ad')(hx:cO x=some x'){ob:Prop}{y:V}{σ':ag}(h:cE fr σ (.store t.size szs ad' x')=some (ob,y,σ'))(ff:ob):AQ P o a B w0 w σ μ y σ':=by
 have h1:=eQ hF ha;have h2:=eQ hF hx
 have eP:∀ b off (cur:Array Value) E,a.eval ad=.pointer (some ⟨b,off,none⟩)→w.heap[b]?=some (.cells cur E (0,0))→(a.eval x).cells.size=t.size→off+(a.eval x).cells.size≤cur.size→(∀ u∈(a.eval x).cells,u.oneCell'=true) →
   (execOp a.eval o).run P w=.ok .skip (w.setRow b (cur.toList.take off++(a.eval x).cells.toList++cur.toList.drop (off+(a.eval x).cells.size)).toArray):=by
  intro b off cur E he hh hs hf h1;have EZ:=run_storeCells_at P b off E (a.eval x).cells.toList 0 cur w hh (by simpa using hf) (fun v hv=>h1 v (by simpa using hv));simp only[bC,aY]at EZ;simp[execOp,ho,he,Instr.storeAt,Instr.sureAddr,storeVar,sizeOf,typeInfo,ht,hs,EZ]
 simp only[cE]at h;split at h
 ·rename_i id off hp;split at h
  ·rename_i T' cs hb;simp only[aa,aI]at h;obtain⟨rfl,rfl,rfl⟩:=h;obtain⟨fD,hlen,xP⟩:=ff;rw[hp]at h1;obtain⟨b,hm,hv,_⟩:=h1.sN;obtain⟨b',vs,hm',hB,hh,gO,qV⟩:=hS.Li hb;rw[hm]at hm';simp only[Value.pointer.injEq,aa,Addr.mk.injEq,and_true]at hm';subst hm';obtain⟨hC,Qk⟩:=mj hS h2 fD;have wi:(a.eval x).cells.size=t.size:=by rw[← hC.1];exact hlen
   have hr:=eP b off vs T' hv hh wi (by rw[wi,gO];exact xP) Qk;have fk:id<σ.length:=(ae.1 hb).1;generalize lQ:(vs.toList.take off++(a.eval x).cells.toList++vs.toList.drop (off+(a.eval x).cells.size)).toArray=arr at hr
   have Q7:=hS.update (w':=w.setRow b arr) (σ':=σ.set id (.box T' (cs.take off++fI (ev fr x')++cs.drop (off+t.size)))) (μ':=μ) id (some b)
    ⟨rfl,rfl,rfl,by simp,fun k _ hk=>setRow_other w b k _ (fun e=>hk (by simp[e]))⟩
    (fun b2 rl=>⟨_,hb,by simp,by simp only[aa]at rl;subst rl;simp[hm,lf]⟩)
    (by simp) (fun j hj=>bn (fun e=>hj e.symm)) (fun _ _=>rfl)
    (fun b2 rl=>.inl ⟨_,hb,by simp,rl⟩)
    (fun b2 off2 v2 o2 h3 _ h4 _ h5=>absurd ⟨id,o2,h3,h4,by rw[hb]at h3;simp only[aa]at h3;subst h3;trivial⟩ h5)
    (fun T2 cs2 h3=>by rw[hb]at h3;simp only[aa,Ob.box.injEq]at h3;obtain⟨rfl,rfl⟩:=h3;exact⟨⟨_,aF fk⟩,rfl⟩)
    (fun K E es h3=>by rw[hb]at h3;simp at h3)
    (fun E sz by' g' sh xs _ h3=>by simp[fk]at h3)
    (fun Wv o2 h3=>by
     simp only[aF fk,aa]at h3;subst h3;refine⟨b,arr,hm,hB,setRow_heap w b vs arr T' (0,0) hh,?_,fun j y hy=>?_⟩
     ·rw[← lQ];simp only[gP,List.length_append,aR,bH,aY];rw[wi,gO,hlen]
     ·have hCb:CR w σ μ cs vs:=⟨gO.symm,fun i z hz=>by
       obtain⟨u,h4,h5⟩:=qV i z hz;rw[nB hh]at h4;simpa[bN,h4]using h5⟩
      have u0:=hCb.fill hC off (by rw[hlen];exact xP);rw[hlen]at u0;obtain⟨e1,e2⟩:=u0
      have hj:j<arr.size:=by
       rw[← lQ];have:=(ae.1 hy).1;simp only[gP,List.length_append,aR,bH,aY];simp only[List.length_append,aR,bH]at this;rw[wi,gO];rw[hlen]at this;exact this
      refine⟨arr[j],Array.getElem?_eq_getElem hj,?_⟩
      by_cases hj1:j<off
      ·rw[List.append_assoc,aH (by simp;omega),bz hj1]at hy;obtain⟨u,h4,h5⟩:=qV j y hy;rw[nB hh]at h4
       have:arr[j]=u:=by
        have h6:arr[j]?=some u:=by
         rw[← lQ];simp only[r9];rw[List.append_assoc,aH (by simp;omega),bz hj1];simpa using h4
        rw[Array.getElem?_eq_getElem hj]at h6;simpa using h6
       rw[this];exact h5.mono Wv
      ·by_cases hj2:j<off+t.size
       ·have KJ:(cs.take off).length=off:=by simp;omega
        rw[aH (by simp only[List.length_append,KJ,hlen];omega),aN (by omega),KJ]at hy;have h5:=hC.2 _ y hy;have DB:j - off<(a.eval x).cells.size:=by rw[wi];omega
        have:arr[j]=(a.eval x).cells.getD (j - off) undef:=by
         have h6:arr[j]?=some ((a.eval x).cells.getD (j - off) undef):=by
          rw[← lQ];simp only[r9];have IP:(vs.toList.take off).length=off:=by simp;omega
          rw[aH (by simp only[List.length_append,IP,aY];omega),aN (by omega),IP];simp[DB]
         rw[Array.getElem?_eq_getElem hj]at h6;simpa using h6
        rw[this];exact h5.mono Wv
       ·have KJ:(cs.take off++fI (ev fr x')).length=off+t.size:=by rw[List.length_append,hlen];simp;omega
        rw[aN (by omega),KJ,dV]at hy;have e3:off+t.size+(j - (off+t.size))=j:=by omega
        rw[e3]at hy;obtain⟨u,h4,h5⟩:=qV j y hy;rw[nB hh]at h4
        have:arr[j]=u:=by
         have h6:arr[j]?=some u:=by
          rw[← lQ];simp only[r9];have IP:(vs.toList.take off++(a.eval x).cells.toList).length=off+t.size:=by simp[wi];omega
          rw[aN (by omega),IP,dV,wi,e3];simpa using h4
         rw[Array.getElem?_eq_getElem hj]at h6;simpa using h6
        rw[this];exact h5.mono Wv)
   exact⟨undef,_,μ,.inr ⟨hr,rfl⟩,Q7.1,.u _,Q7.2⟩
  ·simp at h
 ·rename_i id g i off hp;split at h
  ·rename_i E sz by' g' sh xs hb;split at h
   ·rename_i hg;obtain⟨rfl,rfl⟩:=hg;simp only[aa,aI]at h;obtain⟨rfl,rfl,rfl⟩:=h;obtain⟨fD,S6,hlen,xP,hi⟩:=ff;rw[hp]at h1;obtain⟨_,hv⟩:=h1.H7 hb;obtain⟨UI,vals,⟨Wo,hw⟩,cP,ZL⟩:=hS.obj id _ hb;rcases hw with⟨_,hn⟩ | ⟨b,cap,cur,hm,hB,hh,UF,Il,qV,KD⟩
    ·omega
    ·have hv':a.eval ad=.pointer (some ⟨b,i*sz+off,none⟩):=by rw[hv,hm];rfl
     obtain⟨hC0,Qk⟩:=mj hS h2 fD;have hC:=hC0.dw szs;have wi:(a.eval x).cells.size=t.size:=by rw[← hC0.1];exact hlen
     have Ow:(dw szs (fI (ev fr x'))).length=t.size:=by rw[hC.1];exact wi
     have hle:(i+1)*sz≤xs.length*sz:=cA _ hi;have aoj:xs.length*sz≤cap*sz:=cA _ UF;have aoD:(i+1)*sz=i*sz+sz:=by rw[Nat.add_mul,oh]
     have hr:=eP b (i*sz+off) cur E hv' hh wi (by rw[wi,qV];omega) Qk;have fk:id<σ.length:=(ae.1 hb).1;generalize lQ:(cur.toList.take (i*sz+off)++(a.eval x).cells.toList++cur.toList.drop (i*sz+off+(a.eval x).cells.size)).toArray=arr at hr;have Q6:xs.getD i []=xs[i]:=by simp[hi]
     have ZE:xs[i].length=sz:=cP _ (cK hi)
     have BU:∀ j,arr.toList[j]?=if i*sz+off≤j∧j<i*sz+off+t.size then(a.eval x).cells.toList[j - (i*sz+off)]? else cur.toList[j]?:=by
      intro j;rw[← lQ];have:=Ct cur.toList (a.eval x).cells.toList (i*sz+off) j (by rw[aY,aY,wi,qV];omega);rw[aY,wi]at this;rw[wi];exact this
     have Tx:arr.size=cur.size:=by
      rw[← lQ];simp only[gP,List.length_append,aR,bH,aY];rw[wi,qV];omega
     have Q7:=hS.update (w':=w.setRow b arr) (σ':=σ.set id (.row E sz by' g false (xs.set i ((xs.getD i []).take off++dw szs (fI (ev fr x'))++(xs.getD i []).drop (off+t.size))))) (μ':=μ) id (some b)
      ⟨rfl,rfl,rfl,by simp,fun k _ hk=>setRow_other w b k _ (fun e=>hk (by simp[e]))⟩
      (fun b2 rl=>⟨_,hb,by simp,by simp only[aa]at rl;subst rl;simp[hm,lf]⟩)
      (by simp) (fun j hj=>bn (fun e=>hj e.symm)) (fun _ _=>rfl)
      (fun b2 rl=>.inl ⟨_,hb,by simp,rl⟩)
      (fun b2 off2 v2 o2 h3 _ h4 _ h5=>absurd ⟨id,o2,h3,h4,by rw[hb]at h3;simp only[aa]at h3;subst h3;intro hf;simp at hf⟩ h5)
      (fun T2 cs2 h3=>by rw[hb]at h3;simp at h3)
      (fun K E es h3=>by rw[hb]at h3;simp at h3)
      (fun E2 sz2 by2 g2 sh2 xs2 _ h3=>by
       simp only[aF fk,aa,Ob.row.injEq]at h3;obtain⟨rfl,rfl,rfl,rfl,rfl,rfl⟩:=h3;exact⟨g,false,xs,hb,aB _,fun _=>⟨by simp,rfl⟩⟩)
      (fun Wv o2 h3=>by
       simp only[aF fk,aa]at h3;subst h3;refine⟨UI,arr.toList.take (xs.length*sz),⟨?_,.inr ⟨b,cap,arr,by simpa using hm,hB,setRow_heap w b cur arr E (0,0) hh,by simpa using UF,Il,by rw[Tx,qV],by simp⟩⟩,?_,?_⟩
       ·simp only[aR,aY,Tx,qV,XD];omega
       ·intro r hr';rcases List.mem_or_eq_of_mem_set hr' with h5 | h5
        ·exact cP r h5
        ·rw[h5,Q6];simp only[List.length_append,aR,bH,ZE,Ow];omega
       ·intro i2 j2 y hy;obtain⟨r,h5,h6⟩:=kL hy;have Lv:i2<xs.length:=by have:=(ae.1 h5).1;simpa using this
        by_cases Tn:i2=i
        ·subst Tn;rw[aF hi]at h5;simp only[aa]at h5;subst h5;rw[Q6]at h6;have Ax:=Ct xs[i2] (dw szs (fI (ev fr x'))) off j2 (by rw[Ow,ZE];exact xP);rw[Ow]at Ax;rw[Ax]at h6
         have hj2:j2<sz:=by
          have:=(ae.1 (Ax▸h6:_)).1;simp only[List.length_append,aR,bH,ZE,Ow]at this;omega
         have KK:i2*sz+j2<xs.length*sz:=by omega
         by_cases hc:off≤j2∧j2<off+t.size
         ·rw[if_pos hc]at h6;refine⟨S6 y (bh h6),(a.eval x).cells.getD (j2 - off) undef,?_,(hC.2 _ y h6).mono Wv⟩;rw[bz KK,BU,if_pos (by omega)];have e1:i2*sz+j2 - (i2*sz+off)=j2 - off:=by omega
          have e2:j2 - off<(a.eval x).cells.size:=by rw[wi];omega
          rw[e1];simp[e2]
         ·rw[if_neg hc]at h6;have dY:fe xs i2 j2=some y:=by rw[td (aw hi)];exact h6
          obtain⟨hpu,u,h7,h8⟩:=ZL i2 j2 y dY;refine⟨hpu,u,?_,h8.mono Wv⟩;rw[bz KK,BU,if_neg (by omega)];rw[← KD,bz KK]at h7;exact h7
        ·rw[bn (fun e=>Tn e.symm)]at h5;have dY:fe xs i2 j2=some y:=by rw[td h5];exact h6
         obtain⟨hpu,u,h7,h8⟩:=ZL i2 j2 y dY
         have hj2:j2<sz:=by
          rw[← cP r (bh h5)];exact(ae.1 h6).1
         have KK:i2*sz+j2<xs.length*sz:=by
          have:(i2+1)*sz≤xs.length*sz:=cA _ Lv;rw[Nat.add_mul,oh]at this;omega
         refine⟨hpu,u,?_,h8.mono Wv⟩;rw[bz KK,BU,if_neg ?_]
         ·rw[← KD,bz KK]at h7;exact h7
         ·rintro⟨h9,ML⟩;rcases Nat.lt_or_gt_of_ne Tn with Qo | Qo
          ·have:(i2+1)*sz≤i*sz:=cA _ Qo;rw[Nat.add_mul,oh]at this;omega
          ·have:(i+1)*sz≤i2*sz:=cA _ Qo;rw[Nat.add_mul,oh]at this;omega)
     exact⟨undef,_,μ,.inr ⟨hr,rfl⟩,Q7.1,.u _,Q7.2⟩
   ·simp at h
  ·simp at h
 ·simp at h
end Kl
theorem jw.grow{P:Program}{B:Nat}{w0 w:World}{σ:ag}{μ:Mem}(hS:jw P B w0 w σ μ){id E sz by' g:Nat}{sh sh':Bool}{xs xs':List (List V)}(hb:σ[id]?=some (.row E sz by' g sh xs)){w':World}{v':Value}{vals vals':List Value}
  (hg:w.grownBy w' (lf (μ id))) (lQ:∀ b,lf v'=some b→lf (μ id)=some b∨w.heap.size≤b)
  (aeR:∀ b,lf (μ id)=some b→∀ j u,vals[j]?=some u→w'.cell? ⟨b,j,none⟩=some u) (Wo:vals.length=xs.length*sz∨sh=false) (hold:sh=true→∀ b,lf (μ id)=some b→∀ j u,w.cell? ⟨b,j,none⟩=some u→j<xs.length*sz→vals[j]?=some u)
  (XZ:sh=true→sh'=true∧xs.length≤xs'.length) (gD:w'.ownsRow B E sz v' xs'.length vals')
  (cP:∀ σ' μ',pG w σ μ w' σ' μ'→mq w' σ' μ' xs' sz vals') :
  jw P B w0 w' (σ.set id (.row E sz by' (g+1) sh' xs')) (wu μ id v')∧pF w σ μ w' (σ.set id (.row E sz by' (g+1) sh' xs')) (wu μ id v'):=by
 have fk:id<σ.length:=(ae.1 hb).1;refine hS.update id (lf (μ id)) hg (fun b rl=>⟨_,hb,by simp,rl⟩) (by simp) (fun j hj=>bn (fun e=>hj e.symm)) (fun j hj=>vD μ id v' j hj) ?_ ?_ ?_ ?_ ?_ ?_
 ·intro b rl;rw[fo]at rl;rcases lQ b rl with h | h
  ·exact .inl ⟨_,hb,by simp,h⟩
  ·exact .inr h
 ·intro b off u o h1 _ h2 h3 h4;rw[hb]at h1;simp only[aa]at h1;subst h1;have hw:¬ (sh=true→xs.length*sz≤off):=fun hw=>h4 ⟨id,_,hb,h2,hw⟩
  have hs:sh=true:=by
   cases sh with
   | true=>rfl
   | false=>exact absurd (fun h=>by simp at h) hw
  have ho:off<xs.length*sz:=Nat.lt_of_not_le fun h=>hw fun _=>h;refine⟨aeR b h2 off u (hold hs b h2 off u h3 ho),fun o' h5 h6=>?_⟩;simp only[aF fk,aa]at h5;subst h5;intro hw';have h7:=hw' (XZ hs).1;have h8:xs.length*sz≤xs'.length*sz:=cA _ (XZ hs).2;omega
 ·intro T cs h;rw[hb]at h;simp at h
 ·intro K E es h;rw[hb]at h;simp at h
 ·intro E2 sz2 by2 g2 sh2 xs2 _ h;simp only[aF fk,aa,Ob.row.injEq]at h;obtain⟨rfl,rfl,rfl,rfl,rfl,rfl⟩:=h;exact⟨g,sh,xs,hb,by omega,fun e=>by omega⟩
 ·intro hp o h;simp only[aF fk,aa]at h;subst h;rw[fo];exact⟨(hS.obj id _ hb).1,vals',gD,cP _ _ hp.bY⟩
theorem VR.qc{w:World}{σ:ag}{μ:Mem}{id E sz by' g:Nat}{sh:Bool}{xs:List (List V)}(h:σ[id]?=some (.row E sz by' g sh xs)):VR w σ μ (.own id g) (μ id) :=
 .own id g _ (ae.1 h).1 fun E2 sz2 by2 g2 sh2 xs2 h2=>by
  rw[h]at h2;simp only[aa,Ob.row.injEq]at h2;obtain⟨rfl,rfl,rfl,rfl,rfl,rfl⟩:=h2;exact⟨aB _,fun _=>rfl⟩
section Kl
variable {P:Program} {o:Oper} {a:Act} {B:Nat} {w0 w:World} {σ:ag} {μ:Mem} {fr:List V} (hS:jw P B w0 w σ μ)
include hS
theorem OK{T U E:TypeId}{t:TypeInfo}{z:Value}{x y:Operand}{xV:V}{ys:List (List V)}{news:List Value}(ho:o.op=.call { callee:=.builtin .append,args:=#[x,y],argTypes:=#[T,U] })
  (hT:P.underlying T=some (.slice E)) (ht:P.info? E=some t) (hz:t.zero=some z) (gO:0<t.size) (qE:z.cells.size=t.size) (hx:VR w σ μ xV (a.eval x)) (rk:Src P w U (a.eval y) t.size ys.length news) (ZL:mq w σ μ ys t.size news)
  {ob:Prop} {r:V} {σ':ag} (h:zJ E t.size t.bytes σ xV ys=some (ob,r,σ')) (ff:ob):AQ P o a B w0 w σ μ r σ':=by
 have UI:Ti P E t.size t.bytes:=⟨gO,t,z,ht,hz,rfl,rfl,qE⟩
 have F1:∀ v w',(Builtin.append_ #[T,U] o.type #[a.eval x,a.eval y]).run P w=.ok v w'→(execOp a.eval o).run P w=.ok (.value v) w':=by
  intro v w' hr;simp only[execOp,ho,resolve,invoke,builtin,Sem.run_bind,Sem.run_pure,Result.andThen_ok,List.map_toArray,ay,az,hr]
 unfold zJ at h;split at h
 ·
  simp only[aa,aI]at h;obtain⟨rfl,rfl,rfl⟩:=h;have hv:=hx.lG;obtain⟨v',w',h1,h2,h3,h4,h5⟩:=ub (ty:=o.type) hT ht hz qE rk B (.slice none 0 0) 0 [] (World.ownsRow_nil w B E t.size) (by simpa using ff.2) (by simpa using ff.1) hS.base;simp only[aK,ak]at h2
  have hn:=hS.uE (w':=w') (.row E t.size t.bytes 0 false ys) v' h3 (fun b hb=>by
   rcases h4 b hb with h6 | h6
   ·simp[lf]at h6
   ·exact h6) (fun hp=>⟨UI,news,h2,ZL.bY hp.bY⟩)
  refine⟨v',w',_,.inl (F1 _ _ (by rw[hv];exact h1)),hn.1,?_,hn.2⟩;have:=VR.qc (w:=w') (σ:=σ++[.row E t.size t.bytes 0 false ys]) (μ:=wu μ σ.length v') (id:=σ.length) (E:=E) (sz:=t.size) (by':=t.bytes) (g:=0) (sh:=false) (xs:=ys) (by simp)
  rwa [fo]at this
 ·
  rename_i sz' xs;split at h
  ·rename_i hsz';subst hsz';simp only[aa,aI]at h;obtain⟨rfl,rfl,rfl⟩:=h
   by_cases hy:ys=[]
   ·subst hy;simp only[me,if_true];rcases hx.qR with⟨rfl,hv⟩ | ⟨b,off,f,hv,_⟩
    ·exact⟨_,w,μ,.inl (F1 _ _ (by rw[hv];exact pc hT ht rk none 0 0 (aB _))),hS,hv▸hx,pF.refl _ _ _⟩
    ·exact⟨_,w,μ,.inl (F1 _ _ (by rw[hv];exact pc hT ht rk _ _ _ (aB _))),hS,hv▸hx,pF.refl _ _ _⟩
   ·have iQ:ys.isEmpty=false:=by cases ys<;>simp_all
    have Qi:0<ys.length:=dK.2 hy;simp only[iQ,aD,if_false];have XZ:=Ae hS hx (sz:=t.size) (xs:=xs) (by simp[rowsOf])
    have hold:∃ (ad:Option Addr) (olds:List Value),a.eval x=.slice ad xs.length xs.length∧olds.length=xs.length*t.size∧((ad=none∧xs.length=0)∨∃ b,ad=some b∧∀ j v,olds[j]?=some v→w.cell? (b.add j)=some v)∧mq w σ μ xs t.size olds:=by
     rcases hx.qR with⟨rfl,hv⟩ | ⟨b,off,f,hv,hm,hr⟩
     ·exact⟨none,[],hv,by simp,.inl ⟨rfl,rfl⟩,by simp,by simp[fe]⟩
     ·rw[hv]at XZ;obtain⟨vals,h1,h2,h3,h4⟩:=XZ.cells (fun i j y hy=>uy (hr.2.1 i j y hy).2.2) hS;exact⟨_,vals,hv,h1,.inr ⟨_,rfl,h2⟩,h4⟩
    obtain⟨ad,olds,hv,Oy,hoo,hor⟩:=hold;obtain⟨v',w',h1,h2,h3,h4⟩:=Jv (ty:=o.type) hT ht hz qE rk B ad xs.length olds Oy hoo Qi ff.2 ff.1 hS.base;have hn:=hS.uE (w':=w') (.row E t.size t.bytes 0 false (xs++ys)) v' h3 h4 (fun hp=>⟨UI,olds++news,by rw[List.length_append];exact h2,(hor.append ZL Oy).bY hp.bY⟩);refine⟨v',w',_,.inl (F1 _ _ (by rw[hv];exact h1)),hn.1,?_,hn.2⟩;have:=VR.qc (w:=w') (σ:=σ++[.row E t.size t.bytes 0 false (xs++ys)]) (μ:=wu μ σ.length v') (id:=σ.length) (E:=E) (sz:=t.size) (by':=t.bytes) (g:=0) (sh:=false) (xs:=xs++ys) (by simp)
    rwa [fo]at this
  ·simp at h
 ·
  rename_i id g;split at h
  ·rename_i E' sz' by2 g' sh xs hb;split at h
   ·rename_i hc;obtain⟨rfl,rfl,rfl,rfl⟩:=hc;simp only[aa,aI]at h;obtain⟨rfl,rfl,rfl⟩:=h;have hv:=hx.lX hb;obtain⟨_,vals,gD,cP⟩:=hS.obj id _ hb;obtain⟨v',w',h1,h2,h3,h4,h5⟩:=ub (ty:=o.type) hT ht hz qE rk B (μ id) xs.length vals gD ff.2 ff.1 hS.base;have fk:id<σ.length:=(ae.1 hb).1
    have hn:=hS.grow hb (sh':=sh) (xs':=xs++ys) (v':=v') (vals:=vals) (vals':=vals++news) h3 h4 h5 (.inl gD.1) (fun _ b rl j u hc hj=>by
      have hjv:j<vals.length:=by rw[gD.1];exact hj
      have:=gD.cells (g:=b) (by
       have:(μ id).ownBlock=lf (μ id):=by
        rcases gD.2 with⟨hm,_⟩ | ⟨g,cap,cur,hm,_⟩<;>rw[hm]<;>rfl
       rw[this];exact rl) j vals[j] (aw hjv)
      rw[Addr.add_lit,aK,hc]at this;simp only[aa]at this;rw[aw hjv,this]) (fun h=>⟨h,by simp⟩) (by rw[List.length_append];exact h2) (fun σ' μ' k=>(cP.append ZL gD.1).bY k)
    refine⟨v',w',_,.inl (F1 _ _ (by rw[hv];exact h1)),hn.1,?_,hn.2⟩;have:=VR.qc (w:=w') (σ:=σ.set id (.row E t.size t.bytes (g+1) sh (xs++ys))) (μ:=wu μ id v') (id:=id) (E:=E) (sz:=t.size) (by':=t.bytes) (g:=g+1) (sh:=sh) (xs:=xs++ys) (aF fk)
    rwa [fo]at this
   ·simp at h
  ·simp at h
 ·
  rename_i id g lo hi;split at h
  ·rename_i E' sz' by2 g' sh xs hb;split at h
   ·rename_i hc;obtain⟨rfl,rfl,rfl,rfl,rfl,rfl⟩:=hc;simp only[aa,aI]at h;obtain⟨rfl,rfl,rfl⟩:=h;obtain⟨_,_,hv⟩:=hx.zd hb;obtain⟨_,vals,gD,cP⟩:=hS.obj id _ hb;obtain⟨WC,Tw,rl⟩:=ff
    have hown':w.ownsRow B E t.size (a.eval x) hi (vals.take (hi*t.size))∧lf (a.eval x)=lf (μ id):=by
     have hle:hi*t.size≤xs.length*t.size:=cA _ WC;rcases gD with⟨Wo,⟨hm,hn⟩ | ⟨b,cap,cur,hm,h1,h2,h3,h4,h5,h6⟩⟩
     ·have h0:hi=0:=by omega
      subst h0;rw[hv,hm];exact⟨⟨by simp,.inl ⟨rfl,rfl⟩⟩,rfl⟩
     ·rw[hv,hm]
      have he:pW (.slice (some ⟨b,0,none⟩) xs.length cap) 0 hi t.size=.slice (some ⟨b,0,none⟩) hi cap:=by
       simp[pW,Addr.add_lit]
      rw[he];refine⟨⟨by simp only[aR,Wo];omega,.inr ⟨b,cap,cur,rfl,h1,h2,by omega,h4,h5,?_⟩⟩,rfl⟩;rw[← h6,ye,iv hle]
    have hrow':mq w σ μ (xs.take hi) t.size (vals.take (hi*t.size)):=by
     refine⟨fun r hr=>cP.1 r (ct hr),fun i j y hy=>?_⟩;have hy':fe (List.take (hi - 0) (List.drop 0 xs)) i j=some y:=by simpa using hy
     have h1:=Cg hy';rw[aK]at h1;obtain⟨hp,u,h2,h3⟩:=cP.2 i j y h1;refine⟨hp,u,?_,h3⟩;obtain⟨r,h4,h5⟩:=kL hy
     have hi':i<hi:=by
      have:=(ae.1 h4).1;simp at this;omega
     have hj:j<t.size:=by
      rw[← cP.1 r (ct (bh h4))];exact(ae.1 h5).1
     have:(i+1)*t.size≤hi*t.size:=cA _ hi';rw[Nat.add_mul,oh]at this;rw[bz (by omega)];exact h2
    have hl':(xs.take hi).length=hi:=by simp;omega
    obtain⟨v',w',h1,h2,h3,h4,h5⟩:=ub (ty:=o.type) hT ht hz qE rk B (a.eval x) hi _ hown'.1 rl Tw hS.base;rw[hown'.2]at h3;have fk:id<σ.length:=(ae.1 hb).1;have hn:=hS.grow hb (sh':=false) (xs':=xs.take hi++ys) (v':=v') (vals:=vals.take (hi*t.size)) (vals':=vals.take (hi*t.size)++news) h3 (fun b hb=>by rw[← hown'.2];exact h4 b hb) (fun b hb=>h5 b (by rw[hown'.2];exact hb)) (.inr rfl) (fun h=>by simp at h) (fun h=>by simp at h) (by rw[List.length_append,hl'];exact h2) (fun σ' μ' k=>(hrow'.append ZL (by rw[hl'];exact hown'.1.1)).bY k);refine⟨v',w',_,.inl (F1 _ _ h1),hn.1,?_,hn.2⟩;have:=VR.qc (w:=w') (σ:=σ.set id (.row E t.size t.bytes (g+1) false (xs.take hi++ys))) (μ:=wu μ id v') (id:=id) (E:=E) (sz:=t.size) (by':=t.bytes) (g:=g+1) (sh:=false) (xs:=xs.take hi++ys) (aF fk)
    rwa [fo]at this
   ·simp at h
  ·simp at h
 ·simp at h
variable (hF:FR w σ μ fr a)
include hF
theorem afk{T E:TypeId}{t:TypeInfo}{z:Value}{x y:Operand}{x' y':O}(ho:o.op=.call { callee:=.builtin .append,args:=#[x,y],argTypes:=#[T,T] })
  (hT:P.underlying T=some (.slice E)) (ht:P.info? E=some t) (hz:t.zero=some z) (gO:0<t.size) (qE:z.cells.size=t.size) (hx:cO x=some x') (hy:cO y=some y')
  {ob:Prop} {r:V} {σ':ag} (h:cE fr σ (.app E t.size t.bytes x' y')=some (ob,r,σ')) (ff:ob):AQ P o a B w0 w σ μ r σ':=by
 simp only[cE]at h;split at h
 ·rename_i ys B9;obtain⟨news,h1,h2⟩:=(Ae hS (eQ hF hy) B9).src hS hT;exact OK hS ho hT ht hz gO qE (eQ hF hx) h1 h2 h ff
 ·simp at h
theorem aaH{T U E:TypeId}{t:TypeInfo}{z:Value}{x y:Operand}{x' y':O}(ho:o.op=.call { callee:=.builtin .append,args:=#[x,y],argTypes:=#[T,U] })
  (hT:P.underlying T=some (.slice E)) (hU:P.underlying U=some .string) (ht:P.info? E=some t) (hz:t.zero=some z) (gO:t.size=1) (hby:t.bytes=1) (qE:z.cells.size=t.size) (hx:cO x=some x') (hy:cO y=some y')
  {ob:Prop} {r:V} {σ':ag} (h:cE fr σ (.apps E x' y')=some (ob,r,σ')) (ff:ob):AQ P o a B w0 w σ μ r σ':=by
 simp only[cE]at h;split at h
 ·rename_i l hl;obtain⟨s,hs,rfl,_⟩:=(hl▸eQ hF hy).nO;obtain⟨h1,h2⟩:=LI (P:=P) (w:=w) (σ:=σ) (μ:=μ) hU s;refine OK (news:=Lib.strCells s) hS ho hT ht hz (by omega) qE (eQ hF hx) (by rw[hs,gO];exact h1) (by rw[gO];exact h2) (by rw[gO,hby];exact h) ff
 ·simp at h
theorem Xo{T K E:TypeId}(ho:o.op=.makeMap T none){ob:Prop}{r:V}{σ':ag}(h:cE fr σ (.Dg K E)=some (ob,r,σ')):AQ P o a B w0 w σ μ r σ':=by
 simp only[cE,aa,aI]at h;obtain⟨_,rfl,rfl⟩:=h;have hn:=hS.uE (w':=w.alloc (.map #[] 0)) (.map K E []) (.map (some w.heap.size)) (World.grownBy_alloc w _ none) (by simp[lf]) (fun hp=>⟨w.heap.size,#[],0,rfl,hS.base,heap_alloc_new w _,by simp,by simp,by simp,by simp⟩);refine⟨_,_,_,.inl (by simp[execOp,ho,Instr.makeMap];rfl),hn.1,?_,hn.2⟩;exact .mp _ _ ⟨K,E,[],by simp⟩ (fo _ _ _)
end Kl
end Go.Pm

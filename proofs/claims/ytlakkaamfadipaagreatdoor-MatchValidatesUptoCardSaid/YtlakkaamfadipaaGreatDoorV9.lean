/- A part of a proof; the claim's last text says of what. -/
import Derived.Lib.AppendStr
import Derived.Test.YtlakkaamfadipaaGreatDoorV8
set_option linter.all false

namespace Go.Pm
open Go Go.RowKit
structure Src (P:Program) (w:World) (U:TypeId) (x:Value) (size m:Nat) (news:List Value):Prop where
 ty:∃ d,P.underlying U=some d∧∀ k,d≠.int k
 len:∀ w':World,(Builtin.lenOf x).run P w'=.ok m w'
 first:(Builtin.firstCells size m x).run P w=.ok news.toArray w
 UR:(Builtin.firstCells size m x).run P w.drew=.ok news.toArray w.drew
 Gi:news.length=m*size
 one:∀ u∈news,u.oneCell'=true
section
variable {P:Program} {w:World} {T U ty E:TypeId} {t:TypeInfo} {z:Value} {x:Value} {m:Nat} {news:List Value}
theorem lT(hT:P.underlying T=some (.slice E))(ht:P.info? E=some t)(hs:Src P w U x t.size 0 news)(a:Option Addr)(n cap:Nat)(hn:n≤cap):
  (Builtin.append_ #[T,U] ty #[.slice a n cap,x]).run P w=.ok (.slice a n cap) w:=by
 obtain⟨d,hd,hk⟩:=hs.ty;have Nw:news=[]:=aL (by simpa using hs.Gi);have hf:=hs.first;subst Nw;cases a with
 | none=>simp[Builtin.append_,run_underlying hT,run_underlying hd,sizeOf,typeInfo,ht,hs.len,hn,hf]
 | some a=>simp[Builtin.append_,run_underlying hT,run_underlying hd,sizeOf,typeInfo,ht,hs.len,hn,hf,storeCells]
theorem Bx(hT:P.underlying T=some (.slice E))(ht:P.info? E=some t)(hs:Src P w U x t.size m news)(g n cap:Nat)(cur:Array Value)(hg:w.heap[g]?=some (.cells cur E (0,0)))
  (Ep:n+m≤cap) (uG:n*t.size+news.length≤cur.size) :
  (Builtin.append_ #[T,U] ty #[.slice (some ⟨g,0,none⟩) n cap,x]).run P w =
   .ok (.slice (some ⟨g,0,none⟩) (n+m) cap) (w.setRow g (cur.toList.take (n*t.size)++news++cur.toList.drop (n*t.size+news.length)).toArray):=by
 obtain⟨d,hd,hk⟩:=hs.ty;have hf:=hs.first;have rT:=run_storeCells_at P g (n*t.size) E news 0 cur w hg (by simpa using uG) hs.one;simp only[dm]at rT;simp[Builtin.append_,run_underlying hT,run_underlying hd,sizeOf,typeInfo,ht,hs.len,Ep,hf,Addr.add_lit,rT]
theorem oF(hT:P.underlying T=some (.slice E))(ht:P.info? E=some t)(hz:t.zero=some z)(hs:Src P w U x t.size m news)(a:Option Addr)(n cap:Nat)(olds:List Value)
  (nM:olds.length=n*t.size) (ho:(a=none∧n=0)∨∃ b,a=some b∧∀ j v,olds[j]?=some v→w.cell? (b.add j)=some v)
  (hg:cap<n+m) (SB:n+m≤maxLen) (uG:(n+m)*t.bytes≤140737488355328) :
  (Builtin.append_ #[T,U] ty #[.slice a n cap,x]).run P w =
   .ok (.slice (some ⟨w.heap.size,0,none⟩) (n+m) (grownCap w (n+m) cap E))
    (w.drew.alloc (.cells (olds.toArray++news.toArray++Builtin.zeroCells z.cells (grownCap w (n+m) cap E - (n+m))) E)):=by
 obtain⟨d,hd,hk⟩:=hs.ty;have hf:=hs.UR;have hn:¬ (n+m≤cap):=by omega
 have h63':¬ (9223372036854775807<((n:Int)+(m:Int))):=by unfold maxLen at SB;omega
 have h48:=growslice_fits hg uG;have h48':¬ (281474976710656<Builtin.nextslicecap (n+m) cap*t.bytes):=by omega
 have hfo:(Builtin.firstCells t.size n (.slice a n cap)).run P w.drew=.ok olds.toArray w.drew:=by
  rcases ho with⟨rfl,rfl⟩ | ⟨b,rfl,hb⟩
  ·have:olds=[]:=aL (by simpa using nM);subst this;simp[Builtin.firstCells]
  ·exact run_firstCells_some (P:=P) w.drew t.size n b n cap olds nM (by simpa using hb)
 simp[Builtin.append_,run_underlying hT,run_underlying hd,sizeOf,typeInfo,zeroValue,ht,hz,hs.len,hn,h63',h48',Question.forced,hf,hfo,newRow,grownCap];congr 2;apply Array.ext';simp[aY]
theorem pN(hT:P.underlying T=some (.slice E))(ht:P.info? E=some t)(hz:t.zero=some z)(lR:z.cells.size=t.size)(hs:Src P w U x t.size m news)(B:Nat)(v:Value)(n:Nat)(vals:List Value)
  (fx:w.ownsRow B E t.size v n vals) (SB:n+m≤maxLen) (uG:(n+m)*t.bytes≤140737488355328) (hB:B≤w.heap.size) :
  ∃ v' w',(Builtin.append_ #[T,U] ty #[v,x]).run P w=.ok v' w'∧w'.ownsRow B E t.size v' (n+m) (vals++news)∧w.grownBy w' (ir v) ∧
   (∀ b,ir v'=some b→ir v=some b∨w.heap.size≤b)∧(∀ b,ir v=some b→∀ j u,vals[j]?=some u→w'.cell? ⟨b,j,none⟩=some u):=by
 have hlen:(vals++news).length=(n+m)*t.size:=by rw[ak,fx.1,hs.Gi,cB]
 have grown:∀ (old:Nat),old<n+m→∀ (row:Option Nat),
   (w.drew.alloc (.cells (vals.toArray++news.toArray++Builtin.zeroCells z.cells (grownCap w (n+m) old E - (n+m))) E)).ownsRow B E t.size
    (.slice (some ⟨w.heap.size,0,none⟩) (n+m) (grownCap w (n+m) old E)) (n+m) (vals++news) ∧
   w.grownBy (w.drew.alloc (.cells (vals.toArray++news.toArray++Builtin.zeroCells z.cells (grownCap w (n+m) old E - (n+m))) E)) row:=by
  intro old ho row;have Ly:=grownCap_ge w (n+m) old E;have CZ:grownCap w (n+m) old E≤maxLen:=grownCap_le_maxLen w (n+m) old E SB;refine⟨⟨hlen,.inr ⟨w.heap.size,_,_,rfl,hB,heap_alloc_new w.drew _,Ly,CZ,?_,?_⟩⟩,⟨rfl,rfl,rfl,by simp,fun k hk _=>heap_alloc_old w.drew _ k hk⟩⟩
  ·simp only[tT,fQ,size_zeroCells,lR,fx.1,hs.Gi,← Nat.add_mul];congr 1;omega
  ·simp only[Array.toList_append,aY];rw[← List.append_assoc,← hlen];exact lf
 by_cases hm:m=0
 ·subst hm;have Nw:news=[]:=aL (by simpa using hs.Gi);subst Nw
  have hr:(Builtin.append_ #[T,U] ty #[v,x]).run P w=.ok v w:=by
   rcases fx.2 with⟨rfl,rfl⟩ | ⟨g,cap,cur,rfl,_,_,Gz,_⟩
   ·exact lT hT ht hs none 0 0 (au _)
   ·exact lT hT ht hs _ n cap Gz
  refine⟨v,w,hr,by simpa using fx,grownBy_refl w _,fun b hb=>.inl hb,fun b hb j u hj=>?_⟩;rcases fx.2 with⟨rfl,rfl⟩ | ⟨g,cap,cur,rfl,_⟩
  ·simp[ir]at hb
  ·simp only[ir,aa]at hb;subst hb;have:=fx.cells (g:=g) rfl j u hj
   rwa [Addr.add_lit,bo]at this
 ·rcases fx.2 with⟨rfl,rfl⟩ | ⟨g,cap,cur,rfl,hbg,hg,Gz,CZ,mS,ya⟩
  ·have hx:vals=[]:=aL (by simpa using fx.1);subst hx;have hr:=oF (ty:=ty) hT ht hz hs none 0 0 [] (by simp) (.inl ⟨rfl,rfl⟩) (by omega) SB uG;have Yj:=grown 0 (by omega) (ir (.slice none 0 0));refine⟨_,_,hr,Yj.1,Yj.2,fun b hb=>?_,fun b hb=>?_⟩
   ·simp only[ir,aa]at hb;exact .inr (by omega)
   ·simp[ir]at hb
  ·have holds:∀ j u,vals[j]?=some u→w.cell? ((⟨g,0,none⟩:Addr).add j)=some u:=fx.cells (g:=g) rfl
   by_cases Ep:n+m≤cap
   ·have hfit':n*t.size+news.length≤cur.size:=by rw[hs.Gi,mS,← Nat.add_mul];exact bJ _ Ep
    have hr:=Bx (ty:=ty) hT ht hs g n cap cur hg Ep hfit';refine⟨_,_,hr,⟨hlen,.inr ⟨g,cap,_,rfl,hbg,setRow_heap w g cur _ E _ hg,Ep,CZ,?_,?_⟩⟩,⟨rfl,rfl,rfl,by simp,fun k _ hk=>setRow_other w g k _ (fun e=>hk (by simp[ir,e]))⟩,fun b hb=>.inl hb,fun b hb j u hj=>?_⟩
    ·simp only[fQ,ak,bT,cy,a6];omega
    ·rw[ya,← hlen];exact lf
    ·simp only[ir,aa]at hb;subst hb;rw[cell_setRow_same w g j cur _ E _ hg];have kH:j<vals.length:=(ab.1 hj).1;rw[ya];simp only[kz];rw[aY,ai kH,hj]
   ·have hr:=oF (ty:=ty) hT ht hz hs (some ⟨g,0,none⟩) n cap vals fx.1 (.inr ⟨_,rfl,holds⟩) (by omega) SB uG;have Yj:=grown cap (by omega) (ir (.slice (some ⟨g,0,none⟩) n cap));refine⟨_,_,hr,Yj.1,Yj.2,fun b hb=>?_,fun b hb j u hj=>?_⟩
    ·simp only[ir,aa]at hb;exact .inr (by omega)
    ·simp only[ir,aa]at hb;subst hb;have h1:=holds j u hj;rw[Addr.add_lit,bo]at h1;have dp:=World.block_lt_of_cell? w _ h1
     have:(w.drew.alloc (.cells (vals.toArray++news.toArray++Builtin.zeroCells z.cells (grownCap w (n+m) cap E - (n+m))) E)).cell? ⟨g,j,none⟩=w.drew.cell? ⟨g,j,none⟩ :=
      World.cell?_alloc_lt w.drew _ _ dp
     rw[this,World.cell?_drew];exact h1
theorem Dy(hT:P.underlying T=some (.slice E))(ht:P.info? E=some t)(hz:t.zero=some z)(lR:z.cells.size=t.size)(hs:Src P w U x t.size m news)(B:Nat)(a:Option Addr)(n:Nat)(olds:List Value)
  (nM:olds.length=n*t.size) (ho:(a=none∧n=0)∨∃ b,a=some b∧∀ j v,olds[j]?=some v→w.cell? (b.add j)=some v) (hm:0<m) (SB:n+m≤maxLen) (uG:(n+m)*t.bytes≤140737488355328) (hB:B≤w.heap.size) :
  ∃ v' w',(Builtin.append_ #[T,U] ty #[.slice a n n,x]).run P w=.ok v' w'∧w'.ownsRow B E t.size v' (n+m) (olds++news)∧w.grownBy w' none∧(∀ b,ir v'=some b→w.heap.size≤b):=by
 have hlen:(olds++news).length=(n+m)*t.size:=by rw[ak,nM,hs.Gi,cB]
 have hr:=oF (ty:=ty) hT ht hz hs a n n olds nM ho (by omega) SB uG;have Ly:=grownCap_ge w (n+m) n E;have CZ:grownCap w (n+m) n E≤maxLen:=grownCap_le_maxLen w (n+m) n E SB;refine⟨_,_,hr,⟨hlen,.inr ⟨w.heap.size,_,_,rfl,hB,heap_alloc_new w.drew _,Ly,CZ,?_,?_⟩⟩,⟨rfl,rfl,rfl,by simp,fun k hk _=>heap_alloc_old w.drew _ k hk⟩,fun b hb=>?_⟩
 ·simp only[tT,fQ,size_zeroCells,lR,nM,hs.Gi,← Nat.add_mul];congr 1;omega
 ·simp only[Array.toList_append,aY];rw[← List.append_assoc,← hlen];exact lf
 ·simp only[ir,aa]at hb;omega
end
theorem Bl.src{P:Program}{B:Nat}{w0 w:World}{J:ae}{μ:Mem}(hS:fF P B w0 w J μ){T E:TypeId}(hT:P.underlying T=some (.slice E)){xs:List (List V)}{sz:Nat}{v:Value}(h:Bl w J μ xs sz v):
  ∃ news,Src P w T v sz xs.length news∧ma w J μ xs sz news:=by
 have QJ:∃ d,P.underlying T=some d∧∀ k,d≠.int k:=⟨_,hT,fun k=>by simp⟩;rcases h.here with⟨rfl,a0,rfl⟩ | ⟨b,off,cap,rfl,hr⟩
 ·cases a0 with
  | none=>exact⟨[],⟨QJ,fun _=>by simp[Builtin.lenOf],by simp[Builtin.firstCells],by simp[Builtin.firstCells],by simp,by simp⟩,by simp,by simp[fw]⟩
  | some a0=>exact⟨[],⟨QJ,fun _=>by simp[Builtin.lenOf],run_firstCells_some w sz _ a0 _ _ [] (by simp) (by simp),run_firstCells_some w.drew sz _ a0 _ _ [] (by simp) (by simp),by simp,by simp⟩,by simp,by simp[fw]⟩
 ·obtain⟨vals,h1,h2,h3,h4⟩:=h.cells (fun i j x hx=>mY (hr i j x hx).1) hS;exact⟨vals,⟨QJ,fun _=>by simp[Builtin.lenOf],run_firstCells_some w sz _ _ _ _ vals h1 h2,run_firstCells_some w.drew sz _ _ _ _ vals h1 (by simpa using h2),h1,h3⟩,h4⟩
theorem FF{P:Program}{w:World}{J:ae}{μ:Mem}{U:TypeId}(hU:P.underlying U=some .string)(s:ByteArray):
  Src P w U (.string s) 1 (dd s.data.toList).length (Lib.strCells s)∧ma w J μ (dd s.data.toList) 1 (Lib.strCells s):=by
 have hl:(dd s.data.toList).length=s.size:=by rw[bsize];simp[dd]
 refine⟨⟨⟨_,hU,fun k=>by simp⟩,fun _=>?_,?_,?_,?_,Lib.strCells_oneCell s⟩,?_,?_⟩
 ·rw[hl];simp[Builtin.lenOf]
 ·rw[hl];exact Lib.run_firstCells_string w 1 s
 ·rw[hl];exact Lib.run_firstCells_string w.drew 1 s
 ·rw[hl,Lib.strCells_length];simp
 ·intro r hr;simp only[dd,bI]at hr;obtain⟨c,_,rfl⟩:=hr;rfl
 ·intro i j x hx;obtain⟨r,h1,h2⟩:=ib hx;simp only[dd,bf,aj]at h1;obtain⟨c,hc,rfl⟩:=h1;cases j with
  | zero =>
   simp only[aq,aa]at h2;subst h2;refine⟨rfl,.int .u8 c.toNat,?_,.i _ _⟩;simp[Lib.strCells,hc]
  | succ j=>simp at h2
theorem ma.append{w:World}{J:ae}{μ:Mem}{xs ys:List (List V)}{sz:Nat}{us vs:List Value}(h:ma w J μ xs sz us)(k:ma w J μ ys sz vs)(hl:us.length=xs.length*sz):ma w J μ (xs++ys) sz (us++vs):=by
 refine⟨fun r hr=>?_,fun i j x hx=>?_⟩
 ·rcases bP.1 hr with hr | hr
  ·exact h.1 r hr
  ·exact k.1 r hr
 ·obtain⟨r,h1,h2⟩:=ib hx
  by_cases hi:i<xs.length
  ·rw[ai hi]at h1;have hx':fw xs i j=some x:=by rw[nK h1];exact h2
   obtain⟨hp,v,hv,hr⟩:=h.2 i j x hx';exact⟨hp,v,by rw[ai (ab.1 hv).1];exact hv,hr⟩
  ·rw[aH (by omega)]at h1;have hx':fw ys (i - xs.length) j=some x:=by rw[nK h1];exact h2
   obtain⟨hp,v,hv,hr⟩:=k.2 _ j x hx';refine⟨hp,v,?_,hr⟩
   have e:i*sz+j=us.length+((i - xs.length)*sz+j):=by
    rw[hl];have:i*sz=xs.length*sz+(i - xs.length)*sz:=by rw[← Nat.add_mul];congr 1;omega
    omega
   rw[e,aH (by omega)];simpa using hv
def oX(P:Program)(o:Oper)(a:Act)(B:Nat)(w0 w:World)(J:ae)(μ:Mem)(x:V)(J':ae):Prop :=
 ∃ v w' μ',((execOp a.eval o).run P w=.ok (.value v) w'∨((execOp a.eval o).run P w=.ok .skip w'∧x=.u))∧fF P B w0 w' J' μ'∧VR w' J' μ' x v∧kW w J μ w' J' μ'
theorem kW.trans{w:World}{J:ae}{μ:Mem}{w':World}{J':ae}{μ':Mem}{w'':World}{J'':ae}{μ'':Mem}(p:kW w J μ w' J' μ')(q:kW w' J' μ' w'' J'' μ''):kW w J μ w'' J'' μ'':=by
 refine⟨fun b o v h1 h2=>?_,br p.len q.len,fun id T cs h=>?_,fun id K E es h=>?_,fun id st m E n ps c h=>?_,fun id E sz by' g' sh xs hl h=>?_⟩
 ·obtain⟨h3,h4⟩:=p.cell b o v h1 h2;exact q.cell b o v h3 h4
 ·obtain⟨⟨cs',h1⟩,h2⟩:=p.box id T cs h;obtain⟨h3,h4⟩:=q.box id T cs' h1;exact⟨h3,h4.trans h2⟩
 ·obtain⟨⟨E',es',h1⟩,h2⟩:=p.map id K E es h;obtain⟨h3,h4⟩:=q.map id K E' es' h1;exact⟨h3,h4.trans h2⟩
 ·obtain⟨⟨ps',c',h1⟩,h2⟩:=p.itr id st m E n ps c h;obtain⟨h3,h4⟩:=q.itr id st m E n ps' c' h1;exact⟨h3,h4.trans h2⟩
 ·obtain⟨g1,sh1,xs1,h1,h2,h3⟩:=q.row id E sz by' g' sh xs (cM hl p.len) h;obtain⟨g0,sh0,xs0,h4,h5,h6⟩:=p.row id E sz by' g1 sh1 xs1 hl h1;refine⟨g0,sh0,xs0,h4,br h5 h2,fun e=>?_⟩;have e1:g1=g':=by omega
  have e0:g0=g1:=by omega
  exact⟨(h6 e0).1.trans (h3 e1).1,(h3 e1).2.trans (h6 e0).2⟩
theorem Ck{P:Program}{B:Nat}{w0 w:World}{J:ae}{μ:Mem}(hS:fF P B w0 w J μ)(T:Nat)(cs:List V)(vs:Array Value)(h:CR w J μ cs vs):
  ∃ μ',fF P B w0 (w.alloc (.cells vs T)) (J++[.box T cs]) μ'∧VR (w.alloc (.cells vs T)) (J++[.box T cs]) μ' (.ptr J.length 0) (.pointer (some ⟨w.heap.size,0,none⟩))∧kW w J μ (w.alloc (.cells vs T)) (J++[.box T cs]) μ':=by
 have hn:=hS.ph (w':=w.alloc (.cells vs T)) (.box T cs) (.pointer (some ⟨w.heap.size,0,none⟩)) (World.grownBy_alloc w _ none) (by simp[ir]) (fun hp=>by
  refine⟨w.heap.size,vs,rfl,hS.base,heap_alloc_new w _,h.1.symm,fun j x hx=>?_⟩;have hj:j<vs.size:=by rw[← h.1];exact(ab.1 hx).1
  exact⟨vs[j],bc hj,by have:=(h.2 j x hx).mono hp;simpa[hj]using this⟩)
 exact⟨_,hn.1,.ptr _ 0 _ ⟨T,cs,by simp⟩ (dV _ _ _),hn.2⟩
theorem oD{α:Type}(l ys:List α)(off j:Nat)(h:off+ys.length≤l.length):(l.take off++ys++l.drop (off+ys.length))[j]?=if off≤j∧j<off+ys.length then ys[j - off]? else l[j]?:=by
 have NC:(l.take off).length=off:=by simp;omega
 by_cases h1:j<off
 ·rw[aw (by omega),aY,ai (by omega),bj h1]
 ·by_cases h2:j<off+ys.length
  ·rw[aI (by omega),ai (by rw[ak,NC];omega),aH (by omega),NC]
  ·have NB:(l.take off++ys).length=off+ys.length:=by rw[ak,NC]
   rw[aw (by omega),aH (by omega),NB,gw];congr 1;omega
section D7
variable {P:Program} {o:Oper} {a:Act} {B:Nat} {w0 w:World} {J:ae} {μ:Mem} {fr:List V} (hF:FR w J μ fr a) (hS:fF P B w0 w J μ)
include hF hS
theorem YM{T:TypeId}{x:Operand}{x':O}(ho:o.op=.box T x)(hx:cO x=some x'){ob:Prop}{y:V}{J':ae}(h:bO fr J (.box T x')=some (ob,y,J'))(cX:ob):oX P o a B w0 w J μ y J':=by
 simp only[bO,aa,an]at h;obtain⟨rfl,rfl,rfl⟩:=h;have hc:=jG hS (cK hF hx) cX;obtain⟨μ',h1,h2,h3⟩:=Ck hS T _ _ hc.1;exact⟨_,_,μ',.inl (by simp[execOp,ho,Instr.box,newVar,newRow]),h1,h2,h3⟩
theorem RC{T:TypeId}{t:TypeInfo}{z:Value}{zs:List V}(ho:o.op=.alloc T)(ht:P.info? T=some t)(hz:t.zero=some z)(lR:gL z.cells.toList=some zs){ob:Prop}{y:V}{J':ae}(h:bO fr J (.alloc T zs)=some (ob,y,J')):oX P o a B w0 w J μ y J':=by
 simp only[bO,aa,an]at h;obtain⟨_,rfl,rfl⟩:=h;obtain⟨μ',h1,h2,h3⟩:=Ck hS T _ _ (jY (w:=w) (J:=J) (μ:=μ) lR);exact⟨_,_,μ',.inl (by simp[execOp,ho,Instr.alloc,zeroValue,typeInfo,ht,hz,newVar,newRow]),h1,h2,h3⟩
theorem Rz{T:TypeId}{t:TypeInfo}{ad x:Operand}{ad' x':O}{szs:List (Option Nat)}(ho:o.op=.store T ad x)(ht:P.info? T=some t)(ha:cO ad=some ad')(hx:cO x=some x'){ob:Prop}{y:V}{J':ae}(h:bO fr J (.store t.size szs ad' x')=some (ob,y,J'))(cX:ob):oX P o a B w0 w J μ y J':=by
 have h1:=cK hF ha;have h2:=cK hF hx
 have cQ:∀ b off (cur:Array Value) E,a.eval ad=.pointer (some ⟨b,off,none⟩)→w.heap[b]?=some (.cells cur E (0,0))→(a.eval x).cells.size=t.size→off+(a.eval x).cells.size≤cur.size→(∀ u∈(a.eval x).cells,u.oneCell'=true) →
   (execOp a.eval o).run P w=.ok .skip (w.setRow b (cur.toList.take off++(a.eval x).cells.toList++cur.toList.drop (off+(a.eval x).cells.size)).toArray):=by
  intro b off cur E he hh hs hf h1;have rT:=run_storeCells_at P b off E (a.eval x).cells.toList 0 cur w hh (by simpa using hf) (fun v hv=>h1 v (by simpa using hv));simp only[dm,a6]at rT;simp[execOp,ho,he,Instr.storeAt,Instr.sureAddr,storeVar,sizeOf,typeInfo,ht,hs,rT]
 simp only[bO]at h;split at h
 ·rename_i id off hp;split at h
  ·rename_i T' cs hb;simp only[aa,an]at h;obtain⟨rfl,rfl,rfl⟩:=h;obtain⟨gU,hlen,uG⟩:=cX;rw[hp]at h1;obtain⟨b,hm,hv,_⟩:=h1.nk;obtain⟨b',vs,hm',hB,hh,fE,mS⟩:=hS.IL hb;rw[hm]at hm';simp only[Value.pointer.injEq,aa,Addr.mk.injEq,fA]at hm';subst hm';obtain⟨hC,Nu⟩:=jG hS h2 gU;have re:(a.eval x).cells.size=t.size:=by rw[← hC.1];exact hlen
   have hr:=cQ b off vs T' hv hh re (by rw[re,fE];exact uG) Nu;have dp:id<J.length:=(ab.1 hb).1;generalize jg:(vs.toList.take off++(a.eval x).cells.toList++vs.toList.drop (off+(a.eval x).cells.size)).toArray=arr at hr
   have oe:=hS.update (w':=w.setRow b arr) (J':=J.set id (.box T' (cs.take off++er (ev fr x')++cs.drop (off+t.size)))) (μ':=μ) id (some b)
    ⟨rfl,rfl,rfl,by simp,fun k _ hk=>setRow_other w b k _ (fun e=>hk (by simp[e]))⟩
    (fun b2 jA=>⟨_,hb,by simp,by simp only[aa]at jA;subst jA;simp[hm,ir]⟩)
    (by simp) (fun j hj=>aK (fun e=>hj e.symm)) (fun _ _=>rfl)
    (fun b2 jA=>.inl ⟨_,hb,by simp,jA⟩)
    (fun b2 off2 v2 o2 h3 _ h4 _ h5=>absurd ⟨id,o2,h3,h4,by rw[hb]at h3;simp only[aa]at h3;subst h3;trivial⟩ h5)
    (fun T2 cs2 h3=>by rw[hb]at h3;simp only[aa,Ob.box.injEq]at h3;obtain⟨rfl,rfl⟩:=h3;exact⟨⟨_,ao dp⟩,rfl⟩)
    (fun K E es h3=>by rw[hb]at h3;simp at h3)
    (fun E sz by' g' sh xs _ h3=>by simp[dp]at h3)
    (fun yc o2 h3=>by
     simp only[ao dp,aa]at h3;subst h3;refine⟨b,arr,hm,hB,setRow_heap w b vs arr T' (0,0) hh,?_,fun j y hy=>?_⟩
     ·rw[← jg];simp only[fQ,ak,bT,cy,a6];rw[re,fE,hlen]
     ·have hCb:CR w J μ cs vs:=⟨fE.symm,fun i z hz=>by
       obtain⟨u,h4,h5⟩:=mS i z hz;rw[kt hh]at h4;simpa[bl,h4]using h5⟩
      have qN:=hCb.fill hC off (by rw[hlen];exact uG);rw[hlen]at qN;obtain⟨e1,e2⟩:=qN
      have hj:j<arr.size:=by
       rw[← jg];have:=(ab.1 hy).1;simp only[fQ,ak,bT,cy,a6];simp only[ak,bT,cy]at this;rw[re,fE];rw[hlen]at this;exact this
      refine⟨arr[j],bc hj,?_⟩
      by_cases hj1:j<off
      ·rw[aY,ai (by simp;omega),bj hj1]at hy;obtain⟨u,h4,h5⟩:=mS j y hy;rw[kt hh]at h4
       have:arr[j]=u:=by
        have h6:arr[j]?=some u:=by
         rw[← jg];simp only[kz];rw[aY,ai (by simp;omega),bj hj1];simpa using h4
        rw[bc hj]at h6;simpa using h6
       rw[this];exact h5.mono yc
      ·by_cases Vu:j<off+t.size
       ·have NC:(cs.take off).length=off:=by simp;omega
        rw[ai (by simp only[ak,NC,hlen];omega),aH (by omega),NC]at hy;have h5:=hC.2 _ y hy;have yd:j - off<(a.eval x).cells.size:=by rw[re];omega
        have:arr[j]=(a.eval x).cells.getD (j - off) undef:=by
         have h6:arr[j]?=some ((a.eval x).cells.getD (j - off) undef):=by
          rw[← jg];simp only[kz];have NB:(vs.toList.take off).length=off:=by simp;omega
          rw[ai (by simp only[ak,NB,a6];omega),aH (by omega),NB];simp[yd]
         rw[bc hj]at h6;simpa using h6
        rw[this];exact h5.mono yc
       ·have NC:(cs.take off++er (ev fr x')).length=off+t.size:=by rw[ak,hlen];simp;omega
        rw[aH (by omega),NC,gw]at hy;have e3:off+t.size+(j - (off+t.size))=j:=by omega
        rw[e3]at hy;obtain⟨u,h4,h5⟩:=mS j y hy;rw[kt hh]at h4
        have:arr[j]=u:=by
         have h6:arr[j]?=some u:=by
          rw[← jg];simp only[kz];have NB:(vs.toList.take off++(a.eval x).cells.toList).length=off+t.size:=by simp[re];omega
          rw[aH (by omega),NB,gw,re,e3];simpa using h4
         rw[bc hj]at h6;simpa using h6
        rw[this];exact h5.mono yc)
   exact⟨undef,_,μ,.inr ⟨hr,rfl⟩,oe.1,.u _,oe.2⟩
  ·simp at h
 ·rename_i id g i off hp;split at h
  ·rename_i E sz by' g' sh xs hb;split at h
   ·rename_i hg;obtain⟨rfl,rfl⟩:=hg;simp only[aa,an]at h;obtain⟨rfl,rfl,rfl⟩:=h;obtain⟨gU,Nr,hlen,uG,hi⟩:=cX;rw[hp]at h1;obtain⟨_,hv⟩:=h1.Cu hb;obtain⟨Ix,vals,⟨QH,hw⟩,ck,Nl⟩:=hS.obj id _ hb;rcases hw with⟨_,hn⟩ | ⟨b,cap,cur,hm,hB,hh,Gz,CZ,mS,ya⟩
    ·omega
    ·have hv':a.eval ad=.pointer (some ⟨b,i*sz+off,none⟩):=by rw[hv,hm];rfl
     obtain⟨Iz,Nu⟩:=jG hS h2 gU;have hC:=Iz.cx szs;have re:(a.eval x).cells.size=t.size:=by rw[← Iz.1];exact hlen
     have Ip:(cx szs (er (ev fr x'))).length=t.size:=by rw[hC.1];exact re
     have hle:(i+1)*sz≤xs.length*sz:=bJ _ hi;have aa6:xs.length*sz≤cap*sz:=bJ _ Gz;have afH:(i+1)*sz=i*sz+sz:=by rw[cB,gE]
     have hr:=cQ b (i*sz+off) cur E hv' hh re (by rw[re,mS];omega) Nu;have dp:id<J.length:=(ab.1 hb).1;generalize jg:(cur.toList.take (i*sz+off)++(a.eval x).cells.toList++cur.toList.drop (i*sz+off+(a.eval x).cells.size)).toArray=arr at hr;have Gu:xs.getD i []=xs[i]:=by simp[hi]
     have TQ:xs[i].length=sz:=ck _ (cF hi)
     have rW:∀ j,arr.toList[j]?=if i*sz+off≤j∧j<i*sz+off+t.size then(a.eval x).cells.toList[j - (i*sz+off)]? else cur.toList[j]?:=by
      intro j;rw[← jg];have:=oD cur.toList (a.eval x).cells.toList (i*sz+off) j (by rw[a6,a6,re,mS];omega);rw[a6,re]at this;rw[re];exact this
     have yj:arr.size=cur.size:=by
      rw[← jg];simp only[fQ,ak,bT,cy,a6];rw[re,mS];omega
     have oe:=hS.update (w':=w.setRow b arr) (J':=J.set id (.row E sz by' g false (xs.set i ((xs.getD i []).take off++cx szs (er (ev fr x'))++(xs.getD i []).drop (off+t.size))))) (μ':=μ) id (some b)
      ⟨rfl,rfl,rfl,by simp,fun k _ hk=>setRow_other w b k _ (fun e=>hk (by simp[e]))⟩
      (fun b2 jA=>⟨_,hb,by simp,by simp only[aa]at jA;subst jA;simp[hm,ir]⟩)
      (by simp) (fun j hj=>aK (fun e=>hj e.symm)) (fun _ _=>rfl)
      (fun b2 jA=>.inl ⟨_,hb,by simp,jA⟩)
      (fun b2 off2 v2 o2 h3 _ h4 _ h5=>absurd ⟨id,o2,h3,h4,by rw[hb]at h3;simp only[aa]at h3;subst h3;intro hf;simp at hf⟩ h5)
      (fun T2 cs2 h3=>by rw[hb]at h3;simp at h3)
      (fun K E es h3=>by rw[hb]at h3;simp at h3)
      (fun E2 sz2 by2 g2 sh2 xs2 _ h3=>by
       simp only[ao dp,aa,Ob.row.injEq]at h3;obtain⟨rfl,rfl,rfl,rfl,rfl,rfl⟩:=h3;exact⟨g,false,xs,hb,au _,fun _=>⟨by simp,rfl⟩⟩)
      (fun yc o2 h3=>by
       simp only[ao dp,aa]at h3;subst h3;refine⟨Ix,arr.toList.take (xs.length*sz),⟨?_,.inr ⟨b,cap,arr,by simpa using hm,hB,setRow_heap w b cur arr E (0,0) hh,by simpa using Gz,CZ,by rw[yj,mS],by simp⟩⟩,?_,?_⟩
       ·simp only[bT,a6,yj,mS,zt];omega
       ·intro r hr';rcases List.mem_or_eq_of_mem_set hr' with h5 | h5
        ·exact ck r h5
        ·rw[h5,Gu];simp only[ak,bT,cy,TQ,Ip];omega
       ·intro i2 j2 y hy;obtain⟨r,h5,h6⟩:=ib hy;have GG:i2<xs.length:=by have:=(ab.1 h5).1;simpa using this
        by_cases GF:i2=i
        ·subst GF;rw[ao hi]at h5;simp only[aa]at h5;subst h5;rw[Gu]at h6;have AZ:=oD xs[i2] (cx szs (er (ev fr x'))) off j2 (by rw[Ip,TQ];exact uG);rw[Ip]at AZ;rw[AZ]at h6
         have Vu:j2<sz:=by
          have:=(ab.1 (AZ▸h6:_)).1;simp only[ak,bT,cy,TQ,Ip]at this;omega
         have vW:i2*sz+j2<xs.length*sz:=by omega
         by_cases hc:off≤j2∧j2<off+t.size
         ·rw[aI hc]at h6;refine⟨Nr y (aV h6),(a.eval x).cells.getD (j2 - off) undef,?_,(hC.2 _ y h6).mono yc⟩;rw[bj vW,rW,aI (by omega)];have e1:i2*sz+j2 - (i2*sz+off)=j2 - off:=by omega
          have e2:j2 - off<(a.eval x).cells.size:=by rw[re];omega
          rw[e1];simp[e2]
         ·rw[aw hc]at h6;have eH:fw xs i2 j2=some y:=by rw[nK (al hi)];exact h6
          obtain⟨X0,u,h7,h8⟩:=Nl i2 j2 y eH;refine⟨X0,u,?_,h8.mono yc⟩;rw[bj vW,rW,aw (by omega)];rw[← ya,bj vW]at h7;exact h7
        ·rw[aK (fun e=>GF e.symm)]at h5;have eH:fw xs i2 j2=some y:=by rw[nK h5];exact h6
         obtain⟨X0,u,h7,h8⟩:=Nl i2 j2 y eH
         have Vu:j2<sz:=by
          rw[← ck r (aV h5)];exact(ab.1 h6).1
         have vW:i2*sz+j2<xs.length*sz:=by
          have:(i2+1)*sz≤xs.length*sz:=bJ _ GG;rw[cB,gE]at this;omega
         refine⟨X0,u,?_,h8.mono yc⟩;rw[bj vW,rW,aw ?_]
         ·rw[← ya,bj vW]at h7;exact h7
         ·rintro⟨h9,C0⟩;rcases Nat.lt_or_gt_of_ne GF with vZ | vZ
          ·have:(i2+1)*sz≤i*sz:=bJ _ vZ;rw[cB,gE]at this;omega
          ·have:(i+1)*sz≤i2*sz:=bJ _ vZ;rw[cB,gE]at this;omega)
     exact⟨undef,_,μ,.inr ⟨hr,rfl⟩,oe.1,.u _,oe.2⟩
   ·simp at h
  ·simp at h
 ·simp at h
end D7
theorem fF.grow{P:Program}{B:Nat}{w0 w:World}{J:ae}{μ:Mem}(hS:fF P B w0 w J μ){id E sz by' g:Nat}{sh sh':Bool}{xs xs':List (List V)}(hb:J[id]?=some (.row E sz by' g sh xs)){w':World}{v':Value}{vals vals':List Value}
  (hg:w.grownBy w' (ir (μ id))) (jg:∀ b,ir v'=some b→ir (μ id)=some b∨w.heap.size≤b)
  (Ye:∀ b,ir (μ id)=some b→∀ j u,vals[j]?=some u→w'.cell? ⟨b,j,none⟩=some u) (QH:vals.length=xs.length*sz∨sh=false) (hold:sh=true→∀ b,ir (μ id)=some b→∀ j u,w.cell? ⟨b,j,none⟩=some u→j<xs.length*sz→vals[j]?=some u)
  (Sp:sh=true→sh'=true∧xs.length≤xs'.length) (fx:w'.ownsRow B E sz v' xs'.length vals')
  (ck:∀ J' μ',lJ w J μ w' J' μ'→ma w' J' μ' xs' sz vals') :
  fF P B w0 w' (J.set id (.row E sz by' (g+1) sh' xs')) (pD μ id v')∧kW w J μ w' (J.set id (.row E sz by' (g+1) sh' xs')) (pD μ id v'):=by
 have dp:id<J.length:=(ab.1 hb).1;refine hS.update id (ir (μ id)) hg (fun b jA=>⟨_,hb,by simp,jA⟩) (by simp) (fun j hj=>aK (fun e=>hj e.symm)) (fun j hj=>mf μ id v' j hj) ?_ ?_ ?_ ?_ ?_ ?_
 ·intro b jA;rw[dV]at jA;rcases jg b jA with h | h
  ·exact .inl ⟨_,hb,by simp,h⟩
  ·exact .inr h
 ·intro b off u o h1 _ h2 h3 h4;rw[hb]at h1;simp only[aa]at h1;subst h1;have hw:¬ (sh=true→xs.length*sz≤off):=fun hw=>h4 ⟨id,_,hb,h2,hw⟩
  have hs:sh=true:=by
   cases sh with
   | true=>rfl
   | false=>exact absurd (fun h=>by simp at h) hw
  have ho:off<xs.length*sz:=Nat.lt_of_not_le fun h=>hw fun _=>h;refine⟨Ye b h2 off u (hold hs b h2 off u h3 ho),fun o' h5 h6=>?_⟩;simp only[ao dp,aa]at h5;subst h5;intro hw';have h7:=hw' (Sp hs).1;have h8:xs.length*sz≤xs'.length*sz:=bJ _ (Sp hs).2;omega
 ·intro T cs h;rw[hb]at h;simp at h
 ·intro K E es h;rw[hb]at h;simp at h
 ·intro E2 sz2 by2 g2 sh2 xs2 _ h;simp only[ao dp,aa,Ob.row.injEq]at h;obtain⟨rfl,rfl,rfl,rfl,rfl,rfl⟩:=h;exact⟨g,sh,xs,hb,by omega,fun e=>by omega⟩
 ·intro hp o h;simp only[ao dp,aa]at h;subst h;rw[dV];exact⟨(hS.obj id _ hb).1,vals',fx,ck _ _ hp.eO⟩
theorem VR.nD{w:World}{J:ae}{μ:Mem}{id E sz by' g:Nat}{sh:Bool}{xs:List (List V)}(h:J[id]?=some (.row E sz by' g sh xs)):VR w J μ (.own id g) (μ id) :=
 .own id g _ (ab.1 h).1 fun E2 sz2 by2 g2 sh2 xs2 h2=>by
  rw[h]at h2;simp only[aa,Ob.row.injEq]at h2;obtain⟨rfl,rfl,rfl,rfl,rfl,rfl⟩:=h2;exact⟨au _,fun _=>rfl⟩
section D7
variable {P:Program} {o:Oper} {a:Act} {B:Nat} {w0 w:World} {J:ae} {μ:Mem} {fr:List V} (hS:fF P B w0 w J μ)
include hS
theorem IG{T U E:TypeId}{t:TypeInfo}{z:Value}{x y:Operand}{xV:V}{ys:List (List V)}{news:List Value}(ho:o.op=.call { callee:=.builtin .append,args:=#[x,y],argTypes:=#[T,U] })
  (hT:P.underlying T=some (.slice E)) (ht:P.info? E=some t) (hz:t.zero=some z) (fE:0<t.size) (lR:z.cells.size=t.size) (hx:VR w J μ xV (a.eval x)) (rU:Src P w U (a.eval y) t.size ys.length news) (Nl:ma w J μ ys t.size news)
  {ob:Prop} {r:V} {J':ae} (h:tN E t.size t.bytes J xV ys=some (ob,r,J')) (cX:ob):oX P o a B w0 w J μ r J':=by
 have Ix:Ti P E t.size t.bytes:=⟨fE,t,z,ht,hz,rfl,rfl,lR⟩
 have A5:∀ v w',(Builtin.append_ #[T,U] o.type #[a.eval x,a.eval y]).run P w=.ok v w'→(execOp a.eval o).run P w=.ok (.value v) w':=by
  intro v w' hr;simp only[execOp,ho,resolve,invoke,builtin,Sem.run_bind,Sem.run_pure,Result.andThen_ok,List.map_toArray,az,bD,hr]
 unfold tN at h;split at h
 ·
  simp only[aa,an]at h;obtain⟨rfl,rfl,rfl⟩:=h;have hv:=hx.kp;obtain⟨v',w',h1,h2,h3,h4,h5⟩:=pN (ty:=o.type) hT ht hz lR rU B (.slice none 0 0) 0 [] (World.ownsRow_nil w B E t.size) (by simpa using cX.2) (by simpa using cX.1) hS.base;simp only[bo,aW]at h2
  have hn:=hS.ph (w':=w') (.row E t.size t.bytes 0 false ys) v' h3 (fun b hb=>by
   rcases h4 b hb with h6 | h6
   ·simp[ir]at h6
   ·exact h6) (fun hp=>⟨Ix,news,h2,Nl.eO hp.eO⟩)
  refine⟨v',w',_,.inl (A5 _ _ (by rw[hv];exact h1)),hn.1,?_,hn.2⟩;have:=VR.nD (w:=w') (J:=J++[.row E t.size t.bytes 0 false ys]) (μ:=pD μ J.length v') (id:=J.length) (E:=E) (sz:=t.size) (by':=t.bytes) (g:=0) (sh:=false) (xs:=ys) (by simp)
  rwa [dV]at this
 ·
  rename_i sz' xs;split at h
  ·rename_i hsz';subst hsz';simp only[aa,an]at h;obtain⟨rfl,rfl,rfl⟩:=h
   by_cases hy:ys=[]
   ·subst hy;simp only[List.isEmpty_nil,aO];rcases hx.np with⟨rfl,hv⟩ | ⟨b,off,f,hv,_⟩
    ·exact⟨_,w,μ,.inl (A5 _ _ (by rw[hv];exact lT hT ht rU none 0 0 (au _))),hS,hv▸hx,kW.refl _ _ _⟩
    ·exact⟨_,w,μ,.inl (A5 _ _ (by rw[hv];exact lT hT ht rU _ _ _ (au _))),hS,hv▸hx,kW.refl _ _ _⟩
   ·have ig:ys.isEmpty=false:=by cases ys<;>simp_all
    have zU:0<ys.length:=dK.2 hy;simp only[ig,aA,aJ];have Sp:=ui hS hx (sz:=t.size) (xs:=xs) (by simp[rowsOf])
    have hold:∃ (ad:Option Addr) (olds:List Value),a.eval x=.slice ad xs.length xs.length∧olds.length=xs.length*t.size∧((ad=none∧xs.length=0)∨∃ b,ad=some b∧∀ j v,olds[j]?=some v→w.cell? (b.add j)=some v)∧ma w J μ xs t.size olds:=by
     rcases hx.np with⟨rfl,hv⟩ | ⟨b,off,f,hv,hm,hr⟩
     ·exact⟨none,[],hv,by simp,.inl ⟨rfl,rfl⟩,by simp,by simp[fw]⟩
     ·rw[hv]at Sp;obtain⟨vals,h1,h2,h3,h4⟩:=Sp.cells (fun i j y hy=>mY (hr.2.1 i j y hy).2.2) hS;exact⟨_,vals,hv,h1,.inr ⟨_,rfl,h2⟩,h4⟩
    obtain⟨ad,olds,hv,wI,hoo,hor⟩:=hold;obtain⟨v',w',h1,h2,h3,h4⟩:=Dy (ty:=o.type) hT ht hz lR rU B ad xs.length olds wI hoo zU cX.2 cX.1 hS.base;have hn:=hS.ph (w':=w') (.row E t.size t.bytes 0 false (xs++ys)) v' h3 h4 (fun hp=>⟨Ix,olds++news,by rw[ak];exact h2,(hor.append Nl wI).eO hp.eO⟩);refine⟨v',w',_,.inl (A5 _ _ (by rw[hv];exact h1)),hn.1,?_,hn.2⟩;have:=VR.nD (w:=w') (J:=J++[.row E t.size t.bytes 0 false (xs++ys)]) (μ:=pD μ J.length v') (id:=J.length) (E:=E) (sz:=t.size) (by':=t.bytes) (g:=0) (sh:=false) (xs:=xs++ys) (by simp)
    rwa [dV]at this
  ·simp at h
 ·
  rename_i id g;split at h
  ·rename_i E' sz' by2 g' sh xs hb;split at h
   ·rename_i hc;obtain⟨rfl,rfl,rfl,rfl⟩:=hc;simp only[aa,an]at h;obtain⟨rfl,rfl,rfl⟩:=h;have hv:=hx.jS hb;obtain⟨_,vals,fx,ck⟩:=hS.obj id _ hb;obtain⟨v',w',h1,h2,h3,h4,h5⟩:=pN (ty:=o.type) hT ht hz lR rU B (μ id) xs.length vals fx cX.2 cX.1 hS.base;have dp:id<J.length:=(ab.1 hb).1
    have hn:=hS.grow hb (sh':=sh) (xs':=xs++ys) (v':=v') (vals:=vals) (vals':=vals++news) h3 h4 h5 (.inl fx.1) (fun _ b jA j u hc hj=>by
      have Zf:j<vals.length:=by rw[fx.1];exact hj
      have:=fx.cells (g:=b) (by
       have:(μ id).ownBlock=ir (μ id):=by
        rcases fx.2 with⟨hm,_⟩ | ⟨g,cap,cur,hm,_⟩<;>rw[hm]<;>rfl
       rw[this];exact jA) j vals[j] (al Zf)
      rw[Addr.add_lit,bo,hc]at this;simp only[aa]at this;rw[al Zf,this]) (fun h=>⟨h,by simp⟩) (by rw[ak];exact h2) (fun J' μ' k=>(ck.append Nl fx.1).eO k)
    refine⟨v',w',_,.inl (A5 _ _ (by rw[hv];exact h1)),hn.1,?_,hn.2⟩;have:=VR.nD (w:=w') (J:=J.set id (.row E t.size t.bytes (g+1) sh (xs++ys))) (μ:=pD μ id v') (id:=id) (E:=E) (sz:=t.size) (by':=t.bytes) (g:=g+1) (sh:=sh) (xs:=xs++ys) (ao dp)
    rwa [dV]at this
   ·simp at h
  ·simp at h
 ·
  rename_i id g lo hi;split at h
  ·rename_i E' sz' by2 g' sh xs hb;split at h
   ·rename_i hc;obtain⟨rfl,rfl,rfl,rfl,rfl,rfl⟩:=hc;simp only[aa,an]at h;obtain⟨rfl,rfl,rfl⟩:=h;obtain⟨_,_,hv⟩:=hx.oI hb;obtain⟨_,vals,fx,ck⟩:=hS.obj id _ hb;obtain⟨Iv,Fj,jA⟩:=cX
    have hown':w.ownsRow B E t.size (a.eval x) hi (vals.take (hi*t.size))∧ir (a.eval x)=ir (μ id):=by
     have hle:hi*t.size≤xs.length*t.size:=bJ _ Iv;rcases fx with⟨QH,⟨hm,hn⟩ | ⟨b,cap,cur,hm,h1,h2,h3,h4,h5,h6⟩⟩
     ·have h0:hi=0:=by omega
      subst h0;rw[hv,hm];exact⟨⟨by simp,.inl ⟨rfl,rfl⟩⟩,rfl⟩
     ·rw[hv,hm]
      have he:kK (.slice (some ⟨b,0,none⟩) xs.length cap) 0 hi t.size=.slice (some ⟨b,0,none⟩) hi cap:=by
       simp[kK,Addr.add_lit]
      rw[he];refine⟨⟨by simp only[bT,QH];omega,.inr ⟨b,cap,cur,rfl,h1,h2,by omega,h4,h5,?_⟩⟩,rfl⟩;rw[← h6,List.take_take,Nat.min_eq_left hle]
    have hrow':ma w J μ (xs.take hi) t.size (vals.take (hi*t.size)):=by
     refine⟨fun r hr=>ck.1 r (dT hr),fun i j y hy=>?_⟩;have hy':fw (List.take (hi - 0) (List.drop 0 xs)) i j=some y:=by simpa using hy
     have h1:=wQ hy';rw[bo]at h1;obtain⟨hp,u,h2,h3⟩:=ck.2 i j y h1;refine⟨hp,u,?_,h3⟩;obtain⟨r,h4,h5⟩:=ib hy
     have hi':i<hi:=by
      have:=(ab.1 h4).1;simp at this;omega
     have hj:j<t.size:=by
      rw[← ck.1 r (dT (aV h4))];exact(ab.1 h5).1
     have:(i+1)*t.size≤hi*t.size:=bJ _ hi';rw[cB,gE]at this;rw[bj (by omega)];exact h2
    have hl':(xs.take hi).length=hi:=by simp;omega
    obtain⟨v',w',h1,h2,h3,h4,h5⟩:=pN (ty:=o.type) hT ht hz lR rU B (a.eval x) hi _ hown'.1 jA Fj hS.base;rw[hown'.2]at h3;have dp:id<J.length:=(ab.1 hb).1;have hn:=hS.grow hb (sh':=false) (xs':=xs.take hi++ys) (v':=v') (vals:=vals.take (hi*t.size)) (vals':=vals.take (hi*t.size)++news) h3 (fun b hb=>by rw[← hown'.2];exact h4 b hb) (fun b hb=>h5 b (by rw[hown'.2];exact hb)) (.inr rfl) (fun h=>by simp at h) (fun h=>by simp at h) (by rw[ak,hl'];exact h2) (fun J' μ' k=>(hrow'.append Nl (by rw[hl'];exact hown'.1.1)).eO k);refine⟨v',w',_,.inl (A5 _ _ h1),hn.1,?_,hn.2⟩;have:=VR.nD (w:=w') (J:=J.set id (.row E t.size t.bytes (g+1) false (xs.take hi++ys))) (μ:=pD μ id v') (id:=id) (E:=E) (sz:=t.size) (by':=t.bytes) (g:=g+1) (sh:=false) (xs:=xs.take hi++ys) (ao dp)
    rwa [dV]at this
   ·simp at h
  ·simp at h
 ·simp at h
variable (hF:FR w J μ fr a)
include hF
theorem YN{T E:TypeId}{t:TypeInfo}{z:Value}{x y:Operand}{x' y':O}(ho:o.op=.call { callee:=.builtin .append,args:=#[x,y],argTypes:=#[T,T] })
  (hT:P.underlying T=some (.slice E)) (ht:P.info? E=some t) (hz:t.zero=some z) (fE:0<t.size) (lR:z.cells.size=t.size) (hx:cO x=some x') (hy:cO y=some y')
  {ob:Prop} {r:V} {J':ae} (h:bO fr J (.app E t.size t.bytes x' y')=some (ob,r,J')) (cX:ob):oX P o a B w0 w J μ r J':=by
 simp only[bO]at h;split at h
 ·rename_i ys wG;obtain⟨news,h1,h2⟩:=(ui hS (cK hF hy) wG).src hS hT;exact IG hS ho hT ht hz fE lR (cK hF hx) h1 h2 h cX
 ·simp at h
theorem U0{T U E:TypeId}{t:TypeInfo}{z:Value}{x y:Operand}{x' y':O}(ho:o.op=.call { callee:=.builtin .append,args:=#[x,y],argTypes:=#[T,U] })
  (hT:P.underlying T=some (.slice E)) (hU:P.underlying U=some .string) (ht:P.info? E=some t) (hz:t.zero=some z) (fE:t.size=1) (Yt:t.bytes=1) (lR:z.cells.size=t.size) (hx:cO x=some x') (hy:cO y=some y')
  {ob:Prop} {r:V} {J':ae} (h:bO fr J (.apps E x' y')=some (ob,r,J')) (cX:ob):oX P o a B w0 w J μ r J':=by
 simp only[bO]at h;split at h
 ·rename_i l hl;obtain⟨s,hs,rfl,_⟩:=(hl▸cK hF hy).kG;obtain⟨h1,h2⟩:=FF (P:=P) (w:=w) (J:=J) (μ:=μ) hU s;refine IG (news:=Lib.strCells s) hS ho hT ht hz (by omega) lR (cK hF hx) (by rw[hs,fE];exact h1) (by rw[fE];exact h2) (by rw[fE,Yt];exact h) cX
 ·simp at h
theorem RB{T K E:TypeId}(ho:o.op=.makeMap T none){ob:Prop}{r:V}{J':ae}(h:bO fr J (.lF K E)=some (ob,r,J')):oX P o a B w0 w J μ r J':=by
 simp only[bO,aa,an]at h;obtain⟨_,rfl,rfl⟩:=h;have hn:=hS.ph (w':=w.alloc (.map #[] 0)) (.map K E []) (.map (some w.heap.size)) (World.grownBy_alloc w _ none) (by simp[ir]) (fun hp=>⟨w.heap.size,#[],0,rfl,hS.base,heap_alloc_new w _,by simp,by simp,by simp,by simp⟩);refine⟨_,_,_,.inl (by simp[execOp,ho,Instr.makeMap];rfl),hn.1,?_,hn.2⟩;exact .mp _ _ ⟨K,E,[],by simp⟩ (dV _ _ _)
end D7
theorem N6{zs:List V}{n i j:Nat}{x:V}(h:fw (List.replicate n zs) i j=some x):i<n∧zs[j]?=some x:=by
 obtain⟨r,h1,h2⟩:=ib h;have hi:i<n:=by have:=(ab.1 h1).1;simpa using this
 rw[wj,aI hi]at h1;simp only[aa]at h1;subst h1;exact⟨hi,h2⟩
theorem tl(z:Array Value)(j:Nat)(h:j<z.size):z[j]! = z.getD j undef:=by simp[h]
theorem CR.pW{w:World}{J:ae}{μ:Mem}(ss:List (Option Nat)){xs:List V}{vs:Array Value}(h:CR w J μ xs vs):VR w J μ (.agg (Pm.cx ss xs)) (.agg vs):=(CR.cx ss h).LV
theorem Kd{ks:List Nat}{kd:Nat}(h:TH ks=some kd):(kd=4∧ks=[1,1])∨(kd=5∧ks=[0,1,0]):=by
 unfold TH at h;split at h<;>simp at h
 ·exact .inl ⟨h.symm,rfl⟩
 ·exact .inr ⟨h.symm,rfl⟩
theorem lq{P:Program}{K kd:Nat}(h:iW P K=some kd):
  (kd=0∧∃ q,P.underlying K=some (.int q))∨(kd=1∧P.underlying K=some .string)∨(kd=3∧∃ e q,P.underlying K=some (.array 2 e)∧P.underlying e=some (.int q)∧P.cellsOf e=1) ∨
   (∃ fs ks,P.underlying K=some (.struct fs)∧P.stoodInHeld K=false∧iM P 0 fs.toList=some ks∧((kd=4∧ks=[1,1])∨(kd=5∧ks=[0,1,0]))):=by
 unfold iW at h;split at h
 ·rename_i q hq;simp only[aa]at h;exact .inl ⟨h.symm,q,hq⟩
 ·rename_i hq;simp only[aa]at h;exact .inr (.inl ⟨h.symm,hq⟩)
 ·rename_i fs hq;split at h
  ·rename_i rT;rw[wg]at h;obtain⟨ks,h1,h2⟩:=h;exact .inr (.inr (.inr ⟨fs,ks,hq,rT,h1,Kd h2⟩))
  ·simp at h
 ·rename_i e hq;split at h
  ·rename_i q he;split at h
   ·rename_i hc;simp only[aa]at h;exact .inr (.inr (.inl ⟨h.symm,e,q,hq,he,hc⟩))
   ·simp at h
  ·simp at h
 ·simp at h
theorem yv{P:Program}{w:World}{J:ae}{μ:Mem}{K:TypeId}{kd:Nat}{d:TypeDesc}(hK:P.underlying K=some d)(oL:iW P K=some kd)(h3:kd<3){k:V}{kv:Value}(hk:VR w J μ k kv):
  ∀ (es:List (V×V)) (ents:List MapEntry) (n:Nat) (r:Option (Nat×V)),ents.length=es.length→(∀ (i:Nat) (a x:V),es[i]?=some (a,x)→∃ e:MapEntry,ents[i]?=some e∧VR w J μ a e.key∧VR w J μ x e.val)→dM kd k es n=some r →
   (r=none∧Instr.findNow d kv ents n=some none)∨∃ i x e a,r=some (n+i,x)∧es[i]?=some (a,x)∧ents[i]?=some e∧bX kd k a=some true∧Instr.findNow d kv ents n=some (some (n+i,e.val))
 | [],ents,n,r,hl,_,h=>by
  have:ents=[]:=aL hl;subst this;simp only[dM,aa]at h;subst h;exact .inl ⟨rfl,rfl⟩
 | (a,x)::es,ents,n,r,hl,hr,h=>by
  cases ents with
  | nil=>simp at hl
  | cons e ents =>
   obtain⟨e',he,h1,h2⟩:=hr 0 a x rfl;simp only[aq,aa]at he;subst he
   have hs:∀ b,bX kd k a=some b→Instr.sameNow d kv e.key=some b:=by
    intro b hb;rcases lq oL with⟨rfl,q,hq⟩ | ⟨rfl,hq⟩ | ⟨rfl,_⟩ | ⟨_,_,_,_,_,⟨rfl,_⟩ | ⟨rfl,_⟩⟩
    ·rw[hK]at hq;simp only[aa]at hq;subst hq;cases k<;>(try (simp[bX]at hb;done));cases a<;>(try (simp[bX]at hb;done));simp only[bX]at hb;split at hb<;>simp only[aa,reduceCtorEq]at hb;rename_i ND;subst ND;rw[hk.ey,h1.ey];simp[Instr.sameNow,hb]
    ·rw[hK]at hq;simp only[aa]at hq;subst hq;cases k<;>(try (simp[bX]at hb;done));cases a<;>(try (simp[bX]at hb;done));simp only[bX,aa]at hb;obtain⟨s,rfl,rfl,_⟩:=hk.kG;obtain⟨s',hs',rfl,_⟩:=h1.kG;rw[hs'];simp only[Instr.sameNow,aa];rw[beq_toListBytes,toList_data,toList_data];exact hb
    all_goals omega
   simp only[dM]at h;split at h
   ·rename_i hb;simp only[aa]at h;subst h;exact .inr ⟨0,x,e,a,rfl,rfl,rfl,hb,by simp[Instr.findNow,hs true hb]⟩
   ·rename_i hb
    have ih:=yv hK oL h3 hk es ents (n+1) r (by simpa using hl) (fun i a x hi=>by
     obtain⟨e2,h3,h4⟩:=hr (i+1) a x hi;exact⟨e2,by simpa using h3,h4⟩) h
    rcases ih with⟨h3,h4⟩ | ⟨i,y,e2,a2,h3,h4,h5,h6,h7⟩
    ·exact .inl ⟨h3,by simp[Instr.findNow,hs false hb,h4]⟩
    ·exact .inr ⟨i+1,y,e2,a2,by rw[h3];congr 2;omega,h4,by simpa using h5,h6,by simp only[Instr.findNow,hs false hb,h7];congr 3;omega⟩
   ·simp at h
theorem p5{xs ys:List V}{r:Bool}(h:F1 xs ys=some r):∃ k a l b a' b',xs=[.i k a,.i l b]∧ys=[.i k a',.i l b']∧r=(a==a'&&b==b'):=by
 unfold F1 at h;split at h
 ·split at h<;>simp only[aa,reduceCtorEq]at h;rename_i hk;obtain⟨rfl,rfl⟩:=hk;exact⟨_,_,_,_,_,_,rfl,rfl,h.symm⟩
 ·simp at h
theorem pK{xs ys:List V}{r:Bool}(h:xj xs ys=some r):∃ a b a' b',xs=[.s a,.s b]∧ys=[.s a',.s b']∧r=(a==a'&&b==b'):=by
 unfold xj at h;split at h
 ·simp only[aa]at h;exact⟨_,_,_,_,rfl,rfl,h.symm⟩
 ·simp at h
theorem rJ{xs ys:List V}{r:Bool}(h:Dd xs ys=some r):∃ k a b l c a' b' c',xs=[.i k a,.s b,.i l c]∧ys=[.i k a',.s b',.i l c']∧r=(a==a'&&(b==b'&&c==c')):=by
 unfold Dd at h;split at h
 ·split at h<;>simp only[aa,reduceCtorEq]at h;rename_i hk;obtain⟨rfl,rfl⟩:=hk;exact⟨_,_,_,_,_,_,_,_,rfl,rfl,h.symm⟩
 ·simp at h
theorem Bu{xs ys:List V}{r:Bool}(h:xj xs ys=some r):eu [1,1] xs ys=some r∧xs.length=2∧ys.length=2:=by
 obtain⟨a,b,a',b',rfl,rfl,rfl⟩:=pK h;exact⟨by simp[eu,bX],rfl,rfl⟩
theorem Dc{xs ys:List V}{r:Bool}(h:Dd xs ys=some r):eu [0,1,0] xs ys=some r∧xs.length=3∧ys.length=3:=by
 obtain⟨k,a,b,l,c,a',b',c',rfl,rfl,rfl⟩:=rJ h;exact⟨by simp[eu,bX],rfl,rfl⟩
theorem pL{kd:Nat}{k a:V}(h:bX kd k a=some true):k=a:=by
 unfold bX at h;split at h
 ·split at h<;>simp_all
 ·simp_all
 ·simp_all
 ·obtain⟨_,_,_,_,_,_,rfl,rfl,hr⟩:=p5 h;have:=hr.symm;simp at this;obtain⟨rfl,rfl⟩:=this;rfl
 ·obtain⟨_,_,_,_,rfl,rfl,hr⟩:=pK h;have:=hr.symm;simp at this;obtain⟨rfl,rfl⟩:=this;rfl
 ·obtain⟨_,_,_,_,_,_,_,_,rfl,rfl,hr⟩:=rJ h;have:=hr.symm;simp at this;obtain⟨rfl,rfl,rfl⟩:=this;rfl
 ·simp at h
theorem sJ{P:Program}{w:World}{J:ae}{μ:Mem}{K:TypeId}{fs:Array Field}{ks:List Nat}(hK:P.underlying K=some (.struct fs))(hs:P.stoodInHeld K=false)(hf:iM P 0 fs.toList=some ks)
  {xs ys:List V} {kv av:Value} (hk:VR w J μ (.agg xs) kv) (ha:VR w J μ (.agg ys) av) {r:Bool} (h:eu ks xs ys=some r):(Op.equal K kv av).run P w=.ok r w:=by
 obtain⟨us,rfl,l1,v1⟩:=hk.gA;obtain⟨vs,rfl,l2,v2⟩:=ha.gA;have hf':P.fieldsOf K=fs:=by simp[Program.fieldsOf,hK]
 show(Op.equalIn 10000 K (.agg us) (.agg vs)).run P w=.ok r w;rw[run_equalIn_struct w 9999 K us vs (by rw[hf'];exact hK) hs,hf'];exact oE fs.toList ks 0 xs ys us vs r 9998 hf (fun j z hz=>by simpa using v1 j z hz) (fun j z hz=>by simpa using v2 j z hz) (by omega) (by omega) h
theorem Jg{P:Program}{w:World}{J:ae}{μ:Mem}{K:TypeId}{kd:Nat}(oL:iW P K=some kd)(h3:¬ kd<3){k:V}{kv:Value}(hk:VR w J μ k kv):
  ∃ d,P.underlying K=some d∧(∀ e es n,Instr.findNow d kv (e::es) n=none)∧∀ a av b,VR w J μ a av→bX kd k a=some b→(Op.equal K kv av).run P w=.ok b w:=by
 rcases lq oL with⟨rfl,_⟩ | ⟨rfl,_⟩ | ⟨rfl,e,q,hK,he,hc⟩ | ⟨fs,ks,hK,hs,hf,ND⟩
 ·omega
 ·omega
 ·refine⟨_,hK,fun e es n=>by simp[Instr.findNow,Instr.sameNow],fun a av b ha hb=>?_⟩;cases k<;>(try (simp[bX]at hb;done));cases a<;>(try (simp[bX]at hb;done));simp only[bX]at hb;obtain⟨k1,a1,l1,b1,a2,b2,rfl,rfl,rfl⟩:=p5 hb;rw[hk.pair,ha.pair];exact rm hK he hc _ _ _ _ _ _
 ·refine⟨_,hK,fun e es n=>by simp[Instr.findNow,Instr.sameNow],fun a av b ha hb=>?_⟩;rcases ND with⟨rfl,rfl⟩ | ⟨rfl,rfl⟩
  ·cases k<;>(try (simp[bX]at hb;done));cases a<;>(try (simp[bX]at hb;done));exact sJ hK hs hf hk ha (Bu hb).1
  ·cases k<;>(try (simp[bX]at hb;done));cases a<;>(try (simp[bX]at hb;done));exact sJ hK hs hf hk ha (Dc hb).1
theorem rC{P:Program}{w:World}{J:ae}{μ:Mem}{K:TypeId}{kd:Nat}{k:V}{kv:Value}(hq:∀ a av b,VR w J μ a av→bX kd k a=some b→(Op.equal K kv av).run P w=.ok b w):
  ∀ (es:List (V×V)) (ents:List MapEntry) (n:Nat) (r:Option (Nat×V)),ents.length=es.length→(∀ (i:Nat) (a x:V),es[i]?=some (a,x)→∃ e:MapEntry,ents[i]?=some e∧VR w J μ a e.key∧VR w J μ x e.val)→dM kd k es n=some r →
   (r=none∧(Instr.findAsking K kv ents n).run P w=.ok none w)∨∃ i x e a,r=some (n+i,x)∧es[i]?=some (a,x)∧ents[i]?=some e∧bX kd k a=some true∧(Instr.findAsking K kv ents n).run P w=.ok (some (n+i,e.val)) w
 | [],ents,n,r,hl,_,h=>by
  have:ents=[]:=aL hl;subst this;simp only[dM,aa]at h;subst h;exact .inl ⟨rfl,by simp[Instr.findAsking]⟩
 | (a,x)::es,ents,n,r,hl,hr,h=>by
  cases ents with
  | nil=>simp at hl
  | cons e2 ents =>
   obtain⟨e',he',h1,h2⟩:=hr 0 a x rfl;simp only[aq,aa]at he';subst he';have hs:∀ b,bX kd k a=some b→(Op.equal K kv e2.key).run P w=.ok b w:=fun b hb=>hq a _ b h1 hb;simp only[dM]at h;split at h
   ·rename_i hb;simp only[aa]at h;subst h;exact .inr ⟨0,x,e2,a,rfl,rfl,rfl,hb,by simp[Instr.findAsking,hs true hb]⟩
   ·rename_i hb
    have ih:=rC hq es ents (n+1) r (by simpa using hl) (fun i a x hi=>by
     obtain⟨e2,h3,h4⟩:=hr (i+1) a x hi;exact⟨e2,by simpa using h3,h4⟩) h
    rcases ih with⟨h3,h4⟩ | ⟨i,y,e2,a2,h3,h4,h5,h6,h7⟩
    ·exact .inl ⟨h3,by simp[Instr.findAsking,hs false hb,h4]⟩
    ·exact .inr ⟨i+1,y,e2,a2,by rw[h3];congr 2;omega,h4,by simpa using h5,h6,by simp only[Instr.findAsking,Sem.run_bind,hs false hb,Result.andThen_ok,aA,aJ,h7];congr 3;omega⟩
   ·simp at h
theorem jh{P:Program}{w:World}{J:ae}{μ:Mem}{K:TypeId}{kd:Nat}(oL:iW P K=some kd){k:V}{kv:Value}(hk:VR w J μ k kv)
  (es:List (V×V)) (ents:List MapEntry) (r:Option (Nat×V)) (hl:ents.length=es.length) (hr:∀ (i:Nat) (a x:V),es[i]?=some (a,x)→∃ e:MapEntry,ents[i]?=some e∧VR w J μ a e.key∧VR w J μ x e.val) (h:dM kd k es 0=some r) :
   (r=none∧(Instr.findKey K kv ents).run P w=.ok none w)∨∃ i x e a,r=some (i,x)∧es[i]?=some (a,x)∧ents[i]?=some e∧bX kd k a=some true∧(Instr.findKey K kv ents).run P w=.ok (some (i,e.val)) w:=by
 by_cases h3:kd<3
 ·have hd:∃ d,P.underlying K=some d:=by
   rcases lq oL with⟨_,_,h⟩ | ⟨_,h⟩ | ⟨_,_,_,h,_⟩ | ⟨_,_,h,_⟩<;>exact⟨_,h⟩
  obtain⟨d,hd⟩:=hd;have hf:=yv hd oL h3 hk es ents 0 r hl hr h;simp only[bo]at hf;rcases hf with⟨h4,h5⟩ | ⟨i,x,e,a,h4,h5,h6,h7,h8⟩
  ·exact .inl ⟨h4,by simp[Instr.findKey,run_underlying hd,h5]⟩
  ·exact .inr ⟨i,x,e,a,h4,h5,h6,h7,by simp[Instr.findKey,run_underlying hd,h8]⟩
 ·obtain⟨d,hd,hn,hq⟩:=Jg oL h3 hk;have hf:=rC hq es ents 0 r hl hr h;cases ents with
  | nil =>
   rcases hf with⟨h4,h5⟩ | ⟨i,x,e,a,_,_,h6,_⟩
   ·exact .inl ⟨h4,by simp[Instr.findKey,run_underlying hd,Instr.findNow]⟩
   ·simp at h6
  | cons e0 ents =>
   simp only[bo]at hf;rcases hf with⟨h4,h5⟩ | ⟨i,x,e,a,h4,h5,h6,h7,h8⟩
   ·exact .inl ⟨h4,by simp[Instr.findKey,run_underlying hd,hn,h5]⟩
   ·exact .inr ⟨i,x,e,a,h4,h5,h6,h7,by simp[Instr.findKey,run_underlying hd,hn,h8]⟩
theorem pg{P:Program}{w:World}(em:Bool)(n:Nat)(us:Array Value):∀ (fs:List Field) (ks:List Nat) (m:Nat),iM P m fs=some ks→us.size=m+ks.length →
  (forIn fs PUnit.unit (fun f _=>do
   if f.name ≠ "_" then
    Instr.checkKey em (n+1) f.type (← part f.type us f.offset)
    pure (ForInStep.yield PUnit.unit)
   else pure (ForInStep.yield PUnit.unit):Field→PUnit→Sem (ForInStep PUnit))).run P w=.ok PUnit.unit w
 | [],_,_,_,_=>by simp
 | f::fs,ks,m,hf,hl=>by
  simp only[iM]at hf;split at hf
  ·rename_i Er;obtain⟨Er,TZ⟩:=Er
   have hk:∃ k ks',ks=k::ks'∧iM P (m+1) fs=some ks'∧eD P f.type=some false∧∀ v:Value,(Instr.checkKey em (n+1) f.type v).run P w=.ok () w:=by
    split at hf<;>simp only[aa,reduceCtorEq]at hf
    ·rename_i k ks' hu hr;exact⟨0,ks',hf.symm,hr,by simp[eD,hu],fun v=>by simp[Instr.checkKey,run_underlying hu]⟩
    ·rename_i ks' hu hr;exact⟨1,ks',hf.symm,hr,by simp[eD,hu],fun v=>by simp[Instr.checkKey,run_underlying hu]⟩
    ·rename_i ks' hu hr;exact⟨2,ks',hf.symm,hr,by simp[eD,hu],fun v=>by simp[Instr.checkKey,run_underlying hu]⟩
   obtain⟨k,ks',rfl,hr,hA,tj⟩:=hk;have hlx:m<us.size:=by simp at hl;omega
   have hpx:(part f.type us f.offset).run P w=.ok (us.getD m undef) w:=by
    simp only[part,Sem.run_bind,jt hA,Result.andThen_ok,aA,aJ,Er];rw[show us[m]?=some (us.getD m undef)by simp[hlx]];rfl
   have ih:=pg (P:=P) (w:=w) em n us fs ks' (m+1) hr (by simp at hl;omega);simp only[List.forIn_cons,Sem.run_bind,eX,TZ,cL,aO,hpx,Result.andThen_ok,tj,Sem.run_pure,ih]
  ·simp at hf
theorem run_checkKey{P:Program}{w:World}{J:ae}{μ:Mem}{K:TypeId}{kd:Nat}(oL:iW P K=some kd)(em:Bool)(n:Nat){k:V}{v:Value}(hk:VR w J μ k v)(cX:jI kd k=true):(Instr.checkKey em (n+2) K v).run P w=.ok () w:=by
 rcases lq oL with⟨_,_,h⟩ | ⟨_,h⟩ | ⟨rfl,e,q,h,he,hc⟩ | ⟨fs,ks,h,hs,hf,ND⟩
 ·simp[Instr.checkKey,run_underlying h]
 ·simp[Instr.checkKey,run_underlying h]
 ·simp only[jI]at cX;split at cX
  ·rename_i k1 a1 l1 b1;rw[hk.pair]
   have hi:∃ i,P.info? e=some i:=by
    unfold Program.underlying at he;cases h:P.info? e with
    | none=>simp[h]at he
    | some i=>exact⟨i,rfl⟩
   obtain⟨i,hi⟩:=hi;have hA:eD P e=some false:=by simp[eD,he]
   have hp:∀ (x y:Value) (j:Nat) (z:Value),#[x,y][j]?=some z→(part e #[x,y] j).run P w=.ok z w:=by
    intro x y j z hz;simp only[part,Sem.run_bind,jt hA,Result.andThen_ok,aA,aJ,hz];rfl
   have hs:(sizeOf e).run P w=.ok 1 w:=by rw[run_sizeOf w hi,hc]
   have h0:=hp (.int k1 a1) (.int l1 b1) 0 (.int k1 a1) rfl;have h1:=hp (.int k1 a1) (.int l1 b1) 1 (.int l1 b1) rfl
   have tj:∀ v:Value,(∃ q a,v=.int q a)→(Instr.checkKey em (n+1) e v).run P w=.ok () w:=by
    rintro v ⟨_,_,rfl⟩;simp[Instr.checkKey,run_underlying he]
   have c0:=tj (.int k1 a1) ⟨_,_,rfl⟩;have c1:=tj (.int l1 b1) ⟨_,_,rfl⟩;rw[Instr.checkKey];simp only[Sem.run_bind,run_underlying h,Result.andThen_ok];simp only[Std.Legacy.Range.forIn_eq_forIn_range',Std.Legacy.Range.size,ze,Nat.add_one_sub_one,Nat.div_one,show List.range' 0 2=[0,1]from rfl,List.forIn_cons,List.forIn_nil];simp only[Sem.run_bind,hs,Result.andThen_ok,CV,h0,h1,c0,c1,Sem.run_pure]
  ·simp at cX
 ·have key:∀ us:Array Value,us.size=ks.length→(Instr.checkKey em (n+2) K (.agg us)).run P w=.ok () w:=by
   intro us hus;rw[Instr.checkKey];simp only[Sem.run_bind,run_underlying h,Result.andThen_ok];rw[← Array.forIn_toList];have:=pg (P:=P) (w:=w) em n us fs.toList ks 0 hf (by omega);simp at this ⊢;rw[this];rfl
  rcases ND with⟨rfl,rfl⟩ | ⟨rfl,rfl⟩
  ·simp only[jI]at cX;split at cX
   ·obtain⟨us,rfl,l1,_⟩:=hk.gA;exact key us (by simpa using l1.symm)
   ·simp at cX
  ·simp only[jI]at cX;split at cX
   ·obtain⟨us,rfl,l1,_⟩:=hk.gA;exact key us (by simpa using l1.symm)
   ·simp at cX
theorem C5{P:Program}{w:World}{J:ae}{μ:Mem}{E:TypeId}{z:V}(h:zeroV P E=some z):∃ v,(zeroValue E).run P w=.ok v w∧VR w J μ z v:=by
 unfold zeroV at h;split at h
 ·rename_i t ht;split at h
  ·rename_i cs hz;simp only[aj]at h;obtain⟨zs,lR,rfl⟩:=h;exact⟨_,by simp[zeroValue,typeInfo,ht,hz],(jY (cs:=cs) lR).pW _⟩
  ·rename_i z' ig hz;exact⟨_,by simp[zeroValue,typeInfo,ht,hz],uM h⟩
  ·simp at h
 ·simp at h
section cD
variable {P:Program} {o:Oper} {a:Act} {B:Nat} {w0 w:World} {J:ae} {μ:Mem} {fr:List V} (hF:FR w J μ fr a) (hS:fF P B w0 w J μ)
include hF hS
theorem SQ{T K E:TypeId}{x:Operand}{x':O}(ho:o.op=.call { callee:=.builtin .len,args:=#[x],argTypes:=#[T] })(hT:P.underlying T=some (.map K E))(hx:cO x=some x')
  {ob:Prop} {y:V} (h:aQ fr J (.xY x')=some (ob,y)):Yields P o a w J μ y:=by
 have h1:=cK hF hx;simp only[aQ]at h;split at h
 ·rename_i hp;simp only[aa,an]at h;obtain⟨_,rfl⟩:=h;rw[hp]at h1;have hv:a.eval x=.map none:=h1.x8;refine .pure (v:=.int .i64 0) ?_ (.i _ _);simp[execOp,ho,resolve,invoke,builtin,hv,Builtin.len_,run_underlying hT,goInt]
 ·rename_i id hp;split at h
  ·rename_i K' E' es hb;simp only[aa,an]at h;obtain⟨_,rfl⟩:=h;rw[hp]at h1;obtain⟨r,hv,hm,_⟩:=h1.qb;obtain⟨r',ents,clock,hm',_,hh,hR⟩:=hS.obj id _ hb;rw[hm]at hm';simp only[Value.map.injEq,aa]at hm';subst hm';refine .pure (v:=.int .i64 es.length) ?_ (.i _ _);have hg:(getObj r).run P w=.ok (.map ents clock) w:=by simp[getObj,Sem.run,hh]
   simp[execOp,ho,resolve,invoke,builtin,hv,Builtin.len_,run_underlying hT,goInt,hg,hR.1]
  ·simp at h
 ·simp at h
theorem SV{T K E:TypeId}{m k:Operand}{m' k':O}{kd:Nat}{z:V}{ok:Bool}(ho:o.op=.lookup T m k ok)(hT:P.underlying T=some (.map K E))(hm:cO m=some m')(hk:cO k=some k')(oL:iW P K=some kd)(hz:zeroV P E=some z)
  {ob:Prop} {y:V} (h:aQ fr J (.look kd z ok m' k')=some (ob,y)) (cX:ob):Yields P o a w J μ y:=by
 have h1:=cK hF hm;have h2:=cK hF hk;obtain⟨zv,Y7,TL⟩:=C5 (w:=w) (J:=J) (μ:=μ) hz
 have Zd:jI kd (ev fr k')=true:=by
  simp only[aQ]at h;split at h<;>simp only[aa,an,reduceCtorEq]at h<;>(obtain⟨rfl,_⟩:=h;exact cX)
 have vY:∀ (u:V) (v:Value) (q:Bool),VR w J μ u v→(Instr.lookup T (a.eval m) (a.eval k) ok).run P w=.ok (if ok then .tuple #[v,.bool q]else v) w→Yields P o a w J μ (if ok then .fu [u,.b q]else u):=by
  intro u v q hu hr;refine .pure (v:=if ok then .tuple #[v,.bool q]else v) (by simp[execOp,ho,hr]) ?_;cases ok
  ·exact hu
  ·refine .fu _ _ rfl fun i x hx=>?_
   match i with
   | 0=>simp only[aq,aa]at hx;subst hx;exact hu
   | 1=>simp only[bF,aq,aa]at hx;subst hx;exact .b _
   | i+2=>simp at hx
 have hes:∀ (r:Option (Option (Nat×V))),cJ J kd (ev fr m') (ev fr k')=r→∀ q,r=some q →
   (q=none→(Instr.lookup T (a.eval m) (a.eval k) ok).run P w=.ok (if ok then .tuple #[zv,.bool false]else zv) w) ∧
   (∀ n u,q=some (n,u)→∃ v,VR w J μ u v∧(Instr.lookup T (a.eval m) (a.eval k) ok).run P w=.ok (if ok then .tuple #[v,.bool true]else v) w):=by
  intro r hr q hq;unfold cJ at hr;split at hr
  ·rename_i hp;rw[hp]at h1;have hv:a.eval m=.map none:=h1.x8;rw[← hr]at hq;simp only[aa]at hq;subst hq;refine⟨fun _=>?_,fun n u h=>by simp at h⟩;rw[hv];have tj:=run_checkKey (P:=P) (w:=w) oL true 9998 h2 Zd
   have hfk:(Instr.findKey K (a.eval k) []).run P w=.ok none w:=by
    rcases jh oL h2 [] [] none rfl (by simp) rfl with⟨_,h⟩ | ⟨_,_,_,_,h,_⟩
    ·exact h
    ·simp at h
   cases ok<;>simp[Instr.lookup,run_underlying hT,tj,hfk,Y7]
  ·rename_i id hp;rw[hp]at h1;obtain⟨rr,hv,kB,_⟩:=h1.qb;split at hr
   ·rename_i K' E' es hb;obtain⟨r',ents,clock,hm',_,hh,hR⟩:=hS.obj id _ hb;rw[kB]at hm';simp only[Value.map.injEq,aa]at hm';subst hm';have hg:(getObj rr).run P w=.ok (.map ents clock) w:=by simp[getObj,Sem.run,hh]
    rw[← hr]at hq
    have hf:=jh oL h2 es ents.toList q (by rw[a6];exact hR.1) (fun i a x hi=>by
     obtain⟨_,_,e,h3,h4,h5⟩:=hR.2.1 i a x hi;exact⟨e,by simpa using h3,h4,h5⟩) hq
    have tj:=run_checkKey (P:=P) (w:=w) oL ents.isEmpty 9998 h2 Zd;refine⟨fun hn=>?_,fun n u hn=>?_⟩
    ·rcases hf with⟨_,h3⟩ | ⟨i,x,e,a2,h3,_⟩
     ·rw[hv];cases ok<;>simp[Instr.lookup,run_underlying hT,hg,tj,h3,Y7]
     ·rw[hn]at h3;simp at h3
    ·rcases hf with⟨h3,_⟩ | ⟨i,x,e,a2,h3,h4,h5,_,h6⟩
     ·rw[hn]at h3;simp at h3
     ·rw[hn]at h3;simp only[aa,an]at h3;obtain⟨_,rfl⟩:=h3;obtain⟨_,_,e2,h7,_,h8⟩:=hR.2.1 i a2 u h4
      have:e2=e:=by
       have h9:ents[i]?=some e:=by simpa using h5
       rw[h7]at h9;simpa using h9
      subst this;refine⟨e2.val,h8,?_⟩;rw[hv];cases ok<;>simp[Instr.lookup,run_underlying hT,hg,tj,h6]
   ·rw[← hr]at hq;simp at hq
  ·rw[← hr]at hq;simp at hq
 simp only[aQ]at h;generalize hr:cJ J kd (ev fr m') (ev fr k')=r at h;have hq:=hes r hr;cases r with
 | none=>simp at h
 | some q =>
  obtain⟨h3,h4⟩:=hq q rfl;cases q with
  | none =>
   simp only[aa,an]at h;obtain⟨_,rfl⟩:=h;exact vY _ _ _ TL (h3 rfl)
  | some q =>
   obtain⟨n,u⟩:=q;simp only[aa,an]at h;obtain⟨_,rfl⟩:=h;obtain⟨v,h5,h6⟩:=h4 n u rfl;exact vY _ _ _ h5 h6
end cD
end Go.Pm

/- A part of the proof that for every input the law NetworkLimits returns true and leaves its argument as it was. -/
import Derived.Lib.AppendStr
import Derived.ChangeKeysEq
import Derived.Test.YtgihcpilgfbggaaGreatDoorL8
set_option linter.all false

namespace Go.Pm
open Go Go.RowKit
structure Src (P:Program) (w:World) (U:TypeId) (x:Value) (size m:Nat) (news:List Value):Prop where
 ty:∃ d,P.underlying U=some d∧∀ k,d≠.int k
 len:∀ w':World,(Builtin.lenOf x).run P w'=.ok m w'
 first:(Builtin.firstCells size m x).run P w=.ok news.toArray w
 TF:(Builtin.firstCells size m x).run P w.drew=.ok news.toArray w.drew
 Gh:news.length=m*size
 one:∀ u∈news,u.oneCell'=true
section
variable {P:Program} {w:World} {T U ty E:TypeId} {t:TypeInfo} {z:Value} {x:Value} {m:Nat} {news:List Value}
theorem lW(hT:P.underlying T=some (.slice E))(ht:P.info? E=some t)(hs:Src P w U x t.size 0 news)(a:Option Addr)(n cap:Nat)(hn:n≤cap):
  (Builtin.append_ #[T,U] ty #[.slice a n cap,x]).run P w=.ok (.slice a n cap) w:=by
 obtain⟨d,hd,hk⟩:=hs.ty;have Mr:news=[]:=bq (by simpa using hs.Gh);have hf:=hs.first;subst Mr;cases a with
 | none=>simp[Builtin.append_,run_underlying hT,run_underlying hd,sizeOf,typeInfo,ht,hs.len,hn,hf]
 | some a=>simp[Builtin.append_,run_underlying hT,run_underlying hd,sizeOf,typeInfo,ht,hs.len,hn,hf,storeCells]
theorem Bc(hT:P.underlying T=some (.slice E))(ht:P.info? E=some t)(hs:Src P w U x t.size m news)(g n cap:Nat)(cur:Array Value)(hg:w.heap[g]?=some (.cells cur E (0,0)))
  (s5:n+m≤cap) (mR:n*t.size+news.length≤cur.size) :
  (Builtin.append_ #[T,U] ty #[.slice (some ⟨g,0,none⟩) n cap,x]).run P w =
   .ok (.slice (some ⟨g,0,none⟩) (n+m) cap) (w.setRow g (cur.toList.take (n*t.size)++news++cur.toList.drop (n*t.size+news.length)).toArray):=by
 obtain⟨d,hd,hk⟩:=hs.ty;have hf:=hs.first;have py:=run_storeCells_at P g (n*t.size) E news 0 cur w hg (by simpa using mR) hs.one;simp only[cn]at py;simp[Builtin.append_,run_underlying hT,run_underlying hd,sizeOf,typeInfo,ht,hs.len,s5,hf,Addr.add_lit,py]
theorem oL(hT:P.underlying T=some (.slice E))(ht:P.info? E=some t)(hz:t.zero=some z)(hs:Src P w U x t.size m news)(a:Option Addr)(n cap:Nat)(olds:List Value)
  (lC:olds.length=n*t.size) (ho:(a=none∧n=0)∨∃ b,a=some b∧∀ j v,olds[j]?=some v→w.cell? (b.add j)=some v)
  (hg:cap<n+m) (Q6:n+m≤maxLen) (mR:(n+m)*t.bytes≤140737488355328) :
  (Builtin.append_ #[T,U] ty #[.slice a n cap,x]).run P w =
   .ok (.slice (some ⟨w.heap.size,0,none⟩) (n+m) (grownCap w (n+m) cap E))
    (w.drew.alloc (.cells (olds.toArray++news.toArray++Builtin.zeroCells z.cells (grownCap w (n+m) cap E - (n+m))) E)):=by
 obtain⟨d,hd,hk⟩:=hs.ty;have hf:=hs.TF;have hn:¬ (n+m≤cap):=by omega
 have h63':¬ (9223372036854775807<((n:Int)+(m:Int))):=by unfold maxLen at Q6;omega
 have h48:=growslice_fits hg mR;have h48':¬ (281474976710656<Builtin.nextslicecap (n+m) cap*t.bytes):=by omega
 have hfo:(Builtin.firstCells t.size n (.slice a n cap)).run P w.drew=.ok olds.toArray w.drew:=by
  rcases ho with⟨rfl,rfl⟩ | ⟨b,rfl,hb⟩
  ·have:olds=[]:=bq (by simpa using lC);subst this;simp[Builtin.firstCells]
  ·exact run_firstCells_some (P:=P) w.drew t.size n b n cap olds lC (by simpa using hb)
 simp[Builtin.append_,run_underlying hT,run_underlying hd,sizeOf,typeInfo,zeroValue,ht,hz,hs.len,hn,h63',h48',Question.forced,hf,hfo,newRow,grownCap];congr 2;apply Array.ext';simp[List.append_assoc]
theorem pM(hT:P.underlying T=some (.slice E))(ht:P.info? E=some t)(hz:t.zero=some z)(lK:z.cells.size=t.size)(hs:Src P w U x t.size m news)(B:Nat)(v:Value)(n:Nat)(vals:List Value)
  (gf:w.ownsRow B E t.size v n vals) (Q6:n+m≤maxLen) (mR:(n+m)*t.bytes≤140737488355328) (hB:B≤w.heap.size) :
  ∃ v' w',(Builtin.append_ #[T,U] ty #[v,x]).run P w=.ok v' w'∧w'.ownsRow B E t.size v' (n+m) (vals++news)∧w.grownBy w' (iT v) ∧
   (∀ b,iT v'=some b→iT v=some b∨w.heap.size≤b)∧(∀ b,iT v=some b→∀ j u,vals[j]?=some u→w'.cell? ⟨b,j,none⟩=some u):=by
 have hlen:(vals++news).length=(n+m)*t.size:=by rw[List.length_append,gf.1,hs.Gh,Nat.add_mul]
 have grown:∀ (old:Nat),old<n+m→∀ (row:Option Nat),
   (w.drew.alloc (.cells (vals.toArray++news.toArray++Builtin.zeroCells z.cells (grownCap w (n+m) old E - (n+m))) E)).ownsRow B E t.size
    (.slice (some ⟨w.heap.size,0,none⟩) (n+m) (grownCap w (n+m) old E)) (n+m) (vals++news) ∧
   w.grownBy (w.drew.alloc (.cells (vals.toArray++news.toArray++Builtin.zeroCells z.cells (grownCap w (n+m) old E - (n+m))) E)) row:=by
  intro old ho row;have MB:=grownCap_ge w (n+m) old E;have zr:grownCap w (n+m) old E≤maxLen:=grownCap_le_maxLen w (n+m) old E Q6;refine⟨⟨hlen,.inr ⟨w.heap.size,_,_,rfl,hB,heap_alloc_new w.drew _,MB,zr,?_,?_⟩⟩,⟨rfl,rfl,rfl,by simp,fun k hk _=>heap_alloc_old w.drew _ k hk⟩⟩
  ·simp only[jr,eu,size_zeroCells,lK,gf.1,hs.Gh,← Nat.add_mul];congr 1;omega
  ·simp only[Fm,List.append_assoc];rw[← List.append_assoc,← hlen];exact ln
 by_cases hm:m=0
 ·subst hm;have Mr:news=[]:=bq (by simpa using hs.Gh);subst Mr
  have hr:(Builtin.append_ #[T,U] ty #[v,x]).run P w=.ok v w:=by
   rcases gf.2 with⟨rfl,rfl⟩ | ⟨g,cap,cur,rfl,_,_,H8,_⟩
   ·exact lW hT ht hs none 0 0 (aw _)
   ·exact lW hT ht hs _ n cap H8
  refine⟨v,w,hr,by simpa using gf,grownBy_refl w _,fun b hb=>.inl hb,fun b hb j u hj=>?_⟩;rcases gf.2 with⟨rfl,rfl⟩ | ⟨g,cap,cur,rfl,_⟩
  ·simp[iT]at hb
  ·simp only[iT,aa]at hb;subst hb;have:=gf.cells (g:=g) rfl j u hj
   rwa [Addr.add_lit,aI]at this
 ·rcases gf.2 with⟨rfl,rfl⟩ | ⟨g,cap,cur,rfl,hbg,hg,H8,zr,mq,xQ⟩
  ·have hx:vals=[]:=bq (by simpa using gf.1);subst hx;have hr:=oL (ty:=ty) hT ht hz hs none 0 0 [] (by simp) (.inl ⟨rfl,rfl⟩) (by omega) Q6 mR;have W5:=grown 0 (by omega) (iT (.slice none 0 0));refine⟨_,_,hr,W5.1,W5.2,fun b hb=>?_,fun b hb=>?_⟩
   ·simp only[iT,aa]at hb;exact .inr (by omega)
   ·simp[iT]at hb
  ·have holds:∀ j u,vals[j]?=some u→w.cell? ((⟨g,0,none⟩:Addr).add j)=some u:=gf.cells (g:=g) rfl
   by_cases s5:n+m≤cap
   ·have hfit':n*t.size+news.length≤cur.size:=by rw[hs.Gh,mq,← Nat.add_mul];exact bl _ s5
    have hr:=Bc (ty:=ty) hT ht hs g n cap cur hg s5 hfit';refine⟨_,_,hr,⟨hlen,.inr ⟨g,cap,_,rfl,hbg,setRow_heap w g cur _ E _ hg,s5,zr,?_,?_⟩⟩,⟨rfl,rfl,rfl,by simp,fun k _ hk=>setRow_other w g k _ (fun e=>hk (by simp[iT,e]))⟩,fun b hb=>.inl hb,fun b hb j u hj=>?_⟩
    ·simp only[eu,List.length_append,ba,bB,aL];omega
    ·rw[xQ,← hlen];exact ln
    ·simp only[iT,aa]at hb;subst hb;rw[cell_setRow_same w g j cur _ E _ hg];have rk:j<vals.length:=(ab.1 hj).1;rw[xQ];simp only[kN];rw[List.append_assoc,az rk,hj]
   ·have hr:=oL (ty:=ty) hT ht hz hs (some ⟨g,0,none⟩) n cap vals gf.1 (.inr ⟨_,rfl,holds⟩) (by omega) Q6 mR;have W5:=grown cap (by omega) (iT (.slice (some ⟨g,0,none⟩) n cap));refine⟨_,_,hr,W5.1,W5.2,fun b hb=>?_,fun b hb j u hj=>?_⟩
    ·simp only[iT,aa]at hb;exact .inr (by omega)
    ·simp only[iT,aa]at hb;subst hb;have h1:=holds j u hj;rw[Addr.add_lit,aI]at h1;have eC:=World.block_lt_of_cell? w _ h1
     have:(w.drew.alloc (.cells (vals.toArray++news.toArray++Builtin.zeroCells z.cells (grownCap w (n+m) cap E - (n+m))) E)).cell? ⟨g,j,none⟩=w.drew.cell? ⟨g,j,none⟩ :=
      World.cell?_alloc_lt w.drew _ _ eC
     rw[this,World.cell?_drew];exact h1
theorem DJ(hT:P.underlying T=some (.slice E))(ht:P.info? E=some t)(hz:t.zero=some z)(lK:z.cells.size=t.size)(hs:Src P w U x t.size m news)(B:Nat)(a:Option Addr)(n:Nat)(olds:List Value)
  (lC:olds.length=n*t.size) (ho:(a=none∧n=0)∨∃ b,a=some b∧∀ j v,olds[j]?=some v→w.cell? (b.add j)=some v) (hm:0<m) (Q6:n+m≤maxLen) (mR:(n+m)*t.bytes≤140737488355328) (hB:B≤w.heap.size) :
  ∃ v' w',(Builtin.append_ #[T,U] ty #[.slice a n n,x]).run P w=.ok v' w'∧w'.ownsRow B E t.size v' (n+m) (olds++news)∧w.grownBy w' none∧(∀ b,iT v'=some b→w.heap.size≤b):=by
 have hlen:(olds++news).length=(n+m)*t.size:=by rw[List.length_append,lC,hs.Gh,Nat.add_mul]
 have hr:=oL (ty:=ty) hT ht hz hs a n n olds lC ho (by omega) Q6 mR;have MB:=grownCap_ge w (n+m) n E;have zr:grownCap w (n+m) n E≤maxLen:=grownCap_le_maxLen w (n+m) n E Q6;refine⟨_,_,hr,⟨hlen,.inr ⟨w.heap.size,_,_,rfl,hB,heap_alloc_new w.drew _,MB,zr,?_,?_⟩⟩,⟨rfl,rfl,rfl,by simp,fun k hk _=>heap_alloc_old w.drew _ k hk⟩,fun b hb=>?_⟩
 ·simp only[jr,eu,size_zeroCells,lK,lC,hs.Gh,← Nat.add_mul];congr 1;omega
 ·simp only[Fm,List.append_assoc];rw[← List.append_assoc,← hlen];exact ln
 ·simp only[iT,aa]at hb;omega
end
theorem AX.src{P:Program}{B:Nat}{w0 w:World}{σ:ah}{μ:Mem}(hS:gM P B w0 w σ μ){T E:TypeId}(hT:P.underlying T=some (.slice E)){xs:List (List V)}{sz:Nat}{v:Value}(h:AX w σ μ xs sz v):
  ∃ news,Src P w T v sz xs.length news∧jT w σ μ xs sz news:=by
 have YI:∃ d,P.underlying T=some d∧∀ k,d≠.int k:=⟨_,hT,fun k=>by simp⟩;rcases h.here with⟨rfl,a0,rfl⟩ | ⟨b,off,cap,rfl,hr⟩
 ·cases a0 with
  | none=>exact⟨[],⟨YI,fun _=>by simp[Builtin.lenOf],by simp[Builtin.firstCells],by simp[Builtin.firstCells],by simp,by simp⟩,by simp,by simp[ft]⟩
  | some a0=>exact⟨[],⟨YI,fun _=>by simp[Builtin.lenOf],run_firstCells_some w sz _ a0 _ _ [] (by simp) (by simp),run_firstCells_some w.drew sz _ a0 _ _ [] (by simp) (by simp),by simp,by simp⟩,by simp,by simp[ft]⟩
 ·obtain⟨vals,h1,h2,h3,h4⟩:=h.cells (fun i j x hx=>nk (hr i j x hx).1) hS;exact⟨vals,⟨YI,fun _=>by simp[Builtin.lenOf],run_firstCells_some w sz _ _ _ _ vals h1 h2,run_firstCells_some w.drew sz _ _ _ _ vals h1 (by simpa using h2),h1,h3⟩,h4⟩
theorem FI{P:Program}{w:World}{σ:ah}{μ:Mem}{U:TypeId}(hU:P.underlying U=some .string)(s:ByteArray):
  Src P w U (.string s) 1 (aQ s.data.toList).length (Lib.strCells s)∧jT w σ μ (aQ s.data.toList) 1 (Lib.strCells s):=by
 have hl:(aQ s.data.toList).length=s.size:=by rw[bsize];simp[aQ]
 refine⟨⟨⟨_,hU,fun k=>by simp⟩,fun _=>?_,?_,?_,?_,Lib.strCells_oneCell s⟩,?_,?_⟩
 ·rw[hl];simp[Builtin.lenOf]
 ·rw[hl];exact Lib.run_firstCells_string w 1 s
 ·rw[hl];exact Lib.run_firstCells_string w.drew 1 s
 ·rw[hl,Lib.strCells_length];simp
 ·intro r hr;simp only[aQ,dI]at hr;obtain⟨c,_,rfl⟩:=hr;rfl
 ·intro i j x hx;obtain⟨r,h1,h2⟩:=ib hx;simp only[aQ,bg,ak]at h1;obtain⟨c,hc,rfl⟩:=h1;cases j with
  | zero =>
   simp only[ax,aa]at h2;subst h2;refine⟨rfl,.int .u8 c.toNat,?_,.i _ _⟩;simp[Lib.strCells,hc]
  | succ j=>simp at h2
theorem jT.append{w:World}{σ:ah}{μ:Mem}{xs ys:List (List V)}{sz:Nat}{us vs:List Value}(h:jT w σ μ xs sz us)(k:jT w σ μ ys sz vs)(hl:us.length=xs.length*sz):jT w σ μ (xs++ys) sz (us++vs):=by
 refine⟨fun r hr=>?_,fun i j x hx=>?_⟩
 ·rcases List.mem_append.1 hr with hr | hr
  ·exact h.1 r hr
  ·exact k.1 r hr
 ·obtain⟨r,h1,h2⟩:=ib hx
  by_cases hi:i<xs.length
  ·rw[az hi]at h1;have hx':ft xs i j=some x:=by rw[mW h1];exact h2
   obtain⟨hp,v,hv,hr⟩:=h.2 i j x hx';exact⟨hp,v,by rw[az (ab.1 hv).1];exact hv,hr⟩
  ·rw[aM (by omega)]at h1;have hx':ft ys (i - xs.length) j=some x:=by rw[mW h1];exact h2
   obtain⟨hp,v,hv,hr⟩:=k.2 _ j x hx';refine⟨hp,v,?_,hr⟩
   have e:i*sz+j=us.length+((i - xs.length)*sz+j):=by
    rw[hl];have:i*sz=xs.length*sz+(i - xs.length)*sz:=by rw[← Nat.add_mul];congr 1;omega
    omega
   rw[e,aM (by omega)];simpa using hv
def tz(P:Program)(o:Oper)(a:Act)(B:Nat)(w0 w:World)(σ:ah)(μ:Mem)(x:V)(σ':ah):Prop :=
 ∃ v w' μ',((execOp a.eval o).run P w=.ok (.value v) w'∨((execOp a.eval o).run P w=.ok .skip w'∧x=.u))∧gM P B w0 w' σ' μ'∧VR w' σ' μ' x v∧lP w σ μ w' σ' μ'
theorem lP.trans{w:World}{σ:ah}{μ:Mem}{w':World}{σ':ah}{μ':Mem}{w'':World}{σ'':ah}{μ'':Mem}(p:lP w σ μ w' σ' μ')(q:lP w' σ' μ' w'' σ'' μ''):lP w σ μ w'' σ'' μ'':=by
 refine⟨fun b o v h1 h2=>?_,bF p.len q.len,fun id T cs h=>?_,fun id K E es h=>?_,fun id E sz by' g' sh xs hl h=>?_⟩
 ·obtain⟨h3,h4⟩:=p.cell b o v h1 h2;exact q.cell b o v h3 h4
 ·obtain⟨⟨cs',h1⟩,h2⟩:=p.box id T cs h;obtain⟨h3,h4⟩:=q.box id T cs' h1;exact⟨h3,h4.trans h2⟩
 ·obtain⟨⟨es',h1⟩,h2⟩:=p.map id K E es h;obtain⟨h3,h4⟩:=q.map id K E es' h1;exact⟨h3,h4.trans h2⟩
 ·obtain⟨g1,sh1,xs1,h1,h2,h3⟩:=q.row id E sz by' g' sh xs (dD hl p.len) h;obtain⟨g0,sh0,xs0,h4,h5,h6⟩:=p.row id E sz by' g1 sh1 xs1 hl h1;refine⟨g0,sh0,xs0,h4,bF h5 h2,fun e=>?_⟩;have e1:g1=g':=by omega
  have e0:g0=g1:=by omega
  exact⟨(h6 e0).1.trans (h3 e1).1,(h3 e1).2.trans (h6 e0).2⟩
theorem HQ{P:Program}{B:Nat}{w0 w:World}{σ:ah}{μ:Mem}(hS:gM P B w0 w σ μ)(T:Nat)(cs:List V)(vs:Array Value)(h:CR w σ μ cs vs):
  ∃ μ',gM P B w0 (w.alloc (.cells vs T)) (σ++[.box T cs]) μ'∧VR (w.alloc (.cells vs T)) (σ++[.box T cs]) μ' (.ptr σ.length 0) (.pointer (some ⟨w.heap.size,0,none⟩))∧lP w σ μ (w.alloc (.cells vs T)) (σ++[.box T cs]) μ':=by
 have hn:=hS.pY (w':=w.alloc (.cells vs T)) (.box T cs) (.pointer (some ⟨w.heap.size,0,none⟩)) (World.grownBy_alloc w _ none) (by simp[iT]) (fun hp=>by
  refine⟨w.heap.size,vs,rfl,hS.base,heap_alloc_new w _,h.1.symm,fun j x hx=>?_⟩;have hj:j<vs.size:=by rw[← h.1];exact(ab.1 hx).1
  exact⟨vs[j],Array.getElem?_eq_getElem hj,by have:=(h.2 j x hx).mono hp;simpa[hj]using this⟩)
 exact⟨_,hn.1,.ptr _ 0 _ ⟨T,cs,by simp⟩ (dL _ _ _),hn.2⟩
theorem oJ{α:Type}(l ys:List α)(off j:Nat)(h:off+ys.length≤l.length):(l.take off++ys++l.drop (off+ys.length))[j]?=if off≤j∧j<off+ys.length then ys[j - off]? else l[j]?:=by
 have JP:(l.take off).length=off:=by simp;omega
 by_cases h1:j<off
 ·rw[if_neg (by omega),List.append_assoc,az (by omega),bn h1]
 ·by_cases h2:j<off+ys.length
  ·rw[if_pos (by omega),az (by rw[List.length_append,JP];omega),aM (by omega),JP]
  ·have Db:(l.take off++ys).length=off+ys.length:=by rw[List.length_append,JP]
   rw[if_neg (by omega),aM (by omega),Db,dp];congr 1;omega
section Ee
variable {P:Program} {o:Oper} {a:Act} {B:Nat} {w0 w:World} {σ:ah} {μ:Mem} {fr:List V} (hF:FR w σ μ fr a) (hS:gM P B w0 w σ μ)
include hF hS
theorem Xy{T:TypeId}{x:Operand}{x':O}(ho:o.op=.box T x)(hx:cO x=some x'){ob:Prop}{y:V}{σ':ah}(h:cd fr σ (.box T x')=some (ob,y,σ'))(dO:ob):tz P o a B w0 w σ μ y σ':=by
 simp only[cd,aa,aA]at h;obtain⟨rfl,rfl,rfl⟩:=h;have hc:=jO hS (dK hF hx) dO;obtain⟨μ',h1,h2,h3⟩:=HQ hS T _ _ hc.1;exact⟨_,_,μ',.inl (by simp[execOp,ho,Instr.box,newVar,newRow]),h1,h2,h3⟩
theorem Ql{T:TypeId}{t:TypeInfo}{z:Value}{zs:List V}(ho:o.op=.alloc T)(ht:P.info? T=some t)(hz:t.zero=some z)(lK:iu z.cells.toList=some zs){ob:Prop}{y:V}{σ':ah}(h:cd fr σ (.alloc T zs)=some (ob,y,σ')):tz P o a B w0 w σ μ y σ':=by
 simp only[cd,aa,aA]at h;obtain⟨_,rfl,rfl⟩:=h;obtain⟨μ',h1,h2,h3⟩:=HQ hS T _ _ (kg (w:=w) (σ:=σ) (μ:=μ) lK);exact⟨_,_,μ',.inl (by simp[execOp,ho,Instr.alloc,zeroValue,typeInfo,ht,hz,newVar,newRow]),h1,h2,h3⟩
theorem Qj{T:TypeId}{t:TypeInfo}{ad x:Operand}{ad' x':O}{szs:List (Option Nat)}(ho:o.op=.store T ad x)(ht:P.info? T=some t)(ha:cO ad=some ad')(hx:cO x=some x'){ob:Prop}{y:V}{σ':ah}(h:cd fr σ (.store t.size szs ad' x')=some (ob,y,σ'))(dO:ob):tz P o a B w0 w σ μ y σ':=by
 have h1:=dK hF ha;have h2:=dK hF hx
 have dx:∀ b off (cur:Array Value) E,a.eval ad=.pointer (some ⟨b,off,none⟩)→w.heap[b]?=some (.cells cur E (0,0))→(a.eval x).cells.size=t.size→off+(a.eval x).cells.size≤cur.size→(∀ u∈(a.eval x).cells,u.oneCell'=true) →
   (execOp a.eval o).run P w=.ok .skip (w.setRow b (cur.toList.take off++(a.eval x).cells.toList++cur.toList.drop (off+(a.eval x).cells.size)).toArray):=by
  intro b off cur E he hh hs hf h1;have py:=run_storeCells_at P b off E (a.eval x).cells.toList 0 cur w hh (by simpa using hf) (fun v hv=>h1 v (by simpa using hv));simp only[cn,aL]at py;simp[execOp,ho,he,Instr.storeAt,Instr.sureAddr,storeVar,sizeOf,typeInfo,ht,hs,py]
 simp only[cd]at h;split at h
 ·rename_i id off hp;split at h
  ·rename_i T' cs hb;simp only[aa,aA]at h;obtain⟨rfl,rfl,rfl⟩:=h;obtain⟨gC,hlen,mR⟩:=dO;rw[hp]at h1;obtain⟨b,hm,hv,_⟩:=h1.oT;obtain⟨b',vs,hm',hB,hh,fq,mq⟩:=hS.E6 hb;rw[hm]at hm';simp only[Value.pointer.injEq,aa,Addr.mk.injEq,and_true]at hm';subst hm';obtain⟨hC,Mm⟩:=jO hS h2 gC;have rl:(a.eval x).cells.size=t.size:=by rw[← hC.1];exact hlen
   have hr:=dx b off vs T' hv hh rl (by rw[rl,fq];exact mR) Mm;have eC:id<σ.length:=(ab.1 hb).1;generalize jQ:(vs.toList.take off++(a.eval x).cells.toList++vs.toList.drop (off+(a.eval x).cells.size)).toArray=arr at hr
   have Cy:=hS.update (w':=w.setRow b arr) (σ':=σ.set id (.box T' (cs.take off++eI (ev fr x')++cs.drop (off+t.size)))) (μ':=μ) id (some b)
    ⟨rfl,rfl,rfl,by simp,fun k _ hk=>setRow_other w b k _ (fun e=>hk (by simp[e]))⟩
    (fun b2 oE=>⟨_,hb,by simp,by simp only[aa]at oE;subst oE;simp[hm,iT]⟩)
    (by simp) (fun j hj=>aO (fun e=>hj e.symm)) (fun _ _=>rfl)
    (fun b2 oE=>.inl ⟨_,hb,by simp,oE⟩)
    (fun b2 off2 v2 o2 h3 _ h4 _ h5=>absurd ⟨id,o2,h3,h4,by rw[hb]at h3;simp only[aa]at h3;subst h3;trivial⟩ h5)
    (fun T2 cs2 h3=>by rw[hb]at h3;simp only[aa,Ob.box.injEq]at h3;obtain⟨rfl,rfl⟩:=h3;exact⟨⟨_,aq eC⟩,rfl⟩)
    (fun K E es h3=>by rw[hb]at h3;simp at h3)
    (fun E sz by' g' sh xs _ h3=>by simp[eC]at h3)
    (fun zk o2 h3=>by
     simp only[aq eC,aa]at h3;subst h3;refine⟨b,arr,hm,hB,setRow_heap w b vs arr T' (0,0) hh,?_,fun j y hy=>?_⟩
     ·rw[← jQ];simp only[eu,List.length_append,ba,bB,aL];rw[rl,fq,hlen]
     ·have hCb:CR w σ μ cs vs:=⟨fq.symm,fun i z hz=>by
       obtain⟨u,h4,h5⟩:=mq i z hz;rw[kJ hh]at h4;simpa[bm,h4]using h5⟩
      have vZ:=hCb.fill hC off (by rw[hlen];exact mR);rw[hlen]at vZ;obtain⟨e1,e2⟩:=vZ
      have hj:j<arr.size:=by
       rw[← jQ];have:=(ab.1 hy).1;simp only[eu,List.length_append,ba,bB,aL];simp only[List.length_append,ba,bB]at this;rw[rl,fq];rw[hlen]at this;exact this
      refine⟨arr[j],Array.getElem?_eq_getElem hj,?_⟩
      by_cases Y7:j<off
      ·rw[List.append_assoc,az (by simp;omega),bn Y7]at hy;obtain⟨u,h4,h5⟩:=mq j y hy;rw[kJ hh]at h4
       have:arr[j]=u:=by
        have h6:arr[j]?=some u:=by
         rw[← jQ];simp only[kN];rw[List.append_assoc,az (by simp;omega),bn Y7];simpa using h4
        rw[Array.getElem?_eq_getElem hj]at h6;simpa using h6
       rw[this];exact h5.mono zk
      ·by_cases Ub:j<off+t.size
       ·have JP:(cs.take off).length=off:=by simp;omega
        rw[az (by simp only[List.length_append,JP,hlen];omega),aM (by omega),JP]at hy;have h5:=hC.2 _ y hy;have rX:j - off<(a.eval x).cells.size:=by rw[rl];omega
        have:arr[j]=(a.eval x).cells.getD (j - off) undef:=by
         have h6:arr[j]?=some ((a.eval x).cells.getD (j - off) undef):=by
          rw[← jQ];simp only[kN];have Db:(vs.toList.take off).length=off:=by simp;omega
          rw[az (by simp only[List.length_append,Db,aL];omega),aM (by omega),Db];simp[rX]
         rw[Array.getElem?_eq_getElem hj]at h6;simpa using h6
        rw[this];exact h5.mono zk
       ·have JP:(cs.take off++eI (ev fr x')).length=off+t.size:=by rw[List.length_append,hlen];simp;omega
        rw[aM (by omega),JP,dp]at hy;have e3:off+t.size+(j - (off+t.size))=j:=by omega
        rw[e3]at hy;obtain⟨u,h4,h5⟩:=mq j y hy;rw[kJ hh]at h4
        have:arr[j]=u:=by
         have h6:arr[j]?=some u:=by
          rw[← jQ];simp only[kN];have Db:(vs.toList.take off++(a.eval x).cells.toList).length=off+t.size:=by simp[rl];omega
          rw[aM (by omega),Db,dp,rl,e3];simpa using h4
         rw[Array.getElem?_eq_getElem hj]at h6;simpa using h6
        rw[this];exact h5.mono zk)
   exact⟨undef,_,μ,.inr ⟨hr,rfl⟩,Cy.1,.u _,Cy.2⟩
  ·simp at h
 ·rename_i id g i off hp;split at h
  ·rename_i E sz by' g' sh xs hb;split at h
   ·rename_i hg;obtain⟨rfl,rfl⟩:=hg;simp only[aa,aA]at h;obtain⟨rfl,rfl,rfl⟩:=h;obtain⟨gC,Mk,hlen,mR,hi⟩:=dO;rw[hp]at h1;obtain⟨_,hv⟩:=h1.Cr hb;obtain⟨Kr,vals,⟨Me,hw⟩,cm,Mh⟩:=hS.obj id _ hb;rcases hw with⟨_,hn⟩ | ⟨b,cap,cur,hm,hB,hh,H8,zr,mq,xQ⟩
    ·omega
    ·have hv':a.eval ad=.pointer (some ⟨b,i*sz+off,none⟩):=by rw[hv,hm];rfl
     obtain⟨hC0,Mm⟩:=jO hS h2 gC;have hC:=hC0.cq szs;have rl:(a.eval x).cells.size=t.size:=by rw[← hC0.1];exact hlen
     have H7:(cq szs (eI (ev fr x'))).length=t.size:=by rw[hC.1];exact rl
     have hle:(i+1)*sz≤xs.length*sz:=bl _ hi;have Y4:xs.length*sz≤cap*sz:=bl _ H8;have aec:(i+1)*sz=i*sz+sz:=by rw[Nat.add_mul,fA]
     have hr:=dx b (i*sz+off) cur E hv' hh rl (by rw[rl,mq];omega) Mm;have eC:id<σ.length:=(ab.1 hb).1;generalize jQ:(cur.toList.take (i*sz+off)++(a.eval x).cells.toList++cur.toList.drop (i*sz+off+(a.eval x).cells.size)).toArray=arr at hr;have Kn:xs.getD i []=xs[i]:=by simp[hi]
     have SK:xs[i].length=sz:=cm _ (dj hi)
     have rY:∀ j,arr.toList[j]?=if i*sz+off≤j∧j<i*sz+off+t.size then(a.eval x).cells.toList[j - (i*sz+off)]? else cur.toList[j]?:=by
      intro j;rw[← jQ];have:=oJ cur.toList (a.eval x).cells.toList (i*sz+off) j (by rw[aL,aL,rl,mq];omega);rw[aL,rl]at this;rw[rl];exact this
     have xW:arr.size=cur.size:=by
      rw[← jQ];simp only[eu,List.length_append,ba,bB,aL];rw[rl,mq];omega
     have Cy:=hS.update (w':=w.setRow b arr) (σ':=σ.set id (.row E sz by' g false (xs.set i ((xs.getD i []).take off++cq szs (eI (ev fr x'))++(xs.getD i []).drop (off+t.size))))) (μ':=μ) id (some b)
      ⟨rfl,rfl,rfl,by simp,fun k _ hk=>setRow_other w b k _ (fun e=>hk (by simp[e]))⟩
      (fun b2 oE=>⟨_,hb,by simp,by simp only[aa]at oE;subst oE;simp[hm,iT]⟩)
      (by simp) (fun j hj=>aO (fun e=>hj e.symm)) (fun _ _=>rfl)
      (fun b2 oE=>.inl ⟨_,hb,by simp,oE⟩)
      (fun b2 off2 v2 o2 h3 _ h4 _ h5=>absurd ⟨id,o2,h3,h4,by rw[hb]at h3;simp only[aa]at h3;subst h3;intro hf;simp at hf⟩ h5)
      (fun T2 cs2 h3=>by rw[hb]at h3;simp at h3)
      (fun K E es h3=>by rw[hb]at h3;simp at h3)
      (fun E2 sz2 by2 g2 sh2 xs2 _ h3=>by
       simp only[aq eC,aa,Ob.row.injEq]at h3;obtain⟨rfl,rfl,rfl,rfl,rfl,rfl⟩:=h3;exact⟨g,false,xs,hb,aw _,fun _=>⟨by simp,rfl⟩⟩)
      (fun zk o2 h3=>by
       simp only[aq eC,aa]at h3;subst h3;refine⟨Kr,arr.toList.take (xs.length*sz),⟨?_,.inr ⟨b,cap,arr,by simpa using hm,hB,setRow_heap w b cur arr E (0,0) hh,by simpa using H8,zr,by rw[xW,mq],by simp⟩⟩,?_,?_⟩
       ·simp only[ba,aL,xW,mq,yL];omega
       ·intro r hr';rcases Ug hr' with h5 | h5
        ·exact cm r h5
        ·rw[h5,Kn];simp only[List.length_append,ba,bB,SK,H7];omega
       ·intro i2 j2 y hy;obtain⟨r,h5,h6⟩:=ib hy;have zo:i2<xs.length:=by have:=(ab.1 h5).1;simpa using this
        by_cases MA:i2=i
        ·subst MA;rw[aq hi]at h5;simp only[aa]at h5;subst h5;rw[Kn]at h6;have NN:=oJ xs[i2] (cq szs (eI (ev fr x'))) off j2 (by rw[H7,SK];exact mR);rw[H7]at NN;rw[NN]at h6
         have Ub:j2<sz:=by
          have:=(ab.1 (NN▸h6:_)).1;simp only[List.length_append,ba,bB,SK,H7]at this;omega
         have vX:i2*sz+j2<xs.length*sz:=by omega
         by_cases hc:off≤j2∧j2<off+t.size
         ·rw[if_pos hc]at h6;refine⟨Mk y (aN h6),(a.eval x).cells.getD (j2 - off) undef,?_,(hC.2 _ y h6).mono zk⟩;rw[bn vX,rY,if_pos (by omega)];have e1:i2*sz+j2 - (i2*sz+off)=j2 - off:=by omega
          have e2:j2 - off<(a.eval x).cells.size:=by rw[rl];omega
          rw[e1];simp[e2]
         ·rw[if_neg hc]at h6;have er:ft xs i2 j2=some y:=by rw[mW (ao hi)];exact h6
          obtain⟨WQ,u,h7,h8⟩:=Mh i2 j2 y er;refine⟨WQ,u,?_,h8.mono zk⟩;rw[bn vX,rY,if_neg (by omega)];rw[← xQ,bn vX]at h7;exact h7
        ·rw[aO (fun e=>MA e.symm)]at h5;have er:ft xs i2 j2=some y:=by rw[mW h5];exact h6
         obtain⟨WQ,u,h7,h8⟩:=Mh i2 j2 y er
         have Ub:j2<sz:=by
          rw[← cm r (aN h5)];exact(ab.1 h6).1
         have vX:i2*sz+j2<xs.length*sz:=by
          have:(i2+1)*sz≤xs.length*sz:=bl _ zo;rw[Nat.add_mul,fA]at this;omega
         refine⟨WQ,u,?_,h8.mono zk⟩;rw[bn vX,rY,if_neg ?_]
         ·rw[← xQ,bn vX]at h7;exact h7
         ·rintro⟨h9,Fv⟩;rcases Nat.lt_or_gt_of_ne MA with Fu | Fu
          ·have:(i2+1)*sz≤i*sz:=bl _ Fu;rw[Nat.add_mul,fA]at this;omega
          ·have:(i+1)*sz≤i2*sz:=bl _ Fu;rw[Nat.add_mul,fA]at this;omega)
     exact⟨undef,_,μ,.inr ⟨hr,rfl⟩,Cy.1,.u _,Cy.2⟩
   ·simp at h
  ·simp at h
 ·simp at h
end Ee
theorem gM.grow{P:Program}{B:Nat}{w0 w:World}{σ:ah}{μ:Mem}(hS:gM P B w0 w σ μ){id E sz by' g:Nat}{sh sh':Bool}{xs xs':List (List V)}(hb:σ[id]?=some (.row E sz by' g sh xs)){w':World}{v':Value}{vals vals':List Value}
  (hg:w.grownBy w' (iT (μ id))) (jQ:∀ b,iT v'=some b→iT (μ id)=some b∨w.heap.size≤b)
  (W1:∀ b,iT (μ id)=some b→∀ j u,vals[j]?=some u→w'.cell? ⟨b,j,none⟩=some u) (Me:vals.length=xs.length*sz∨sh=false) (hold:sh=true→∀ b,iT (μ id)=some b→∀ j u,w.cell? ⟨b,j,none⟩=some u→j<xs.length*sz→vals[j]?=some u)
  (QS:sh=true→sh'=true∧xs.length≤xs'.length) (gf:w'.ownsRow B E sz v' xs'.length vals')
  (cm:∀ σ' μ',mh w σ μ w' σ' μ'→jT w' σ' μ' xs' sz vals') :
  gM P B w0 w' (σ.set id (.row E sz by' (g+1) sh' xs')) (qH μ id v')∧lP w σ μ w' (σ.set id (.row E sz by' (g+1) sh' xs')) (qH μ id v'):=by
 have eC:id<σ.length:=(ab.1 hb).1;refine hS.update id (iT (μ id)) hg (fun b oE=>⟨_,hb,by simp,oE⟩) (by simp) (fun j hj=>aO (fun e=>hj e.symm)) (fun j hj=>nU μ id v' j hj) ?_ ?_ ?_ ?_ ?_ ?_
 ·intro b oE;rw[dL]at oE;rcases jQ b oE with h | h
  ·exact .inl ⟨_,hb,by simp,h⟩
  ·exact .inr h
 ·intro b off u o h1 _ h2 h3 h4;rw[hb]at h1;simp only[aa]at h1;subst h1;have hw:¬ (sh=true→xs.length*sz≤off):=fun hw=>h4 ⟨id,_,hb,h2,hw⟩
  have hs:sh=true:=by
   cases sh with
   | true=>rfl
   | false=>exact absurd (fun h=>by simp at h) hw
  have ho:off<xs.length*sz:=Nat.lt_of_not_le fun h=>hw fun _=>h;refine⟨W1 b h2 off u (hold hs b h2 off u h3 ho),fun o' h5 h6=>?_⟩;simp only[aq eC,aa]at h5;subst h5;intro hw';have h7:=hw' (QS hs).1;have h8:xs.length*sz≤xs'.length*sz:=bl _ (QS hs).2;omega
 ·intro T cs h;rw[hb]at h;simp at h
 ·intro K E es h;rw[hb]at h;simp at h
 ·intro E2 sz2 by2 g2 sh2 xs2 _ h;simp only[aq eC,aa,Ob.row.injEq]at h;obtain⟨rfl,rfl,rfl,rfl,rfl,rfl⟩:=h;exact⟨g,sh,xs,hb,by omega,fun e=>by omega⟩
 ·intro hp o h;simp only[aq eC,aa]at h;subst h;rw[dL];exact⟨(hS.obj id _ hb).1,vals',gf,cm _ _ hp.eO⟩
theorem VR.lM{w:World}{σ:ah}{μ:Mem}{id E sz by' g:Nat}{sh:Bool}{xs:List (List V)}(h:σ[id]?=some (.row E sz by' g sh xs)):VR w σ μ (.own id g) (μ id) :=
 .own id g _ (ab.1 h).1 fun E2 sz2 by2 g2 sh2 xs2 h2=>by
  rw[h]at h2;simp only[aa,Ob.row.injEq]at h2;obtain⟨rfl,rfl,rfl,rfl,rfl,rfl⟩:=h2;exact⟨aw _,fun _=>rfl⟩
section Ee
variable {P:Program} {o:Oper} {a:Act} {B:Nat} {w0 w:World} {σ:ah} {μ:Mem} {fr:List V} (hS:gM P B w0 w σ μ)
include hS
theorem Im{T U E:TypeId}{t:TypeInfo}{z:Value}{x y:Operand}{xV:V}{ys:List (List V)}{news:List Value}(ho:o.op=.call { callee:=.builtin .append,args:=#[x,y],argTypes:=#[T,U] })
  (hT:P.underlying T=some (.slice E)) (ht:P.info? E=some t) (hz:t.zero=some z) (fq:0<t.size) (lK:z.cells.size=t.size) (hx:VR w σ μ xV (a.eval x)) (zj:Src P w U (a.eval y) t.size ys.length news) (Mh:jT w σ μ ys t.size news)
  {ob:Prop} {r:V} {σ':ah} (h:tx E t.size t.bytes σ xV ys=some (ob,r,σ')) (dO:ob):tz P o a B w0 w σ μ r σ':=by
 have Kr:Ti P E t.size t.bytes:=⟨fq,t,z,ht,hz,rfl,rfl,lK⟩
 have Av:∀ v w',(Builtin.append_ #[T,U] o.type #[a.eval x,a.eval y]).run P w=.ok v w'→(execOp a.eval o).run P w=.ok (.value v) w':=by
  intro v w' hr;simp only[execOp,ho,resolve,invoke,builtin,Sem.run_bind,Sem.run_pure,Result.andThen_ok,List.map_toArray,aW,aZ,hr]
 unfold tx at h;split at h
 ·
  simp only[aa,aA]at h;obtain⟨rfl,rfl,rfl⟩:=h;have hv:=hx.lA;obtain⟨v',w',h1,h2,h3,h4,h5⟩:=pM (ty:=o.type) hT ht hz lK zj B (.slice none 0 0) 0 [] (World.ownsRow_nil w B E t.size) (by simpa using dO.2) (by simpa using dO.1) hS.base;simp only[aI,aG]at h2
  have hn:=hS.pY (w':=w') (.row E t.size t.bytes 0 false ys) v' h3 (fun b hb=>by
   rcases h4 b hb with h6 | h6
   ·simp[iT]at h6
   ·exact h6) (fun hp=>⟨Kr,news,h2,Mh.eO hp.eO⟩)
  refine⟨v',w',_,.inl (Av _ _ (by rw[hv];exact h1)),hn.1,?_,hn.2⟩;have:=VR.lM (w:=w') (σ:=σ++[.row E t.size t.bytes 0 false ys]) (μ:=qH μ σ.length v') (id:=σ.length) (E:=E) (sz:=t.size) (by':=t.bytes) (g:=0) (sh:=false) (xs:=ys) (by simp)
  rwa [dL]at this
 ·
  rename_i sz' xs;split at h
  ·rename_i hsz';subst hsz';simp only[aa,aA]at h;obtain⟨rfl,rfl,rfl⟩:=h
   by_cases hy:ys=[]
   ·subst hy;simp only[List.isEmpty_nil,if_true];rcases hx.ny with⟨rfl,hv⟩ | ⟨b,off,f,hv,_⟩
    ·exact⟨_,w,μ,.inl (Av _ _ (by rw[hv];exact lW hT ht zj none 0 0 (aw _))),hS,hv▸hx,lP.refl _ _ _⟩
    ·exact⟨_,w,μ,.inl (Av _ _ (by rw[hv];exact lW hT ht zj _ _ _ (aw _))),hS,hv▸hx,lP.refl _ _ _⟩
   ·have js:ys.isEmpty=false:=by cases ys<;>simp_all
    have JM:0<ys.length:=cZ.2 hy;simp only[js,aF,if_false];have QS:=tT hS hx (sz:=t.size) (xs:=xs) (by simp[rowsOf])
    have hold:∃ (ad:Option Addr) (olds:List Value),a.eval x=.slice ad xs.length xs.length∧olds.length=xs.length*t.size∧((ad=none∧xs.length=0)∨∃ b,ad=some b∧∀ j v,olds[j]?=some v→w.cell? (b.add j)=some v)∧jT w σ μ xs t.size olds:=by
     rcases hx.ny with⟨rfl,hv⟩ | ⟨b,off,f,hv,hm,hr⟩
     ·exact⟨none,[],hv,by simp,.inl ⟨rfl,rfl⟩,by simp,by simp[ft]⟩
     ·rw[hv]at QS;obtain⟨vals,h1,h2,h3,h4⟩:=QS.cells (fun i j y hy=>nk (hr.2.1 i j y hy).2.2) hS;exact⟨_,vals,hv,h1,.inr ⟨_,rfl,h2⟩,h4⟩
    obtain⟨ad,olds,hv,hol,hoo,YY⟩:=hold;obtain⟨v',w',h1,h2,h3,h4⟩:=DJ (ty:=o.type) hT ht hz lK zj B ad xs.length olds hol hoo JM dO.2 dO.1 hS.base;have hn:=hS.pY (w':=w') (.row E t.size t.bytes 0 false (xs++ys)) v' h3 h4 (fun hp=>⟨Kr,olds++news,by rw[List.length_append];exact h2,(YY.append Mh hol).eO hp.eO⟩);refine⟨v',w',_,.inl (Av _ _ (by rw[hv];exact h1)),hn.1,?_,hn.2⟩;have:=VR.lM (w:=w') (σ:=σ++[.row E t.size t.bytes 0 false (xs++ys)]) (μ:=qH μ σ.length v') (id:=σ.length) (E:=E) (sz:=t.size) (by':=t.bytes) (g:=0) (sh:=false) (xs:=xs++ys) (by simp)
    rwa [dL]at this
  ·simp at h
 ·
  rename_i id g;split at h
  ·rename_i E' sz' by2 g' sh xs hb;split at h
   ·rename_i hc;obtain⟨rfl,rfl,rfl,rfl⟩:=hc;simp only[aa,aA]at h;obtain⟨rfl,rfl,rfl⟩:=h;have hv:=hx.jY hb;obtain⟨_,vals,gf,cm⟩:=hS.obj id _ hb;obtain⟨v',w',h1,h2,h3,h4,h5⟩:=pM (ty:=o.type) hT ht hz lK zj B (μ id) xs.length vals gf dO.2 dO.1 hS.base;have eC:id<σ.length:=(ab.1 hb).1
    have hn:=hS.grow hb (sh':=sh) (xs':=xs++ys) (v':=v') (vals:=vals) (vals':=vals++news) h3 h4 h5 (.inl gf.1) (fun _ b oE j u hc hj=>by
      have hjv:j<vals.length:=by rw[gf.1];exact hj
      have:=gf.cells (g:=b) (by
       have:(μ id).ownBlock=iT (μ id):=by
        rcases gf.2 with⟨hm,_⟩ | ⟨g,cap,cur,hm,_⟩<;>rw[hm]<;>rfl
       rw[this];exact oE) j vals[j] (ao hjv)
      rw[Addr.add_lit,aI,hc]at this;simp only[aa]at this;rw[ao hjv,this]) (fun h=>⟨h,by simp⟩) (by rw[List.length_append];exact h2) (fun σ' μ' k=>(cm.append Mh gf.1).eO k)
    refine⟨v',w',_,.inl (Av _ _ (by rw[hv];exact h1)),hn.1,?_,hn.2⟩;have:=VR.lM (w:=w') (σ:=σ.set id (.row E t.size t.bytes (g+1) sh (xs++ys))) (μ:=qH μ id v') (id:=id) (E:=E) (sz:=t.size) (by':=t.bytes) (g:=g+1) (sh:=sh) (xs:=xs++ys) (aq eC)
    rwa [dL]at this
   ·simp at h
  ·simp at h
 ·
  rename_i id g lo hi;split at h
  ·rename_i E' sz' by2 g' sh xs hb;split at h
   ·rename_i hc;obtain⟨rfl,rfl,rfl,rfl,rfl,rfl⟩:=hc;simp only[aa,aA]at h;obtain⟨rfl,rfl,rfl⟩:=h;obtain⟨_,_,hv⟩:=hx.nw hb;obtain⟨_,vals,gf,cm⟩:=hS.obj id _ hb;obtain⟨Ft,Xi,oE⟩:=dO
    have hown':w.ownsRow B E t.size (a.eval x) hi (vals.take (hi*t.size))∧iT (a.eval x)=iT (μ id):=by
     have hle:hi*t.size≤xs.length*t.size:=bl _ Ft;rcases gf with⟨Me,⟨hm,hn⟩ | ⟨b,cap,cur,hm,h1,h2,h3,h4,h5,h6⟩⟩
     ·have h0:hi=0:=by omega
      subst h0;rw[hv,hm];exact⟨⟨by simp,.inl ⟨rfl,rfl⟩⟩,rfl⟩
     ·rw[hv,hm]
      have he:jI (.slice (some ⟨b,0,none⟩) xs.length cap) 0 hi t.size=.slice (some ⟨b,0,none⟩) hi cap:=by
       simp[jI,Addr.add_lit]
      rw[he];refine⟨⟨by simp only[ba,Me];omega,.inr ⟨b,cap,cur,rfl,h1,h2,by omega,h4,h5,?_⟩⟩,rfl⟩;rw[← h6,C5,gG hle]
    have hrow':jT w σ μ (xs.take hi) t.size (vals.take (hi*t.size)):=by
     refine⟨fun r hr=>cm.1 r (dd hr),fun i j y hy=>?_⟩;have hy':ft (List.take (hi - 0) (List.drop 0 xs)) i j=some y:=by simpa using hy
     have h1:=wx hy';rw[aI]at h1;obtain⟨hp,u,h2,h3⟩:=cm.2 i j y h1;refine⟨hp,u,?_,h3⟩;obtain⟨r,h4,h5⟩:=ib hy
     have hi':i<hi:=by
      have:=(ab.1 h4).1;simp at this;omega
     have hj:j<t.size:=by
      rw[← cm.1 r (dd (aN h4))];exact(ab.1 h5).1
     have:(i+1)*t.size≤hi*t.size:=bl _ hi';rw[Nat.add_mul,fA]at this;rw[bn (by omega)];exact h2
    have hl':(xs.take hi).length=hi:=by simp;omega
    obtain⟨v',w',h1,h2,h3,h4,h5⟩:=pM (ty:=o.type) hT ht hz lK zj B (a.eval x) hi _ hown'.1 oE Xi hS.base;rw[hown'.2]at h3;have eC:id<σ.length:=(ab.1 hb).1;have hn:=hS.grow hb (sh':=false) (xs':=xs.take hi++ys) (v':=v') (vals:=vals.take (hi*t.size)) (vals':=vals.take (hi*t.size)++news) h3 (fun b hb=>by rw[← hown'.2];exact h4 b hb) (fun b hb=>h5 b (by rw[hown'.2];exact hb)) (.inr rfl) (fun h=>by simp at h) (fun h=>by simp at h) (by rw[List.length_append,hl'];exact h2) (fun σ' μ' k=>(hrow'.append Mh (by rw[hl'];exact hown'.1.1)).eO k);refine⟨v',w',_,.inl (Av _ _ h1),hn.1,?_,hn.2⟩;have:=VR.lM (w:=w') (σ:=σ.set id (.row E t.size t.bytes (g+1) false (xs.take hi++ys))) (μ:=qH μ id v') (id:=id) (E:=E) (sz:=t.size) (by':=t.bytes) (g:=g+1) (sh:=false) (xs:=xs.take hi++ys) (aq eC)
    rwa [dL]at this
   ·simp at h
  ·simp at h
 ·simp at h
variable (hF:FR w σ μ fr a)
include hF
theorem Xz{T E:TypeId}{t:TypeInfo}{z:Value}{x y:Operand}{x' y':O}(ho:o.op=.call { callee:=.builtin .append,args:=#[x,y],argTypes:=#[T,T] })
  (hT:P.underlying T=some (.slice E)) (ht:P.info? E=some t) (hz:t.zero=some z) (fq:0<t.size) (lK:z.cells.size=t.size) (hx:cO x=some x') (hy:cO y=some y')
  {ob:Prop} {r:V} {σ':ah} (h:cd fr σ (.app E t.size t.bytes x' y')=some (ob,r,σ')) (dO:ob):tz P o a B w0 w σ μ r σ':=by
 simp only[cd]at h;split at h
 ·rename_i ys wo;obtain⟨news,h1,h2⟩:=(tT hS (dK hF hy) wo).src hS hT;exact Im hS ho hT ht hz fq lK (dK hF hx) h1 h2 h dO
 ·simp at h
theorem TK{T U E:TypeId}{t:TypeInfo}{z:Value}{x y:Operand}{x' y':O}(ho:o.op=.call { callee:=.builtin .append,args:=#[x,y],argTypes:=#[T,U] })
  (hT:P.underlying T=some (.slice E)) (hU:P.underlying U=some .string) (ht:P.info? E=some t) (hz:t.zero=some z) (fq:t.size=1) (Zn:t.bytes=1) (lK:z.cells.size=t.size) (hx:cO x=some x') (hy:cO y=some y')
  {ob:Prop} {r:V} {σ':ah} (h:cd fr σ (.apps E x' y')=some (ob,r,σ')) (dO:ob):tz P o a B w0 w σ μ r σ':=by
 simp only[cd]at h;split at h
 ·rename_i l hl;obtain⟨s,hs,rfl,_⟩:=(hl▸dK hF hy).lU;obtain⟨h1,h2⟩:=FI (P:=P) (w:=w) (σ:=σ) (μ:=μ) hU s;refine Im (news:=Lib.strCells s) hS ho hT ht hz (by omega) lK (dK hF hx) (by rw[hs,fq];exact h1) (by rw[fq];exact h2) (by rw[fq,Zn];exact h) dO
 ·simp at h
theorem Qk{T K E:TypeId}(ho:o.op=.makeMap T none){ob:Prop}{r:V}{σ':ah}(h:cd fr σ (.pk K E)=some (ob,r,σ')):tz P o a B w0 w σ μ r σ':=by
 simp only[cd,aa,aA]at h;obtain⟨_,rfl,rfl⟩:=h;have hn:=hS.pY (w':=w.alloc (.map #[] 0)) (.map K E []) (.map (some w.heap.size)) (World.grownBy_alloc w _ none) (by simp[iT]) (fun hp=>⟨w.heap.size,#[],0,rfl,hS.base,heap_alloc_new w _,by simp,by simp,by simp,by simp⟩);refine⟨_,_,_,.inl (by simp[execOp,ho,Instr.makeMap];rfl),hn.1,?_,hn.2⟩;exact .mp _ _ ⟨K,E,[],by simp⟩ (dL _ _ _)
end Ee
theorem MX{zs:List V}{n i j:Nat}{x:V}(h:ft (List.replicate n zs) i j=some x):i<n∧zs[j]?=some x:=by
 obtain⟨r,h1,h2⟩:=ib h;have hi:i<n:=by have:=(ab.1 h1).1;simpa using this
 rw[wh,if_pos hi]at h1;simp only[aa]at h1;subst h1;exact⟨hi,h2⟩
theorem ta(z:Array Value)(j:Nat)(h:j<z.size):z[j]! = z.getD j undef:=by simp[h]
theorem CR.vi{w:World}{σ:ah}{μ:Mem}(ss:List (Option Nat)){xs:List V}{vs:Array Value}(h:CR w σ μ xs vs):VR w σ μ (.agg (Pm.cq ss xs)) (.agg vs):=(CR.cq ss h).KH
theorem ly{P:Program}{K kd:Nat}(h:l7 P K=some kd):
  (kd=0∧∃ q,P.underlying K=some (.int q))∨(kd=1∧P.underlying K=some .string)∨(kd=3∧∃ e q,P.underlying K=some (.array 2 e)∧P.underlying e=some (.int q)∧P.cellsOf e=1):=by
 unfold l7 at h;split at h
 ·rename_i q hq;simp only[aa]at h;exact .inl ⟨h.symm,q,hq⟩
 ·rename_i hq;simp only[aa]at h;exact .inr (.inl ⟨h.symm,hq⟩)
 ·rename_i e hq;split at h
  ·rename_i q he;split at h
   ·rename_i hc;simp only[aa]at h;exact .inr (.inr ⟨h.symm,e,q,hq,he,hc⟩)
   ·simp at h
  ·simp at h
 ·simp at h
theorem ya{P:Program}{w:World}{σ:ah}{μ:Mem}{K:TypeId}{kd:Nat}{d:TypeDesc}(hK:P.underlying K=some d)(uJ:l7 P K=some kd)(h3:kd≠3){k:V}{kv:Value}(hk:VR w σ μ k kv):
  ∀ (es:List (V×V)) (ents:List MapEntry) (n:Nat) (r:Option (Nat×V)),ents.length=es.length→(∀ (i:Nat) (a x:V),es[i]?=some (a,x)→∃ e:MapEntry,ents[i]?=some e∧VR w σ μ a e.key∧VR w σ μ x e.val)→fx kd k es n=some r →
   (r=none∧Instr.findNow d kv ents n=some none)∨∃ i x e a,r=some (n+i,x)∧es[i]?=some (a,x)∧ents[i]?=some e∧cu kd k a=some true∧Instr.findNow d kv ents n=some (some (n+i,e.val))
 | [],ents,n,r,hl,_,h=>by
  have:ents=[]:=bq hl;subst this;simp only[fx,aa]at h;subst h;exact .inl ⟨rfl,rfl⟩
 | (a,x)::es,ents,n,r,hl,hr,h=>by
  cases ents with
  | nil=>simp at hl
  | cons e ents =>
   obtain⟨e',he,h1,h2⟩:=hr 0 a x rfl;simp only[ax,aa]at he;subst he
   have hs:∀ b,cu kd k a=some b→Instr.sameNow d kv e.key=some b:=by
    intro b hb;rcases ly uJ with⟨rfl,q,hq⟩ | ⟨rfl,hq⟩ | ⟨rfl,_⟩
    ·rw[hK]at hq;simp only[aa]at hq;subst hq;cases k<;>(try (simp[cu]at hb;done));cases a<;>(try (simp[cu]at hb;done));simp only[cu]at hb;split at hb<;>simp only[aa,reduceCtorEq]at hb;rename_i JQ;subst JQ;rw[hk.gl,h1.gl];simp[Instr.sameNow,hb]
    ·rw[hK]at hq;simp only[aa]at hq;subst hq;cases k<;>(try (simp[cu]at hb;done));cases a<;>(try (simp[cu]at hb;done));simp only[cu,aa]at hb;obtain⟨s,rfl,rfl,_⟩:=hk.lU;obtain⟨s',hs',rfl,_⟩:=h1.lU;rw[hs'];simp only[Instr.sameNow,aa];rw[beq_toListBytes,toList_data,toList_data];exact hb
    ·exact absurd rfl h3
   simp only[fx]at h;split at h
   ·rename_i hb;simp only[aa]at h;subst h;exact .inr ⟨0,x,e,a,rfl,rfl,rfl,hb,by simp[Instr.findNow,hs true hb]⟩
   ·rename_i hb
    have ih:=ya hK uJ h3 hk es ents (n+1) r (by simpa using hl) (fun i a x hi=>by
     obtain⟨e2,h3,h4⟩:=hr (i+1) a x hi;exact⟨e2,by simpa using h3,h4⟩) h
    rcases ih with⟨h3,h4⟩ | ⟨i,y,e2,a2,h3,h4,h5,h6,h7⟩
    ·exact .inl ⟨h3,by simp[Instr.findNow,hs false hb,h4]⟩
    ·exact .inr ⟨i+1,y,e2,a2,by rw[h3];congr 2;omega,h4,by simpa using h5,h6,by simp only[Instr.findNow,hs false hb,h7];congr 3;omega⟩
   ·simp at h
theorem vm{xs ys:List V}{r:Bool}(h:Br xs ys=some r):∃ k a l b a' b',xs=[.i k a,.i l b]∧ys=[.i k a',.i l b']∧r=(a==a'&&b==b'):=by
 unfold Br at h;split at h
 ·split at h<;>simp only[aa,reduceCtorEq]at h;rename_i hk;obtain⟨rfl,rfl⟩:=hk;exact⟨_,_,_,_,_,_,rfl,rfl,h.symm⟩
 ·simp at h
theorem rK{P:Program}{w:World}{σ:ah}{μ:Mem}{K e:TypeId}{q:IntKind}(hK:P.underlying K=some (.array 2 e))(he:P.underlying e=some (.int q))(hc:P.cellsOf e=1){k:V}{kv:Value}(hk:VR w σ μ k kv):
  ∀ (es:List (V×V)) (ents:List MapEntry) (n:Nat) (r:Option (Nat×V)),ents.length=es.length→(∀ (i:Nat) (a x:V),es[i]?=some (a,x)→∃ e:MapEntry,ents[i]?=some e∧VR w σ μ a e.key∧VR w σ μ x e.val)→fx 3 k es n=some r →
   (r=none∧(Instr.findAsking K kv ents n).run P w=.ok none w)∨∃ i x e a,r=some (n+i,x)∧es[i]?=some (a,x)∧ents[i]?=some e∧cu 3 k a=some true∧(Instr.findAsking K kv ents n).run P w=.ok (some (n+i,e.val)) w
 | [],ents,n,r,hl,_,h=>by
  have:ents=[]:=bq hl;subst this;simp only[fx,aa]at h;subst h;exact .inl ⟨rfl,by simp[Instr.findAsking]⟩
 | (a,x)::es,ents,n,r,hl,hr,h=>by
  cases ents with
  | nil=>simp at hl
  | cons e2 ents =>
   obtain⟨e',he',h1,h2⟩:=hr 0 a x rfl;simp only[ax,aa]at he';subst he'
   have hs:∀ b,cu 3 k a=some b→(Op.equal K kv e2.key).run P w=.ok b w:=by
    intro b hb;cases k<;>(try (simp[cu]at hb;done));cases a<;>(try (simp[cu]at hb;done));simp only[cu]at hb;obtain⟨k1,a1,l1,b1,a2,b2,rfl,rfl,rfl⟩:=vm hb;rw[hk.pair,h1.pair];exact rA hK he hc _ _ _ _ _ _
   simp only[fx]at h;split at h
   ·rename_i hb;simp only[aa]at h;subst h;exact .inr ⟨0,x,e2,a,rfl,rfl,rfl,hb,by simp[Instr.findAsking,hs true hb]⟩
   ·rename_i hb
    have ih:=rK hK he hc hk es ents (n+1) r (by simpa using hl) (fun i a x hi=>by
     obtain⟨e2,h3,h4⟩:=hr (i+1) a x hi;exact⟨e2,by simpa using h3,h4⟩) h
    rcases ih with⟨h3,h4⟩ | ⟨i,y,e2,a2,h3,h4,h5,h6,h7⟩
    ·exact .inl ⟨h3,by simp[Instr.findAsking,hs false hb,h4]⟩
    ·exact .inr ⟨i+1,y,e2,a2,by rw[h3];congr 2;omega,h4,by simpa using h5,h6,by simp only[Instr.findAsking,Sem.run_bind,hs false hb,Result.andThen_ok,aF,if_false,h7];congr 3;omega⟩
   ·simp at h
theorem oX{P:Program}{w:World}{σ:ah}{μ:Mem}{K:TypeId}{kd:Nat}(uJ:l7 P K=some kd){k:V}{kv:Value}(hk:VR w σ μ k kv)
  (es:List (V×V)) (ents:List MapEntry) (r:Option (Nat×V)) (hl:ents.length=es.length) (hr:∀ (i:Nat) (a x:V),es[i]?=some (a,x)→∃ e:MapEntry,ents[i]?=some e∧VR w σ μ a e.key∧VR w σ μ x e.val) (h:fx kd k es 0=some r) :
   (r=none∧(Instr.findKey K kv ents).run P w=.ok none w)∨∃ i x e a,r=some (i,x)∧es[i]?=some (a,x)∧ents[i]?=some e∧cu kd k a=some true∧(Instr.findKey K kv ents).run P w=.ok (some (i,e.val)) w:=by
 by_cases h3:kd=3
 ·subst h3;rcases ly uJ with⟨h,_⟩ | ⟨h,_⟩ | ⟨_,e,q,hK,he,hc⟩
  ·omega
  ·omega
  ·have hf:=rK hK he hc hk es ents 0 r hl hr h
   have hn:Instr.findNow (.array 2 e) kv ents 0=some none∧ents=[]∨Instr.findNow (.array 2 e) kv ents 0=none:=by
    cases ents with
    | nil=>exact .inl ⟨rfl,rfl⟩
    | cons a b=>exact .inr (by simp[Instr.findNow,Instr.sameNow])
   rcases hn with⟨hn,rfl⟩ | hn
   ·rcases hf with⟨h4,h5⟩ | ⟨i,x,e,a,_,_,h6,_⟩
    ·exact .inl ⟨h4,by simp[Instr.findKey,run_underlying hK,hn]⟩
    ·simp at h6
   ·simp only[aI]at hf;rcases hf with⟨h4,h5⟩ | ⟨i,x,e,a,h4,h5,h6,h7,h8⟩
    ·exact .inl ⟨h4,by simp[Instr.findKey,run_underlying hK,hn,h5]⟩
    ·exact .inr ⟨i,x,e,a,h4,h5,h6,h7,by simp[Instr.findKey,run_underlying hK,hn,h8]⟩
 ·have hd:∃ d,P.underlying K=some d:=by
   rcases ly uJ with⟨_,_,h⟩ | ⟨_,h⟩ | ⟨_,_,_,h,_⟩<;>exact⟨_,h⟩
  obtain⟨d,hd⟩:=hd;have hf:=ya hd uJ h3 hk es ents 0 r hl hr h;simp only[aI]at hf;rcases hf with⟨h4,h5⟩ | ⟨i,x,e,a,h4,h5,h6,h7,h8⟩
  ·exact .inl ⟨h4,by simp[Instr.findKey,run_underlying hd,h5]⟩
  ·exact .inr ⟨i,x,e,a,h4,h5,h6,h7,by simp[Instr.findKey,run_underlying hd,h8]⟩
theorem run_checkKey{P:Program}{w:World}{σ:ah}{μ:Mem}{K:TypeId}{kd:Nat}(uJ:l7 P K=some kd)(em:Bool)(n:Nat){k:V}{v:Value}(hk:VR w σ μ k v)(dO:ov kd k=true):(Instr.checkKey em (n+2) K v).run P w=.ok () w:=by
 rcases ly uJ with⟨_,_,h⟩ | ⟨_,h⟩ | ⟨rfl,e,q,h,he,hc⟩
 ·simp[Instr.checkKey,run_underlying h]
 ·simp[Instr.checkKey,run_underlying h]
 ·unfold ov at dO;rw[if_pos rfl]at dO;split at dO
  ·rename_i k1 a1 l1 b1;rw[hk.pair]
   have hi:∃ i,P.info? e=some i:=by
    unfold Program.underlying at he;cases h:P.info? e with
    | none=>simp[h]at he
    | some i=>exact⟨i,rfl⟩
   obtain⟨i,hi⟩:=hi;have hA:gK P e=some false:=by simp[gK,he]
   have hp:∀ (x y:Value) (j:Nat) (z:Value),#[x,y][j]?=some z→(part e #[x,y] j).run P w=.ok z w:=by
    intro x y j z hz;simp only[part,Sem.run_bind,mj hA,Result.andThen_ok,aF,if_false,hz];rfl
   have hs:(sizeOf e).run P w=.ok 1 w:=by rw[run_sizeOf w hi,hc]
   have h0:=hp (.int k1 a1) (.int l1 b1) 0 (.int k1 a1) rfl;have h1:=hp (.int k1 a1) (.int l1 b1) 1 (.int l1 b1) rfl
   have CC:∀ v:Value,(∃ q a,v=.int q a)→(Instr.checkKey em (n+1) e v).run P w=.ok () w:=by
    rintro v ⟨_,_,rfl⟩;simp[Instr.checkKey,run_underlying he]
   have c0:=CC (.int k1 a1) ⟨_,_,rfl⟩;have c1:=CC (.int l1 b1) ⟨_,_,rfl⟩;rw[Instr.checkKey];simp only[Sem.run_bind,run_underlying h,Result.andThen_ok];simp only[Std.Legacy.Range.forIn_eq_forIn_range',Std.Legacy.Range.size,yE,Nat.add_one_sub_one,Nat.div_one,show List.range' 0 2=[0,1]from rfl,List.forIn_cons,List.forIn_nil];simp only[Sem.run_bind,hs,Result.andThen_ok,C4,h0,h1,c0,c1,Sem.run_pure]
  ·simp at dO
theorem Kv{P:Program}{w:World}{σ:ah}{μ:Mem}{E:TypeId}{z:V}(h:zeroV P E=some z):∃ v,(zeroValue E).run P w=.ok v w∧VR w σ μ z v:=by
 unfold zeroV at h;split at h
 ·rename_i t ht;split at h
  ·rename_i cs hz;simp only[ak]at h;obtain⟨zs,lK,rfl⟩:=h;exact⟨_,by simp[zeroValue,typeInfo,ht,hz],(kg (cs:=cs) lK).vi _⟩
  ·rename_i z' js hz;exact⟨_,by simp[zeroValue,typeInfo,ht,hz],uR h⟩
  ·simp at h
 ·simp at h
section cx
variable {P:Program} {o:Oper} {a:Act} {B:Nat} {w0 w:World} {σ:ah} {μ:Mem} {fr:List V} (hF:FR w σ μ fr a) (hS:gM P B w0 w σ μ)
include hF hS
theorem Ri{T K E:TypeId}{x:Operand}{x':O}(ho:o.op=.call { callee:=.builtin .len,args:=#[x],argTypes:=#[T] })(hT:P.underlying T=some (.map K E))(hx:cO x=some x')
  {ob:Prop} {y:V} (h:aS fr σ (.zb x')=some (ob,y)):Yields P o a w σ μ y:=by
 have h1:=dK hF hx;simp only[aS]at h;split at h
 ·rename_i hp;simp only[aa,aA]at h;obtain⟨_,rfl⟩:=h;rw[hp]at h1;have hv:a.eval x=.map none:=h1.xO;refine .pure (v:=.int .i64 0) ?_ (.i _ _);simp[execOp,ho,resolve,invoke,builtin,hv,Builtin.len_,run_underlying hT,goInt]
 ·rename_i id hp;split at h
  ·rename_i K' E' es hb;simp only[aa,aA]at h;obtain⟨_,rfl⟩:=h;rw[hp]at h1;obtain⟨r,hv,hm,_⟩:=h1.Cs;obtain⟨r',ents,clock,hm',_,hh,hR⟩:=hS.obj id _ hb;rw[hm]at hm';simp only[Value.map.injEq,aa]at hm';subst hm';refine .pure (v:=.int .i64 es.length) ?_ (.i _ _);have hg:(getObj r).run P w=.ok (.map ents clock) w:=by simp[getObj,Sem.run,hh]
   simp[execOp,ho,resolve,invoke,builtin,hv,Builtin.len_,run_underlying hT,goInt,hg,hR.1]
  ·simp at h
 ·simp at h
theorem Rl{T K E:TypeId}{m k:Operand}{m' k':O}{kd:Nat}{z:V}{ok:Bool}(ho:o.op=.lookup T m k ok)(hT:P.underlying T=some (.map K E))(hm:cO m=some m')(hk:cO k=some k')(uJ:l7 P K=some kd)(hz:zeroV P E=some z)
  {ob:Prop} {y:V} (h:aS fr σ (.look kd z ok m' k')=some (ob,y)) (dO:ob):Yields P o a w σ μ y:=by
 have h1:=dK hF hm;have h2:=dK hF hk;obtain⟨zv,hzr,XS⟩:=Kv (w:=w) (σ:=σ) (μ:=μ) hz
 have X5:ov kd (ev fr k')=true:=by
  simp only[aS]at h;split at h<;>simp only[aa,aA,reduceCtorEq]at h<;>(obtain⟨rfl,_⟩:=h;exact dO)
 have MC:∀ (u:V) (v:Value) (q:Bool),VR w σ μ u v→(Instr.lookup T (a.eval m) (a.eval k) ok).run P w=.ok (if ok then .tuple #[v,.bool q]else v) w→Yields P o a w σ μ (if ok then .gZ [u,.b q]else u):=by
  intro u v q hu hr;refine .pure (v:=if ok then .tuple #[v,.bool q]else v) (by simp[execOp,ho,hr]) ?_;cases ok
  ·exact hu
  ·refine .gZ _ _ rfl fun i x hx=>?_
   match i with
   | 0=>simp only[ax,aa]at hx;subst hx;exact hu
   | 1=>simp only[cc,ax,aa]at hx;subst hx;exact .b _
   | i+2=>simp at hx
 have hes:∀ (r:Option (Option (Nat×V))),fU σ kd (ev fr m') (ev fr k')=r→∀ q,r=some q →
   (q=none→(Instr.lookup T (a.eval m) (a.eval k) ok).run P w=.ok (if ok then .tuple #[zv,.bool false]else zv) w) ∧
   (∀ n u,q=some (n,u)→∃ v,VR w σ μ u v∧(Instr.lookup T (a.eval m) (a.eval k) ok).run P w=.ok (if ok then .tuple #[v,.bool true]else v) w):=by
  intro r hr q hq;unfold fU at hr;split at hr
  ·rename_i hp;rw[hp]at h1;have hv:a.eval m=.map none:=h1.xO;rw[← hr]at hq;simp only[aa]at hq;subst hq;refine⟨fun _=>?_,fun n u h=>by simp at h⟩;rw[hv];have CC:=run_checkKey (P:=P) (w:=w) uJ true 9998 h2 X5
   have hfk:(Instr.findKey K (a.eval k) []).run P w=.ok none w:=by
    rcases oX uJ h2 [] [] none rfl (by simp) rfl with⟨_,h⟩ | ⟨_,_,_,_,h,_⟩
    ·exact h
    ·simp at h
   cases ok<;>simp[Instr.lookup,run_underlying hT,CC,hfk,hzr]
  ·rename_i id hp;rw[hp]at h1;obtain⟨rr,hv,s6,_⟩:=h1.Cs;split at hr
   ·rename_i K' E' es hb;obtain⟨r',ents,clock,hm',_,hh,hR⟩:=hS.obj id _ hb;rw[s6]at hm';simp only[Value.map.injEq,aa]at hm';subst hm';have hg:(getObj rr).run P w=.ok (.map ents clock) w:=by simp[getObj,Sem.run,hh]
    rw[← hr]at hq
    have hf:=oX uJ h2 es ents.toList q (by rw[aL];exact hR.1) (fun i a x hi=>by
     obtain⟨_,_,e,h3,h4,h5⟩:=hR.2.1 i a x hi;exact⟨e,by simpa using h3,h4,h5⟩) hq
    have CC:=run_checkKey (P:=P) (w:=w) uJ ents.isEmpty 9998 h2 X5;refine⟨fun hn=>?_,fun n u hn=>?_⟩
    ·rcases hf with⟨_,h3⟩ | ⟨i,x,e,a2,h3,_⟩
     ·rw[hv];cases ok<;>simp[Instr.lookup,run_underlying hT,hg,CC,h3,hzr]
     ·rw[hn]at h3;simp at h3
    ·rcases hf with⟨h3,_⟩ | ⟨i,x,e,a2,h3,h4,h5,_,h6⟩
     ·rw[hn]at h3;simp at h3
     ·rw[hn]at h3;simp only[aa,aA]at h3;obtain⟨_,rfl⟩:=h3;obtain⟨_,_,e2,h7,_,h8⟩:=hR.2.1 i a2 u h4
      have:e2=e:=by
       have h9:ents[i]?=some e:=by simpa using h5
       rw[h7]at h9;simpa using h9
      subst this;refine⟨e2.val,h8,?_⟩;rw[hv];cases ok<;>simp[Instr.lookup,run_underlying hT,hg,CC,h6]
   ·rw[← hr]at hq;simp at hq
  ·rw[← hr]at hq;simp at hq
 simp only[aS]at h;generalize hr:fU σ kd (ev fr m') (ev fr k')=r at h;have hq:=hes r hr;cases r with
 | none=>simp at h
 | some q =>
  obtain⟨h3,h4⟩:=hq q rfl;cases q with
  | none =>
   simp only[aa,aA]at h;obtain⟨_,rfl⟩:=h;exact MC _ _ _ XS (h3 rfl)
  | some q =>
   obtain⟨n,u⟩:=q;simp only[aa,aA]at h;obtain⟨_,rfl⟩:=h;obtain⟨v,h5,h6⟩:=h4 n u rfl;exact MC _ _ _ h5 h6
end cx
section Ee
variable {P:Program} {o:Oper} {a:Act} {B:Nat} {w0 w:World} {σ:ah} {μ:Mem} {fr:List V} (hF:FR w σ μ fr a) (hS:gM P B w0 w σ μ)
include hF hS
theorem Zx{T E:TypeId}{t:TypeInfo}{z:Value}{l c:Operand}{l' c':O}{zs0:List V}{szs:List (Option Nat)}(ho:o.op=.makeSlice T l c)(hT:P.underlying T=some (.slice E))(ht:P.info? E=some t)(hz:t.zero=some z)
  (fq:0<t.size) (lK:z.cells.size=t.size) (Km:iu z.cells.toList=some zs0) (hl:cO l=some l') (hc:cO c=some c')
  {ob:Prop} {r:V} {σ':ah} (h:cd fr σ (.mk E t.size t.bytes (cq szs zs0) l' c')=some (ob,r,σ')) (dO:ob):tz P o a B w0 w σ μ r σ':=by
 have h1:=dK hF hl;have h2:=dK hF hc;simp only[cd]at h;split at h
 ·rename_i k n k2 m hn hm;simp only[aa,aA]at h;obtain⟨rfl,rfl,rfl⟩:=h;obtain⟨Px,WT,hm0,Zn,SV,Mk⟩:=dO;rw[hn]at h1;rw[hm]at h2;have Kr:Ti P E t.size t.bytes:=⟨fq,t,z,ht,hz,rfl,rfl,lK⟩;obtain⟨M,rfl⟩:=Int.eq_ofNat_of_zero_le hm0;have PM:CR w σ μ (cq szs zs0) z.cells:=(kg Km).cq szs;have T1:(cq szs zs0).length=t.size:=by rw[PM.1];exact lK
  have oE:t.bytes*M≤281474976710656:=by
   have h3:((M*t.bytes:Nat):Int)≤281474976710656:=by rw[Int.natCast_mul];exact Zn
   rw[fL];exact Kk.1 h3
  have hM:M≤maxLen:=Kk.1 SV
  have fin:∀ (v:Value) (w':World) (N:Nat) (vals:List Value),(Instr.makeSlice T (a.eval l) (a.eval c)).run P w=.ok v w'→w'.ownsRow B E t.size v N vals→w.grownBy w' none→(∀ b,iT v=some b→w.heap.size≤b)→n.toNat=N →
    jT w σ μ (List.replicate N (cq szs zs0)) t.size vals→tz P o a B w0 w σ μ (.own σ.length 0) (σ++[.row E t.size t.bytes 0 false (List.replicate n.toNat (cq szs zs0))]):=by
   intro v w' N vals hr gf hg Zp hN cm;rw[hN];have jQ:=hS.pY (w':=w') (.row E t.size t.bytes 0 false (List.replicate N (cq szs zs0))) v hg Zp (fun hp=>⟨Kr,vals,by rw[oF];exact gf,cm.eO hp.eO⟩);refine⟨v,w',_,.inl (by simp only[execOp,ho,Sem.run_bind,hr,Result.andThen_ok,Sem.run_pure]),jQ.1,?_,jQ.2⟩;have:=VR.lM (w:=w') (σ:=σ++[.row E t.size t.bytes 0 false (List.replicate N (cq szs zs0))]) (μ:=qH μ σ.length v) (id:=σ.length) (E:=E) (sz:=t.size) (by':=t.bytes) (g:=0) (sh:=false) (xs:=List.replicate N (cq szs zs0)) (by simp)
   rwa [dL]at this
  rcases WT with rfl | rfl
  ·obtain⟨w',hr,gf,hg⟩:=run_make_full (P:=P) w B T E t z t.size hT ht hz rfl k k2 M oE hM hS.base;refine fin _ w' M _ (by rw[h1.gl,h2.gl];exact hr) gf hg (fun b hb=>by simp only[iT,aa]at hb;omega) (by simp) ⟨fun r hr=>by rw[XN hr];exact T1,fun i j x hx=>?_⟩;obtain⟨hi,hj⟩:=MX hx;have rk:j<t.size:=by rw[← T1];exact(ab.1 hj).1
   have vX:i*t.size+j<M*t.size:=by
    have:(i+1)*t.size≤M*t.size:=bl _ hi;rw[Nat.add_mul,fA]at this;omega
   refine⟨Mk x (aN hj),z.cells.getD j undef,?_,PM.2 j x hj⟩;have Ms:(i*t.size+j) % z.cells.size=j:=by rw[lK,Nat.add_comm,Nat.add_mul_mod_self_right,wg rk]
   simp only[madeCells,lJ,Array.toList_range,bg,lR vX,cg,Ms];rw[ta _ _ (by omega)]
  ·obtain⟨w',hr,gf,hg⟩:=run_make_own (P:=P) w B T E t z t.size hT ht hz rfl k k2 M oE hM hS.base;exact fin _ w' 0 _ (by rw[h1.gl,h2.gl];exact hr) gf hg (fun b hb=>by simp only[iT,aa]at hb;omega) (by simp) ⟨by simp,fun i j x hx=>by simp[ft]at hx⟩
 ·simp at h
theorem TJ{T E:TypeId}{len:Nat}{parts:Array (Nat×Operand)}{t:TypeInfo}{z:Value}{xs:List O}{szs:List (Option Nat)}(ho:o.op=.buildSlice T len parts)(hT:P.underlying T=some (.slice E))(ht:P.info? E=some t)(hz:t.zero=some z)
  (hn:parts.size=len) (fq:0<t.size) (Km:z.cells.size=t.size) (zu:len*t.size≤2^24) (vx:qz 0 parts.toList=some xs) {ob:Prop} {r:V} {σ':ah} (h:cd fr σ (.E7 E t.size t.bytes szs xs)=some (ob,r,σ')) (dO:ob):tz P o a B w0 w σ μ r σ':=by
 simp only[cd,aa,aA]at h;obtain⟨rfl,rfl,rfl⟩:=h;obtain⟨gC,ql⟩:=dO;obtain⟨cells',dx,xR,mq,xT⟩:=yw hF hS ho hT ht hz hn fq Km zu vx gC (fun r hr=>(ql r hr).1);generalize XZ:(xs.map fun x=>cq szs (eI (ev fr x)))=rows at ql xR xT ⊢;have Kr:Ti P E t.size t.bytes:=⟨fq,t,z,ht,hz,rfl,rfl,Km⟩;have hg:w.grownBy (w.alloc (.cells cells' E)) none:=World.grownBy_alloc w _ none
 have SV:len≤maxLen:=by
  have:len≤len*t.size:=Yg _ fq;unfold maxLen;omega
 have gf:=World.ownsRow_lit (e:=E) w cells' len hS.base SV mq
 have jQ:=hS.pY (w':=w.alloc (.cells cells' E)) (.row E t.size t.bytes 0 false rows) (.slice (some ⟨w.heap.size,0,none⟩) len len) hg (fun b hb=>by simp only[iT,aa]at hb;omega)
  (fun hp=>⟨Kr,cells'.toList,by rw[xR];exact gf,fun r hr=>(ql r hr).1,fun i j x hx=>by
   obtain⟨eC,hv⟩:=xT i j x hx;obtain⟨r,hr,hj⟩:=ib hx;refine⟨(ql r (aN hr)).2 x (aN hj),_,?_,hp.eO _ _ hv⟩;simp[eC]⟩)
 refine⟨_,_,_,.inl dx,jQ.1,?_,jQ.2⟩;have:=VR.lM (w:=w.alloc (.cells cells' E)) (σ:=σ++[.row E t.size t.bytes 0 false rows]) (μ:=qH μ σ.length (.slice (some ⟨w.heap.size,0,none⟩) len len)) (id:=σ.length) (E:=E) (sz:=t.size) (by':=t.bytes) (g:=0) (sh:=false) (xs:=rows) (by simp)
 rwa [dL]at this
theorem VR.sameBits{k a:V}{kv av:Value}{kd:Nat}(hk:VR w σ μ k kv)(ha:VR w σ μ a av)(h:cu kd k a=some true):Instr.sameBits 10000 av kv=true:=by
 cases k<;>cases a<;>(try (simp[cu]at h;done))
 ·rw[hk.ow,ha.ow]
  match kd with
  | 2=>simp only[cu,aa,beq_iff_eq]at h;subst h;simp[Instr.sameBits]
  | 0=>simp[cu]at h
  | 1=>simp[cu]at h
  | n+3=>simp[cu]at h
 ·rw[hk.gl,ha.gl]
  match kd with
  | 0 =>
   simp only[cu]at h;split at h<;>simp only[aa,beq_iff_eq,reduceCtorEq]at h;rename_i JQ;subst JQ;subst h;simp[Instr.sameBits]
  | 1=>simp[cu]at h
  | 2=>simp[cu]at h
  | n+3=>simp[cu]at h
 ·obtain⟨s,rfl,hs,_⟩:=hk.lU;obtain⟨s',rfl,hs',_⟩:=ha.lU
  match kd with
  | 1 =>
   simp only[cu,aa,beq_iff_eq]at h;subst h;simp only[Instr.sameBits];rw[beq_toListBytes,toList_data,toList_data,hs,hs'];simp
  | 0=>simp[cu]at h
  | 2=>simp[cu]at h
  | n+3=>simp[cu]at h
 ·match kd with
  | 3 =>
   simp only[cu]at h;obtain⟨k1,a1,l1,b1,a2,b2,rfl,rfl,hr⟩:=vm h;rw[hk.pair,ha.pair];have hr':=hr.symm;simp only[aB,beq_iff_eq]at hr';obtain⟨rfl,rfl⟩:=hr';simp[Instr.sameBits]
  | 0=>simp[cu]at h
  | 1=>simp[cu]at h
  | 2=>simp[cu]at h
  | n+4=>simp[cu]at h
theorem TI{T K E:TypeId}{m k x:Operand}{m' k' x':O}{kd:Nat}{szs:List (Option Nat)}(ho:o.op=.mapUpdate T m k x)(hT:P.underlying T=some (.map K E))(hm:cO m=some m')(hk:cO k=some k')(hx:cO x=some x')(uJ:l7 P K=some kd)
  {ob:Prop} {r:V} {σ':ah} (h:cd fr σ (.vT kd szs m' k' x')=some (ob,r,σ')) (dO:ob):tz P o a B w0 w σ μ r σ':=by
 have h1:=dK hF hm;have h2:=dK hF hk;have h3:=dK hF hx
 have X5:ov kd (ev fr k')=true:=by
  simp only[cd]at h;split at h
  ·split at h
   ·split at h<;>simp only[aa,aA,reduceCtorEq]at h<;>(obtain⟨rfl,_⟩:=h;exact dO.1)
   ·simp at h
  ·simp at h
 simp only[cd]at h;generalize hxv:kz szs (ev fr x')=xv at h
 have h3':VR w σ μ xv (a.eval x):=by
  rw[← hxv];unfold kz;split
  ·rename_i xs hp;rw[hp]at h3;obtain⟨vs,hv,hl,Cx⟩:=h3.nz;rw[hv];exact CR.vi (xs:=xs) szs ⟨hl,Cx⟩
  ·exact h3
 split at h
 ·rename_i id hp;rw[hp]at h1;obtain⟨rr,hv,s6,_⟩:=h1.Cs;split at h
  ·rename_i K' E' es hb;obtain⟨r',ents,clock,hm',hB,hh,hR⟩:=hS.obj id _ hb;rw[s6]at hm';simp only[Value.map.injEq,aa]at hm';subst hm';have eC:id<σ.length:=(ab.1 hb).1;have xR:rr<w.heap.size:=(bS.1 hh).1;have hg:∀ (w2:World),w2.heap[rr]?=some (.map ents clock)→(getObj rr).run P w2=.ok (.map ents clock) w2:=fun w2 h=>by simp[getObj,Sem.run,h]
   have CC:=run_checkKey (P:=P) (w:=w) uJ false 9998 h2 X5
   have fin:∀ (es':List (V×V)) (ents':Array MapEntry) (clock':Nat),(execOp a.eval o).run P w=.ok .skip { w with heap:=w.heap.setIfInBounds rr (.map ents' clock') }→NB w σ μ es' ents' clock'→tz P o a B w0 w σ μ .u (σ.set id (.map K' E' es')):=by
    intro es' ents' clock' hr hMR
    have Cy:=hS.update (w':={ w with heap:=w.heap.setIfInBounds rr (.map ents' clock') }) (σ':=σ.set id (.map K' E' es')) (μ':=μ) id (some rr)
     ⟨rfl,rfl,rfl,by simp,fun j _ hj=>by simp only[];rw[dw (fun e=>hj (by rw[e]))]⟩
     (fun b oE=>⟨_,hb,by simp,by simp only[aa]at oE;subst oE;simp[s6,iT]⟩)
     (by simp) (fun j hj=>aO (fun e=>hj e.symm)) (fun _ _=>rfl)
     (fun b oE=>.inl ⟨_,hb,by simp,oE⟩)
     (fun b off v2 o2 h4 _ h5 h6 _=>by
      simp only[s6,iT,aa]at h5;subst h5;simp[World.cell?,hh]at h6)
     (fun T2 cs2 h4=>by rw[hb]at h4;simp at h4)
     (fun K2 E2 es2 h4=>by rw[hb]at h4;simp only[aa,Ob.map.injEq]at h4;obtain⟨rfl,rfl,rfl⟩:=h4;exact⟨⟨_,aq eC⟩,rfl⟩)
     (fun E2 sz2 by2 g2 sh2 xs2 _ h4=>by simp[eC]at h4)
     (fun zk o2 h4=>by
      simp only[aq eC,aa]at h4;subst h4;exact⟨rr,ents',clock',s6,hB,by simp[xR],hMR.eO zk.eO⟩)
    exact⟨undef,_,μ,.inr ⟨hr,rfl⟩,Cy.1,.u _,Cy.2⟩
   have nc:∀ ob2,(setObj rr ob2).run P w=.ok () { w with heap:=w.heap.setIfInBounds rr ob2 }:=fun ob2=>by simp[setObj,Sem.run,hh]
   split at h
   ·rename_i hf;simp only[aa,aA]at h;obtain⟨rfl,rfl,rfl⟩:=h
    have JR:=oX uJ h2 es ents.toList none (by rw[aL];exact hR.1) (fun i a x hi=>by
     obtain⟨_,_,e,h3,h4,h5⟩:=hR.2.1 i a x hi;exact⟨e,by simpa using h3,h4,h5⟩) hf
    have hfn':(Instr.findKey K (a.eval k) ents.toList).run P w=.ok none w:=by
     rcases JR with⟨_,h⟩ | ⟨i,x,e,a2,h,_⟩
     ·exact h
     ·simp at h
    refine fin _ (ents.push { key:=a.eval k,val:=a.eval x,born:=clock }) (clock+1) ?_ ?_
    ·simp[execOp,ho,hv,Instr.mapUpdate,run_underlying hT,hg w hh,CC,hfn',nc]
    ·refine⟨by simp[hR.1],fun i a2 y hi=>?_,fun i e he=>?_,fun i j e e' he he' S9=>?_⟩
     ·by_cases pC:i<es.length
      ·rw[az pC]at hi;obtain⟨h4,h5,e,h6,h7⟩:=hR.2.1 i a2 y hi;exact⟨h4,h5,e,by rw[Array.getElem?_push_lt (by rw[hR.1];exact pC)];have:=h6;rw[Array.getElem?_eq_getElem (by rw[hR.1];exact pC)]at this;exact this,h7⟩
      ·have hie:i=es.length:=by
        have:=(ab.1 hi).1;simp at this;omega
       subst hie;simp only[List.getElem?_concat_length,aa,aA]at hi;obtain⟨rfl,rfl⟩:=hi;exact⟨xK dO.1,dO.2,_,by rw[← hR.1];exact Array.getElem?_push_size,h2,h3'⟩
     ·rw[Array.getElem?_push]at he;split at he
      ·simp only[aa]at he;subst he;exact Nat.lt_succ_self _
      ·exact Nat.lt_succ_of_lt (hR.2.2.1 i e he)
     ·rw[Array.getElem?_push]at he he';split at he
      ·split at he'
       ·omega
       ·simp only[aa]at he;subst he;have:=hR.2.2.1 j e' he';simp only at S9;omega
      ·split at he'
       ·simp only[aa]at he';subst he';have:=hR.2.2.1 i e he;simp only at S9;omega
       ·exact hR.2.2.2 i j e e' he he' S9
   ·rename_i i0 x0 hf;simp only[aa,aA]at h;obtain⟨rfl,rfl,rfl⟩:=h
    have JR:=oX uJ h2 es ents.toList _ (by rw[aL];exact hR.1) (fun i a x hi=>by
     obtain⟨_,_,e,h3,h4,h5⟩:=hR.2.1 i a x hi;exact⟨e,by simpa using h3,h4,h5⟩) hf
    rcases JR with⟨h4,_⟩ | ⟨i,y,e,a2,h4,h5,h6,h7,h8⟩
    ·simp at h4
    ·simp only[aa,aA]at h4;obtain⟨rfl,rfl⟩:=h4;obtain⟨_,_,e2,h9,Fv,_⟩:=hR.2.1 i0 a2 x0 h5
     have hee:e2=e:=by
      have:ents[i0]?=some e:=by simpa using h6
      rw[h9]at this;simpa using this
     subst hee;have WI:=VR.sameBits hF hS h2 Fv h7;refine fin _ (ents.modify i0 fun e=>{ e with key:=a.eval k,val:=a.eval x }) clock ?_ ?_
     ·simp[execOp,ho,hv,Instr.mapUpdate,run_underlying hT,hg w hh,CC,h8,h9,Instr.keyThatStays,WI,nc]
     ·have pC:i0<es.length:=(ab.1 h5).1
      have MG:∀ (i:Nat) (e3:MapEntry),(ents.modify i0 fun e=>{ e with key:=a.eval k,val:=a.eval x })[i]?=some e3→∃ e4,ents[i]?=some e4∧e4.born=e3.born:=by
       intro i e3 he;rw[eS]at he;split at he
       ·simp only[ak]at he;obtain⟨e4,Fu,rfl⟩:=he;exact⟨e4,Fu,rfl⟩
       ·exact⟨e3,he,rfl⟩
      refine⟨by simp[hR.1],fun i a3 y hi=>?_,fun i e3 he=>?_,fun i j e3 e4 he he' S9=>?_⟩
      ·by_cases MA:i=i0
       ·subst MA;rw[aq pC]at hi;simp only[aa,aA]at hi;obtain⟨rfl,rfl⟩:=hi;exact⟨xK dO.1,dO.2,{ e2 with key:=a.eval k,val:=a.eval x },by rw[eS,if_pos rfl,h9];rfl,h2,h3'⟩
       ·rw[aO (fun e=>MA e.symm)]at hi;obtain⟨Fu,Td,e3,Xl,Zv⟩:=hR.2.1 i a3 y hi;exact⟨Fu,Td,e3,by rw[eS,if_neg (fun e=>MA e.symm)];exact Xl,Zv⟩
      ·obtain⟨e4,Fu,Td⟩:=MG i e3 he;rw[← Td];exact hR.2.2.1 i e4 Fu
      ·obtain⟨e5,Fu,Td⟩:=MG i e3 he;obtain⟨e6,Xl,Zv⟩:=MG j e4 he';exact hR.2.2.2 i j e5 e6 Fu Xl (by rw[Td,Zv,S9])
   ·simp at h
  ·simp at h
 ·simp at h
theorem Xx{T E:TypeId}{t:TypeInfo}{z:Value}{x:Operand}{x':O}{zs0:List V}{szs:List (Option Nat)}(ho:o.op=.call { callee:=.builtin .clear,args:=#[x],argTypes:=#[T] })(hT:P.underlying T=some (.slice E))(ht:P.info? E=some t)(hz:t.zero=some z)
  (fq:0<t.size) (lK:z.cells.size=t.size) (Km:iu z.cells.toList=some zs0) (hx:cO x=some x')
  {ob:Prop} {r:V} {σ':ah} (h:cd fr σ (.Dd t.size (cq szs zs0) x')=some (ob,r,σ')) (dO:ob):tz P o a B w0 w σ μ r σ':=by
 have h1:=dK hF hx;have PM:CR w σ μ (cq szs zs0) z.cells:=(kg Km).cq szs;generalize cq szs zs0=zs at h PM;have T1:zs.length=t.size:=by rw[PM.1];exact lK
 simp only[cd]at h;split at h
 ·rename_i id g lo hi hp;split at h
  ·rename_i E' sz by' g' sh xs hb;split at h
   ·rename_i hg;obtain⟨rfl,rfl,rfl⟩:=hg;simp only[aa,aA]at h;obtain⟨rfl,rfl,rfl⟩:=h;rw[hp]at h1;obtain⟨hlh,Ft,hv⟩:=h1.nw hb;have eC:id<σ.length:=(ab.1 hb).1;obtain⟨Kr,vals,⟨Me,hw⟩,cm,Mh⟩:=hS.obj id _ hb;have Wz:VR w (σ.set id (.row E' t.size by' g false (xs.take lo++List.replicate (hi - lo) zs++xs.drop hi))) μ (.gZ []) (.tuple #[]):=.gZ _ _ rfl (by simp)
    by_cases h0:lo=hi
    ·subst h0
     have e1:σ.set id (.row E' t.size by' g false (xs.take lo++List.replicate (lo - lo) zs++xs.drop lo))=σ:=by
      simp only[eU,Fk,bt,List.take_append_drop];obtain⟨hq,e⟩:=ab.1 hb;rw[← e];exact List.set_getElem_self hq
     have dx:(execOp a.eval o).run P w=.ok (.value (.tuple #[])) w:=by
      have Ko:∃ ad cap,a.eval x=.slice ad 0 cap:=by
       rw[hv];rcases hw with⟨hm,_⟩ | ⟨b,cap,cur,hm,_⟩
       ·rw[hm];exact⟨_,_,by simp only[jI,eU];rfl⟩
       ·rw[hm];exact⟨_,_,by simp only[jI,eU];rfl⟩
      obtain⟨ad,cap,Ko⟩:=Ko;cases ad<;>simp[execOp,ho,resolve,invoke,builtin,Ko,Builtin.clear_,run_underlying hT]
     rw[e1]at Wz ⊢;exact⟨_,w,μ,.inl dx,hS,Wz,lP.refl _ _ _⟩
    ·rcases hw with⟨_,hn⟩ | ⟨b,cap,cur,hm,hB,hh,H8,zr,mq,xQ⟩
     ·omega
     ·have js:¬ cap=lo:=by omega
      have XY:a.eval x=.slice (some ⟨b,lo*t.size,none⟩) (hi - lo) (cap - lo):=by rw[hv,hm];simp[jI,js,Addr.add_lit]
      obtain⟨m,hmm⟩:∃ m,hi - lo=m+1:=⟨hi - lo - 1,by omega⟩;generalize aU:(Builtin.zeroCells z.cells (hi - lo)).toList=cl;have JS:cl.length=(hi - lo)*t.size:=by rw[← aU];simp[Builtin.zeroCells,lK]
      have Xf:∀ q,q<(hi - lo)*t.size→cl[q]?=some (z.cells.getD (q % t.size) undef):=by
       intro q hq;rw[← aU];have Ms:q % t.size<z.cells.size:=by rw[lK];exact sf _ fq
       simp only[Builtin.zeroCells,lJ,Array.toList_range,bg,lK,lR hq,cg];rw[ta _ _ Ms]
      have hmul:lo*t.size+(hi - lo)*t.size=hi*t.size:=by rw[← Nat.add_mul];congr 1;omega
      have adR:hi*t.size≤xs.length*t.size:=bl _ Ft;have Y4:xs.length*t.size≤cap*t.size:=bl _ H8
      have Mm:∀ v∈cl,v.oneCell'=true:=by
       intro v hv3;obtain⟨q,hq⟩:=ee.1 hv3;have SO:q<(hi - lo)*t.size:=by rw[← JS];exact(ab.1 hq).1
       rw[Xf q SO]at hq;simp only[aa]at hq;subst hq;have hj:q % t.size<zs.length:=by rw[T1];exact sf _ fq
       have:=PM.2 (q % t.size) zs[q % t.size] (ao hj);exact(mU hS this (nk (dO _ (dj hj)))).1
      have py:=run_storeCells_at P b (lo*t.size) E' cl 0 cur w hh (by rw[JS,mq];omega) Mm;generalize jQ:(cur.toList.take (lo*t.size+0)++cl++cur.toList.drop (lo*t.size+0+cl.length)).toArray=arr at py
      have dx:(execOp a.eval o).run P w=.ok (.value (.tuple #[])) (w.setRow b arr):=by
       rw[hmm]at aU XY;simp[execOp,ho,resolve,invoke,builtin,XY,Builtin.clear_,run_underlying hT,zeroValue,typeInfo,ht,hz,aU,py]
      have rY:∀ j,arr.toList[j]?=if lo*t.size≤j∧j<hi*t.size then cl[j - lo*t.size]? else cur.toList[j]?:=by
       intro j;rw[← jQ];have:=oJ cur.toList cl (lo*t.size) j (by rw[JS,aL,mq];omega);rw[JS,hmul]at this;simpa[JS,hmul]using this
      have xW:arr.size=cur.size:=by
       rw[← jQ];simp only[eu,List.length_append,ba,bB,aL,JS,mq,cn];omega
      have wq:(xs.take lo++List.replicate (hi - lo) zs++xs.drop hi).length=xs.length:=by simp;omega
      have Cy:=hS.update (w':=w.setRow b arr) (σ':=σ.set id (.row E' t.size by' g false (xs.take lo++List.replicate (hi - lo) zs++xs.drop hi))) (μ':=μ) id (some b)
       ⟨rfl,rfl,rfl,by simp,fun k _ hk=>setRow_other w b k _ (fun e=>hk (by simp[e]))⟩
       (fun b2 oE=>⟨_,hb,by simp,by simp only[aa]at oE;subst oE;simp[hm,iT]⟩)
       (by simp) (fun j hj=>aO (fun e=>hj e.symm)) (fun _ _=>rfl)
       (fun b2 oE=>.inl ⟨_,hb,by simp,oE⟩)
       (fun b2 off2 v2 o2 h3 _ h4 _ h5=>absurd ⟨id,o2,h3,h4,by rw[hb]at h3;simp only[aa]at h3;subst h3;intro hf;simp at hf⟩ h5)
       (fun T2 cs2 h3=>by rw[hb]at h3;simp at h3)
       (fun K E es h3=>by rw[hb]at h3;simp at h3)
       (fun E2 sz2 by2 g2 sh2 xs2 _ h3=>by
        simp only[aq eC,aa,Ob.row.injEq]at h3;obtain⟨rfl,rfl,rfl,rfl,rfl,rfl⟩:=h3;exact⟨g,false,xs,hb,aw _,fun _=>⟨wq.symm,rfl⟩⟩)
       (fun zk o2 h3=>by
        simp only[aq eC,aa]at h3;subst h3;refine⟨Kr,arr.toList.take (xs.length*t.size),⟨?_,.inr ⟨b,cap,arr,by rw[wq];exact hm,hB,setRow_heap w b cur arr E' (0,0) hh,by rw[wq];exact H8,zr,by rw[xW,mq],by rw[wq]⟩⟩,?_,?_⟩
        ·rw[wq];simp only[ba,aL,xW,mq];omega
        ·intro r hr';simp only[List.mem_append,List.mem_replicate]at hr';rcases hr' with(h5 | ⟨_,rfl⟩) | h5
         ·exact cm r (dd h5)
         ·exact T1
         ·exact cm r (ff h5)
        ·intro i2 j2 y hy;obtain⟨r,h5,h6⟩:=ib hy;have zo:i2<xs.length:=by have:=(ab.1 h5).1;rw[wq]at this;exact this
         have NN:=oJ xs (List.replicate (hi - lo) zs) lo i2 (by rw[oF];omega);rw[oF,show lo+(hi - lo)=hi by omega]at NN;rw[NN]at h5
         have xR:r.length=t.size:=by
          by_cases hc:lo≤i2∧i2<hi
          ·rw[if_pos hc,wh,if_pos (by omega)]at h5;simp only[aa]at h5;rw[← h5];exact T1
          ·rw[if_neg hc]at h5;exact cm r (aN h5)
         have Ub:j2<t.size:=by rw[← xR];exact(ab.1 h6).1
         have vX:i2*t.size+j2<xs.length*t.size:=by
          have:(i2+1)*t.size≤xs.length*t.size:=bl _ zo;rw[Nat.add_mul,fA]at this;omega
         by_cases hc:lo≤i2∧i2<hi
         ·rw[if_pos hc,wh,if_pos (by omega)]at h5;simp only[aa]at h5;subst h5;have MB:lo*t.size≤i2*t.size:=bl _ hc.1;have rX:(i2+1)*t.size≤hi*t.size:=bl _ hc.2;rw[Nat.add_mul,fA]at rX;refine⟨dO y (aN h6),z.cells.getD j2 undef,?_,(PM.2 j2 y h6).mono zk⟩;rw[bn vX,rY,if_pos (by omega),Xf _ (by omega)]
          have e2:i2*t.size+j2 - lo*t.size=j2+t.size*(i2 - lo):=by
           rw[fL t.size,Nat.sub_mul];omega
          rw[e2,Nat.add_mul_mod_self_left,wg Ub]
         ·rw[if_neg hc]at h5;have er:ft xs i2 j2=some y:=by rw[mW h5];exact h6
          obtain⟨WQ,u,h7,h8⟩:=Mh i2 j2 y er;refine⟨WQ,u,?_,h8.mono zk⟩;rw[bn vX,rY,if_neg ?_]
          ·rw[← xQ,bn vX]at h7;exact h7
          ·rintro⟨h9,Fv⟩;rcases fM i2 lo with Fu | Fu
           ·have:(i2+1)*t.size≤lo*t.size:=bl _ Fu;rw[Nat.add_mul,fA]at this;omega
           ·have:hi*t.size≤i2*t.size:=bl _ (by omega);omega)
      exact⟨_,_,μ,.inl dx,Cy.1,.gZ _ _ rfl (by simp),Cy.2⟩
   ·simp at h
  ·simp at h
 ·simp at h
end Ee
end Go.Pm

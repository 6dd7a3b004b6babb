/- A part of the proof of the statement of the last text of this claim: for every two lists of integers ReplicaCommutes returns true and leaves the memory as it was. -/
import Derived.Lib.AppendStr
import Derived.Test.YtbfoheefppnnpaaGreatDoorV6
set_option linter.all false

namespace Go.Pm
open Go Go.RowKit
structure Src (P:Program) (w:World) (U:TypeId) (x:Value) (size m:Nat) (news:List Value):Prop where
 ty:∃ d,P.underlying U=some d∧∀ k,d≠.int k
 len:∀ w':World,(Builtin.lenOf x).run P w'=.ok m w'
 first:(Builtin.firstCells size m x).run P w=.ok news.toArray w
 first':(Builtin.firstCells size m x).run P w.drew=.ok news.toArray w.drew
 long:news.length=m*size
 one:∀ u∈news,u.oneCell'=true
section
variable {P:Program} {w:World} {T U ty E:TypeId} {t:TypeInfo} {z:Value} {x:Value} {m:Nat} {news:List Value}
theorem run_app_zero (hT:P.underlying T=some (.slice E)) (ht:P.info? E=some t) (hs:Src P w U x t.size 0 news) (a:Option Addr) (n cap:Nat) (hn:n≤cap) :
  (Builtin.append_ #[T,U] ty #[.slice a n cap,x]).run P w=.ok (.slice a n cap) w:=by
 obtain ⟨d,hd,hk⟩:=hs.ty
 have hnews:news=[]:=List.eq_nil_of_length_eq_zero (by simpa using hs.long)
 have hf:=hs.first
 subst hnews
 cases a with
 | none=>simp [Builtin.append_,run_underlying hT,run_underlying hd,sizeOf,typeInfo,ht,hs.len,hn,hf]
 | some a=>simp [Builtin.append_,run_underlying hT,run_underlying hd,sizeOf,typeInfo,ht,hs.len,hn,hf,storeCells]
theorem run_app_room (hT:P.underlying T=some (.slice E)) (ht:P.info? E=some t) (hs:Src P w U x t.size m news) (g n cap:Nat) (cur:Array Value) (hg:w.heap[g]?=some (.cells cur E (0,0)))
  (hroom:n+m≤cap) (hfit:n*t.size+news.length≤cur.size) :
  (Builtin.append_ #[T,U] ty #[.slice (some ⟨g,0,none⟩) n cap,x]).run P w =
   .ok (.slice (some ⟨g,0,none⟩) (n+m) cap) (w.setRow g (cur.toList.take (n*t.size)++news++cur.toList.drop (n*t.size+news.length)).toArray):=by
 obtain ⟨d,hd,hk⟩:=hs.ty
 have hf:=hs.first
 have hst:=run_storeCells_at P g (n*t.size) E news 0 cur w hg (by simpa using hfit) hs.one
 simp only [Nat.add_zero] at hst
 simp [Builtin.append_,run_underlying hT,run_underlying hd,sizeOf,typeInfo,ht,hs.len,hroom,hf,Addr.add_lit,hst]
theorem run_app_grow (hT:P.underlying T=some (.slice E)) (ht:P.info? E=some t) (hz:t.zero=some z) (hs:Src P w U x t.size m news) (a:Option Addr) (n cap:Nat) (olds:List Value)
  (hlo:olds.length=n*t.size) (ho:(a=none∧n=0)∨∃ b,a=some b∧∀ j v,olds[j]?=some v→w.cell? (b.add j)=some v)
  (hg:cap<n+m) (h63:n+m≤maxLen) (hfit:(n+m)*t.bytes≤140737488355328) :
  (Builtin.append_ #[T,U] ty #[.slice a n cap,x]).run P w =
   .ok (.slice (some ⟨w.heap.size,0,none⟩) (n+m) (grownCap w (n+m) cap E))
    (w.drew.alloc (.cells (olds.toArray++news.toArray++Builtin.zeroCells z.cells (grownCap w (n+m) cap E - (n+m))) E)):=by
 obtain ⟨d,hd,hk⟩:=hs.ty
 have hf:=hs.first'
 have hn:¬ (n+m≤cap):=by omega
 have h63':¬ (9223372036854775807<((n:Int)+(m:Int))):=by unfold maxLen at h63;omega
 have h48:=growslice_fits hg hfit
 have h48':¬ (281474976710656<Builtin.nextslicecap (n+m) cap*t.bytes):=by omega
 have hfo:(Builtin.firstCells t.size n (.slice a n cap)).run P w.drew=.ok olds.toArray w.drew:=by
  rcases ho with ⟨rfl,rfl⟩ | ⟨b,rfl,hb⟩
  ·have:olds=[]:=List.eq_nil_of_length_eq_zero (by simpa using hlo)
   subst this
   simp [Builtin.firstCells]
  ·exact run_firstCells_some (P:=P) w.drew t.size n b n cap olds hlo (by simpa using hb)
 simp [Builtin.append_,run_underlying hT,run_underlying hd,sizeOf,typeInfo,zeroValue,ht,hz,hs.len,hn,h63',h48',Question.forced,hf,hfo,newRow,grownCap]
 congr 2
 apply Array.ext'
 simp [List.append_assoc]
theorem run_app_own (hT:P.underlying T=some (.slice E)) (ht:P.info? E=some t) (hz:t.zero=some z) (hzs:z.cells.size=t.size) (hs:Src P w U x t.size m news) (B:Nat) (v:Value) (n:Nat) (vals:List Value)
  (hown:w.ownsRow B E t.size v n vals) (h63:n+m≤maxLen) (hfit:(n+m)*t.bytes≤140737488355328) (hB:B≤w.heap.size) :
  ∃ v' w',(Builtin.append_ #[T,U] ty #[v,x]).run P w=.ok v' w'∧w'.ownsRow B E t.size v' (n+m) (vals++news)∧w.grownBy w' (blk v) ∧
   (∀ b,blk v'=some b→blk v=some b∨w.heap.size≤b)∧(∀ b,blk v=some b→∀ j u,vals[j]?=some u→w'.cell? ⟨b,j,none⟩=some u):=by
 have hlen:(vals++news).length=(n+m)*t.size:=by rw [List.length_append,hown.1,hs.long,Nat.add_mul]
 have grown:∀ (old:Nat),old<n+m→∀ (row:Option Nat),
   (w.drew.alloc (.cells (vals.toArray++news.toArray++Builtin.zeroCells z.cells (grownCap w (n+m) old E - (n+m))) E)).ownsRow B E t.size
    (.slice (some ⟨w.heap.size,0,none⟩) (n+m) (grownCap w (n+m) old E)) (n+m) (vals++news) ∧
   w.grownBy (w.drew.alloc (.cells (vals.toArray++news.toArray++Builtin.zeroCells z.cells (grownCap w (n+m) old E - (n+m))) E)) row:=by
  intro old ho row
  have hge:=grownCap_ge w (n+m) old E
  have hcm:grownCap w (n+m) old E≤maxLen:=grownCap_le_maxLen w (n+m) old E h63
  refine ⟨⟨hlen,.inr ⟨w.heap.size,_,_,rfl,hB,heap_alloc_new w.drew _,hge,hcm,?_,?_⟩⟩,⟨rfl,rfl,rfl,by simp,fun k hk _=>heap_alloc_old w.drew _ k hk⟩⟩
  ·simp only [Array.size_append,List.size_toArray,size_zeroCells,hzs,hown.1,hs.long,← Nat.add_mul]
   congr 1
   omega
  ·simp only [Array.toList_append,List.append_assoc]
   rw [← List.append_assoc,← hlen]
   exact List.take_left
 by_cases hm:m=0
 ·subst hm
  have hnews:news=[]:=List.eq_nil_of_length_eq_zero (by simpa using hs.long)
  subst hnews
  have hr:(Builtin.append_ #[T,U] ty #[v,x]).run P w=.ok v w:=by
   rcases hown.2 with ⟨rfl,rfl⟩ | ⟨g,cap,cur,rfl,_,_,hnc,_⟩
   ·exact run_app_zero hT ht hs none 0 0 (Nat.le_refl _)
   ·exact run_app_zero hT ht hs _ n cap hnc
  refine ⟨v,w,hr,by simpa using hown,grownBy_refl w _,fun b hb=>.inl hb,fun b hb j u hj=>?_⟩
  rcases hown.2 with ⟨rfl,rfl⟩ | ⟨g,cap,cur,rfl,_⟩
  ·simp [blk] at hb
  ·simp only [blk,Option.some.injEq] at hb
   subst hb
   have:=hown.cells (g:=g) rfl j u hj
   rwa [Addr.add_lit,Nat.zero_add] at this
 ·rcases hown.2 with ⟨rfl,rfl⟩ | ⟨g,cap,cur,rfl,hbg,hg,hnc,hcm,hcs,htake⟩
  ·have hx:vals=[]:=List.eq_nil_of_length_eq_zero (by simpa using hown.1)
   subst hx
   have hr:=run_app_grow (ty:=ty) hT ht hz hs none 0 0 [] (by simp) (.inl ⟨rfl,rfl⟩) (by omega) h63 hfit
   have hgr:=grown 0 (by omega) (blk (.slice none 0 0))
   refine ⟨_,_,hr,hgr.1,hgr.2,fun b hb=>?_,fun b hb=>?_⟩
   ·simp only [blk,Option.some.injEq] at hb;exact .inr (by omega)
   ·simp [blk] at hb
  ·have holds:∀ j u,vals[j]?=some u→w.cell? ((⟨g,0,none⟩:Addr).add j)=some u:=hown.cells (g:=g) rfl
   by_cases hroom:n+m≤cap
   ·have hfit':n*t.size+news.length≤cur.size:=by rw [hs.long,hcs,← Nat.add_mul];exact Nat.mul_le_mul_right _ hroom
    have hr:=run_app_room (ty:=ty) hT ht hs g n cap cur hg hroom hfit'
    refine ⟨_,_,hr,⟨hlen,.inr ⟨g,cap,_,rfl,hbg,setRow_heap w g cur _ E _ hg,hroom,hcm,?_,?_⟩⟩,⟨rfl,rfl,rfl,by simp,fun k _ hk=>setRow_other w g k _ (fun e=>hk (by simp [blk,e]))⟩,fun b hb=>.inl hb,fun b hb j u hj=>?_⟩
    ·simp only [List.size_toArray,List.length_append,List.length_take,List.length_drop,Array.length_toList]
     omega
    ·rw [htake,← hlen]
     exact List.take_left
    ·simp only [blk,Option.some.injEq] at hb
     subst hb
     rw [cell_setRow_same w g j cur _ E _ hg]
     have hjl:j<vals.length:=(List.getElem?_eq_some_iff.1 hj).1
     rw [htake]
     simp only [List.getElem?_toArray]
     rw [List.append_assoc,List.getElem?_append_left hjl,hj]
   ·have hr:=run_app_grow (ty:=ty) hT ht hz hs (some ⟨g,0,none⟩) n cap vals hown.1 (.inr ⟨_,rfl,holds⟩) (by omega) h63 hfit
    have hgr:=grown cap (by omega) (blk (.slice (some ⟨g,0,none⟩) n cap))
    refine ⟨_,_,hr,hgr.1,hgr.2,fun b hb=>?_,fun b hb j u hj=>?_⟩
    ·simp only [blk,Option.some.injEq] at hb;exact .inr (by omega)
    ·simp only [blk,Option.some.injEq] at hb
     subst hb
     have h1:=holds j u hj
     rw [Addr.add_lit,Nat.zero_add] at h1
     have hlt:=World.block_lt_of_cell? w _ h1
     have:(w.drew.alloc (.cells (vals.toArray++news.toArray++Builtin.zeroCells z.cells (grownCap w (n+m) cap E - (n+m))) E)).cell? ⟨g,j,none⟩=w.drew.cell? ⟨g,j,none⟩ :=
      World.cell?_alloc_lt w.drew _ _ hlt
     rw [this,World.cell?_drew];exact h1
theorem run_app_lit (hT:P.underlying T=some (.slice E)) (ht:P.info? E=some t) (hz:t.zero=some z) (hzs:z.cells.size=t.size) (hs:Src P w U x t.size m news) (B:Nat) (a:Option Addr) (n:Nat) (olds:List Value)
  (hlo:olds.length=n*t.size) (ho:(a=none∧n=0)∨∃ b,a=some b∧∀ j v,olds[j]?=some v→w.cell? (b.add j)=some v) (hm:0<m) (h63:n+m≤maxLen) (hfit:(n+m)*t.bytes≤140737488355328) (hB:B≤w.heap.size) :
  ∃ v' w',(Builtin.append_ #[T,U] ty #[.slice a n n,x]).run P w=.ok v' w'∧w'.ownsRow B E t.size v' (n+m) (olds++news)∧w.grownBy w' none∧(∀ b,blk v'=some b→w.heap.size≤b):=by
 have hlen:(olds++news).length=(n+m)*t.size:=by rw [List.length_append,hlo,hs.long,Nat.add_mul]
 have hr:=run_app_grow (ty:=ty) hT ht hz hs a n n olds hlo ho (by omega) h63 hfit
 have hge:=grownCap_ge w (n+m) n E
 have hcm:grownCap w (n+m) n E≤maxLen:=grownCap_le_maxLen w (n+m) n E h63
 refine ⟨_,_,hr,⟨hlen,.inr ⟨w.heap.size,_,_,rfl,hB,heap_alloc_new w.drew _,hge,hcm,?_,?_⟩⟩,⟨rfl,rfl,rfl,by simp,fun k hk _=>heap_alloc_old w.drew _ k hk⟩,fun b hb=>?_⟩
 ·simp only [Array.size_append,List.size_toArray,size_zeroCells,hzs,hlo,hs.long,← Nat.add_mul]
  congr 1
  omega
 ·simp only [Array.toList_append,List.append_assoc]
  rw [← List.append_assoc,← hlen]
  exact List.take_left
 ·simp only [blk,Option.some.injEq] at hb;omega
end
theorem Shows.src {P:Program} {B:Nat} {w0 w:World} {σ:Store} {μ:Mem} (hS:Sim P B w0 w σ μ) {T E:TypeId} (hT:P.underlying T=some (.slice E)) {xs:List (List V)} {sz:Nat} {v:Value} (h:Shows w σ μ xs sz v) :
  ∃ news,Src P w T v sz xs.length news∧RowR w σ μ xs sz news:=by
 have hty:∃ d,P.underlying T=some d∧∀ k,d≠.int k:=⟨_,hT,fun k=>by simp⟩
 rcases h.here with ⟨rfl,a0,rfl⟩ | ⟨b,off,cap,rfl,hr⟩
 ·cases a0 with
  | none=>exact ⟨[],⟨hty,fun _=>by simp [Builtin.lenOf],by simp [Builtin.firstCells],by simp [Builtin.firstCells],by simp,by simp⟩,by simp,by simp [at2]⟩
  | some a0=>exact ⟨[],⟨hty,fun _=>by simp [Builtin.lenOf],run_firstCells_some w sz _ a0 _ _ [] (by simp) (by simp),run_firstCells_some w.drew sz _ a0 _ _ [] (by simp) (by simp),by simp,by simp⟩,by simp,by simp [at2]⟩
 ·obtain ⟨vals,h1,h2,h3,h4⟩:=h.cells (fun i j x hx=>pure_cellOK (hr i j x hx).1) hS
  exact ⟨vals,⟨hty,fun _=>by simp [Builtin.lenOf],run_firstCells_some w sz _ _ _ _ vals h1 h2,run_firstCells_some w.drew sz _ _ _ _ vals h1 (by simpa using h2),h1,h3⟩,h4⟩
theorem src_string {P:Program} {w:World} {σ:Store} {μ:Mem} {U:TypeId} (hU:P.underlying U=some .string) (s:ByteArray) :
  Src P w U (.string s) 1 (bytesV s.data.toList).length (Lib.strCells s)∧RowR w σ μ (bytesV s.data.toList) 1 (Lib.strCells s):=by
 have hl:(bytesV s.data.toList).length=s.size:=by rw [bsize];simp [bytesV]
 refine ⟨⟨⟨_,hU,fun k=>by simp⟩,fun _=>?_,?_,?_,?_,Lib.strCells_oneCell s⟩,?_,?_⟩
 ·rw [hl];simp [Builtin.lenOf]
 ·rw [hl];exact Lib.run_firstCells_string w 1 s
 ·rw [hl];exact Lib.run_firstCells_string w.drew 1 s
 ·rw [hl,Lib.strCells_length];simp
 ·intro r hr;simp only [bytesV,List.mem_map] at hr;obtain ⟨c,_,rfl⟩:=hr;rfl
 ·intro i j x hx
  obtain ⟨r,h1,h2⟩:=at2_some hx
  simp only [bytesV,List.getElem?_map,Option.map_eq_some_iff] at h1
  obtain ⟨c,hc,rfl⟩:=h1
  cases j with
  | zero =>
   simp only [List.getElem?_cons_zero,Option.some.injEq] at h2
   subst h2
   refine ⟨rfl,.int .u8 c.toNat,?_,.i _ _⟩
   simp [Lib.strCells,hc]
  | succ j=>simp at h2
theorem RowR.append {w:World} {σ:Store} {μ:Mem} {xs ys:List (List V)} {sz:Nat} {us vs:List Value} (h:RowR w σ μ xs sz us) (k:RowR w σ μ ys sz vs) (hl:us.length=xs.length*sz):RowR w σ μ (xs++ys) sz (us++vs):=by
 refine ⟨fun r hr=>?_,fun i j x hx=>?_⟩
 ·rcases List.mem_append.1 hr with hr | hr
  ·exact h.1 r hr
  ·exact k.1 r hr
 ·obtain ⟨r,h1,h2⟩:=at2_some hx
  by_cases hi:i<xs.length
  ·rw [List.getElem?_append_left hi] at h1
   have hx':at2 xs i j=some x:=by rw [at2_mk h1];exact h2
   obtain ⟨hp,v,hv,hr⟩:=h.2 i j x hx'
   exact ⟨hp,v,by rw [List.getElem?_append_left (List.getElem?_eq_some_iff.1 hv).1];exact hv,hr⟩
  ·rw [List.getElem?_append_right (by omega)] at h1
   have hx':at2 ys (i - xs.length) j=some x:=by rw [at2_mk h1];exact h2
   obtain ⟨hp,v,hv,hr⟩:=k.2 _ j x hx'
   refine ⟨hp,v,?_,hr⟩
   have e:i*sz+j=us.length+((i - xs.length)*sz+j):=by
    rw [hl]
    have:i*sz=xs.length*sz+(i - xs.length)*sz:=by rw [← Nat.add_mul];congr 1;omega
    omega
   rw [e,List.getElem?_append_right (by omega)]
   simpa using hv
def Does (P:Program) (o:Oper) (a:Act) (B:Nat) (w0 w:World) (σ:Store) (μ:Mem) (x:V) (σ':Store):Prop :=
 ∃ v w' μ',((execOp a.eval o).run P w=.ok (.value v) w'∨((execOp a.eval o).run P w=.ok .skip w'∧x=.u))∧Sim P B w0 w' σ' μ'∧VR w' σ' μ' x v∧Pres w σ μ w' σ' μ'
theorem Pres.trans {w:World} {σ:Store} {μ:Mem} {w':World} {σ':Store} {μ':Mem} {w'':World} {σ'':Store} {μ'':Mem} (p:Pres w σ μ w' σ' μ') (q:Pres w' σ' μ' w'' σ'' μ''):Pres w σ μ w'' σ'' μ'':=by
 refine ⟨fun b o v h1 h2=>?_,Nat.le_trans p.len q.len,fun id T cs h=>?_,fun id K E es h=>?_,fun id E sz by' g' sh xs hl h=>?_⟩
 ·obtain ⟨h3,h4⟩:=p.cell b o v h1 h2
  exact q.cell b o v h3 h4
 ·obtain ⟨⟨cs',h1⟩,h2⟩:=p.box id T cs h
  obtain ⟨h3,h4⟩:=q.box id T cs' h1
  exact ⟨h3,h4.trans h2⟩
 ·obtain ⟨⟨es',h1⟩,h2⟩:=p.map id K E es h
  obtain ⟨h3,h4⟩:=q.map id K E es' h1
  exact ⟨h3,h4.trans h2⟩
 ·obtain ⟨g1,sh1,xs1,h1,h2,h3⟩:=q.row id E sz by' g' sh xs (Nat.lt_of_lt_of_le hl p.len) h
  obtain ⟨g0,sh0,xs0,h4,h5,h6⟩:=p.row id E sz by' g1 sh1 xs1 hl h1
  refine ⟨g0,sh0,xs0,h4,Nat.le_trans h5 h2,fun e=>?_⟩
  have e1:g1=g':=by omega
  have e0:g0=g1:=by omega
  exact ⟨(h6 e0).1.trans (h3 e1).1,(h3 e1).2.trans (h6 e0).2⟩
theorem new_box {P:Program} {B:Nat} {w0 w:World} {σ:Store} {μ:Mem} (hS:Sim P B w0 w σ μ) (T:Nat) (cs:List V) (vs:Array Value) (h:CR w σ μ cs vs) :
  ∃ μ',Sim P B w0 (w.alloc (.cells vs T)) (σ++[.box T cs]) μ'∧VR (w.alloc (.cells vs T)) (σ++[.box T cs]) μ' (.ptr σ.length 0) (.pointer (some ⟨w.heap.size,0,none⟩))∧Pres w σ μ (w.alloc (.cells vs T)) (σ++[.box T cs]) μ':=by
 have hn:=hS.newOb (w':=w.alloc (.cells vs T)) (.box T cs) (.pointer (some ⟨w.heap.size,0,none⟩)) (World.grownBy_alloc w _ none) (by simp [blk]) (fun hp=>by
  refine ⟨w.heap.size,vs,rfl,hS.base,heap_alloc_new w _,h.1.symm,fun j x hx=>?_⟩
  have hj:j<vs.size:=by rw [← h.1];exact (List.getElem?_eq_some_iff.1 hx).1
  exact ⟨vs[j],Array.getElem?_eq_getElem hj,by have:=(h.2 j x hx).mono hp;simpa [hj] using this⟩)
 exact ⟨_,hn.1,.ptr _ 0 _ ⟨T,cs,by simp⟩ (upd_same _ _ _),hn.2⟩
theorem splice_get {α:Type} (l ys:List α) (off j:Nat) (h:off+ys.length≤l.length):(l.take off++ys++l.drop (off+ys.length))[j]?=if off≤j∧j<off+ys.length then ys[j - off]? else l[j]?:=by
 have hl1:(l.take off).length=off:=by simp;omega
 by_cases h1:j<off
 ·rw [if_neg (by omega),List.append_assoc,List.getElem?_append_left (by omega),List.getElem?_take_of_lt h1]
 ·by_cases h2:j<off+ys.length
  ·rw [if_pos (by omega),List.getElem?_append_left (by rw [List.length_append,hl1];omega),List.getElem?_append_right (by omega),hl1]
  ·have hl2:(l.take off++ys).length=off+ys.length:=by rw [List.length_append,hl1]
   rw [if_neg (by omega),List.getElem?_append_right (by omega),hl2,List.getElem?_drop]
   congr 1;omega
section loud
variable {P:Program} {o:Oper} {a:Act} {B:Nat} {w0 w:World} {σ:Store} {μ:Mem} {fr:List V} (hF:FR w σ μ fr a) (hS:Sim P B w0 w σ μ)
include hF hS
theorem d_box {T:TypeId} {x:Operand} {x':O} (ho:o.op=.box T x) (hx:cO x=some x') {ob:Prop} {y:V} {σ':Store} (h:xexec fr σ (.box T x')=some (ob,y,σ')) (hob:ob):Does P o a B w0 w σ μ y σ':=by
 simp only [xexec,Option.some.injEq,Prod.mk.injEq] at h
 obtain ⟨rfl,rfl,rfl⟩:=h
 have hc:=okCells_cells hS (cO_ok hF hx) hob
 obtain ⟨μ',h1,h2,h3⟩:=new_box hS T _ _ hc.1
 exact ⟨_,_,μ',.inl (by simp [execOp,ho,Instr.box,newVar,newRow]),h1,h2,h3⟩
theorem d_alloc {T:TypeId} {t:TypeInfo} {z:Value} {zs:List V} (ho:o.op=.alloc T) (ht:P.info? T=some t) (hz:t.zero=some z) (hzs:constVs z.cells.toList=some zs) {ob:Prop} {y:V} {σ':Store} (h:xexec fr σ (.alloc T zs)=some (ob,y,σ')):Does P o a B w0 w σ μ y σ':=by
 simp only [xexec,Option.some.injEq,Prod.mk.injEq] at h
 obtain ⟨_,rfl,rfl⟩:=h
 obtain ⟨μ',h1,h2,h3⟩:=new_box hS T _ _ (constVs_CR (w:=w) (σ:=σ) (μ:=μ) hzs)
 exact ⟨_,_,μ',.inl (by simp [execOp,ho,Instr.alloc,zeroValue,typeInfo,ht,hz,newVar,newRow]),h1,h2,h3⟩
theorem d_store {T:TypeId} {t:TypeInfo} {ad x:Operand} {ad' x':O} {szs:List (Option Nat)} (ho:o.op=.store T ad x) (ht:P.info? T=some t) (ha:cO ad=some ad') (hx:cO x=some x') {ob:Prop} {y:V} {σ':Store} (h:xexec fr σ (.store t.size szs ad' x')=some (ob,y,σ')) (hob:ob):Does P o a B w0 w σ μ y σ':=by
 have h1:=cO_ok hF ha
 have h2:=cO_ok hF hx
 have hrun:∀ b off (cur:Array Value) E,a.eval ad=.pointer (some ⟨b,off,none⟩)→w.heap[b]?=some (.cells cur E (0,0))→(a.eval x).cells.size=t.size→off+(a.eval x).cells.size≤cur.size→(∀ u∈(a.eval x).cells,u.oneCell'=true) →
   (execOp a.eval o).run P w=.ok .skip (w.setRow b (cur.toList.take off++(a.eval x).cells.toList++cur.toList.drop (off+(a.eval x).cells.size)).toArray):=by
  intro b off cur E he hh hs hf h1
  have hst:=run_storeCells_at P b off E (a.eval x).cells.toList 0 cur w hh (by simpa using hf) (fun v hv=>h1 v (by simpa using hv))
  simp only [Nat.add_zero,Array.length_toList] at hst
  simp [execOp,ho,he,Instr.storeAt,Instr.sureAddr,storeVar,sizeOf,typeInfo,ht,hs,hst]
 simp only [xexec] at h
 split at h
 ·rename_i id off hp
  split at h
  ·rename_i T' cs hb
   simp only [Option.some.injEq,Prod.mk.injEq] at h
   obtain ⟨rfl,rfl,rfl⟩:=h
   obtain ⟨hok,hlen,hfit⟩:=hob
   rw [hp] at h1
   obtain ⟨b,hm,hv,_⟩:=h1.inv_ptr
   obtain ⟨b',vs,hm',hB,hh,hsz,hcs⟩:=hS.boxAt hb
   rw [hm] at hm'
   simp only [Value.pointer.injEq,Option.some.injEq,Addr.mk.injEq,and_true] at hm'
   subst hm'
   obtain ⟨hC,hone⟩:=okCells_cells hS h2 hok
   have hcsz:(a.eval x).cells.size=t.size:=by rw [← hC.1];exact hlen
   have hr:=hrun b off vs T' hv hh hcsz (by rw [hcsz,hsz];exact hfit) hone
   have hlt:id<σ.length:=(List.getElem?_eq_some_iff.1 hb).1
   generalize hnew:(vs.toList.take off++(a.eval x).cells.toList++vs.toList.drop (off+(a.eval x).cells.size)).toArray=arr at hr
   have hup:=hS.update (w':=w.setRow b arr) (σ':=σ.set id (.box T' (cs.take off++cellsV (ev fr x')++cs.drop (off+t.size)))) (μ':=μ) id (some b)
    ⟨rfl,rfl,rfl,by simp,fun k _ hk=>setRow_other w b k _ (fun e=>hk (by simp [e]))⟩
    (fun b2 hb2=>⟨_,hb,by simp,by simp only [Option.some.injEq] at hb2;subst hb2;simp [hm,blk]⟩)
    (by simp) (fun j hj=>List.getElem?_set_ne (fun e=>hj e.symm)) (fun _ _=>rfl)
    (fun b2 hb2=>.inl ⟨_,hb,by simp,hb2⟩)
    (fun b2 off2 v2 o2 h3 _ h4 _ h5=>absurd ⟨id,o2,h3,h4,by rw [hb] at h3;simp only [Option.some.injEq] at h3;subst h3;trivial⟩ h5)
    (fun T2 cs2 h3=>by rw [hb] at h3;simp only [Option.some.injEq,Ob.box.injEq] at h3;obtain ⟨rfl,rfl⟩:=h3;exact ⟨⟨_,List.getElem?_set_self hlt⟩,rfl⟩)
    (fun K E es h3=>by rw [hb] at h3;simp at h3)
    (fun E sz by' g' sh xs _ h3=>by simp [hlt] at h3)
    (fun hp2 o2 h3=>by
     simp only [List.getElem?_set_self hlt,Option.some.injEq] at h3
     subst h3
     refine ⟨b,arr,hm,hB,setRow_heap w b vs arr T' (0,0) hh,?_,fun j y hy=>?_⟩
     ·rw [← hnew]
      simp only [List.size_toArray,List.length_append,List.length_take,List.length_drop,Array.length_toList]
      rw [hcsz,hsz,hlen]
     ·have hCb:CR w σ μ cs vs:=⟨hsz.symm,fun i z hz=>by
       obtain ⟨u,h4,h5⟩:=hcs i z hz
       rw [cell_of_heap hh] at h4
       simpa [Array.getD_eq_getD_getElem?,h4] using h5⟩
      have hfl:=hCb.fill hC off (by rw [hlen];exact hfit)
      rw [hlen] at hfl
      obtain ⟨e1,e2⟩:=hfl
      have hj:j<arr.size:=by
       rw [← hnew]
       have:=(List.getElem?_eq_some_iff.1 hy).1
       simp only [List.size_toArray,List.length_append,List.length_take,List.length_drop,Array.length_toList]
       simp only [List.length_append,List.length_take,List.length_drop] at this
       rw [hcsz,hsz];rw [hlen] at this;exact this
      refine ⟨arr[j],Array.getElem?_eq_getElem hj,?_⟩
      by_cases hj1:j<off
      ·rw [List.append_assoc,List.getElem?_append_left (by simp;omega),List.getElem?_take_of_lt hj1] at hy
       obtain ⟨u,h4,h5⟩:=hcs j y hy
       rw [cell_of_heap hh] at h4
       have:arr[j]=u:=by
        have h6:arr[j]?=some u:=by
         rw [← hnew]
         simp only [List.getElem?_toArray]
         rw [List.append_assoc,List.getElem?_append_left (by simp;omega),List.getElem?_take_of_lt hj1]
         simpa using h4
        rw [Array.getElem?_eq_getElem hj] at h6
        simpa using h6
       rw [this];exact h5.mono hp2
      ·by_cases hj2:j<off+t.size
       ·have hl1:(cs.take off).length=off:=by simp;omega
        rw [List.getElem?_append_left (by simp only [List.length_append,hl1,hlen];omega),List.getElem?_append_right (by omega),hl1] at hy
        have h5:=hC.2 _ y hy
        have hlt2:j - off<(a.eval x).cells.size:=by rw [hcsz];omega
        have:arr[j]=(a.eval x).cells.getD (j - off) undef:=by
         have h6:arr[j]?=some ((a.eval x).cells.getD (j - off) undef):=by
          rw [← hnew]
          simp only [List.getElem?_toArray]
          have hl2:(vs.toList.take off).length=off:=by simp;omega
          rw [List.getElem?_append_left (by simp only [List.length_append,hl2,Array.length_toList];omega),List.getElem?_append_right (by omega),hl2]
          simp [hlt2]
         rw [Array.getElem?_eq_getElem hj] at h6
         simpa using h6
        rw [this];exact h5.mono hp2
       ·have hl1:(cs.take off++cellsV (ev fr x')).length=off+t.size:=by rw [List.length_append,hlen];simp;omega
        rw [List.getElem?_append_right (by omega),hl1,List.getElem?_drop] at hy
        have e3:off+t.size+(j - (off+t.size))=j:=by omega
        rw [e3] at hy
        obtain ⟨u,h4,h5⟩:=hcs j y hy
        rw [cell_of_heap hh] at h4
        have:arr[j]=u:=by
         have h6:arr[j]?=some u:=by
          rw [← hnew]
          simp only [List.getElem?_toArray]
          have hl2:(vs.toList.take off++(a.eval x).cells.toList).length=off+t.size:=by simp [hcsz];omega
          rw [List.getElem?_append_right (by omega),hl2,List.getElem?_drop,hcsz,e3]
          simpa using h4
         rw [Array.getElem?_eq_getElem hj] at h6
         simpa using h6
        rw [this];exact h5.mono hp2)
   exact ⟨undef,_,μ,.inr ⟨hr,rfl⟩,hup.1,.u _,hup.2⟩
  ·simp at h
 ·rename_i id g i off hp
  split at h
  ·rename_i E sz by' g' sh xs hb
   split at h
   ·rename_i hg
    obtain ⟨rfl,rfl⟩:=hg
    simp only [Option.some.injEq,Prod.mk.injEq] at h
    obtain ⟨rfl,rfl,rfl⟩:=h
    obtain ⟨hok,hpure,hlen,hfit,hi⟩:=hob
    rw [hp] at h1
    obtain ⟨_,hv⟩:=h1.inv_rp hb
    obtain ⟨hTi,vals,⟨hvl,hw⟩,hrow,hrr⟩:=hS.obj id _ hb
    rcases hw with ⟨_,hn⟩ | ⟨b,cap,cur,hm,hB,hh,hnc,hcm,hcs,htake⟩
    ·omega
    ·have hv':a.eval ad=.pointer (some ⟨b,i*sz+off,none⟩):=by rw [hv,hm];rfl
     obtain ⟨hC0,hone⟩:=okCells_cells hS h2 hok
     have hC:=hC0.purifyL szs
     have hcsz:(a.eval x).cells.size=t.size:=by rw [← hC0.1];exact hlen
     have hplen:(purifyL szs (cellsV (ev fr x'))).length=t.size:=by rw [hC.1];exact hcsz
     have hle:(i+1)*sz≤xs.length*sz:=Nat.mul_le_mul_right _ hi
     have hle2:xs.length*sz≤cap*sz:=Nat.mul_le_mul_right _ hnc
     have hexp:(i+1)*sz=i*sz+sz:=by rw [Nat.add_mul,Nat.one_mul]
     have hr:=hrun b (i*sz+off) cur E hv' hh hcsz (by rw [hcsz,hcs];omega) hone
     have hlt:id<σ.length:=(List.getElem?_eq_some_iff.1 hb).1
     generalize hnew:(cur.toList.take (i*sz+off)++(a.eval x).cells.toList++cur.toList.drop (i*sz+off+(a.eval x).cells.size)).toArray=arr at hr
     have hxi:xs.getD i []=xs[i]:=by simp [hi]
     have hxil:xs[i].length=sz:=hrow _ (List.getElem_mem hi)
     have harr:∀ j,arr.toList[j]?=if i*sz+off≤j∧j<i*sz+off+t.size then (a.eval x).cells.toList[j - (i*sz+off)]? else cur.toList[j]?:=by
      intro j
      rw [← hnew]
      have:=splice_get cur.toList (a.eval x).cells.toList (i*sz+off) j (by rw [Array.length_toList,Array.length_toList,hcsz,hcs];omega)
      rw [Array.length_toList,hcsz] at this
      rw [hcsz];exact this
     have harrsz:arr.size=cur.size:=by
      rw [← hnew]
      simp only [List.size_toArray,List.length_append,List.length_take,List.length_drop,Array.length_toList]
      rw [hcsz,hcs];omega
     have hup:=hS.update (w':=w.setRow b arr) (σ':=σ.set id (.row E sz by' g false (xs.set i ((xs.getD i []).take off++purifyL szs (cellsV (ev fr x'))++(xs.getD i []).drop (off+t.size))))) (μ':=μ) id (some b)
      ⟨rfl,rfl,rfl,by simp,fun k _ hk=>setRow_other w b k _ (fun e=>hk (by simp [e]))⟩
      (fun b2 hb2=>⟨_,hb,by simp,by simp only [Option.some.injEq] at hb2;subst hb2;simp [hm,blk]⟩)
      (by simp) (fun j hj=>List.getElem?_set_ne (fun e=>hj e.symm)) (fun _ _=>rfl)
      (fun b2 hb2=>.inl ⟨_,hb,by simp,hb2⟩)
      (fun b2 off2 v2 o2 h3 _ h4 _ h5=>absurd ⟨id,o2,h3,h4,by rw [hb] at h3;simp only [Option.some.injEq] at h3;subst h3;intro hf;simp at hf⟩ h5)
      (fun T2 cs2 h3=>by rw [hb] at h3;simp at h3)
      (fun K E es h3=>by rw [hb] at h3;simp at h3)
      (fun E2 sz2 by2 g2 sh2 xs2 _ h3=>by
       simp only [List.getElem?_set_self hlt,Option.some.injEq,Ob.row.injEq] at h3
       obtain ⟨rfl,rfl,rfl,rfl,rfl,rfl⟩:=h3
       exact ⟨g,false,xs,hb,Nat.le_refl _,fun _=>⟨by simp,rfl⟩⟩)
      (fun hp2 o2 h3=>by
       simp only [List.getElem?_set_self hlt,Option.some.injEq] at h3
       subst h3
       refine ⟨hTi,arr.toList.take (xs.length*sz),⟨?_,.inr ⟨b,cap,arr,by simpa using hm,hB,setRow_heap w b cur arr E (0,0) hh,by simpa using hnc,hcm,by rw [harrsz,hcs],by simp⟩⟩,?_,?_⟩
       ·simp only [List.length_take,Array.length_toList,harrsz,hcs,List.length_set];omega
       ·intro r hr'
        rcases List.mem_or_eq_of_mem_set hr' with h5 | h5
        ·exact hrow r h5
        ·rw [h5,hxi];simp only [List.length_append,List.length_take,List.length_drop,hxil,hplen];omega
       ·intro i2 j2 y hy
        obtain ⟨r,h5,h6⟩:=at2_some hy
        have hi2:i2<xs.length:=by have:=(List.getElem?_eq_some_iff.1 h5).1;simpa using this
        by_cases hii:i2=i
        ·subst hii
         rw [List.getElem?_set_self hi] at h5
         simp only [Option.some.injEq] at h5
         subst h5
         rw [hxi] at h6
         have hsp:=splice_get xs[i2] (purifyL szs (cellsV (ev fr x'))) off j2 (by rw [hplen,hxil];exact hfit)
         rw [hplen] at hsp
         rw [hsp] at h6
         have hj2:j2<sz:=by
          have:=(List.getElem?_eq_some_iff.1 (hsp▸h6:_)).1
          simp only [List.length_append,List.length_take,List.length_drop,hxil,hplen] at this;omega
         have hidx:i2*sz+j2<xs.length*sz:=by omega
         by_cases hc:off≤j2∧j2<off+t.size
         ·rw [if_pos hc] at h6
          refine ⟨hpure y (List.mem_of_getElem? h6),(a.eval x).cells.getD (j2 - off) undef,?_,(hC.2 _ y h6).mono hp2⟩
          rw [List.getElem?_take_of_lt hidx,harr,if_pos (by omega)]
          have e1:i2*sz+j2 - (i2*sz+off)=j2 - off:=by omega
          have e2:j2 - off<(a.eval x).cells.size:=by rw [hcsz];omega
          rw [e1];simp [e2]
         ·rw [if_neg hc] at h6
          have hat:at2 xs i2 j2=some y:=by rw [at2_mk (List.getElem?_eq_getElem hi)];exact h6
          obtain ⟨hpu,u,h7,h8⟩:=hrr i2 j2 y hat
          refine ⟨hpu,u,?_,h8.mono hp2⟩
          rw [List.getElem?_take_of_lt hidx,harr,if_neg (by omega)]
          rw [← htake,List.getElem?_take_of_lt hidx] at h7
          exact h7
        ·rw [List.getElem?_set_ne (fun e=>hii e.symm)] at h5
         have hat:at2 xs i2 j2=some y:=by rw [at2_mk h5];exact h6
         obtain ⟨hpu,u,h7,h8⟩:=hrr i2 j2 y hat
         have hj2:j2<sz:=by
          rw [← hrow r (List.mem_of_getElem? h5)];exact (List.getElem?_eq_some_iff.1 h6).1
         have hidx:i2*sz+j2<xs.length*sz:=by
          have:(i2+1)*sz≤xs.length*sz:=Nat.mul_le_mul_right _ hi2
          rw [Nat.add_mul,Nat.one_mul] at this;omega
         refine ⟨hpu,u,?_,h8.mono hp2⟩
         rw [List.getElem?_take_of_lt hidx,harr,if_neg ?_]
         ·rw [← htake,List.getElem?_take_of_lt hidx] at h7
          exact h7
         ·rintro ⟨h9,h10⟩
          rcases Nat.lt_or_gt_of_ne hii with h11 | h11
          ·have:(i2+1)*sz≤i*sz:=Nat.mul_le_mul_right _ h11
           rw [Nat.add_mul,Nat.one_mul] at this;omega
          ·have:(i+1)*sz≤i2*sz:=Nat.mul_le_mul_right _ h11
           rw [Nat.add_mul,Nat.one_mul] at this;omega)
     exact ⟨undef,_,μ,.inr ⟨hr,rfl⟩,hup.1,.u _,hup.2⟩
   ·simp at h
  ·simp at h
 ·simp at h
end loud
theorem Sim.grow {P:Program} {B:Nat} {w0 w:World} {σ:Store} {μ:Mem} (hS:Sim P B w0 w σ μ) {id E sz by' g:Nat} {sh sh':Bool} {xs xs':List (List V)} (hb:σ[id]?=some (.row E sz by' g sh xs)) {w':World} {v':Value} {vals vals':List Value}
  (hg:w.grownBy w' (blk (μ id))) (hnew:∀ b,blk v'=some b→blk (μ id)=some b∨w.heap.size≤b)
  (hkeep:∀ b,blk (μ id)=some b→∀ j u,vals[j]?=some u→w'.cell? ⟨b,j,none⟩=some u) (hvl:vals.length=xs.length*sz∨sh=false) (hold:sh=true→∀ b,blk (μ id)=some b→∀ j u,w.cell? ⟨b,j,none⟩=some u→j<xs.length*sz→vals[j]?=some u)
  (hsh:sh=true→sh'=true∧xs.length≤xs'.length) (hown:w'.ownsRow B E sz v' xs'.length vals')
  (hrow:∀ σ' μ',Keep w σ μ w' σ' μ'→RowR w' σ' μ' xs' sz vals') :
  Sim P B w0 w' (σ.set id (.row E sz by' (g+1) sh' xs')) (upd μ id v')∧Pres w σ μ w' (σ.set id (.row E sz by' (g+1) sh' xs')) (upd μ id v'):=by
 have hlt:id<σ.length:=(List.getElem?_eq_some_iff.1 hb).1
 refine hS.update id (blk (μ id)) hg (fun b hb2=>⟨_,hb,by simp,hb2⟩) (by simp) (fun j hj=>List.getElem?_set_ne (fun e=>hj e.symm)) (fun j hj=>upd_other μ id v' j hj) ?_ ?_ ?_ ?_ ?_ ?_
 ·intro b hb2
  rw [upd_same] at hb2
  rcases hnew b hb2 with h | h
  ·exact .inl ⟨_,hb,by simp,h⟩
  ·exact .inr h
 ·intro b off u o h1 _ h2 h3 h4
  rw [hb] at h1
  simp only [Option.some.injEq] at h1
  subst h1
  have hw:¬ (sh=true→xs.length*sz≤off):=fun hw=>h4 ⟨id,_,hb,h2,hw⟩
  have hs:sh=true:=by
   cases sh with
   | true=>rfl
   | false=>exact absurd (fun h=>by simp at h) hw
  have ho:off<xs.length*sz:=Nat.lt_of_not_le fun h=>hw fun _=>h
  refine ⟨hkeep b h2 off u (hold hs b h2 off u h3 ho),fun o' h5 h6=>?_⟩
  simp only [List.getElem?_set_self hlt,Option.some.injEq] at h5
  subst h5
  intro hw'
  have h7:=hw' (hsh hs).1
  have h8:xs.length*sz≤xs'.length*sz:=Nat.mul_le_mul_right _ (hsh hs).2
  omega
 ·intro T cs h;rw [hb] at h;simp at h
 ·intro K E es h;rw [hb] at h;simp at h
 ·intro E2 sz2 by2 g2 sh2 xs2 _ h
  simp only [List.getElem?_set_self hlt,Option.some.injEq,Ob.row.injEq] at h
  obtain ⟨rfl,rfl,rfl,rfl,rfl,rfl⟩:=h
  exact ⟨g,sh,xs,hb,by omega,fun e=>by omega⟩
 ·intro hp o h
  simp only [List.getElem?_set_self hlt,Option.some.injEq] at h
  subst h
  rw [upd_same]
  exact ⟨(hS.obj id _ hb).1,vals',hown,hrow _ _ hp.keep⟩
theorem VR.ownNow {w:World} {σ:Store} {μ:Mem} {id E sz by' g:Nat} {sh:Bool} {xs:List (List V)} (h:σ[id]?=some (.row E sz by' g sh xs)):VR w σ μ (.own id g) (μ id) :=
 .own id g _ (List.getElem?_eq_some_iff.1 h).1 fun E2 sz2 by2 g2 sh2 xs2 h2=>by
  rw [h] at h2
  simp only [Option.some.injEq,Ob.row.injEq] at h2
  obtain ⟨rfl,rfl,rfl,rfl,rfl,rfl⟩:=h2
  exact ⟨Nat.le_refl _,fun _=>rfl⟩
section loud
variable {P:Program} {o:Oper} {a:Act} {B:Nat} {w0 w:World} {σ:Store} {μ:Mem} {fr:List V} (hS:Sim P B w0 w σ μ)
include hS
theorem d_appOb {T U E:TypeId} {t:TypeInfo} {z:Value} {x y:Operand} {xV:V} {ys:List (List V)} {news:List Value} (ho:o.op=.call { callee:=.builtin .append,args:=#[x,y],argTypes:=#[T,U] })
  (hT:P.underlying T=some (.slice E)) (ht:P.info? E=some t) (hz:t.zero=some z) (hsz:0<t.size) (hzs:z.cells.size=t.size) (hx:VR w σ μ xV (a.eval x)) (hsrc:Src P w U (a.eval y) t.size ys.length news) (hrr:RowR w σ μ ys t.size news)
  {ob:Prop} {r:V} {σ':Store} (h:appOb E t.size t.bytes σ xV ys=some (ob,r,σ')) (hob:ob):Does P o a B w0 w σ μ r σ':=by
 have hTi:Ti P E t.size t.bytes:=⟨hsz,t,z,ht,hz,rfl,rfl,hzs⟩
 have hexec:∀ v w',(Builtin.append_ #[T,U] o.type #[a.eval x,a.eval y]).run P w=.ok v w'→(execOp a.eval o).run P w=.ok (.value v) w':=by
  intro v w' hr
  simp only [execOp,ho,resolve,invoke,builtin,Sem.run_bind,Sem.run_pure,Result.andThen_ok,List.map_toArray,List.map_cons,List.map_nil,hr]
 unfold appOb at h
 split at h
 ·
  simp only [Option.some.injEq,Prod.mk.injEq] at h
  obtain ⟨rfl,rfl,rfl⟩:=h
  have hv:=hx.inv_nil
  obtain ⟨v',w',h1,h2,h3,h4,h5⟩:=run_app_own (ty:=o.type) hT ht hz hzs hsrc B (.slice none 0 0) 0 [] (World.ownsRow_nil w B E t.size) (by simpa using hob.2) (by simpa using hob.1) hS.base
  simp only [Nat.zero_add,List.nil_append] at h2
  have hn:=hS.newOb (w':=w') (.row E t.size t.bytes 0 false ys) v' h3 (fun b hb=>by
   rcases h4 b hb with h6 | h6
   ·simp [blk] at h6
   ·exact h6) (fun hp=>⟨hTi,news,h2,hrr.keep hp.keep⟩)
  refine ⟨v',w',_,.inl (hexec _ _ (by rw [hv];exact h1)),hn.1,?_,hn.2⟩
  have:=VR.ownNow (w:=w') (σ:=σ++[.row E t.size t.bytes 0 false ys]) (μ:=upd μ σ.length v') (id:=σ.length) (E:=E) (sz:=t.size) (by':=t.bytes) (g:=0) (sh:=false) (xs:=ys) (by simp)
  rwa [upd_same] at this
 ·
  rename_i sz' xs
  split at h
  ·rename_i hsz';subst hsz'
   simp only [Option.some.injEq,Prod.mk.injEq] at h
   obtain ⟨rfl,rfl,rfl⟩:=h
   by_cases hy:ys=[]
   ·subst hy
    simp only [List.isEmpty_nil,if_true]
    rcases hx.inv_lit with ⟨rfl,hv⟩ | ⟨b,off,f,hv,_⟩
    ·exact ⟨_,w,μ,.inl (hexec _ _ (by rw [hv];exact run_app_zero hT ht hsrc none 0 0 (Nat.le_refl _))),hS,hv▸hx,Pres.refl _ _ _⟩
    ·exact ⟨_,w,μ,.inl (hexec _ _ (by rw [hv];exact run_app_zero hT ht hsrc _ _ _ (Nat.le_refl _))),hS,hv▸hx,Pres.refl _ _ _⟩
   ·have hne:ys.isEmpty=false:=by cases ys<;>simp_all
    have hpos:0<ys.length:=List.length_pos_iff.2 hy
    simp only [hne,Bool.false_eq_true,if_false]
    have hsh:=rowsOf_ok hS hx (sz:=t.size) (xs:=xs) (by simp [rowsOf])
    have hold:∃ (ad:Option Addr) (olds:List Value),a.eval x=.slice ad xs.length xs.length∧olds.length=xs.length*t.size∧((ad=none∧xs.length=0)∨∃ b,ad=some b∧∀ j v,olds[j]?=some v→w.cell? (b.add j)=some v)∧RowR w σ μ xs t.size olds:=by
     rcases hx.inv_lit with ⟨rfl,hv⟩ | ⟨b,off,f,hv,hm,hr⟩
     ·exact ⟨none,[],hv,by simp,.inl ⟨rfl,rfl⟩,by simp,by simp [at2]⟩
     ·rw [hv] at hsh
      obtain ⟨vals,h1,h2,h3,h4⟩:=hsh.cells (fun i j y hy=>pure_cellOK (hr.2.1 i j y hy).2.2) hS
      exact ⟨_,vals,hv,h1,.inr ⟨_,rfl,h2⟩,h4⟩
    obtain ⟨ad,olds,hv,hol,hoo,hor⟩:=hold
    obtain ⟨v',w',h1,h2,h3,h4⟩:=run_app_lit (ty:=o.type) hT ht hz hzs hsrc B ad xs.length olds hol hoo hpos hob.2 hob.1 hS.base
    have hn:=hS.newOb (w':=w') (.row E t.size t.bytes 0 false (xs++ys)) v' h3 h4 (fun hp=>⟨hTi,olds++news,by rw [List.length_append];exact h2,(hor.append hrr hol).keep hp.keep⟩)
    refine ⟨v',w',_,.inl (hexec _ _ (by rw [hv];exact h1)),hn.1,?_,hn.2⟩
    have:=VR.ownNow (w:=w') (σ:=σ++[.row E t.size t.bytes 0 false (xs++ys)]) (μ:=upd μ σ.length v') (id:=σ.length) (E:=E) (sz:=t.size) (by':=t.bytes) (g:=0) (sh:=false) (xs:=xs++ys) (by simp)
    rwa [upd_same] at this
  ·simp at h
 ·
  rename_i id g
  split at h
  ·rename_i E' sz' by2 g' sh xs hb
   split at h
   ·rename_i hc
    obtain ⟨rfl,rfl,rfl,rfl⟩:=hc
    simp only [Option.some.injEq,Prod.mk.injEq] at h
    obtain ⟨rfl,rfl,rfl⟩:=h
    have hv:=hx.inv_own hb
    obtain ⟨_,vals,hown,hrow⟩:=hS.obj id _ hb
    obtain ⟨v',w',h1,h2,h3,h4,h5⟩:=run_app_own (ty:=o.type) hT ht hz hzs hsrc B (μ id) xs.length vals hown hob.2 hob.1 hS.base
    have hlt:id<σ.length:=(List.getElem?_eq_some_iff.1 hb).1
    have hn:=hS.grow hb (sh':=sh) (xs':=xs++ys) (v':=v') (vals:=vals) (vals':=vals++news) h3 h4 h5 (.inl hown.1) (fun _ b hb2 j u hc hj=>by
      have hjv:j<vals.length:=by rw [hown.1];exact hj
      have:=hown.cells (g:=b) (by
       have:(μ id).ownBlock=blk (μ id):=by
        rcases hown.2 with ⟨hm,_⟩ | ⟨g,cap,cur,hm,_⟩<;>rw [hm]<;>rfl
       rw [this];exact hb2) j vals[j] (List.getElem?_eq_getElem hjv)
      rw [Addr.add_lit,Nat.zero_add,hc] at this
      simp only [Option.some.injEq] at this
      rw [List.getElem?_eq_getElem hjv,this]) (fun h=>⟨h,by simp⟩) (by rw [List.length_append];exact h2) (fun σ' μ' k=>(hrow.append hrr hown.1).keep k)
    refine ⟨v',w',_,.inl (hexec _ _ (by rw [hv];exact h1)),hn.1,?_,hn.2⟩
    have:=VR.ownNow (w:=w') (σ:=σ.set id (.row E t.size t.bytes (g+1) sh (xs++ys))) (μ:=upd μ id v') (id:=id) (E:=E) (sz:=t.size) (by':=t.bytes) (g:=g+1) (sh:=sh) (xs:=xs++ys) (List.getElem?_set_self hlt)
    rwa [upd_same] at this
   ·simp at h
  ·simp at h
 ·
  rename_i id g lo hi
  split at h
  ·rename_i E' sz' by2 g' sh xs hb
   split at h
   ·rename_i hc
    obtain ⟨rfl,rfl,rfl,rfl,rfl,rfl⟩:=hc
    simp only [Option.some.injEq,Prod.mk.injEq] at h
    obtain ⟨rfl,rfl,rfl⟩:=h
    obtain ⟨_,_,hv⟩:=hx.inv_sub hb
    obtain ⟨_,vals,hown,hrow⟩:=hS.obj id _ hb
    obtain ⟨hhi,hb1,hb2⟩:=hob
    have hown':w.ownsRow B E t.size (a.eval x) hi (vals.take (hi*t.size))∧blk (a.eval x)=blk (μ id):=by
     have hle:hi*t.size≤xs.length*t.size:=Nat.mul_le_mul_right _ hhi
     rcases hown with ⟨hvl,⟨hm,hn⟩ | ⟨b,cap,cur,hm,h1,h2,h3,h4,h5,h6⟩⟩
     ·have h0:hi=0:=by omega
      subst h0
      rw [hv,hm]
      exact ⟨⟨by simp,.inl ⟨rfl,rfl⟩⟩,rfl⟩
     ·rw [hv,hm]
      have he:subv (.slice (some ⟨b,0,none⟩) xs.length cap) 0 hi t.size=.slice (some ⟨b,0,none⟩) hi cap:=by
       simp [subv,Addr.add_lit]
      rw [he]
      refine ⟨⟨by simp only [List.length_take,hvl];omega,.inr ⟨b,cap,cur,rfl,h1,h2,by omega,h4,h5,?_⟩⟩,rfl⟩
      rw [← h6,List.take_take,Nat.min_eq_left hle]
    have hrow':RowR w σ μ (xs.take hi) t.size (vals.take (hi*t.size)):=by
     refine ⟨fun r hr=>hrow.1 r (List.mem_of_mem_take hr),fun i j y hy=>?_⟩
     have hy':at2 (List.take (hi - 0) (List.drop 0 xs)) i j=some y:=by simpa using hy
     have h1:=at2_sub hy'
     rw [Nat.zero_add] at h1
     obtain ⟨hp,u,h2,h3⟩:=hrow.2 i j y h1
     refine ⟨hp,u,?_,h3⟩
     obtain ⟨r,h4,h5⟩:=at2_some hy
     have hi':i<hi:=by
      have:=(List.getElem?_eq_some_iff.1 h4).1;simp at this;omega
     have hj:j<t.size:=by
      rw [← hrow.1 r (List.mem_of_mem_take (List.mem_of_getElem? h4))];exact (List.getElem?_eq_some_iff.1 h5).1
     have:(i+1)*t.size≤hi*t.size:=Nat.mul_le_mul_right _ hi'
     rw [Nat.add_mul,Nat.one_mul] at this
     rw [List.getElem?_take_of_lt (by omega)];exact h2
    have hl':(xs.take hi).length=hi:=by simp;omega
    obtain ⟨v',w',h1,h2,h3,h4,h5⟩:=run_app_own (ty:=o.type) hT ht hz hzs hsrc B (a.eval x) hi _ hown'.1 hb2 hb1 hS.base
    rw [hown'.2] at h3
    have hlt:id<σ.length:=(List.getElem?_eq_some_iff.1 hb).1
    have hn:=hS.grow hb (sh':=false) (xs':=xs.take hi++ys) (v':=v') (vals:=vals.take (hi*t.size)) (vals':=vals.take (hi*t.size)++news) h3 (fun b hb=>by rw [← hown'.2];exact h4 b hb) (fun b hb=>h5 b (by rw [hown'.2];exact hb)) (.inr rfl) (fun h=>by simp at h) (fun h=>by simp at h) (by rw [List.length_append,hl'];exact h2) (fun σ' μ' k=>(hrow'.append hrr (by rw [hl'];exact hown'.1.1)).keep k)
    refine ⟨v',w',_,.inl (hexec _ _ h1),hn.1,?_,hn.2⟩
    have:=VR.ownNow (w:=w') (σ:=σ.set id (.row E t.size t.bytes (g+1) false (xs.take hi++ys))) (μ:=upd μ id v') (id:=id) (E:=E) (sz:=t.size) (by':=t.bytes) (g:=g+1) (sh:=false) (xs:=xs.take hi++ys) (List.getElem?_set_self hlt)
    rwa [upd_same] at this
   ·simp at h
  ·simp at h
 ·simp at h
variable (hF:FR w σ μ fr a)
include hF
theorem d_app {T E:TypeId} {t:TypeInfo} {z:Value} {x y:Operand} {x' y':O} (ho:o.op=.call { callee:=.builtin .append,args:=#[x,y],argTypes:=#[T,T] })
  (hT:P.underlying T=some (.slice E)) (ht:P.info? E=some t) (hz:t.zero=some z) (hsz:0<t.size) (hzs:z.cells.size=t.size) (hx:cO x=some x') (hy:cO y=some y')
  {ob:Prop} {r:V} {σ':Store} (h:xexec fr σ (.app E t.size t.bytes x' y')=some (ob,r,σ')) (hob:ob):Does P o a B w0 w σ μ r σ':=by
 simp only [xexec] at h
 split at h
 ·rename_i ys hys
  obtain ⟨news,h1,h2⟩:=(rowsOf_ok hS (cO_ok hF hy) hys).src hS hT
  exact d_appOb hS ho hT ht hz hsz hzs (cO_ok hF hx) h1 h2 h hob
 ·simp at h
theorem d_apps {T U E:TypeId} {t:TypeInfo} {z:Value} {x y:Operand} {x' y':O} (ho:o.op=.call { callee:=.builtin .append,args:=#[x,y],argTypes:=#[T,U] })
  (hT:P.underlying T=some (.slice E)) (hU:P.underlying U=some .string) (ht:P.info? E=some t) (hz:t.zero=some z) (hsz:t.size=1) (hby:t.bytes=1) (hzs:z.cells.size=t.size) (hx:cO x=some x') (hy:cO y=some y')
  {ob:Prop} {r:V} {σ':Store} (h:xexec fr σ (.apps E x' y')=some (ob,r,σ')) (hob:ob):Does P o a B w0 w σ μ r σ':=by
 simp only [xexec] at h
 split at h
 ·rename_i l hl
  obtain ⟨s,hs,rfl,_⟩:=(hl▸cO_ok hF hy).inv_s
  obtain ⟨h1,h2⟩:=src_string (P:=P) (w:=w) (σ:=σ) (μ:=μ) hU s
  refine d_appOb (news:=Lib.strCells s) hS ho hT ht hz (by omega) hzs (cO_ok hF hx) (by rw [hs,hsz];exact h1) (by rw [hsz];exact h2) (by rw [hsz,hby];exact h) hob
 ·simp at h
theorem d_mkmap {T K E:TypeId} (ho:o.op=.makeMap T none) {ob:Prop} {r:V} {σ':Store} (h:xexec fr σ (.mkmap K E)=some (ob,r,σ')):Does P o a B w0 w σ μ r σ':=by
 simp only [xexec,Option.some.injEq,Prod.mk.injEq] at h
 obtain ⟨_,rfl,rfl⟩:=h
 have hn:=hS.newOb (w':=w.alloc (.map #[] 0)) (.map K E []) (.map (some w.heap.size)) (World.grownBy_alloc w _ none) (by simp [blk]) (fun hp=>⟨w.heap.size,#[],0,rfl,hS.base,heap_alloc_new w _,by simp,by simp,by simp,by simp⟩)
 refine ⟨_,_,_,.inl (by simp [execOp,ho,Instr.makeMap];rfl),hn.1,?_,hn.2⟩
 exact .mp _ _ ⟨K,E,[],by simp⟩ (upd_same _ _ _)
end loud
end Go.Pm

/- A part of a proof; the claim's last text says of what. -/
import Derived.Lib.AppendStr
import Derived.Test.YtlakkaamfadipaaGreatDoorL9
set_option linter.all false

namespace Go.Pm
open Go Go.RowKit
structure Src (P:Program) (w:World) (U:TypeId) (x:Value) (size m:Nat) (news:List Value):Prop where
 ty:∃ d,P.underlying U=some d∧∀ k,d≠.int k
 len:∀ w':World,(Builtin.lenOf x).run P w'=.ok m w'
 first:(Builtin.firstCells size m x).run P w=.ok news.toArray w
 RN:(Builtin.firstCells size m x).run P w.drew=.ok news.toArray w.drew
 Er:news.length=m*size
 one:∀ u∈news,u.oneCell'=true
section
variable {P:Program} {w:World} {T U ty E:TypeId} {t:TypeInfo} {z:Value} {x:Value} {m:Nat} {news:List Value}
theorem ly(hT:P.underlying T=some (.slice E))(ht:P.info? E=some t)(hs:Src P w U x t.size 0 news)(a:Option Addr)(n cap:Nat)(hn:n≤cap):
  (Builtin.append_ #[T,U] ty #[.slice a n cap,x]).run P w=.ok (.slice a n cap) w:=by
 obtain⟨d,hd,hk⟩:=hs.ty;have KM:news=[]:=aD (by simpa using hs.Er);have hf:=hs.first;subst KM;cases a with
 | none=>simp[Builtin.append_,run_underlying hT,run_underlying hd,sizeOf,typeInfo,ht,hs.len,hn,hf]
 | some a=>simp[Builtin.append_,run_underlying hT,run_underlying hd,sizeOf,typeInfo,ht,hs.len,hn,hf,storeCells]
theorem zR(hT:P.underlying T=some (.slice E))(ht:P.info? E=some t)(hs:Src P w U x t.size m news)(g n cap:Nat)(cur:Array Value)(hg:w.heap[g]?=some (.cells cur E (0,0)))
  (rN:n+m≤cap) (qx:n*t.size+news.length≤cur.size) :
  (Builtin.append_ #[T,U] ty #[.slice (some ⟨g,0,none⟩) n cap,x]).run P w =
   .ok (.slice (some ⟨g,0,none⟩) (n+m) cap) (w.setRow g (cur.toList.take (n*t.size)++news++cur.toList.drop (n*t.size+news.length)).toArray):=by
 obtain⟨d,hd,hk⟩:=hs.ty;have hf:=hs.first;have pE:=run_storeCells_at P g (n*t.size) E news 0 cur w hg (by simpa using qx) hs.one;simp only[eA]at pE;simp[Builtin.append_,run_underlying hT,run_underlying hd,sizeOf,typeInfo,ht,hs.len,rN,hf,Addr.add_lit,pE]
theorem nJ(hT:P.underlying T=some (.slice E))(ht:P.info? E=some t)(hz:t.zero=some z)(hs:Src P w U x t.size m news)(a:Option Addr)(n cap:Nat)(olds:List Value)
  (nw:olds.length=n*t.size) (ho:(a=none∧n=0)∨∃ b,a=some b∧∀ j v,olds[j]?=some v→w.cell? (b.add j)=some v)
  (hg:cap<n+m) (PM:n+m≤maxLen) (qx:(n+m)*t.bytes≤140737488355328) :
  (Builtin.append_ #[T,U] ty #[.slice a n cap,x]).run P w =
   .ok (.slice (some ⟨w.heap.size,0,none⟩) (n+m) (grownCap w (n+m) cap E))
    (w.drew.alloc (.cells (olds.toArray++news.toArray++Builtin.zeroCells z.cells (grownCap w (n+m) cap E - (n+m))) E)):=by
 obtain⟨d,hd,hk⟩:=hs.ty;have hf:=hs.RN;have hn:¬ (n+m≤cap):=by omega
 have h63':¬ (9223372036854775807<((n:Int)+(m:Int))):=by unfold maxLen at PM;omega
 have h48:=growslice_fits hg qx;have h48':¬ (281474976710656<Builtin.nextslicecap (n+m) cap*t.bytes):=by omega
 have hfo:(Builtin.firstCells t.size n (.slice a n cap)).run P w.drew=.ok olds.toArray w.drew:=by
  rcases ho with⟨rfl,rfl⟩ | ⟨b,rfl,hb⟩
  ·have:olds=[]:=aD (by simpa using nw);subst this;simp[Builtin.firstCells]
  ·exact run_firstCells_some (P:=P) w.drew t.size n b n cap olds nw (by simpa using hb)
 simp[Builtin.append_,run_underlying hT,run_underlying hd,sizeOf,typeInfo,zeroValue,ht,hz,hs.len,hn,h63',h48',Question.forced,hf,hfo,newRow,grownCap];congr 2;apply Array.ext';simp[aM]
theorem oM(hT:P.underlying T=some (.slice E))(ht:P.info? E=some t)(hz:t.zero=some z)(lh:z.cells.size=t.size)(hs:Src P w U x t.size m news)(B:Nat)(v:Value)(n:Nat)(vals:List Value)
  (eu:w.ownsRow B E t.size v n vals) (PM:n+m≤maxLen) (qx:(n+m)*t.bytes≤140737488355328) (hB:B≤w.heap.size) :
  ∃ v' w',(Builtin.append_ #[T,U] ty #[v,x]).run P w=.ok v' w'∧w'.ownsRow B E t.size v' (n+m) (vals++news)∧w.grownBy w' (fR v) ∧
   (∀ b,fR v'=some b→fR v=some b∨w.heap.size≤b)∧(∀ b,fR v=some b→∀ j u,vals[j]?=some u→w'.cell? ⟨b,j,none⟩=some u):=by
 have hlen:(vals++news).length=(n+m)*t.size:=by rw[al,eu.1,hs.Er,bO]
 have grown:∀ (old:Nat),old<n+m→∀ (row:Option Nat),
   (w.drew.alloc (.cells (vals.toArray++news.toArray++Builtin.zeroCells z.cells (grownCap w (n+m) old E - (n+m))) E)).ownsRow B E t.size
    (.slice (some ⟨w.heap.size,0,none⟩) (n+m) (grownCap w (n+m) old E)) (n+m) (vals++news) ∧
   w.grownBy (w.drew.alloc (.cells (vals.toArray++news.toArray++Builtin.zeroCells z.cells (grownCap w (n+m) old E - (n+m))) E)) row:=by
  intro old ho row;have I4:=grownCap_ge w (n+m) old E;have wI:grownCap w (n+m) old E≤maxLen:=grownCap_le_maxLen w (n+m) old E PM;refine⟨⟨hlen,.inr ⟨w.heap.size,_,_,rfl,hB,heap_alloc_new w.drew _,I4,wI,?_,?_⟩⟩,⟨rfl,rfl,rfl,by simp,fun k hk _=>heap_alloc_old w.drew _ k hk⟩⟩
  ·simp only[jW,de,size_zeroCells,lh,eu.1,hs.Er,← Nat.add_mul];congr 1;omega
  ·simp only[DC,aM];rw[← List.append_assoc,← hlen];exact Bh
 by_cases hm:m=0
 ·subst hm;have KM:news=[]:=aD (by simpa using hs.Er);subst KM
  have hr:(Builtin.append_ #[T,U] ty #[v,x]).run P w=.ok v w:=by
   rcases eu.2 with⟨rfl,rfl⟩ | ⟨g,cap,cur,rfl,_,_,CQ,_⟩
   ·exact ly hT ht hs none 0 0 (aq _)
   ·exact ly hT ht hs _ n cap CQ
  refine⟨v,w,hr,by simpa using eu,grownBy_refl w _,fun b hb=>.inl hb,fun b hb j u hj=>?_⟩;rcases eu.2 with⟨rfl,rfl⟩ | ⟨g,cap,cur,rfl,_⟩
  ·simp[fR]at hb
  ·simp only[fR,aa]at hb;subst hb;have:=eu.cells (g:=g) rfl j u hj
   rwa [Addr.add_lit,bj]at this
 ·rcases eu.2 with⟨rfl,rfl⟩ | ⟨g,cap,cur,rfl,hbg,hg,CQ,wI,kN,wE⟩
  ·have hx:vals=[]:=aD (by simpa using eu.1);subst hx;have hr:=nJ (ty:=ty) hT ht hz hs none 0 0 [] (by simp) (.inl ⟨rfl,rfl⟩) (by omega) PM qx;have Vi:=grown 0 (by omega) (fR (.slice none 0 0));refine⟨_,_,hr,Vi.1,Vi.2,fun b hb=>?_,fun b hb=>?_⟩
   ·simp only[fR,aa]at hb;exact .inr (by omega)
   ·simp[fR]at hb
  ·have holds:∀ j u,vals[j]?=some u→w.cell? ((⟨g,0,none⟩:Addr).add j)=some u:=eu.cells (g:=g) rfl
   by_cases rN:n+m≤cap
   ·have hfit':n*t.size+news.length≤cur.size:=by rw[hs.Er,kN,← Nat.add_mul];exact aY _ rN
    have hr:=zR (ty:=ty) hT ht hs g n cap cur hg rN hfit';refine⟨_,_,hr,⟨hlen,.inr ⟨g,cap,_,rfl,hbg,setRow_heap w g cur _ E _ hg,rN,wI,?_,?_⟩⟩,⟨rfl,rfl,rfl,by simp,fun k _ hk=>setRow_other w g k _ (fun e=>hk (by simp[fR,e]))⟩,fun b hb=>.inl hb,fun b hb j u hj=>?_⟩
    ·simp only[de,al,ba,bJ,aF];omega
    ·rw[wE,← hlen];exact Bh
    ·simp only[fR,aa]at hb;subst hb;rw[cell_setRow_same w g j cur _ E _ hg];have jr:j<vals.length:=(ab.1 hj).1;rw[wE];simp only[jT];rw[aM,ag jr,hj]
   ·have hr:=nJ (ty:=ty) hT ht hz hs (some ⟨g,0,none⟩) n cap vals eu.1 (.inr ⟨_,rfl,holds⟩) (by omega) PM qx;have Vi:=grown cap (by omega) (fR (.slice (some ⟨g,0,none⟩) n cap));refine⟨_,_,hr,Vi.1,Vi.2,fun b hb=>?_,fun b hb j u hj=>?_⟩
    ·simp only[fR,aa]at hb;exact .inr (by omega)
    ·simp only[fR,aa]at hb;subst hb;have h1:=holds j u hj;rw[Addr.add_lit,bj]at h1;have cM:=World.block_lt_of_cell? w _ h1
     have:(w.drew.alloc (.cells (vals.toArray++news.toArray++Builtin.zeroCells z.cells (grownCap w (n+m) cap E - (n+m))) E)).cell? ⟨g,j,none⟩=w.drew.cell? ⟨g,j,none⟩ :=
      World.cell?_alloc_lt w.drew _ _ cM
     rw[this,World.cell?_drew];exact h1
theorem BT(hT:P.underlying T=some (.slice E))(ht:P.info? E=some t)(hz:t.zero=some z)(lh:z.cells.size=t.size)(hs:Src P w U x t.size m news)(B:Nat)(a:Option Addr)(n:Nat)(olds:List Value)
  (nw:olds.length=n*t.size) (ho:(a=none∧n=0)∨∃ b,a=some b∧∀ j v,olds[j]?=some v→w.cell? (b.add j)=some v) (hm:0<m) (PM:n+m≤maxLen) (qx:(n+m)*t.bytes≤140737488355328) (hB:B≤w.heap.size) :
  ∃ v' w',(Builtin.append_ #[T,U] ty #[.slice a n n,x]).run P w=.ok v' w'∧w'.ownsRow B E t.size v' (n+m) (olds++news)∧w.grownBy w' none∧(∀ b,fR v'=some b→w.heap.size≤b):=by
 have hlen:(olds++news).length=(n+m)*t.size:=by rw[al,nw,hs.Er,bO]
 have hr:=nJ (ty:=ty) hT ht hz hs a n n olds nw ho (by omega) PM qx;have I4:=grownCap_ge w (n+m) n E;have wI:grownCap w (n+m) n E≤maxLen:=grownCap_le_maxLen w (n+m) n E PM;refine⟨_,_,hr,⟨hlen,.inr ⟨w.heap.size,_,_,rfl,hB,heap_alloc_new w.drew _,I4,wI,?_,?_⟩⟩,⟨rfl,rfl,rfl,by simp,fun k hk _=>heap_alloc_old w.drew _ k hk⟩,fun b hb=>?_⟩
 ·simp only[jW,de,size_zeroCells,lh,nw,hs.Er,← Nat.add_mul];congr 1;omega
 ·simp only[DC,aM];rw[← List.append_assoc,← hlen];exact Bh
 ·simp only[fR,aa]at hb;omega
end
theorem zD.src{P:Program}{B:Nat}{w0 w:World}{J:ae}{μ:Mem}(hS:fe P B w0 w J μ){T E:TypeId}(hT:P.underlying T=some (.slice E)){xs:List (List V)}{sz:Nat}{v:Value}(h:zD w J μ xs sz v):
  ∃ news,Src P w T v sz xs.length news∧gR w J μ xs sz news:=by
 have XT:∃ d,P.underlying T=some d∧∀ k,d≠.int k:=⟨_,hT,fun k=>by simp⟩;rcases h.here with⟨rfl,a0,rfl⟩ | ⟨b,off,cap,rfl,hr⟩
 ·cases a0 with
  | none=>exact⟨[],⟨XT,fun _=>by simp[Builtin.lenOf],by simp[Builtin.firstCells],by simp[Builtin.firstCells],by simp,by simp⟩,by simp,by simp[eV]⟩
  | some a0=>exact⟨[],⟨XT,fun _=>by simp[Builtin.lenOf],run_firstCells_some w sz _ a0 _ _ [] (by simp) (by simp),run_firstCells_some w.drew sz _ a0 _ _ [] (by simp) (by simp),by simp,by simp⟩,by simp,by simp[eV]⟩
 ·obtain⟨vals,h1,h2,h3,h4⟩:=h.cells (fun i j x hx=>mu (hr i j x hx).1) hS;exact⟨vals,⟨XT,fun _=>by simp[Builtin.lenOf],run_firstCells_some w sz _ _ _ _ vals h1 h2,run_firstCells_some w.drew sz _ _ _ _ vals h1 (by simpa using h2),h1,h3⟩,h4⟩
theorem D3{P:Program}{w:World}{J:ae}{μ:Mem}{U:TypeId}(hU:P.underlying U=some .string)(s:ByteArray):
  Src P w U (.string s) 1 (cN s.data.toList).length (Lib.strCells s)∧gR w J μ (cN s.data.toList) 1 (Lib.strCells s):=by
 have hl:(cN s.data.toList).length=s.size:=by rw[bsize];simp[cN]
 refine⟨⟨⟨_,hU,fun k=>by simp⟩,fun _=>?_,?_,?_,?_,Lib.strCells_oneCell s⟩,?_,?_⟩
 ·rw[hl];simp[Builtin.lenOf]
 ·rw[hl];exact Lib.run_firstCells_string w 1 s
 ·rw[hl];exact Lib.run_firstCells_string w.drew 1 s
 ·rw[hl,Lib.strCells_length];simp
 ·intro r hr;simp only[cN,aT]at hr;obtain⟨c,_,rfl⟩:=hr;rfl
 ·intro i j x hx;obtain⟨r,h1,h2⟩:=eP hx;simp only[cN,aW,ah]at h1;obtain⟨c,hc,rfl⟩:=h1;cases j with
  | zero =>
   simp only[au,aa]at h2;subst h2;refine⟨rfl,.int .u8 c.toNat,?_,.i _ _⟩;simp[Lib.strCells,hc]
  | succ j=>simp at h2
theorem gR.append{w:World}{J:ae}{μ:Mem}{xs ys:List (List V)}{sz:Nat}{us vs:List Value}(h:gR w J μ xs sz us)(k:gR w J μ ys sz vs)(hl:us.length=xs.length*sz):gR w J μ (xs++ys) sz (us++vs):=by
 refine⟨fun r hr=>?_,fun i j x hx=>?_⟩
 ·rcases bQ.1 hr with hr | hr
  ·exact h.1 r hr
  ·exact k.1 r hr
 ·obtain⟨r,h1,h2⟩:=eP hx
  by_cases hi:i<xs.length
  ·rw[ag hi]at h1;have hx':eV xs i j=some x:=by rw[l8 h1];exact h2
   obtain⟨hp,v,hv,hr⟩:=h.2 i j x hx';exact⟨hp,v,by rw[ag (ab.1 hv).1];exact hv,hr⟩
  ·rw[aw (by omega)]at h1;have hx':eV ys (i - xs.length) j=some x:=by rw[l8 h1];exact h2
   obtain⟨hp,v,hv,hr⟩:=k.2 _ j x hx';refine⟨hp,v,?_,hr⟩
   have e:i*sz+j=us.length+((i - xs.length)*sz+j):=by
    rw[hl];have:i*sz=xs.length*sz+(i - xs.length)*sz:=by rw[← Nat.add_mul];congr 1;omega
    omega
   rw[e,aw (by omega)];simpa using hv
def nZ(P:Program)(o:Oper)(a:Act)(B:Nat)(w0 w:World)(J:ae)(μ:Mem)(x:V)(J':ae):Prop :=
 ∃ v w' μ',((execOp a.eval o).run P w=.ok (.value v) w'∨((execOp a.eval o).run P w=.ok .skip w'∧x=.u))∧fe P B w0 w' J' μ'∧VR w' J' μ' x v∧ky w J μ w' J' μ'
theorem ky.trans{w:World}{J:ae}{μ:Mem}{w':World}{J':ae}{μ':Mem}{w'':World}{J'':ae}{μ'':Mem}(p:ky w J μ w' J' μ')(q:ky w' J' μ' w'' J'' μ''):ky w J μ w'' J'' μ'':=by
 refine⟨fun b o v h1 h2=>?_,bl p.len q.len,fun id T cs h=>?_,fun id K E es h=>?_,fun id st m E n ps c h=>?_,fun id E sz by' g' sh xs hl h=>?_⟩
 ·obtain⟨h3,h4⟩:=p.cell b o v h1 h2;exact q.cell b o v h3 h4
 ·obtain⟨⟨cs',h1⟩,h2⟩:=p.box id T cs h;obtain⟨h3,h4⟩:=q.box id T cs' h1;exact⟨h3,h4.trans h2⟩
 ·obtain⟨⟨E',es',h1⟩,h2⟩:=p.map id K E es h;obtain⟨h3,h4⟩:=q.map id K E' es' h1;exact⟨h3,h4.trans h2⟩
 ·obtain⟨⟨ps',c',h1⟩,h2⟩:=p.XG id st m E n ps c h;obtain⟨h3,h4⟩:=q.XG id st m E n ps' c' h1;exact⟨h3,h4.trans h2⟩
 ·obtain⟨g1,sh1,xs1,h1,h2,h3⟩:=q.row id E sz by' g' sh xs (cu hl p.len) h;obtain⟨g0,sh0,xs0,h4,h5,h6⟩:=p.row id E sz by' g1 sh1 xs1 hl h1;refine⟨g0,sh0,xs0,h4,bl h5 h2,fun e=>?_⟩;have e1:g1=g':=by omega
  have e0:g0=g1:=by omega
  exact⟨(h6 e0).1.trans (h3 e1).1,(h3 e1).2.trans (h6 e0).2⟩
theorem AB{P:Program}{B:Nat}{w0 w:World}{J:ae}{μ:Mem}(hS:fe P B w0 w J μ)(T:Nat)(cs:List V)(vs:Array Value)(h:CR w J μ cs vs):
  ∃ μ',fe P B w0 (w.alloc (.cells vs T)) (J++[.box T cs]) μ'∧VR (w.alloc (.cells vs T)) (J++[.box T cs]) μ' (.ptr J.length 0) (.pointer (some ⟨w.heap.size,0,none⟩))∧ky w J μ (w.alloc (.cells vs T)) (J++[.box T cs]) μ':=by
 have hn:=hS.ov (w':=w.alloc (.cells vs T)) (.box T cs) (.pointer (some ⟨w.heap.size,0,none⟩)) (World.grownBy_alloc w _ none) (by simp[fR]) (fun hp=>by
  refine⟨w.heap.size,vs,rfl,hS.base,heap_alloc_new w _,h.1.symm,fun j x hx=>?_⟩;have hj:j<vs.size:=by rw[← h.1];exact(ab.1 hx).1
  exact⟨vs[j],aS hj,by have:=(h.2 j x hx).mono hp;simpa[hj]using this⟩)
 exact⟨_,hn.1,.ptr _ 0 _ ⟨T,cs,by simp⟩ (cX _ _ _),hn.2⟩
theorem nF{α:Type}(l ys:List α)(off j:Nat)(h:off+ys.length≤l.length):(l.take off++ys++l.drop (off+ys.length))[j]?=if off≤j∧j<off+ys.length then ys[j - off]? else l[j]?:=by
 have KR:(l.take off).length=off:=by simp;omega
 by_cases h1:j<off
 ·rw[aC (by omega),aM,ag (by omega),aU h1]
 ·by_cases h2:j<off+ys.length
  ·rw[aQ (by omega),ag (by rw[al,KR];omega),aw (by omega),KR]
  ·have EF:(l.take off++ys).length=off+ys.length:=by rw[al,KR]
   rw[aC (by omega),aw (by omega),EF,cv];congr 1;omega
section Cp
variable {P:Program} {o:Oper} {a:Act} {B:Nat} {w0 w:World} {J:ae} {μ:Mem} {fr:List V} (hF:FR w J μ fr a) (hS:fe P B w0 w J μ)
include hF hS
theorem VS{T:TypeId}{x:Operand}{x':O}(ho:o.op=.box T x)(hx:cO x=some x'){ob:Prop}{y:V}{J':ae}(h:bC fr J (.box T x')=some (ob,y,J'))(cK:ob):nZ P o a B w0 w J μ y J':=by
 simp only[bC,aa,ao]at h;obtain⟨rfl,rfl,rfl⟩:=h;have hc:=iZ hS (cn hF hx) cK;obtain⟨μ',h1,h2,h3⟩:=AB hS T _ _ hc.1;exact⟨_,_,μ',.inl (by simp[execOp,ho,Instr.box,newVar,newRow]),h1,h2,h3⟩
theorem OP{T:TypeId}{t:TypeInfo}{z:Value}{zs:List V}(ho:o.op=.alloc T)(ht:P.info? T=some t)(hz:t.zero=some z)(lh:fY z.cells.toList=some zs){ob:Prop}{y:V}{J':ae}(h:bC fr J (.alloc T zs)=some (ob,y,J')):nZ P o a B w0 w J μ y J':=by
 simp only[bC,aa,ao]at h;obtain⟨_,rfl,rfl⟩:=h;obtain⟨μ',h1,h2,h3⟩:=AB hS T _ _ (js (w:=w) (J:=J) (μ:=μ) lh);exact⟨_,_,μ',.inl (by simp[execOp,ho,Instr.alloc,zeroValue,typeInfo,ht,hz,newVar,newRow]),h1,h2,h3⟩
theorem OM{T:TypeId}{t:TypeInfo}{ad x:Operand}{ad' x':O}{szs:List (Option Nat)}(ho:o.op=.store T ad x)(ht:P.info? T=some t)(ha:cO ad=some ad')(hx:cO x=some x'){ob:Prop}{y:V}{J':ae}(h:bC fr J (.store t.size szs ad' x')=some (ob,y,J'))(cK:ob):nZ P o a B w0 w J μ y J':=by
 have h1:=cn hF ha;have h2:=cn hF hx
 have cx:∀ b off (cur:Array Value) E,a.eval ad=.pointer (some ⟨b,off,none⟩)→w.heap[b]?=some (.cells cur E (0,0))→(a.eval x).cells.size=t.size→off+(a.eval x).cells.size≤cur.size→(∀ u∈(a.eval x).cells,u.oneCell'=true) →
   (execOp a.eval o).run P w=.ok .skip (w.setRow b (cur.toList.take off++(a.eval x).cells.toList++cur.toList.drop (off+(a.eval x).cells.size)).toArray):=by
  intro b off cur E he hh hs hf h1;have pE:=run_storeCells_at P b off E (a.eval x).cells.toList 0 cur w hh (by simpa using hf) (fun v hv=>h1 v (by simpa using hv));simp only[eA,aF]at pE;simp[execOp,ho,he,Instr.storeAt,Instr.sureAddr,storeVar,sizeOf,typeInfo,ht,hs,pE]
 simp only[bC]at h;split at h
 ·rename_i id off hp;split at h
  ·rename_i T' cs hb;simp only[aa,ao]at h;obtain⟨rfl,rfl,rfl⟩:=h;obtain⟨fQ,hlen,qx⟩:=cK;rw[hp]at h1;obtain⟨b,hm,hv,_⟩:=h1.mG;obtain⟨b',vs,hm',hB,hh,eI,kN⟩:=hS.GH hb;rw[hm]at hm';simp only[Value.pointer.injEq,aa,Addr.mk.injEq,kD]at hm';subst hm';obtain⟨hC,KI⟩:=iZ hS h2 fQ;have pQ:(a.eval x).cells.size=t.size:=by rw[← hC.1];exact hlen
   have hr:=cx b off vs T' hv hh pQ (by rw[pQ,eI];exact qx) KI;have cM:id<J.length:=(ab.1 hb).1;generalize ik:(vs.toList.take off++(a.eval x).cells.toList++vs.toList.drop (off+(a.eval x).cells.size)).toArray=arr at hr
   have mh:=hS.update (w':=w.setRow b arr) (J':=J.set id (.box T' (cs.take off++dL (ev fr x')++cs.drop (off+t.size)))) (μ':=μ) id (some b)
    ⟨rfl,rfl,rfl,by simp,fun k _ hk=>setRow_other w b k _ (fun e=>hk (by simp[e]))⟩
    (fun b2 iX=>⟨_,hb,by simp,by simp only[aa]at iX;subst iX;simp[hm,fR]⟩)
    (by simp) (fun j hj=>ay (fun e=>hj e.symm)) (fun _ _=>rfl)
    (fun b2 iX=>.inl ⟨_,hb,by simp,iX⟩)
    (fun b2 off2 v2 o2 h3 _ h4 _ h5=>absurd ⟨id,o2,h3,h4,by rw[hb]at h3;simp only[aa]at h3;subst h3;trivial⟩ h5)
    (fun T2 cs2 h3=>by rw[hb]at h3;simp only[aa,Ob.box.injEq]at h3;obtain⟨rfl,rfl⟩:=h3;exact⟨⟨_,ak cM⟩,rfl⟩)
    (fun K E es h3=>by rw[hb]at h3;simp at h3)
    (fun E sz by' g' sh xs _ h3=>by simp[cM]at h3)
    (fun uC o2 h3=>by
     simp only[ak cM,aa]at h3;subst h3;refine⟨b,arr,hm,hB,setRow_heap w b vs arr T' (0,0) hh,?_,fun j y hy=>?_⟩
     ·rw[← ik];simp only[de,al,ba,bJ,aF];rw[pQ,eI,hlen]
     ·have hCb:CR w J μ cs vs:=⟨eI.symm,fun i z hz=>by
       obtain⟨u,h4,h5⟩:=kN i z hz;rw[jO hh]at h4;simpa[aZ,h4]using h5⟩
      have si:=hCb.fill hC off (by rw[hlen];exact qx);rw[hlen]at si;obtain⟨e1,e2⟩:=si
      have hj:j<arr.size:=by
       rw[← ik];have:=(ab.1 hy).1;simp only[de,al,ba,bJ,aF];simp only[al,ba,bJ]at this;rw[pQ,eI];rw[hlen]at this;exact this
      refine⟨arr[j],aS hj,?_⟩
      by_cases Yu:j<off
      ·rw[aM,ag (by simp;omega),aU Yu]at hy;obtain⟨u,h4,h5⟩:=kN j y hy;rw[jO hh]at h4
       have:arr[j]=u:=by
        have h6:arr[j]?=some u:=by
         rw[← ik];simp only[jT];rw[aM,ag (by simp;omega),aU Yu];simpa using h4
        rw[aS hj]at h6;simpa using h6
       rw[this];exact h5.mono uC
      ·by_cases Ss:j<off+t.size
       ·have KR:(cs.take off).length=off:=by simp;omega
        rw[ag (by simp only[al,KR,hlen];omega),aw (by omega),KR]at hy;have h5:=hC.2 _ y hy;have s9:j - off<(a.eval x).cells.size:=by rw[pQ];omega
        have:arr[j]=(a.eval x).cells.getD (j - off) undef:=by
         have h6:arr[j]?=some ((a.eval x).cells.getD (j - off) undef):=by
          rw[← ik];simp only[jT];have EF:(vs.toList.take off).length=off:=by simp;omega
          rw[ag (by simp only[al,EF,aF];omega),aw (by omega),EF];simp[s9]
         rw[aS hj]at h6;simpa using h6
        rw[this];exact h5.mono uC
       ·have KR:(cs.take off++dL (ev fr x')).length=off+t.size:=by rw[al,hlen];simp;omega
        rw[aw (by omega),KR,cv]at hy;have e3:off+t.size+(j - (off+t.size))=j:=by omega
        rw[e3]at hy;obtain⟨u,h4,h5⟩:=kN j y hy;rw[jO hh]at h4
        have:arr[j]=u:=by
         have h6:arr[j]?=some u:=by
          rw[← ik];simp only[jT];have EF:(vs.toList.take off++(a.eval x).cells.toList).length=off+t.size:=by simp[pQ];omega
          rw[aw (by omega),EF,cv,pQ,e3];simpa using h4
         rw[aS hj]at h6;simpa using h6
        rw[this];exact h5.mono uC)
   exact⟨undef,_,μ,.inr ⟨hr,rfl⟩,mh.1,.u _,mh.2⟩
  ·simp at h
 ·rename_i id g i off hp;split at h
  ·rename_i E sz by' g' sh xs hb;split at h
   ·rename_i hg;obtain⟨rfl,rfl⟩:=hg;simp only[aa,ao]at h;obtain⟨rfl,rfl,rfl⟩:=h;obtain⟨fQ,KF,hlen,qx,hi⟩:=cK;rw[hp]at h1;obtain⟨_,hv⟩:=h1.AM hb;obtain⟨Gq,vals,⟨I0,hw⟩,bT,KC⟩:=hS.obj id _ hb;rcases hw with⟨_,hn⟩ | ⟨b,cap,cur,hm,hB,hh,CQ,wI,kN,wE⟩
    ·omega
    ·have hv':a.eval ad=.pointer (some ⟨b,i*sz+off,none⟩):=by rw[hv,hm];rfl
     obtain⟨Gs,KI⟩:=iZ hS h2 fQ;have hC:=Gs.bW szs;have pQ:(a.eval x).cells.size=t.size:=by rw[← Gs.1];exact hlen
     have Gj:(bW szs (dL (ev fr x'))).length=t.size:=by rw[hC.1];exact pQ
     have hle:(i+1)*sz≤xs.length*sz:=aY _ hi;have Ys:xs.length*sz≤cap*sz:=aY _ CQ;have acD:(i+1)*sz=i*sz+sz:=by rw[bO,eG]
     have hr:=cx b (i*sz+off) cur E hv' hh pQ (by rw[pQ,kN];omega) KI;have cM:id<J.length:=(ab.1 hb).1;generalize ik:(cur.toList.take (i*sz+off)++(a.eval x).cells.toList++cur.toList.drop (i*sz+off+(a.eval x).cells.size)).toArray=arr at hr;have Gf:xs.getD i []=xs[i]:=by simp[hi]
     have QO:xs[i].length=sz:=bT _ (cg hi)
     have qy:∀ j,arr.toList[j]?=if i*sz+off≤j∧j<i*sz+off+t.size then(a.eval x).cells.toList[j - (i*sz+off)]? else cur.toList[j]?:=by
      intro j;rw[← ik];have:=nF cur.toList (a.eval x).cells.toList (i*sz+off) j (by rw[aF,aF,pQ,kN];omega);rw[aF,pQ]at this;rw[pQ];exact this
     have wN:arr.size=cur.size:=by
      rw[← ik];simp only[de,al,ba,bJ,aF];rw[pQ,kN];omega
     have mh:=hS.update (w':=w.setRow b arr) (J':=J.set id (.row E sz by' g false (xs.set i ((xs.getD i []).take off++bW szs (dL (ev fr x'))++(xs.getD i []).drop (off+t.size))))) (μ':=μ) id (some b)
      ⟨rfl,rfl,rfl,by simp,fun k _ hk=>setRow_other w b k _ (fun e=>hk (by simp[e]))⟩
      (fun b2 iX=>⟨_,hb,by simp,by simp only[aa]at iX;subst iX;simp[hm,fR]⟩)
      (by simp) (fun j hj=>ay (fun e=>hj e.symm)) (fun _ _=>rfl)
      (fun b2 iX=>.inl ⟨_,hb,by simp,iX⟩)
      (fun b2 off2 v2 o2 h3 _ h4 _ h5=>absurd ⟨id,o2,h3,h4,by rw[hb]at h3;simp only[aa]at h3;subst h3;intro hf;simp at hf⟩ h5)
      (fun T2 cs2 h3=>by rw[hb]at h3;simp at h3)
      (fun K E es h3=>by rw[hb]at h3;simp at h3)
      (fun E2 sz2 by2 g2 sh2 xs2 _ h3=>by
       simp only[ak cM,aa,Ob.row.injEq]at h3;obtain⟨rfl,rfl,rfl,rfl,rfl,rfl⟩:=h3;exact⟨g,false,xs,hb,aq _,fun _=>⟨by simp,rfl⟩⟩)
      (fun uC o2 h3=>by
       simp only[ak cM,aa]at h3;subst h3;refine⟨Gq,arr.toList.take (xs.length*sz),⟨?_,.inr ⟨b,cap,arr,by simpa using hm,hB,setRow_heap w b cur arr E (0,0) hh,by simpa using CQ,wI,by rw[wN,kN],by simp⟩⟩,?_,?_⟩
       ·simp only[ba,aF,wN,kN,cJ];omega
       ·intro r hr';rcases List.mem_or_eq_of_mem_set hr' with h5 | h5
        ·exact bT r h5
        ·rw[h5,Gf];simp only[al,ba,bJ,QO,Gj];omega
       ·intro i2 j2 y hy;obtain⟨r,h5,h6⟩:=eP hy;have Bp:i2<xs.length:=by have:=(ab.1 h5).1;simpa using this
        by_cases EI:i2=i
        ·subst EI;rw[ak hi]at h5;simp only[aa]at h5;subst h5;rw[Gf]at h6;have Gg:=nF xs[i2] (bW szs (dL (ev fr x'))) off j2 (by rw[Gj,QO];exact qx);rw[Gj]at Gg;rw[Gg]at h6
         have Ss:j2<sz:=by
          have:=(ab.1 (Gg▸h6:_)).1;simp only[al,ba,bJ,QO,Gj]at this;omega
         have uD:i2*sz+j2<xs.length*sz:=by omega
         by_cases hc:off≤j2∧j2<off+t.size
         ·rw[aQ hc]at h6;refine⟨KF y (aL h6),(a.eval x).cells.getD (j2 - off) undef,?_,(hC.2 _ y h6).mono uC⟩;rw[aU uD,qy,aQ (by omega)];have e1:i2*sz+j2 - (i2*sz+off)=j2 - off:=by omega
          have e2:j2 - off<(a.eval x).cells.size:=by rw[pQ];omega
          rw[e1];simp[e2]
         ·rw[aC hc]at h6;have eJ:eV xs i2 j2=some y:=by rw[l8 (an hi)];exact h6
          obtain⟨UZ,u,h7,h8⟩:=KC i2 j2 y eJ;refine⟨UZ,u,?_,h8.mono uC⟩;rw[aU uD,qy,aC (by omega)];rw[← wE,aU uD]at h7;exact h7
        ·rw[ay (fun e=>EI e.symm)]at h5;have eJ:eV xs i2 j2=some y:=by rw[l8 h5];exact h6
         obtain⟨UZ,u,h7,h8⟩:=KC i2 j2 y eJ
         have Ss:j2<sz:=by
          rw[← bT r (aL h5)];exact(ab.1 h6).1
         have uD:i2*sz+j2<xs.length*sz:=by
          have:(i2+1)*sz≤xs.length*sz:=aY _ Bp;rw[bO,eG]at this;omega
         refine⟨UZ,u,?_,h8.mono uC⟩;rw[aU uD,qy,aC ?_]
         ·rw[← wE,aU uD]at h7;exact h7
         ·rintro⟨h9,CZ⟩;rcases Nat.lt_or_gt_of_ne EI with uG | uG
          ·have:(i2+1)*sz≤i*sz:=aY _ uG;rw[bO,eG]at this;omega
          ·have:(i+1)*sz≤i2*sz:=aY _ uG;rw[bO,eG]at this;omega)
     exact⟨undef,_,μ,.inr ⟨hr,rfl⟩,mh.1,.u _,mh.2⟩
   ·simp at h
  ·simp at h
 ·simp at h
end Cp
theorem fe.grow{P:Program}{B:Nat}{w0 w:World}{J:ae}{μ:Mem}(hS:fe P B w0 w J μ){id E sz by' g:Nat}{sh sh':Bool}{xs xs':List (List V)}(hb:J[id]?=some (.row E sz by' g sh xs)){w':World}{v':Value}{vals vals':List Value}
  (hg:w.grownBy w' (fR (μ id))) (ik:∀ b,fR v'=some b→fR (μ id)=some b∨w.heap.size≤b)
  (Vc:∀ b,fR (μ id)=some b→∀ j u,vals[j]?=some u→w'.cell? ⟨b,j,none⟩=some u) (I0:vals.length=xs.length*sz∨sh=false) (hold:sh=true→∀ b,fR (μ id)=some b→∀ j u,w.cell? ⟨b,j,none⟩=some u→j<xs.length*sz→vals[j]?=some u)
  (Pv:sh=true→sh'=true∧xs.length≤xs'.length) (eu:w'.ownsRow B E sz v' xs'.length vals')
  (bT:∀ J' μ',kZ w J μ w' J' μ'→gR w' J' μ' xs' sz vals') :
  fe P B w0 w' (J.set id (.row E sz by' (g+1) sh' xs')) (oh μ id v')∧ky w J μ w' (J.set id (.row E sz by' (g+1) sh' xs')) (oh μ id v'):=by
 have cM:id<J.length:=(ab.1 hb).1;refine hS.update id (fR (μ id)) hg (fun b iX=>⟨_,hb,by simp,iX⟩) (by simp) (fun j hj=>ay (fun e=>hj e.symm)) (fun j hj=>ki μ id v' j hj) ?_ ?_ ?_ ?_ ?_ ?_
 ·intro b iX;rw[cX]at iX;rcases ik b iX with h | h
  ·exact .inl ⟨_,hb,by simp,h⟩
  ·exact .inr h
 ·intro b off u o h1 _ h2 h3 h4;rw[hb]at h1;simp only[aa]at h1;subst h1;have hw:¬ (sh=true→xs.length*sz≤off):=fun hw=>h4 ⟨id,_,hb,h2,hw⟩
  have hs:sh=true:=by
   cases sh with
   | true=>rfl
   | false=>exact absurd (fun h=>by simp at h) hw
  have ho:off<xs.length*sz:=Nat.lt_of_not_le fun h=>hw fun _=>h;refine⟨Vc b h2 off u (hold hs b h2 off u h3 ho),fun o' h5 h6=>?_⟩;simp only[ak cM,aa]at h5;subst h5;intro hw';have h7:=hw' (Pv hs).1;have h8:xs.length*sz≤xs'.length*sz:=aY _ (Pv hs).2;omega
 ·intro T cs h;rw[hb]at h;simp at h
 ·intro K E es h;rw[hb]at h;simp at h
 ·intro E2 sz2 by2 g2 sh2 xs2 _ h;simp only[ak cM,aa,Ob.row.injEq]at h;obtain⟨rfl,rfl,rfl,rfl,rfl,rfl⟩:=h;exact⟨g,sh,xs,hb,by omega,fun e=>by omega⟩
 ·intro hp o h;simp only[ak cM,aa]at h;subst h;rw[cX];exact⟨(hS.obj id _ hb).1,vals',eu,bT _ _ hp.dY⟩
theorem VR.lk{w:World}{J:ae}{μ:Mem}{id E sz by' g:Nat}{sh:Bool}{xs:List (List V)}(h:J[id]?=some (.row E sz by' g sh xs)):VR w J μ (.own id g) (μ id) :=
 .own id g _ (ab.1 h).1 fun E2 sz2 by2 g2 sh2 xs2 h2=>by
  rw[h]at h2;simp only[aa,Ob.row.injEq]at h2;obtain⟨rfl,rfl,rfl,rfl,rfl,rfl⟩:=h2;exact⟨aq _,fun _=>rfl⟩
section Cp
variable {P:Program} {o:Oper} {a:Act} {B:Nat} {w0 w:World} {J:ae} {μ:Mem} {fr:List V} (hS:fe P B w0 w J μ)
include hS
theorem GA{T U E:TypeId}{t:TypeInfo}{z:Value}{x y:Operand}{xV:V}{ys:List (List V)}{news:List Value}(ho:o.op=.call { callee:=.builtin .append,args:=#[x,y],argTypes:=#[T,U] })
  (hT:P.underlying T=some (.slice E)) (ht:P.info? E=some t) (hz:t.zero=some z) (eI:0<t.size) (lh:z.cells.size=t.size) (hx:VR w J μ xV (a.eval x)) (CK:Src P w U (a.eval y) t.size ys.length news) (KC:gR w J μ ys t.size news)
  {ob:Prop} {r:V} {J':ae} (h:r9 E t.size t.bytes J xV ys=some (ob,r,J')) (cK:ob):nZ P o a B w0 w J μ r J':=by
 have Gq:Ti P E t.size t.bytes:=⟨eI,t,z,ht,hz,rfl,rfl,lh⟩
 have zk:∀ v w',(Builtin.append_ #[T,U] o.type #[a.eval x,a.eval y]).run P w=.ok v w'→(execOp a.eval o).run P w=.ok (.value v) w':=by
  intro v w' hr;simp only[execOp,ho,resolve,invoke,builtin,Sem.run_bind,Sem.run_pure,Result.andThen_ok,List.map_toArray,az,dj,hr]
 unfold r9 at h;split at h
 ·
  simp only[aa,ao]at h;obtain⟨rfl,rfl,rfl⟩:=h;have hv:=hx.kM;obtain⟨v',w',h1,h2,h3,h4,h5⟩:=oM (ty:=o.type) hT ht hz lh CK B (.slice none 0 0) 0 [] (World.ownsRow_nil w B E t.size) (by simpa using cK.2) (by simpa using cK.1) hS.base;simp only[bj,bh]at h2
  have hn:=hS.ov (w':=w') (.row E t.size t.bytes 0 false ys) v' h3 (fun b hb=>by
   rcases h4 b hb with h6 | h6
   ·simp[fR]at h6
   ·exact h6) (fun hp=>⟨Gq,news,h2,KC.dY hp.dY⟩)
  refine⟨v',w',_,.inl (zk _ _ (by rw[hv];exact h1)),hn.1,?_,hn.2⟩;have:=VR.lk (w:=w') (J:=J++[.row E t.size t.bytes 0 false ys]) (μ:=oh μ J.length v') (id:=J.length) (E:=E) (sz:=t.size) (by':=t.bytes) (g:=0) (sh:=false) (xs:=ys) (by simp)
  rwa [cX]at this
 ·
  rename_i sz' xs;split at h
  ·rename_i hsz';subst hsz';simp only[aa,ao]at h;obtain⟨rfl,rfl,rfl⟩:=h
   by_cases hy:ys=[]
   ·subst hy;simp only[List.isEmpty_nil,aR];rcases hx.mH with⟨rfl,hv⟩ | ⟨b,off,f,hv,_⟩
    ·exact⟨_,w,μ,.inl (zk _ _ (by rw[hv];exact ly hT ht CK none 0 0 (aq _))),hS,hv▸hx,ky.refl _ _ _⟩
    ·exact⟨_,w,μ,.inl (zk _ _ (by rw[hv];exact ly hT ht CK _ _ _ (aq _))),hS,hv▸hx,ky.refl _ _ _⟩
   ·have gr:ys.isEmpty=false:=by cases ys<;>simp_all
    have KG:0<ys.length:=pO.2 hy;simp only[gr,aG,aO];have Pv:=sG hS hx (sz:=t.size) (xs:=xs) (by simp[rowsOf])
    have hold:∃ (ad:Option Addr) (olds:List Value),a.eval x=.slice ad xs.length xs.length∧olds.length=xs.length*t.size∧((ad=none∧xs.length=0)∨∃ b,ad=some b∧∀ j v,olds[j]?=some v→w.cell? (b.add j)=some v)∧gR w J μ xs t.size olds:=by
     rcases hx.mH with⟨rfl,hv⟩ | ⟨b,off,f,hv,hm,hr⟩
     ·exact⟨none,[],hv,by simp,.inl ⟨rfl,rfl⟩,by simp,by simp[eV]⟩
     ·rw[hv]at Pv;obtain⟨vals,h1,h2,h3,h4⟩:=Pv.cells (fun i j y hy=>mu (hr.2.1 i j y hy).2.2) hS;exact⟨_,vals,hv,h1,.inr ⟨_,rfl,h2⟩,h4⟩
    obtain⟨ad,olds,hv,CM,hoo,Yf⟩:=hold;obtain⟨v',w',h1,h2,h3,h4⟩:=BT (ty:=o.type) hT ht hz lh CK B ad xs.length olds CM hoo KG cK.2 cK.1 hS.base;have hn:=hS.ov (w':=w') (.row E t.size t.bytes 0 false (xs++ys)) v' h3 h4 (fun hp=>⟨Gq,olds++news,by rw[al];exact h2,(Yf.append KC CM).dY hp.dY⟩);refine⟨v',w',_,.inl (zk _ _ (by rw[hv];exact h1)),hn.1,?_,hn.2⟩;have:=VR.lk (w:=w') (J:=J++[.row E t.size t.bytes 0 false (xs++ys)]) (μ:=oh μ J.length v') (id:=J.length) (E:=E) (sz:=t.size) (by':=t.bytes) (g:=0) (sh:=false) (xs:=xs++ys) (by simp)
    rwa [cX]at this
  ·simp at h
 ·
  rename_i id g;split at h
  ·rename_i E' sz' by2 g' sh xs hb;split at h
   ·rename_i hc;obtain⟨rfl,rfl,rfl,rfl⟩:=hc;simp only[aa,ao]at h;obtain⟨rfl,rfl,rfl⟩:=h;have hv:=hx.iL hb;obtain⟨_,vals,eu,bT⟩:=hS.obj id _ hb;obtain⟨v',w',h1,h2,h3,h4,h5⟩:=oM (ty:=o.type) hT ht hz lh CK B (μ id) xs.length vals eu cK.2 cK.1 hS.base;have cM:id<J.length:=(ab.1 hb).1
    have hn:=hS.grow hb (sh':=sh) (xs':=xs++ys) (v':=v') (vals:=vals) (vals':=vals++news) h3 h4 h5 (.inl eu.1) (fun _ b iX j u hc hj=>by
      have Wt:j<vals.length:=by rw[eu.1];exact hj
      have:=eu.cells (g:=b) (by
       have:(μ id).ownBlock=fR (μ id):=by
        rcases eu.2 with⟨hm,_⟩ | ⟨g,cap,cur,hm,_⟩<;>rw[hm]<;>rfl
       rw[this];exact iX) j vals[j] (an Wt)
      rw[Addr.add_lit,bj,hc]at this;simp only[aa]at this;rw[an Wt,this]) (fun h=>⟨h,by simp⟩) (by rw[al];exact h2) (fun J' μ' k=>(bT.append KC eu.1).dY k)
    refine⟨v',w',_,.inl (zk _ _ (by rw[hv];exact h1)),hn.1,?_,hn.2⟩;have:=VR.lk (w:=w') (J:=J.set id (.row E t.size t.bytes (g+1) sh (xs++ys))) (μ:=oh μ id v') (id:=id) (E:=E) (sz:=t.size) (by':=t.bytes) (g:=g+1) (sh:=sh) (xs:=xs++ys) (ak cM)
    rwa [cX]at this
   ·simp at h
  ·simp at h
 ·
  rename_i id g lo hi;split at h
  ·rename_i E' sz' by2 g' sh xs hb;split at h
   ·rename_i hc;obtain⟨rfl,rfl,rfl,rfl,rfl,rfl⟩:=hc;simp only[aa,ao]at h;obtain⟨rfl,rfl,rfl⟩:=h;obtain⟨_,_,hv⟩:=hx.mF hb;obtain⟨_,vals,eu,bT⟩:=hS.obj id _ hb;obtain⟨DJ,Br,iX⟩:=cK
    have hown':w.ownsRow B E t.size (a.eval x) hi (vals.take (hi*t.size))∧fR (a.eval x)=fR (μ id):=by
     have hle:hi*t.size≤xs.length*t.size:=aY _ DJ;rcases eu with⟨I0,⟨hm,hn⟩ | ⟨b,cap,cur,hm,h1,h2,h3,h4,h5,h6⟩⟩
     ·have h0:hi=0:=by omega
      subst h0;rw[hv,hm];exact⟨⟨by simp,.inl ⟨rfl,rfl⟩⟩,rfl⟩
     ·rw[hv,hm]
      have he:iR (.slice (some ⟨b,0,none⟩) xs.length cap) 0 hi t.size=.slice (some ⟨b,0,none⟩) hi cap:=by
       simp[iR,Addr.add_lit]
      rw[he];refine⟨⟨by simp only[ba,I0];omega,.inr ⟨b,cap,cur,rfl,h1,h2,by omega,h4,h5,?_⟩⟩,rfl⟩;rw[← h6,qP,gn hle]
    have hrow':gR w J μ (xs.take hi) t.size (vals.take (hi*t.size)):=by
     refine⟨fun r hr=>bT.1 r (df hr),fun i j y hy=>?_⟩;have hy':eV (List.take (hi - 0) (List.drop 0 xs)) i j=some y:=by simpa using hy
     have h1:=vj hy';rw[bj]at h1;obtain⟨hp,u,h2,h3⟩:=bT.2 i j y h1;refine⟨hp,u,?_,h3⟩;obtain⟨r,h4,h5⟩:=eP hy
     have hi':i<hi:=by
      have:=(ab.1 h4).1;simp at this;omega
     have hj:j<t.size:=by
      rw[← bT.1 r (df (aL h4))];exact(ab.1 h5).1
     have:(i+1)*t.size≤hi*t.size:=aY _ hi';rw[bO,eG]at this;rw[aU (by omega)];exact h2
    have hl':(xs.take hi).length=hi:=by simp;omega
    obtain⟨v',w',h1,h2,h3,h4,h5⟩:=oM (ty:=o.type) hT ht hz lh CK B (a.eval x) hi _ hown'.1 iX Br hS.base;rw[hown'.2]at h3;have cM:id<J.length:=(ab.1 hb).1;have hn:=hS.grow hb (sh':=false) (xs':=xs.take hi++ys) (v':=v') (vals:=vals.take (hi*t.size)) (vals':=vals.take (hi*t.size)++news) h3 (fun b hb=>by rw[← hown'.2];exact h4 b hb) (fun b hb=>h5 b (by rw[hown'.2];exact hb)) (.inr rfl) (fun h=>by simp at h) (fun h=>by simp at h) (by rw[al,hl'];exact h2) (fun J' μ' k=>(hrow'.append KC (by rw[hl'];exact hown'.1.1)).dY k);refine⟨v',w',_,.inl (zk _ _ h1),hn.1,?_,hn.2⟩;have:=VR.lk (w:=w') (J:=J.set id (.row E t.size t.bytes (g+1) false (xs.take hi++ys))) (μ:=oh μ id v') (id:=id) (E:=E) (sz:=t.size) (by':=t.bytes) (g:=g+1) (sh:=false) (xs:=xs.take hi++ys) (ak cM)
    rwa [cX]at this
   ·simp at h
  ·simp at h
 ·simp at h
variable (hF:FR w J μ fr a)
include hF
theorem VT{T E:TypeId}{t:TypeInfo}{z:Value}{x y:Operand}{x' y':O}(ho:o.op=.call { callee:=.builtin .append,args:=#[x,y],argTypes:=#[T,T] })
  (hT:P.underlying T=some (.slice E)) (ht:P.info? E=some t) (hz:t.zero=some z) (eI:0<t.size) (lh:z.cells.size=t.size) (hx:cO x=some x') (hy:cO y=some y')
  {ob:Prop} {r:V} {J':ae} (h:bC fr J (.app E t.size t.bytes x' y')=some (ob,r,J')) (cK:ob):nZ P o a B w0 w J μ r J':=by
 simp only[bC]at h;split at h
 ·rename_i ys u3;obtain⟨news,h1,h2⟩:=(sG hS (cn hF hy) u3).src hS hT;exact GA hS ho hT ht hz eI lh (cn hF hx) h1 h2 h cK
 ·simp at h
theorem RZ{T U E:TypeId}{t:TypeInfo}{z:Value}{x y:Operand}{x' y':O}(ho:o.op=.call { callee:=.builtin .append,args:=#[x,y],argTypes:=#[T,U] })
  (hT:P.underlying T=some (.slice E)) (hU:P.underlying U=some .string) (ht:P.info? E=some t) (hz:t.zero=some z) (eI:t.size=1) (Vx:t.bytes=1) (lh:z.cells.size=t.size) (hx:cO x=some x') (hy:cO y=some y')
  {ob:Prop} {r:V} {J':ae} (h:bC fr J (.apps E x' y')=some (ob,r,J')) (cK:ob):nZ P o a B w0 w J μ r J':=by
 simp only[bC]at h;split at h
 ·rename_i l hl;obtain⟨s,hs,rfl,_⟩:=(hl▸cn hF hy).kb;obtain⟨h1,h2⟩:=D3 (P:=P) (w:=w) (J:=J) (μ:=μ) hU s;refine GA (news:=Lib.strCells s) hS ho hT ht hz (by omega) lh (cn hF hx) (by rw[hs,eI];exact h1) (by rw[eI];exact h2) (by rw[eI,Vx];exact h) cK
 ·simp at h
theorem OO{T K E:TypeId}(ho:o.op=.makeMap T none){ob:Prop}{r:V}{J':ae}(h:bC fr J (.kU K E)=some (ob,r,J')):nZ P o a B w0 w J μ r J':=by
 simp only[bC,aa,ao]at h;obtain⟨_,rfl,rfl⟩:=h;have hn:=hS.ov (w':=w.alloc (.map #[] 0)) (.map K E []) (.map (some w.heap.size)) (World.grownBy_alloc w _ none) (by simp[fR]) (fun hp=>⟨w.heap.size,#[],0,rfl,hS.base,heap_alloc_new w _,by simp,by simp,by simp,by simp⟩);refine⟨_,_,_,.inl (by simp[execOp,ho,Instr.makeMap];rfl),hn.1,?_,hn.2⟩;exact .mp _ _ ⟨K,E,[],by simp⟩ (cX _ _ _)
end Cp
theorem Lq{zs:List V}{n i j:Nat}{x:V}(h:eV (List.replicate n zs) i j=some x):i<n∧zs[j]?=some x:=by
 obtain⟨r,h1,h2⟩:=eP h;have hi:i<n:=by have:=(ab.1 h1).1;simpa using this
 rw[uR,aQ hi]at h1;simp only[aa]at h1;subst h1;exact⟨hi,h2⟩
theorem rO(z:Array Value)(j:Nat)(h:j<z.size):z[j]! = z.getD j undef:=by simp[h]
theorem CR.oO{w:World}{J:ae}{μ:Mem}(ss:List (Option Nat)){xs:List V}{vs:Array Value}(h:CR w J μ xs vs):VR w J μ (.agg (Pm.bW ss xs)) (.agg vs):=(CR.bW ss h).Jm
theorem H2{ks:List Nat}{kd:Nat}(h:QH ks=some kd):(kd=4∧ks=[1,1])∨(kd=5∧ks=[0,1,0]):=by
 unfold QH at h;split at h<;>simp at h
 ·exact .inl ⟨h.symm,rfl⟩
 ·exact .inr ⟨h.symm,rfl⟩
theorem kL{P:Program}{K kd:Nat}(h:im P K=some kd):
  (kd=0∧∃ q,P.underlying K=some (.int q))∨(kd=1∧P.underlying K=some .string)∨(kd=3∧∃ e q,P.underlying K=some (.array 2 e)∧P.underlying e=some (.int q)∧P.cellsOf e=1) ∨
   (∃ fs ks,P.underlying K=some (.struct fs)∧P.stoodInHeld K=false∧ia P 0 fs.toList=some ks∧((kd=4∧ks=[1,1])∨(kd=5∧ks=[0,1,0]))):=by
 unfold im at h;split at h
 ·rename_i q hq;simp only[aa]at h;exact .inl ⟨h.symm,q,hq⟩
 ·rename_i hq;simp only[aa]at h;exact .inr (.inl ⟨h.symm,hq⟩)
 ·rename_i fs hq;split at h
  ·rename_i pE;rw[Option.bind_eq_some_iff]at h;obtain⟨ks,h1,h2⟩:=h;exact .inr (.inr (.inr ⟨fs,ks,hq,pE,h1,H2 h2⟩))
  ·simp at h
 ·rename_i e hq;split at h
  ·rename_i q he;split at h
   ·rename_i hc;simp only[aa]at h;exact .inr (.inr (.inl ⟨h.symm,e,q,hq,he,hc⟩))
   ·simp at h
  ·simp at h
 ·simp at h
theorem wW{P:Program}{w:World}{J:ae}{μ:Mem}{K:TypeId}{kd:Nat}{d:TypeDesc}(hK:P.underlying K=some d)(nP:im P K=some kd)(h3:kd<3){k:V}{kv:Value}(hk:VR w J μ k kv):
  ∀ (es:List (V×V)) (ents:List MapEntry) (n:Nat) (r:Option (Nat×V)),ents.length=es.length→(∀ (i:Nat) (a x:V),es[i]?=some (a,x)→∃ e:MapEntry,ents[i]?=some e∧VR w J μ a e.key∧VR w J μ x e.val)→c4 kd k es n=some r →
   (r=none∧Instr.findNow d kv ents n=some none)∨∃ i x e a,r=some (n+i,x)∧es[i]?=some (a,x)∧ents[i]?=some e∧bI kd k a=some true∧Instr.findNow d kv ents n=some (some (n+i,e.val))
 | [],ents,n,r,hl,_,h=>by
  have:ents=[]:=aD hl;subst this;simp only[c4,aa]at h;subst h;exact .inl ⟨rfl,rfl⟩
 | (a,x)::es,ents,n,r,hl,hr,h=>by
  cases ents with
  | nil=>simp at hl
  | cons e ents =>
   obtain⟨e',he,h1,h2⟩:=hr 0 a x rfl;simp only[au,aa]at he;subst he
   have hs:∀ b,bI kd k a=some b→Instr.sameNow d kv e.key=some b:=by
    intro b hb;rcases kL nP with⟨rfl,q,hq⟩ | ⟨rfl,hq⟩ | ⟨rfl,_⟩ | ⟨_,_,_,_,_,⟨rfl,_⟩ | ⟨rfl,_⟩⟩
    ·rw[hK]at hq;simp only[aa]at hq;subst hq;cases k<;>(try (simp[bI]at hb;done));cases a<;>(try (simp[bI]at hb;done));simp only[bI]at hb;split at hb<;>simp only[aa,reduceCtorEq]at hb;rename_i Gl;subst Gl;rw[hk.dI,h1.dI];simp[Instr.sameNow,hb]
    ·rw[hK]at hq;simp only[aa]at hq;subst hq;cases k<;>(try (simp[bI]at hb;done));cases a<;>(try (simp[bI]at hb;done));simp only[bI,aa]at hb;obtain⟨s,rfl,rfl,_⟩:=hk.kb;obtain⟨s',hs',rfl,_⟩:=h1.kb;rw[hs'];simp only[Instr.sameNow,aa];rw[beq_toListBytes,toList_data,toList_data];exact hb
    all_goals omega
   simp only[c4]at h;split at h
   ·rename_i hb;simp only[aa]at h;subst h;exact .inr ⟨0,x,e,a,rfl,rfl,rfl,hb,by simp[Instr.findNow,hs true hb]⟩
   ·rename_i hb
    have ih:=wW hK nP h3 hk es ents (n+1) r (by simpa using hl) (fun i a x hi=>by
     obtain⟨e2,h3,h4⟩:=hr (i+1) a x hi;exact⟨e2,by simpa using h3,h4⟩) h
    rcases ih with⟨h3,h4⟩ | ⟨i,y,e2,a2,h3,h4,h5,h6,h7⟩
    ·exact .inl ⟨h3,by simp[Instr.findNow,hs false hb,h4]⟩
    ·exact .inr ⟨i+1,y,e2,a2,by rw[h3];congr 2;omega,h4,by simpa using h5,h6,by simp only[Instr.findNow,hs false hb,h7];congr 3;omega⟩
   ·simp at h
theorem oQ{xs ys:List V}{r:Bool}(h:Ea xs ys=some r):∃ k a l b a' b',xs=[.i k a,.i l b]∧ys=[.i k a',.i l b']∧r=(a==a'&&b==b'):=by
 unfold Ea at h;split at h
 ·split at h<;>simp only[aa,reduceCtorEq]at h;rename_i hk;obtain⟨rfl,rfl⟩:=hk;exact⟨_,_,_,_,_,_,rfl,rfl,h.symm⟩
 ·simp at h
theorem oI{xs ys:List V}{r:Bool}(h:vF xs ys=some r):∃ a b a' b',xs=[.s a,.s b]∧ys=[.s a',.s b']∧r=(a==a'&&b==b'):=by
 unfold vF at h;split at h
 ·simp only[aa]at h;exact⟨_,_,_,_,rfl,rfl,h.symm⟩
 ·simp at h
theorem qn{xs ys:List V}{r:Bool}(h:BF xs ys=some r):∃ k a b l c a' b' c',xs=[.i k a,.s b,.i l c]∧ys=[.i k a',.s b',.i l c']∧r=(a==a'&&(b==b'&&c==c')):=by
 unfold BF at h;split at h
 ·split at h<;>simp only[aa,reduceCtorEq]at h;rename_i hk;obtain⟨rfl,rfl⟩:=hk;exact⟨_,_,_,_,_,_,_,_,rfl,rfl,h.symm⟩
 ·simp at h
theorem zP{xs ys:List V}{r:Bool}(h:vF xs ys=some r):dM [1,1] xs ys=some r∧xs.length=2∧ys.length=2:=by
 obtain⟨a,b,a',b',rfl,rfl,rfl⟩:=oI h;exact⟨by simp[dM,bI],rfl,rfl⟩
theorem BE{xs ys:List V}{r:Bool}(h:BF xs ys=some r):dM [0,1,0] xs ys=some r∧xs.length=3∧ys.length=3:=by
 obtain⟨k,a,b,l,c,a',b',c',rfl,rfl,rfl⟩:=qn h;exact⟨by simp[dM,bI],rfl,rfl⟩
theorem oK{kd:Nat}{k a:V}(h:bI kd k a=some true):k=a:=by
 unfold bI at h;split at h
 ·split at h<;>simp_all
 ·simp_all
 ·simp_all
 ·obtain⟨_,_,_,_,_,_,rfl,rfl,hr⟩:=oQ h;have:=hr.symm;simp at this;obtain⟨rfl,rfl⟩:=this;rfl
 ·obtain⟨_,_,_,_,rfl,rfl,hr⟩:=oI h;have:=hr.symm;simp at this;obtain⟨rfl,rfl⟩:=this;rfl
 ·obtain⟨_,_,_,_,_,_,_,_,rfl,rfl,hr⟩:=qn h;have:=hr.symm;simp at this;obtain⟨rfl,rfl,rfl⟩:=this;rfl
 ·simp at h
theorem rm{P:Program}{w:World}{J:ae}{μ:Mem}{K:TypeId}{fs:Array Field}{ks:List Nat}(hK:P.underlying K=some (.struct fs))(hs:P.stoodInHeld K=false)(hf:ia P 0 fs.toList=some ks)
  {xs ys:List V} {kv av:Value} (hk:VR w J μ (.agg xs) kv) (ha:VR w J μ (.agg ys) av) {r:Bool} (h:dM ks xs ys=some r):(Op.equal K kv av).run P w=.ok r w:=by
 obtain⟨us,rfl,l1,v1⟩:=hk.fX;obtain⟨vs,rfl,l2,v2⟩:=ha.fX;have hf':P.fieldsOf K=fs:=by simp[Program.fieldsOf,hK]
 show(Op.equalIn 10000 K (.agg us) (.agg vs)).run P w=.ok r w;rw[run_equalIn_struct w 9999 K us vs (by rw[hf'];exact hK) hs,hf'];exact nH fs.toList ks 0 xs ys us vs r 9998 hf (fun j z hz=>by simpa using v1 j z hz) (fun j z hz=>by simpa using v2 j z hz) (by omega) (by omega) h
theorem Hc{P:Program}{w:World}{J:ae}{μ:Mem}{K:TypeId}{kd:Nat}(nP:im P K=some kd)(h3:¬ kd<3){k:V}{kv:Value}(hk:VR w J μ k kv):
  ∃ d,P.underlying K=some d∧(∀ e es n,Instr.findNow d kv (e::es) n=none)∧∀ a av b,VR w J μ a av→bI kd k a=some b→(Op.equal K kv av).run P w=.ok b w:=by
 rcases kL nP with⟨rfl,_⟩ | ⟨rfl,_⟩ | ⟨rfl,e,q,hK,he,hc⟩ | ⟨fs,ks,hK,hs,hf,Gl⟩
 ·omega
 ·omega
 ·refine⟨_,hK,fun e es n=>by simp[Instr.findNow,Instr.sameNow],fun a av b ha hb=>?_⟩;cases k<;>(try (simp[bI]at hb;done));cases a<;>(try (simp[bI]at hb;done));simp only[bI]at hb;obtain⟨k1,a1,l1,b1,a2,b2,rfl,rfl,rfl⟩:=oQ hb;rw[hk.pair,ha.pair];exact pX hK he hc _ _ _ _ _ _
 ·refine⟨_,hK,fun e es n=>by simp[Instr.findNow,Instr.sameNow],fun a av b ha hb=>?_⟩;rcases Gl with⟨rfl,rfl⟩ | ⟨rfl,rfl⟩
  ·cases k<;>(try (simp[bI]at hb;done));cases a<;>(try (simp[bI]at hb;done));exact rm hK hs hf hk ha (zP hb).1
  ·cases k<;>(try (simp[bI]at hb;done));cases a<;>(try (simp[bI]at hb;done));exact rm hK hs hf hk ha (BE hb).1
theorem qg{P:Program}{w:World}{J:ae}{μ:Mem}{K:TypeId}{kd:Nat}{k:V}{kv:Value}(hq:∀ a av b,VR w J μ a av→bI kd k a=some b→(Op.equal K kv av).run P w=.ok b w):
  ∀ (es:List (V×V)) (ents:List MapEntry) (n:Nat) (r:Option (Nat×V)),ents.length=es.length→(∀ (i:Nat) (a x:V),es[i]?=some (a,x)→∃ e:MapEntry,ents[i]?=some e∧VR w J μ a e.key∧VR w J μ x e.val)→c4 kd k es n=some r →
   (r=none∧(Instr.findAsking K kv ents n).run P w=.ok none w)∨∃ i x e a,r=some (n+i,x)∧es[i]?=some (a,x)∧ents[i]?=some e∧bI kd k a=some true∧(Instr.findAsking K kv ents n).run P w=.ok (some (n+i,e.val)) w
 | [],ents,n,r,hl,_,h=>by
  have:ents=[]:=aD hl;subst this;simp only[c4,aa]at h;subst h;exact .inl ⟨rfl,by simp[Instr.findAsking]⟩
 | (a,x)::es,ents,n,r,hl,hr,h=>by
  cases ents with
  | nil=>simp at hl
  | cons e2 ents =>
   obtain⟨e',he',h1,h2⟩:=hr 0 a x rfl;simp only[au,aa]at he';subst he';have hs:∀ b,bI kd k a=some b→(Op.equal K kv e2.key).run P w=.ok b w:=fun b hb=>hq a _ b h1 hb;simp only[c4]at h;split at h
   ·rename_i hb;simp only[aa]at h;subst h;exact .inr ⟨0,x,e2,a,rfl,rfl,rfl,hb,by simp[Instr.findAsking,hs true hb]⟩
   ·rename_i hb
    have ih:=qg hq es ents (n+1) r (by simpa using hl) (fun i a x hi=>by
     obtain⟨e2,h3,h4⟩:=hr (i+1) a x hi;exact⟨e2,by simpa using h3,h4⟩) h
    rcases ih with⟨h3,h4⟩ | ⟨i,y,e2,a2,h3,h4,h5,h6,h7⟩
    ·exact .inl ⟨h3,by simp[Instr.findAsking,hs false hb,h4]⟩
    ·exact .inr ⟨i+1,y,e2,a2,by rw[h3];congr 2;omega,h4,by simpa using h5,h6,by simp only[Instr.findAsking,Sem.run_bind,hs false hb,Result.andThen_ok,aG,aO,h7];congr 3;omega⟩
   ·simp at h
theorem iz{P:Program}{w:World}{J:ae}{μ:Mem}{K:TypeId}{kd:Nat}(nP:im P K=some kd){k:V}{kv:Value}(hk:VR w J μ k kv)
  (es:List (V×V)) (ents:List MapEntry) (r:Option (Nat×V)) (hl:ents.length=es.length) (hr:∀ (i:Nat) (a x:V),es[i]?=some (a,x)→∃ e:MapEntry,ents[i]?=some e∧VR w J μ a e.key∧VR w J μ x e.val) (h:c4 kd k es 0=some r) :
   (r=none∧(Instr.findKey K kv ents).run P w=.ok none w)∨∃ i x e a,r=some (i,x)∧es[i]?=some (a,x)∧ents[i]?=some e∧bI kd k a=some true∧(Instr.findKey K kv ents).run P w=.ok (some (i,e.val)) w:=by
 by_cases h3:kd<3
 ·have hd:∃ d,P.underlying K=some d:=by
   rcases kL nP with⟨_,_,h⟩ | ⟨_,h⟩ | ⟨_,_,_,h,_⟩ | ⟨_,_,h,_⟩<;>exact⟨_,h⟩
  obtain⟨d,hd⟩:=hd;have hf:=wW hd nP h3 hk es ents 0 r hl hr h;simp only[bj]at hf;rcases hf with⟨h4,h5⟩ | ⟨i,x,e,a,h4,h5,h6,h7,h8⟩
  ·exact .inl ⟨h4,by simp[Instr.findKey,run_underlying hd,h5]⟩
  ·exact .inr ⟨i,x,e,a,h4,h5,h6,h7,by simp[Instr.findKey,run_underlying hd,h8]⟩
 ·obtain⟨d,hd,hn,hq⟩:=Hc nP h3 hk;have hf:=qg hq es ents 0 r hl hr h;cases ents with
  | nil =>
   rcases hf with⟨h4,h5⟩ | ⟨i,x,e,a,_,_,h6,_⟩
   ·exact .inl ⟨h4,by simp[Instr.findKey,run_underlying hd,Instr.findNow]⟩
   ·simp at h6
  | cons e0 ents =>
   simp only[bj]at hf;rcases hf with⟨h4,h5⟩ | ⟨i,x,e,a,h4,h5,h6,h7,h8⟩
   ·exact .inl ⟨h4,by simp[Instr.findKey,run_underlying hd,hn,h5]⟩
   ·exact .inr ⟨i,x,e,a,h4,h5,h6,h7,by simp[Instr.findKey,run_underlying hd,hn,h8]⟩
theorem ot{P:Program}{w:World}(em:Bool)(n:Nat)(us:Array Value):∀ (fs:List Field) (ks:List Nat) (m:Nat),ia P m fs=some ks→us.size=m+ks.length →
  (forIn fs PUnit.unit (fun f _=>do
   if f.name ≠ "_" then
    Instr.checkKey em (n+1) f.type (← part f.type us f.offset)
    pure (ForInStep.yield PUnit.unit)
   else pure (ForInStep.yield PUnit.unit):Field→PUnit→Sem (ForInStep PUnit))).run P w=.ok PUnit.unit w
 | [],_,_,_,_=>by simp
 | f::fs,ks,m,hf,hl=>by
  simp only[ia]at hf;split at hf
  ·rename_i CO;obtain⟨CO,QX⟩:=CO
   have hk:∃ k ks',ks=k::ks'∧ia P (m+1) fs=some ks'∧dO P f.type=some false∧∀ v:Value,(Instr.checkKey em (n+1) f.type v).run P w=.ok () w:=by
    split at hf<;>simp only[aa,reduceCtorEq]at hf
    ·rename_i k ks' hu hr;exact⟨0,ks',hf.symm,hr,by simp[dO,hu],fun v=>by simp[Instr.checkKey,run_underlying hu]⟩
    ·rename_i ks' hu hr;exact⟨1,ks',hf.symm,hr,by simp[dO,hu],fun v=>by simp[Instr.checkKey,run_underlying hu]⟩
    ·rename_i ks' hu hr;exact⟨2,ks',hf.symm,hr,by simp[dO,hu],fun v=>by simp[Instr.checkKey,run_underlying hu]⟩
   obtain⟨k,ks',rfl,hr,hA,ta⟩:=hk;have Yp:m<us.size:=by simp at hl;omega
   have Yc:(part f.type us f.offset).run P w=.ok (us.getD m undef) w:=by
    simp only[part,Sem.run_bind,iI hA,Result.andThen_ok,aG,aO,CO];rw[show us[m]?=some (us.getD m undef)by simp[Yp]];rfl
   have ih:=ot (P:=P) (w:=w) em n us fs ks' (m+1) hr (by simp at hl;omega);simp only[List.forIn_cons,Sem.run_bind,gC,QX,dS,aR,Yc,Result.andThen_ok,ta,Sem.run_pure,ih]
  ·simp at hf
theorem run_checkKey{P:Program}{w:World}{J:ae}{μ:Mem}{K:TypeId}{kd:Nat}(nP:im P K=some kd)(em:Bool)(n:Nat){k:V}{v:Value}(hk:VR w J μ k v)(cK:ja kd k=true):(Instr.checkKey em (n+2) K v).run P w=.ok () w:=by
 rcases kL nP with⟨_,_,h⟩ | ⟨_,h⟩ | ⟨rfl,e,q,h,he,hc⟩ | ⟨fs,ks,h,hs,hf,Gl⟩
 ·simp[Instr.checkKey,run_underlying h]
 ·simp[Instr.checkKey,run_underlying h]
 ·simp only[ja]at cK;split at cK
  ·rename_i k1 a1 l1 b1;rw[hk.pair]
   have hi:∃ i,P.info? e=some i:=by
    unfold Program.underlying at he;cases h:P.info? e with
    | none=>simp[h]at he
    | some i=>exact⟨i,rfl⟩
   obtain⟨i,hi⟩:=hi;have hA:dO P e=some false:=by simp[dO,he]
   have hp:∀ (x y:Value) (j:Nat) (z:Value),#[x,y][j]?=some z→(part e #[x,y] j).run P w=.ok z w:=by
    intro x y j z hz;simp only[part,Sem.run_bind,iI hA,Result.andThen_ok,aG,aO,hz];rfl
   have hs:(sizeOf e).run P w=.ok 1 w:=by rw[run_sizeOf w hi,hc]
   have h0:=hp (.int k1 a1) (.int l1 b1) 0 (.int k1 a1) rfl;have h1:=hp (.int k1 a1) (.int l1 b1) 1 (.int l1 b1) rfl
   have ta:∀ v:Value,(∃ q a,v=.int q a)→(Instr.checkKey em (n+1) e v).run P w=.ok () w:=by
    rintro v ⟨_,_,rfl⟩;simp[Instr.checkKey,run_underlying he]
   have c0:=ta (.int k1 a1) ⟨_,_,rfl⟩;have c1:=ta (.int l1 b1) ⟨_,_,rfl⟩;rw[Instr.checkKey];simp only[Sem.run_bind,run_underlying h,Result.andThen_ok];simp only[Std.Legacy.Range.forIn_eq_forIn_range',Std.Legacy.Range.size,pU,Nat.add_one_sub_one,Nat.div_one,show List.range' 0 2=[0,1]from rfl,List.forIn_cons,List.forIn_nil];simp only[Sem.run_bind,hs,Result.andThen_ok,Bg,h0,h1,c0,c1,Sem.run_pure]
  ·simp at cK
 ·have key:∀ us:Array Value,us.size=ks.length→(Instr.checkKey em (n+2) K (.agg us)).run P w=.ok () w:=by
   intro us XR;rw[Instr.checkKey];simp only[Sem.run_bind,run_underlying h,Result.andThen_ok];rw[← Array.forIn_toList];have:=ot (P:=P) (w:=w) em n us fs.toList ks 0 hf (by omega);simp at this ⊢;rw[this];rfl
  rcases Gl with⟨rfl,rfl⟩ | ⟨rfl,rfl⟩
  ·simp only[ja]at cK;split at cK
   ·obtain⟨us,rfl,l1,_⟩:=hk.fX;exact key us (by simpa using l1.symm)
   ·simp at cK
  ·simp only[ja]at cK;split at cK
   ·obtain⟨us,rfl,l1,_⟩:=hk.fX;exact key us (by simpa using l1.symm)
   ·simp at cK
theorem Bw{P:Program}{w:World}{J:ae}{μ:Mem}{E:TypeId}{z:V}(h:zeroV P E=some z):∃ v,(zeroValue E).run P w=.ok v w∧VR w J μ z v:=by
 unfold zeroV at h;split at h
 ·rename_i t ht;split at h
  ·rename_i cs hz;simp only[ah]at h;obtain⟨zs,lh,rfl⟩:=h;exact⟨_,by simp[zeroValue,typeInfo,ht,hz],(js (cs:=cs) lh).oO _⟩
  ·rename_i z' gr hz;exact⟨_,by simp[zeroValue,typeInfo,ht,hz],tl h⟩
  ·simp at h
 ·simp at h
section b9
variable {P:Program} {o:Oper} {a:Act} {B:Nat} {w0 w:World} {J:ae} {μ:Mem} {fr:List V} (hF:FR w J μ fr a) (hS:fe P B w0 w J μ)
include hF hS
theorem PZ{T K E:TypeId}{x:Operand}{x':O}(ho:o.op=.call { callee:=.builtin .len,args:=#[x],argTypes:=#[T] })(hT:P.underlying T=some (.map K E))(hx:cO x=some x')
  {ob:Prop} {y:V} (h:aJ fr J (.wq x')=some (ob,y)):Yields P o a w J μ y:=by
 have h1:=cn hF hx;simp only[aJ]at h;split at h
 ·rename_i hp;simp only[aa,ao]at h;obtain⟨_,rfl⟩:=h;rw[hp]at h1;have hv:a.eval x=.map none:=h1.wC;refine .pure (v:=.int .i64 0) ?_ (.i _ _);simp[execOp,ho,resolve,invoke,builtin,hv,Builtin.len_,run_underlying hT,goInt]
 ·rename_i id hp;split at h
  ·rename_i K' E' es hb;simp only[aa,ao]at h;obtain⟨_,rfl⟩:=h;rw[hp]at h1;obtain⟨r,hv,hm,_⟩:=h1.oV;obtain⟨r',ents,clock,hm',_,hh,hR⟩:=hS.obj id _ hb;rw[hm]at hm';simp only[Value.map.injEq,aa]at hm';subst hm';refine .pure (v:=.int .i64 es.length) ?_ (.i _ _);have hg:(getObj r).run P w=.ok (.map ents clock) w:=by simp[getObj,Sem.run,hh]
   simp[execOp,ho,resolve,invoke,builtin,hv,Builtin.len_,run_underlying hT,goInt,hg,hR.1]
  ·simp at h
 ·simp at h
theorem P2{T K E:TypeId}{m k:Operand}{m' k':O}{kd:Nat}{z:V}{ok:Bool}(ho:o.op=.lookup T m k ok)(hT:P.underlying T=some (.map K E))(hm:cO m=some m')(hk:cO k=some k')(nP:im P K=some kd)(hz:zeroV P E=some z)
  {ob:Prop} {y:V} (h:aJ fr J (.look kd z ok m' k')=some (ob,y)) (cK:ob):Yields P o a w J μ y:=by
 have h1:=cn hF hm;have h2:=cn hF hk;obtain⟨zv,Wj,QK⟩:=Bw (w:=w) (J:=J) (μ:=μ) hz
 have Ws:ja kd (ev fr k')=true:=by
  simp only[aJ]at h;split at h<;>simp only[aa,ao,reduceCtorEq]at h<;>(obtain⟨rfl,_⟩:=h;exact cK)
 have uF:∀ (u:V) (v:Value) (q:Bool),VR w J μ u v→(Instr.lookup T (a.eval m) (a.eval k) ok).run P w=.ok (if ok then .tuple #[v,.bool q]else v) w→Yields P o a w J μ (if ok then .fa [u,.b q]else u):=by
  intro u v q hu hr;refine .pure (v:=if ok then .tuple #[v,.bool q]else v) (by simp[execOp,ho,hr]) ?_;cases ok
  ·exact hu
  ·refine .fa _ _ rfl fun i x hx=>?_
   match i with
   | 0=>simp only[au,aa]at hx;subst hx;exact hu
   | 1=>simp only[bA,au,aa]at hx;subst hx;exact .b _
   | i+2=>simp at hx
 have hes:∀ (r:Option (Option (Nat×V))),bX J kd (ev fr m') (ev fr k')=r→∀ q,r=some q →
   (q=none→(Instr.lookup T (a.eval m) (a.eval k) ok).run P w=.ok (if ok then .tuple #[zv,.bool false]else zv) w) ∧
   (∀ n u,q=some (n,u)→∃ v,VR w J μ u v∧(Instr.lookup T (a.eval m) (a.eval k) ok).run P w=.ok (if ok then .tuple #[v,.bool true]else v) w):=by
  intro r hr q hq;unfold bX at hr;split at hr
  ·rename_i hp;rw[hp]at h1;have hv:a.eval m=.map none:=h1.wC;rw[← hr]at hq;simp only[aa]at hq;subst hq;refine⟨fun _=>?_,fun n u h=>by simp at h⟩;rw[hv];have ta:=run_checkKey (P:=P) (w:=w) nP true 9998 h2 Ws
   have Vm:(Instr.findKey K (a.eval k) []).run P w=.ok none w:=by
    rcases iz nP h2 [] [] none rfl (by simp) rfl with⟨_,h⟩ | ⟨_,_,_,_,h,_⟩
    ·exact h
    ·simp at h
   cases ok<;>simp[Instr.lookup,run_underlying hT,ta,Vm,Wj]
  ·rename_i id hp;rw[hp]at h1;obtain⟨rr,hv,jX,_⟩:=h1.oV;split at hr
   ·rename_i K' E' es hb;obtain⟨r',ents,clock,hm',_,hh,hR⟩:=hS.obj id _ hb;rw[jX]at hm';simp only[Value.map.injEq,aa]at hm';subst hm';have hg:(getObj rr).run P w=.ok (.map ents clock) w:=by simp[getObj,Sem.run,hh]
    rw[← hr]at hq
    have hf:=iz nP h2 es ents.toList q (by rw[aF];exact hR.1) (fun i a x hi=>by
     obtain⟨_,_,e,h3,h4,h5⟩:=hR.2.1 i a x hi;exact⟨e,by simpa using h3,h4,h5⟩) hq
    have ta:=run_checkKey (P:=P) (w:=w) nP ents.isEmpty 9998 h2 Ws;refine⟨fun hn=>?_,fun n u hn=>?_⟩
    ·rcases hf with⟨_,h3⟩ | ⟨i,x,e,a2,h3,_⟩
     ·rw[hv];cases ok<;>simp[Instr.lookup,run_underlying hT,hg,ta,h3,Wj]
     ·rw[hn]at h3;simp at h3
    ·rcases hf with⟨h3,_⟩ | ⟨i,x,e,a2,h3,h4,h5,_,h6⟩
     ·rw[hn]at h3;simp at h3
     ·rw[hn]at h3;simp only[aa,ao]at h3;obtain⟨_,rfl⟩:=h3;obtain⟨_,_,e2,h7,_,h8⟩:=hR.2.1 i a2 u h4
      have:e2=e:=by
       have h9:ents[i]?=some e:=by simpa using h5
       rw[h7]at h9;simpa using h9
      subst this;refine⟨e2.val,h8,?_⟩;rw[hv];cases ok<;>simp[Instr.lookup,run_underlying hT,hg,ta,h6]
   ·rw[← hr]at hq;simp at hq
  ·rw[← hr]at hq;simp at hq
 simp only[aJ]at h;generalize hr:bX J kd (ev fr m') (ev fr k')=r at h;have hq:=hes r hr;cases r with
 | none=>simp at h
 | some q =>
  obtain⟨h3,h4⟩:=hq q rfl;cases q with
  | none =>
   simp only[aa,ao]at h;obtain⟨_,rfl⟩:=h;exact uF _ _ _ QK (h3 rfl)
  | some q =>
   obtain⟨n,u⟩:=q;simp only[aa,ao]at h;obtain⟨_,rfl⟩:=h;obtain⟨v,h5,h6⟩:=h4 n u rfl;exact uF _ _ _ h5 h6
end b9
end Go.Pm

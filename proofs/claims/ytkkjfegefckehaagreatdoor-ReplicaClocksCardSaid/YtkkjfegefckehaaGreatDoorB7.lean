/- A part of the proof of the statement of the last text of this claim; its conditions stand there. -/
import Derived.Lib.Strings
import Derived.Laws.BytesArg
import Derived.Test.YtkkjfegefckehaaGreatDoorB6
set_option linter.all false

namespace Go.Pm
open Go Go.RowKit
theorem pK{P:Program}{w:World}{T:TypeId}{q:Bool}(h:jr P T=some q):(isAgg T).run P w=.ok q w:=by
 unfold jr at h;split at h<;>simp only[aa,reduceCtorEq]at h<;>subst h
 ·rename_i fs hu;simp[isAgg,run_underlying hu]
 ·rename_i n e hu;simp[isAgg,run_underlying hu]
 ·rename_i d h1 h2 hu;simp only[isAgg,Sem.run_bind,run_underlying hu,Result.andThen_ok];cases d<;>first | rfl | (exact absurd rfl (h1 _)) | (exact absurd rfl (h2 _ _))
theorem Cz{P:Program}{w:World}{T:TypeId}{b off:Nat}{v:Value}(hT:jr P T=some false)(hc:w.cell? ⟨b,off,none⟩=some v):
  (Instr.loadAt T (.pointer (some ⟨b,off,none⟩))).run P w=.ok v w:=by
 simp[Instr.loadAt,Instr.sureAddr,loadVar,pK hT,hc]
theorem CA{P:Program}{w:World}{T:TypeId}{t:TypeInfo}{b off:Nat}(f:Nat→Value)(hT:jr P T=some true)(ht:P.info? T=some t)(hc:∀ j,j<t.size→w.cell? ⟨b,off+j,none⟩=some (f j)):
  (Instr.loadAt T (.pointer (some ⟨b,off,none⟩))).run P w=.ok (.agg ((List.range t.size).map f).toArray) w:=by
 have h1:=run_loadCells (P:=P) w ⟨b,off,none⟩ t.size f (fun j hj=>by rw[Addr.add_lit];exact hc j hj);simp[Instr.loadAt,Instr.sureAddr,loadVar,pK hT,sizeOf,typeInfo,ht,h1]
theorem nB{w:World}{b:Nat}{vs:Array Value}{T:Nat}{fr:Nat×Nat}(h:w.heap[b]?=some (.cells vs T fr))(j:Nat):w.cell? ⟨b,j,none⟩=vs[j]?:=by
 simp[World.cell?,h]
theorem jw.rowAt{P:Program}{B:Nat}{w0 w:World}{σ:ag}{μ:Mem}(hS:jw P B w0 w σ μ){id E sz by' g:Nat}{sh:Bool}{xs:List (List V)}(ho:σ[id]?=some (.row E sz by' g sh xs)):
  Ti P E sz by'∧(∀ r∈xs,r.length=sz)∧((μ id=.slice none 0 0∧xs=[]) ∨
   ∃ b cap cur,μ id=.slice (some ⟨b,0,none⟩) xs.length cap∧w.heap[b]?=some (.cells cur E (0,0))∧xs.length≤cap∧cap≤maxLen∧cur.size=cap*sz ∧
    ∀ i j x,fe xs i j=some x→x.pure=true∧∃ v,w.cell? ⟨b,i*sz+j,none⟩=some v∧VR w σ μ x v):=by
 obtain⟨hT,vals,⟨hl,hw⟩,cP,hr⟩:=hS.obj id _ ho;refine⟨hT,cP,?_⟩;rcases hw with⟨h1,h2⟩ | ⟨b,cap,cur,h1,h2,h3,h4,h5,h6,h7⟩
 ·exact .inl ⟨h1,bL h2⟩
 ·refine .inr ⟨b,cap,cur,h1,h3,h4,h5,h6,fun i j x hx=>⟨(hr i j x hx).1,?_⟩⟩;obtain⟨v,h8,h9⟩:=(hr i j x hx).2;refine⟨v,?_,h9⟩;rw[nB h3];rw[← h7]at h8
  have ML:i*sz+j<xs.length*sz:=by
   rcases fV (i*sz+j) (xs.length*sz)with h | h
   ·exact h
   ·rw[bR (by simp;omega)]at h8;simp at h8
  rw[bz ML]at h8;simpa using h8
theorem jw.Li{P:Program}{B:Nat}{w0 w:World}{σ:ag}{μ:Mem}(hS:jw P B w0 w σ μ){id T:Nat}{cs:List V}(ho:σ[id]?=some (.box T cs)):
  ∃ b vs,μ id=.pointer (some ⟨b,0,none⟩)∧B≤b∧w.heap[b]?=some (.cells vs T (0,0))∧vs.size=cs.length∧∀ j x,cs[j]?=some x→∃ u,w.cell? ⟨b,j,none⟩=some u∧VR w σ μ x u:=by
 obtain⟨b,vs,h1,h2,h3,h4,h5⟩:=hS.obj id _ ho;refine⟨b,vs,h1,h2,h3,h4,fun j x hx=>?_⟩;obtain⟨u,h6,h7⟩:=h5 j x hx;exact⟨u,by rw[nB h3];exact h6,h7⟩
theorem Kn{P:Program}{w:World}{σ:ag}{μ:Mem}{T:TypeId}{t:TypeInfo}{b off:Nat}{k:Option Nat}{row:List V}(ht:P.info? T=some t)
  (hk:(k=none∧jr P T=some false)∨(k=some t.size∧jr P T=some true)) (d:Nat)
  (hc:∀ j y,row[d+j]?=some y→∃ u,w.cell? ⟨b,off+j,none⟩=some u∧VR w σ μ y u) :
  (k=none→∀ y,row[d]?=some y→∃ v,(Instr.loadAt T (.pointer (some ⟨b,off,none⟩))).run P w=.ok v w∧VR w σ μ y v) ∧
  (∀ n,k=some n→d+n≤row.length→∃ v,(Instr.loadAt T (.pointer (some ⟨b,off,none⟩))).run P w=.ok v w∧VR w σ μ (.agg ((row.drop d).take n)) v):=by
 constructor
 ·rintro rfl y hy;obtain⟨u,h1,h2⟩:=hc 0 y hy;have hT:=hk.resolve_right (by simp);exact⟨u,Cz hT.2 (by simpa using h1),h2⟩
 ·rintro n rfl hn;have hT:=hk.resolve_left (by simp);simp only[aa]at hT;obtain⟨rfl,hT⟩:=hT
  have hf:∀ j,j<t.size→∃ u,w.cell? ⟨b,off+j,none⟩=some u∧∃ y,row[d+j]?=some y∧VR w σ μ y u:=by
   intro j hj;have fk:d+j<row.length:=by omega
   obtain⟨u,h1,h2⟩:=hc j row[d+j] (aw fk);exact⟨u,h1,row[d+j],aw fk,h2⟩
  let f:Nat→Value:=fun j=>(w.cell? ⟨b,off+j,none⟩).getD undef
  have hf1:∀ j,j<t.size→w.cell? ⟨b,off+j,none⟩=some (f j):=by
   intro j hj;obtain⟨u,h1,_⟩:=hf j hj;simp[f,h1]
  refine⟨.agg ((List.range t.size).map f).toArray,CA f hT ht hf1,.agg _ _ (by simp;omega) ?_⟩;intro i y hy
  have hi:i<t.size:=by
   rcases fV i t.size with h | h
   ·exact h
   ·rw[bR (by simp;omega)]at hy;simp at hy
  rw[bz hi,dV]at hy;obtain⟨u,h1,y',h2,h3⟩:=hf i hi;rw[h2]at hy;simp only[aa]at hy;subst hy
  have:(((List.range t.size).map f).toArray.getD i undef)=u:=by
   have h4:f i=u:=by simp[f,h1]
   simp[hi,h4]
  rw[this];exact h3
theorem Ap{P:Program}{o:Oper}{a:Act}{w:World}{σ:ag}{μ:Mem}{T:TypeId}{x:Operand}{t:TypeInfo}{b off:Nat}{k:Option Nat}{row:List V}
  (ho:o.op=.load T x) (hx:a.eval x=.pointer (some ⟨b,off,none⟩)) (ht:P.info? T=some t)
  (hk:(k=none∧jr P T=some false)∨(k=some t.size∧jr P T=some true)) (d:Nat)
  (hc:∀ j y,row[d+j]?=some y→∃ u,w.cell? ⟨b,off+j,none⟩=some u∧VR w σ μ y u) :
  (k=none→∀ y,row[d]?=some y→Yields P o a w σ μ y)∧(∀ n,k=some n→d+n≤row.length→Yields P o a w σ μ (.agg ((row.drop d).take n))):=by
 obtain⟨h1,h2⟩:=Kn (P:=P) (row:=row) ht hk d hc;constructor
 ·intro hk y hy;obtain⟨v,h3,h4⟩:=h1 hk y hy;exact .pure (v:=v) (by simp[execOp,ho,hx,h3]) h4
 ·intro n hk hn;obtain⟨v,h3,h4⟩:=h2 n hk hn;exact .pure (v:=v) (by simp[execOp,ho,hx,h3]) h4
section dh
variable {P:Program} {o:Oper} {a:Act} {B:Nat} {w0 w:World} {σ:ag} {μ:Mem} {fr:List V} (hF:FR w σ μ fr a) (hS:jw P B w0 w σ μ)
include hF hS
theorem Rh{T:TypeId}{x:Operand}{x':O}{t:TypeInfo}{k:Option Nat}(ho:o.op=.load T x)(hx:cO x=some x')(ht:P.info? T=some t)
  (hk:(k=none∧jr P T=some false)∨(k=some t.size∧jr P T=some true)) {ob:Prop} {y:V} (h:bm fr σ (.load k x')=some (ob,y)) (ff:ob):Yields P o a w σ μ y:=by
 have h1:=eQ hF hx;simp only[bm]at h;split at h
 ·rename_i id off hp;rw[hp]at h1;obtain⟨b,hm,hv,_⟩:=h1.sN;split at h
  ·rename_i T' cs hb;obtain⟨b',vs,hm',hB,hh,gO,qV⟩:=hS.Li hb;rw[hm]at hm';simp only[Value.pointer.injEq,aa,Addr.mk.injEq,and_true]at hm';subst hm';have hl:=Ap (P:=P) (σ:=σ) (μ:=μ) (row:=cs) (k:=k) ho hv ht hk off (fun j z hz=>qV _ z hz);split at h
   ·split at h
    ·rename_i z hz;simp only[aa,aI]at h;obtain⟨_,rfl⟩:=h;exact hl.1 rfl _ hz
    ·simp at h
   ·simp only[aa,aI]at h;obtain⟨rfl,rfl⟩:=h;exact hl.2 _ rfl ff
  ·simp at h
 ·rename_i sz xs i off hp;rw[hp]at h1;obtain⟨b,o',f,hv,hi,cP,hc,hvv⟩:=h1.H9;have Q6:xs[i]?=some xs[i]:=aw hi
  have hl:=Ap (P:=P) (σ:=σ) (μ:=μ) (row:=xs[i]) (k:=k) ho hv ht hk off (fun j z hz=>by
   have h2:fe xs i (off+j)=some z:=by rw[td Q6];exact hz
   exact⟨f (off+j),by rw[Nat.add_assoc];exact(hc _ z h2).1,hvv _ z h2⟩)
  split at h
  ·split at h
   ·rename_i z hz;simp only[aa,aI]at h;obtain⟨_,rfl⟩:=h;rw[td Q6]at hz;exact hl.1 rfl _ hz
   ·simp at h
  ·simp only[aa,aI]at h;obtain⟨rfl,rfl⟩:=h;have hg:xs.getD i []=xs[i]:=by simp[hi]
   rw[hg]at ff ⊢;exact hl.2 _ rfl ff
 ·rename_i id g i off hp;rw[hp]at h1;split at h
  ·rename_i E sz by' g' sh xs hb;split at h
   ·rename_i hg;subst hg;obtain⟨hi,hv⟩:=h1.H7 hb;obtain⟨_,cP,hr⟩:=hS.rowAt hb;have Q6:xs[i]?=some xs[i]:=aw hi;rcases hr with⟨_,hn⟩ | ⟨b,cap,cur,hm,hh,_,_,_,hr⟩
    ·subst hn;simp at hi
    ·have hv':a.eval x=.pointer (some ⟨b,i*sz+off,none⟩):=by rw[hv,hm];rfl
     have hl:=Ap (P:=P) (σ:=σ) (μ:=μ) (row:=xs[i]) (k:=k) ho hv' ht hk off (fun j z hz=>by
      have h2:fe xs i (off+j)=some z:=by rw[td Q6];exact hz
      obtain⟨_,u,h3,h4⟩:=hr _ _ z h2;exact⟨u,by rw[Nat.add_assoc];exact h3,h4⟩)
     split at h
     ·split at h
      ·rename_i z hz;simp only[aa,aI]at h;obtain⟨_,rfl⟩:=h;rw[td Q6]at hz;exact hl.1 rfl _ hz
      ·simp at h
     ·simp only[aa,aI]at h;obtain⟨rfl,rfl⟩:=h;have hg:xs.getD i []=xs[i]:=by simp[hi]
      rw[hg]at ff ⊢;exact hl.2 _ rfl ff
   ·simp at h
  ·simp at h
 ·simp at h
theorem UM{x:Operand}{x':O}(ho:o.op=.nilCheck x)(hx:cO x=some x'){ob:Prop}{y:V}(h:bm fr σ (.lF x')=some (ob,y)):Yields P o a w σ μ y:=by
 have h1:=eQ hF hx
 have eP:∀ ad,a.eval x=.pointer (some ad)→(execOp a.eval o).run P w=.ok (.value (.pointer (some ad))) w:=by
  intro ad he;simp[execOp,ho,he]
 simp only[bm]at h;split at h<;>(try simp only[aa,aI,reduceCtorEq]at h)
 ·rename_i id off hp;obtain⟨_,rfl⟩:=h;rw[hp]at h1;have h2:=h1;obtain⟨b,hm,hv,hb⟩:=h1.sN;rw[hv]at h2;exact .pure (eP _ hv) h2
 ·rename_i sz xs i off hp;obtain⟨_,rfl⟩:=h;rw[hp]at h1;have h2:=h1;obtain⟨b,o',f',hv,_⟩:=h1.H9;rw[hv]at h2;exact .pure (eP _ hv) h2
 ·rename_i id g i off hp;split at h
  ·rename_i E sz by' g' sh xs ho';split at h<;>simp only[aa,aI,reduceCtorEq]at h;rename_i hg;subst hg;obtain⟨_,rfl⟩:=h;rw[hp]at h1;have h2:=h1;obtain⟨hi,hv⟩:=h1.H7 ho';obtain⟨_,_,hr⟩:=hS.rowAt ho';rcases hr with⟨_,hn⟩ | ⟨b,cap,cur,hm,_⟩
   ·subst hn;simp at hi
   ·have hv':a.eval x=.pointer (some ⟨b,i*sz+off,none⟩):=by rw[hv,hm];rfl
    rw[hv']at h2;exact .pure (eP _ hv') h2
  ·simp at h
theorem Yq{x y:Operand}{x' y':O}{T ts}(ho:o.op=.call { callee:=.builtin .max,args:=#[x,y],argTypes:=ts })(hx:cO x=some x')(hy:cO y=some y'){ob:Prop}{z:V}(h:bm fr σ (.max2 x' y')=some (ob,z))(_:T=ts):Yields P o a w σ μ z:=by
 have h1:=eQ hF hx;have h2:=eQ hF hy;simp only[bm]at h;split at h
 ·rename_i k p k' q hp hq;simp only[aa,aI]at h;obtain⟨_,rfl⟩:=h;rw[hp]at h1;rw[hq]at h2;refine .pure (v:=.int k (if p<q then q else p)) ?_ (.i _ _);simp[execOp,ho,resolve,invoke,builtin,h1.iP,h2.iP,run_max_int2]
 ·simp at h
theorem Yp{x y:Operand}{x' y':O}{ts}(ho:o.op=.call { callee:=.builtin .min,args:=#[x,y],argTypes:=ts })(hx:cO x=some x')(hy:cO y=some y'){ob:Prop}{z:V}(h:bm fr σ (.min2 x' y')=some (ob,z)):Yields P o a w σ μ z:=by
 have h1:=eQ hF hx;have h2:=eQ hF hy;simp only[bm]at h;split at h
 ·rename_i k p k' q hp hq;simp only[aa,aI]at h;obtain⟨_,rfl⟩:=h;rw[hp]at h1;rw[hq]at h2;refine .pure (v:=.int k (if q<p then q else p)) ?_ (.i _ _);simp[execOp,ho,resolve,invoke,builtin,h1.iP,h2.iP,run_min_int2]
 ·simp at h
end dh
theorem zy{P:Program}{t e:TypeId}(h:P.underlying t=some (.slice e)):P.elem t=e:=by simp[Program.elem,h]
theorem qx.row{w:World}{σ:ag}{μ:Mem}{xs:List (List V)}{sz b o:Nat}{f:Nat→Nat→Value}(h:qx w σ μ xs sz b o f){i:Nat}(hi:i<xs.length)(off:Nat):
  VR w σ μ (.ep sz xs i off) (.pointer (some ⟨b,o+i*sz+off,none⟩)) :=
 .ep sz xs i off b (o+i*sz) (f i) hi h.1 (fun j x hx=>h.2.1 i j x hx) (fun j x hx=>h.2.2 i j x hx)
theorem Cg{xs:List (List V)}{lo n i j:Nat}{x:V}(h:fe ((xs.drop lo).take n) i j=some x):fe xs (lo+i) j=some x:=by
 obtain⟨r,h1,h2⟩:=kL h
 have hi:i<n:=by
  rcases fV i n with h | h
  ·exact h
  ·rw[bR (by simp;omega)]at h1;simp at h1
 rw[bz hi,dV]at h1;rw[td h1,h2]
theorem qx.sub{w:World}{σ:ag}{μ:Mem}{xs:List (List V)}{sz b o:Nat}{f:Nat→Nat→Value}(h:qx w σ μ xs sz b o f)(lo n:Nat):
  qx w σ μ ((xs.drop lo).take n) sz b (o+lo*sz) (fun i j=>f (lo+i) j):=by
 refine⟨fun r hr=>h.1 r (gk (ct hr)),fun i j x hx=>?_,fun i j x hx=>h.2.2 _ _ _ (Cg hx)⟩;have:=h.2.1 _ _ _ (Cg hx);have e:o+lo*sz+i*sz+j=o+(lo+i)*sz+j:=by rw[Nat.add_mul];omega
 rw[e];exact this
theorem Ez{P:Program}{w:World}{t e:TypeId}{ti:TypeInfo}(ht:P.underlying t=some (.slice e))(hi:P.info? e=some ti)(a:Option Addr)(len cap:Nat)(lo hi':Option Value)(l h:Int)
  (rB:(lo=none∧l=0)∨∃ k,lo=some (.int k l)) (WC:(hi'=none∧h=len)∨∃ k,hi'=some (.int k h)) (h0:0≤l) (h1:l≤h) (h2:h≤cap) :
  (Instr.sliceAt t (.slice a len cap) lo hi' none).run P w=.ok (pW (.slice a len cap) l.toNat h.toNat ti.size) w:=by
 have ht':P.underlying t=some (.slice (P.elem t)):=by rw[zy ht];exact ht
 have hs:(sizeOf (P.elem t)).run P w=.ok ti.size w:=by rw[zy ht];simp[sizeOf,typeInfo,hi]
 have h0h:0≤h:=by omega
 rw[run_sliceAt_slice (w:=w) t _ lo hi' none ht'];have eh:(h.toNat:Int)=h:=Int.toNat_of_nonneg h0h;rcases rB with⟨rfl,rfl⟩ | ⟨k,rfl⟩<;>rcases WC with⟨rfl,rfl⟩ | ⟨k',rfl⟩
 ·rw[run_slice_all (w:=w) t a len cap ht',hs];simp[sliced,pW]
 ·rw[run_slice_h (w:=w) t a len cap ht' k' h h0h h2,hs];simp[sliced,pW]
 ·rw[run_slice_l (w:=w) t a len cap ht' k l h0 h1,hs];simp[sliced,pW]
 ·rw[run_slice_lh (w:=w) t a len cap ht' k k' l h h0 h1 h2,hs];simp[sliced,pW]
theorem Cy{P:Program}{w:World}{t:TypeId}(ht:P.underlying t=some .string)(s:ByteArray)(lo hi':Option Value)(l h:Int)
  (rB:(lo=none∧l=0)∨∃ k,lo=some (.int k l)) (WC:(hi'=none∧h=s.size)∨∃ k,hi'=some (.int k h)) (h0:0≤l) (h1:l≤h) (h2:h≤s.size) :
  (Instr.sliceAt t (.string s) lo hi' none).run P w=.ok (.string (s.extract l.toNat h.toNat)) w:=by
 have h0h:0≤h:=by omega
 rw[run_sliceAt_string (w:=w) t _ lo hi' none ht];rcases rB with⟨rfl,rfl⟩ | ⟨k,rfl⟩<;>rcases WC with⟨rfl,rfl⟩ | ⟨k',rfl⟩
 ·rw[run_slice_string_all (w:=w) t s ht];simp
 ·rw[run_slice_string_to_if (w:=w) t s k' h ht,if_pos ⟨h0h,h2⟩];simp
 ·rw[run_slice_string_from_if (w:=w) t s k l ht,if_pos ⟨h0,by omega⟩];simp
 ·rw[run_slice_string_if (w:=w) t s k k' l h ht,if_pos ⟨h0h,h2⟩,if_pos ⟨h0,h1⟩]
theorem Ix(s:ByteArray)(i j:Nat):(s.extract i j).data.toList=(s.data.toList.drop i).take (j - i):=by
 rw[ByteArray.data_extract,Array.toList_extract,List.extract_eq_take_drop]
section dh
variable {P:Program} {o:Oper} {a:Act} {B:Nat} {w0 w:World} {σ:ag} {μ:Mem} {fr:List V} (hF:FR w σ μ fr a) (hS:jw P B w0 w σ μ)
include hF hS
theorem abk{T E:TypeId}{t:TypeInfo}{x i:Operand}{x' i':O}(ho:o.op=.indexAddr T x i)(hT:P.underlying T=some (.slice E))(ht:P.info? E=some t)(hx:cO x=some x')(hi:cO i=some i')
  {ob:Prop} {y:V} (h:bm fr σ (.idx t.size x' i')=some (ob,y)) (ff:ob):Yields P o a w σ μ y:=by
 have h1:=eQ hF hx;have h2:=eQ hF hi;have hT':P.underlying T=some (.slice (P.elem T)):=by rw[zy hT];exact hT
 simp only[bm]at h;split at h
 ·rename_i k n hn;rw[hn]at h2;have h2:=h2.iP
  have eP:∀ b off len cap,a.eval x=.slice (some ⟨b,off,none⟩) len cap→0≤n→n<len→(execOp a.eval o).run P w=.ok (.value (.pointer (some ⟨b,off+n.toNat*t.size,none⟩))) w:=by
   intro b off len cap he Oz vX;simp[execOp,ho,he,h2,run_indexAt_slice (w:=w) T _ len cap k n hT',Oz,vX,zy hT,sizeOf,typeInfo,ht,Addr.add_lit]
  split at h
  ·rename_i sz xs hp;split at h<;>simp only[aa,aI,reduceCtorEq]at h;rename_i gO;subst gO;obtain⟨rfl,rfl⟩:=h;rw[hp]at h1;rcases h1.Dw with⟨rfl,_⟩ | ⟨b,off,cap,f,hv,_,_,hr⟩
   ·simp at ff;omega
   ·refine .pure (eP b off _ cap hv ff.1 ff.2) ?_;exact hr.row (by omega) 0
  ·rename_i sz xs hp;split at h<;>simp only[aa,aI,reduceCtorEq]at h;rename_i gO;subst gO;obtain⟨rfl,rfl⟩:=h;rw[hp]at h1;rcases h1.qR with⟨rfl,_⟩ | ⟨b,off,f,hv,_,hr⟩
   ·simp at ff;omega
   ·refine .pure (eP b off _ _ hv ff.1 ff.2) ?_;exact hr.row (by omega) 0
  ·rename_i id g hp;split at h
   ·rename_i E' sz by' g' sh xs hb;split at h<;>simp only[aa,aI,reduceCtorEq]at h;rename_i hg;obtain⟨rfl,rfl⟩:=hg;obtain⟨rfl,rfl⟩:=h;rw[hp]at h1;have hv:=h1.lX hb;obtain⟨_,_,hr⟩:=hS.rowAt hb;rcases hr with⟨_,hn⟩ | ⟨b,cap,cur,hm,_⟩
    ·subst hn;simp at ff;omega
    ·refine .pure (eP b 0 _ cap (hv.trans hm) ff.1 ff.2) (.rp id g _ _ _ (ae.1 hb).1 ?_);intro E2 sz2 by2 g2 sh2 xs2 h3;rw[hb]at h3;simp only[aa,Ob.row.injEq]at h3;obtain⟨rfl,rfl,rfl,rfl,rfl,rfl⟩:=h3;exact⟨aB _,fun _=>⟨by omega,by rw[hm];simp[rpv]⟩⟩
   ·simp at h
  ·simp at h
 ·simp at h
theorem Ys{T E:TypeId}{n:Nat}{t:TypeInfo}{x i:Operand}{x' i':O}(ho:o.op=.indexAddr T x i)(hT:P.underlying T=some (.array n E))(ht:P.info? E=some t)(hx:cO x=some x')(hi:cO i=some i')
  {ob:Prop} {y:V} (h:bm fr σ (.QW n t.size x' i')=some (ob,y)) (ff:ob):Yields P o a w σ μ y:=by
 have h1:=eQ hF hx;have h2:=eQ hF hi;have hl:P.arrayLen T=n:=by simp[Program.arrayLen,hT]
 have he:P.elem T=E:=by simp[Program.elem,hT]
 have hT':P.underlying T=some (.array (P.arrayLen T) (P.elem T)):=by rw[hl,he];exact hT
 simp only[bm]at h;split at h<;>simp only[aa,aI,reduceCtorEq]at h;rename_i id off k m hp hq;obtain⟨rfl,rfl⟩:=h;rw[hp]at h1;rw[hq]at h2;obtain⟨b,hm,hv,hb⟩:=h1.sN;have h2:=h2.iP;refine .pure (v:=.pointer (some ⟨b,off+m.toNat*t.size,none⟩)) ?_ (.ptr id _ b hb hm);have hr:=run_indexAt_array (P:=P) (w:=w) T ⟨b,off,none⟩ k m hT';rw[hl,he,if_pos ff]at hr;have hs:(sizeOf E).run P w=.ok t.size w:=by simp[sizeOf,typeInfo,ht]
 rw[hs,Result.andThen_ok,Addr.add_lit]at hr;simp only[execOp,ho,hv,h2,Sem.run_bind,hr,Result.andThen_ok,Sem.run_pure]
theorem abt{T E:TypeId}{n:Nat}{t:TypeInfo}{x:Operand}{x':O}(ho:o.op=.slice T x none none none)(hT:P.underlying T=some (.array n E))(ht:P.info? E=some t)(h1s:t.size=1)(hx:cO x=some x')
  {ob:Prop} {y:V} (h:bm fr σ (.asl n x')=some (ob,y)) (ff:ob):Yields P o a w σ μ y:=by
 have h1:=eQ hF hx;have hl:P.arrayLen T=n:=by simp[Program.arrayLen,hT]
 have he:P.elem T=E:=by simp[Program.elem,hT]
 have hT':P.underlying T=some (.array (P.arrayLen T) (P.elem T)):=by rw[hl,he];exact hT
 simp only[bm]at h;split at h<;>(try simp only[reduceCtorEq]at h);rename_i sz xs i hp;split at h<;>simp only[aa,aI,reduceCtorEq]at h;rename_i hn;obtain⟨rfl,rfl⟩:=h;rw[hp]at h1;obtain⟨b,o',f,hv,hi,cP,hc,Ic⟩:=h1.H9;have hs:(sizeOf E).run P w=.ok t.size w:=by simp[sizeOf,typeInfo,ht]
 have hr:=run_sliceAt_array_all (P:=P) w T ⟨b,o',none⟩ hT';rw[hl,he,hs,Result.andThen_ok]at hr
 have ha:slicedAt ⟨b,o',none⟩ 0 n n t.size=.slice (some ⟨b,o',none⟩) n n:=by
  simp[slicedAt,Addr.add_lit]
 rw[ha]at hr;refine .pure (v:=.slice (some ⟨b,o',none⟩) n n) ?_ ?_
 ·simp only[execOp,ho,hv,bC,Option.map_none,Sem.run_bind,hr,Result.andThen_ok,Sem.run_pure]
 ·have dY:∀ (k j:Nat) (x:V),fe ((xs.getD i []).map fun c=>[c]) k j=some x→j=0∧fe xs i k=some x:=by
   have hri:xs[i]?=some (xs.getD i []):=by simp[List.getD_eq_getElem?_getD,aw hi]
   intro k j x hx;simp only[fe,hri,jG];generalize xs.getD i []=row at hx;simp only[fe,aZ]at hx;cases hk:row[k]? with
   | none=>simp[hk]at hx
   | some c =>
    simp only[hk,cU,jG]at hx;cases j with
    | zero =>
     simp only[ao]at hx;exact⟨rfl,hx⟩
    | succ j=>simp at hx
  have h6:=VR.sl (w:=w) (σ:=σ) (μ:=μ) 1 ((xs.getD i []).map fun c=>[c]) b o' n (fun k _=>f k) (by simp only[List.length_map];omega) (by unfold maxLen;omega) (by simp)
   (fun k j x hx=>by
    obtain⟨rfl,h7⟩:=dY k j x hx;have:=hc k x h7;simpa using this)
   (fun k j x hx=>Ic k x (dY k j x hx).2)
  simp only[List.length_map]at h6;rw[hn]at h6;exact h6
theorem Ym{T:TypeId}{x i:Operand}{x' i':O}(ho:o.op=.index T x i)(hT:P.underlying T=some .string)(hx:cO x=some x')(hi:cO i=some i')
  {ob:Prop} {y:V} (h:bm fr σ (.Jq x' i')=some (ob,y)) (ff:ob):Yields P o a w σ μ y:=by
 have h1:=eQ hF hx;have h2:=eQ hF hi;simp only[bm]at h;split at h<;>simp only[aa,aI,reduceCtorEq]at h;rename_i l k n hp hn;obtain⟨rfl,rfl⟩:=h;rw[hp]at h1;rw[hn]at h2;obtain⟨s,hv,hl,_⟩:=h1.nO;have gO:s.size=l.length:=by rw[← hl];exact bsize s
 refine .pure (v:=.int .u8 (l.getD n.toNat 0).toNat) ?_ (.i _ _);have hc:0≤n∧n<s.size:=by rw[gO];exact ff
 have fk:n.toNat<l.length:=by omega
 have hb:s[n.toNat]'(by omega)=l.getD n.toNat 0:=by
  subst hl;rw[List.getD_eq_getElem?_getD,aw fk];simp[ByteArray.getElem_eq_getElem_data]
 have h3:=run_index_string (P:=P) (w:=w) T s k n hT;rw[dif_pos hc,hb]at h3;simp only[execOp,ho,hv,h2.iP,Sem.run_bind,h3,Result.andThen_ok,Sem.run_pure]
theorem Yl{T:TypeId}{x:Operand}{x':O}(ho:o.op=.call { callee:=.builtin .len,args:=#[x],argTypes:=#[T] })(hT:P.underlying T=some .string)(hx:cO x=some x')
  {ob:Prop} {y:V} (h:bm fr σ (.len true x')=some (ob,y)):Yields P o a w σ μ y:=by
 have h1:=eQ hF hx;simp only[bm]at h;split at h<;>simp only[aa,aI,reduceCtorEq]at h;rename_i l hp;obtain⟨_,rfl⟩:=h;rw[hp]at h1;obtain⟨s,hv,hl,_⟩:=h1.nO;have gO:s.size=l.length:=by rw[← hl];exact bsize s
 refine .pure (v:=.int .i64 l.length) ?_ (.i _ _);simp[execOp,ho,resolve,invoke,builtin,hv,run_len_string (w:=w) T _ s hT,goInt,gO]
theorem abj{T E:TypeId}{x:Operand}{x':O}(ho:o.op=.call { callee:=.builtin .len,args:=#[x],argTypes:=#[T] })(hT:P.underlying T=some (.slice E))(hx:cO x=some x')
  {ob:Prop} {y:V} (h:bm fr σ (.len false x')=some (ob,y)):Yields P o a w σ μ y:=by
 have h1:=eQ hF hx;have hT':P.underlying T=some (.slice (P.elem T)):=by rw[zy hT];exact hT
 have eP:∀ b n c,a.eval x=.slice b n c→Yields P o a w σ μ (.i .i64 n):=by
  intro b n c he;refine .pure (v:=.int .i64 n) ?_ (.i _ _);simp[execOp,ho,resolve,invoke,builtin,he,run_len_slice (w:=w) T _ b n c hT',goInt]
 simp only[bm]at h;split at h<;>(try simp only[aa,aI,reduceCtorEq]at h)
 ·rename_i hp;obtain⟨_,rfl⟩:=h;rw[hp]at h1;exact eP _ _ _ h1.lG
 ·rename_i sz xs hp;obtain⟨_,rfl⟩:=h;rw[hp]at h1;rcases h1.qR with⟨rfl,hv⟩ | ⟨b,off,f,hv,_⟩
  ·exact eP _ _ _ hv
  ·exact eP _ _ _ hv
 ·rename_i sz xs hp;obtain⟨_,rfl⟩:=h;rw[hp]at h1;rcases h1.Dw with⟨rfl,_,hv⟩ | ⟨b,off,cap,f,hv,_⟩
  ·exact eP _ _ _ hv
  ·exact eP _ _ _ hv
 ·rename_i id g hp;split at h
  ·rename_i E' sz by' g' sh xs hb;split at h<;>simp only[aa,aI,reduceCtorEq]at h;rename_i hg;subst hg;obtain⟨_,rfl⟩:=h;rw[hp]at h1;have hv:=h1.lX hb;obtain⟨_,_,hr⟩:=hS.rowAt hb;rcases hr with⟨hm,hn⟩ | ⟨b,cap,cur,hm,_⟩
   ·subst hn;exact eP _ _ _ (hv.trans hm)
   ·exact eP _ _ _ (hv.trans hm)
  ·simp at h
 ·rename_i id g lo hi hp;split at h
  ·rename_i E' sz by' g' sh xs hb;split at h<;>simp only[aa,aI,reduceCtorEq]at h;rename_i hg;subst hg;obtain⟨_,rfl⟩:=h;rw[hp]at h1;obtain⟨_,_,hv⟩:=h1.zd hb;obtain⟨_,_,hr⟩:=hS.rowAt hb;rcases hr with⟨hm,hn⟩ | ⟨b,cap,cur,hm,_⟩
   ·rw[hm]at hv;exact eP _ _ _ hv
   ·rw[hm]at hv;exact eP _ _ _ hv
  ·simp at h
theorem Rg{T:TypeId}{x:Operand}{lo hi:Option Operand}{x':O}{lo' hi':Option O}(ho:o.op=.slice T x lo hi none)(hT:P.underlying T=some .string)(hx:cO x=some x')(hl:wj lo=some lo')(hh:wj hi=some hi')
  {ob:Prop} {y:V} (h:bm fr σ (.sf x' lo' hi')=some (ob,y)) (ff:ob):Yields P o a w σ μ y:=by
 have h1:=eQ hF hx;simp only[bm]at h;split at h
 ·rename_i l hp;rw[hp]at h1;obtain⟨s,hv,IN,hm⟩:=h1.nO;have gO:s.size=l.length:=by rw[← IN];exact bsize s
  split at h<;>simp only[aa,aI,reduceCtorEq]at h;rename_i p q Qj S5;obtain⟨rfl,rfl⟩:=h
  have rB:(lo.map a.eval=none∧p=0)∨∃ k,lo.map a.eval=some (.int k p):=by
   cases lo with
   | none =>
    simp only[wj,aa]at hl;subst hl;simp only[aa]at Qj;exact .inl ⟨rfl,Qj.symm⟩
   | some z =>
    simp only[wj,ar]at hl;obtain⟨z',hz,rfl⟩:=hl;have h4:=eQ hF hz;dsimp only at Qj;split at Qj<;>simp only[aa,reduceCtorEq]at Qj;rename_i k p' hp';subst Qj;rw[hp']at h4;exact .inr ⟨k,by simp[h4.iP]⟩
  have WC:(hi.map a.eval=none∧q=s.size)∨∃ k,hi.map a.eval=some (.int k q):=by
   cases hi with
   | none =>
    simp only[wj,aa]at hh;subst hh;simp only[aa]at S5;exact .inl ⟨rfl,by omega⟩
   | some z =>
    simp only[wj,ar]at hh;obtain⟨z',hz,rfl⟩:=hh;have h4:=eQ hF hz;dsimp only at S5;split at S5<;>simp only[aa,reduceCtorEq]at S5;rename_i k p' hp';subst S5;rw[hp']at h4;exact .inr ⟨k,by simp[h4.iP]⟩
  have hr:=Cy (P:=P) (w:=w) hT s (lo.map a.eval) (hi.map a.eval) p q rB WC ff.1 ff.2.1 (by have:=ff.2.2;omega);refine .pure (v:=.string (s.extract p.toNat q.toNat)) ?_ (.s _ _ ?_ ?_)
  ·simp[execOp,ho,hv,hr]
  ·rw[Ix,IN]
  ·have:=List.length_take_le (q.toNat - p.toNat) (l.drop p.toNat);have h5:(l.drop p.toNat).length≤l.length:=by simp
   simp only[aR,bH];omega
 ·simp at h
theorem UL{T E:TypeId}{t:TypeInfo}{x:Operand}{lo hi:Option Operand}{x':O}{lo' hi':Option O}(ho:o.op=.slice T x lo hi none)(hT:P.underlying T=some (.slice E))(ht:P.info? E=some t)(hx:cO x=some x')(hl:wj lo=some lo')(hh:wj hi=some hi')
  {ob:Prop} {y:V} (h:bm fr σ (.slice t.size x' lo' hi')=some (ob,y)) (ff:ob):Yields P o a w σ μ y:=by
 have h1:=eQ hF hx;simp only[bm]at h;split at h
 ·simp at h
 ·rename_i n hn;split at h
  ·rename_i p q Qj S5
   have rB:(lo.map a.eval=none∧p=0)∨∃ k,lo.map a.eval=some (.int k p):=by
    cases lo with
    | none =>
     simp only[wj,aa]at hl;subst hl;simp only[aa]at Qj;exact .inl ⟨rfl,Qj.symm⟩
    | some z =>
     simp only[wj,ar]at hl;obtain⟨z',hz,rfl⟩:=hl;have h4:=eQ hF hz;dsimp only at Qj;split at Qj<;>simp only[aa,reduceCtorEq]at Qj;rename_i k p' hp';subst Qj;rw[hp']at h4;exact .inr ⟨k,by simp[h4.iP]⟩
   have WC:(hi.map a.eval=none∧q=(n:Int))∨∃ k,hi.map a.eval=some (.int k q):=by
    cases hi with
    | none =>
     simp only[wj,aa]at hh;subst hh;simp only[aa]at S5;exact .inl ⟨rfl,by omega⟩
    | some z =>
     simp only[wj,ar]at hh;obtain⟨z',hz,rfl⟩:=hh;have h4:=eQ hF hz;dsimp only at S5;split at S5<;>simp only[aa,reduceCtorEq]at S5;rename_i k p' hp';subst S5;rw[hp']at h4;exact .inr ⟨k,by simp[h4.iP]⟩
   have eP:∀ b c,a.eval x=.slice b n c→0≤p→p≤q→q≤c→(execOp a.eval o).run P w=.ok (.value (pW (.slice b n c) p.toNat q.toNat t.size)) w:=by
    intro b c he ZO hpq hqc;have hr:=Ez (P:=P) (w:=w) hT ht b n c (lo.map a.eval) (hi.map a.eval) p q rB WC ZO hpq hqc;simp[execOp,ho,he,hr]
   have S2:∀ xs b off cap f,a.eval x=.slice (some ⟨b,off,none⟩) xs.length cap→xs.length≤cap→cap≤maxLen→qx w σ μ xs t.size b off f→n=xs.length→0≤p∧p≤q∧q≤n →
     Yields P o a w σ μ (.sl t.size ((xs.drop p.toNat).take (q.toNat - p.toNat))):=by
    intro xs b off cap f he hc Il hr hnx ⟨ZO,hpq,hqn⟩;subst hnx;refine .pure (eP _ cap he ZO hpq (by omega)) ?_;have hlen:((xs.drop p.toNat).take (q.toNat - p.toNat)).length=q.toNat - p.toNat:=by simp;omega
    by_cases WI:cap=p.toNat
    ·have:q.toNat - p.toNat=0:=by omega
     simp only[pW,WI,if_true,this,fJ,iu];exact .sl t.size [] b off 0 (fun _ _=>undef) (by simp) (by simp[maxLen]) (by simp) (by simp[fe]) (by simp[fe])
    ·simp only[pW,WI,if_false,cU,Addr.add_lit];have:=hr.sub p.toNat (q.toNat - p.toNat);have h5:=VR.sl (w:=w) (σ:=σ) (μ:=μ) t.size _ b _ (cap - p.toNat) _ (by rw[hlen];omega) (by omega) this.1 this.2.1 this.2.2
     rwa [hlen]at h5
   split at h
   ·rename_i hp;simp only[aa,aI]at h;obtain⟨rfl,rfl⟩:=h;rw[hp]at h1 hn;simp only[aa]at hn;obtain⟨rfl,rfl⟩:=ff;have hv:=h1.lG;subst hn;refine .pure (v:=.slice none 0 0) ?_ .nil;rw[eP none 0 hv (by omega) (by omega) (by omega)];simp[pW]
   ·rename_i sz xs hp;simp only[aa,aI]at h;obtain⟨rfl,rfl⟩:=h;rw[hp]at h1 hn;dsimp only at hn;split at hn<;>simp only[aa,reduceCtorEq]at hn;rename_i gO;subst gO;rcases h1.qR with⟨rfl,hv⟩ | ⟨b,off,f,hv,hm,hr⟩
    ·simp only[ah]at hn;subst hn;have ZO:p=0:=by omega
     have hq0:q=0:=by omega
     subst ZO;subst hq0;refine .pure (eP none 0 hv (by omega) (by omega) (by omega)) ?_;simp only[pW,Int.toNat_zero,if_true,afx,afv,iu];exact .yq _
    ·exact S2 xs b off _ f hv (aB _) hm hr hn.symm ff
   ·rename_i sz xs hp;simp only[aa,aI]at h;obtain⟨rfl,rfl⟩:=h;rw[hp]at h1 hn;dsimp only at hn;split at hn<;>simp only[aa,reduceCtorEq]at hn;rename_i gO;subst gO;rcases h1.Dw with⟨rfl,a0,hv⟩ | ⟨b,off,cap,f,hv,hc,hm,hr⟩
    ·simp only[ah]at hn;subst hn;have ZO:p=0:=by omega
     have hq0:q=0:=by omega
     subst ZO;subst hq0;refine .pure (eP a0 0 hv (by omega) (by omega) (by omega)) ?_;simp only[pW,Int.toNat_zero,if_true,afx,afv,iu];cases a0 with
     | none=>exact .yq _
     | some a0=>exact .sle _ a0
    ·exact S2 xs b off cap f hv hc hm hr hn.symm ff
   ·rename_i id g hp;simp only[aa,aI]at h;obtain⟨rfl,rfl⟩:=h;rw[hp]at h1 hn;dsimp only at hn;split at hn
    ·rename_i E' sz by' g' sh xs hb;split at hn<;>simp only[aa,reduceCtorEq]at hn;rename_i hg;obtain⟨rfl,rfl⟩:=hg;subst hn;have hv:=h1.lX hb;obtain⟨_,_,hr⟩:=hS.rowAt hb
     have aet:∀ v,μ id=v→VR w σ μ (.sub id g p.toNat q.toNat) (pW v p.toNat q.toNat t.size):=by
      intro v hm;refine .sub id g _ _ _ (ae.1 hb).1 ?_;intro E2 sz2 by2 g2 sh2 xs2 h3;rw[hb]at h3;simp only[aa,Ob.row.injEq]at h3;obtain⟨rfl,rfl,rfl,rfl,rfl,rfl⟩:=h3;exact⟨aB _,fun _=>⟨by omega,by omega,by rw[hm]⟩⟩
     rcases hr with⟨hm,hn⟩ | ⟨b,cap,cur,hm,_,nI,_⟩
     ·subst hn;exact .pure (eP none 0 (hv.trans hm) ff.1 ff.2.1 (by simpa using ff.2.2)) (aet _ hm)
     ·exact .pure (eP _ cap (hv.trans hm) ff.1 ff.2.1 (by have:=ff.2.2;omega)) (aet _ hm)
    ·simp at hn
   ·simp at h
  ·simp at h
end dh
theorem toList_data(s:ByteArray):s.toList=s.data.toList:=ByteArray.toList_eq s
section dh
variable {P:Program} {o:Oper} {a:Act} {B:Nat} {w0 w:World} {σ:ag} {μ:Mem} {fr:List V} (hF:FR w σ μ fr a)
include hF
theorem XG{op:BinOp}{T yT:TypeId}{x y:Operand}{x' y':O}(ho:o.op=.binOp op T x y yT)(hx:cO x=some x')(hy:cO y=some y')
  {ob:Prop} {z:V} (h:bm fr σ (.bin op x' y')=some (ob,z)) (ff:ob):Yields P o a w σ μ z:=by
 have h1:=eQ hF hx;have h2:=eQ hF hy;simp only[bm,iE]at h;split at h
 ·rename_i k p k' q hp hq;rw[hp]at h1;rw[hq]at h2;have e1:=h1.iP;have e2:=h2.iP
  have eP:∀ v,(binOp op T (.int k p) (.int k' q)).run P w=.ok v w→(execOp a.eval o).run P w=.ok (.value v) w:=by
   intro v hv;simp only[execOp,ho,e1,e2,eqGuard_at_int,pure_bind,Sem.run_bind,hv,Result.andThen_ok,Sem.run_pure]
  split at h
  ·simp only[aa,aI]at h;obtain⟨rfl,rfl⟩:=h;have hn:¬ q<0:=by omega
   exact .pure (eP _ (by simp[binOp_shl,Op.shift,hn])) (.i _ _)
  ·simp only[aa,aI]at h;obtain⟨rfl,rfl⟩:=h;have hn:¬ q<0:=by omega
   exact .pure (eP _ (by simp[binOp_shr,Op.shift,hn])) (.i _ _)
  ·split at h
   ·rename_i hk;subst hk;split at h<;>simp only[aa,aI,reduceCtorEq]at h<;>obtain⟨rfl,rfl⟩:=h
    ·exact .pure (eP _ (by simp[binOp_add,Op.intArith])) (.i _ _)
    ·exact .pure (eP _ (by simp[binOp_sub,Op.intArith])) (.i _ _)
    ·exact .pure (eP _ (by simp[binOp_mul,Op.intArith])) (.i _ _)
    ·exact .pure (eP _ (by simp[binOp_quo,Op.intDiv,ff])) (.i _ _)
    ·exact .pure (eP _ (by simp[binOp_rem,Op.intDiv,ff])) (.i _ _)
    ·exact .pure (eP _ (by simp only[binOp_and,Op.intBits];rfl)) (.i _ _)
    ·exact .pure (eP _ (by simp only[binOp_or,Op.intBits];rfl)) (.i _ _)
    ·exact .pure (eP _ (by simp only[binOp_xor,Op.intBits];rfl)) (.i _ _)
    ·exact .pure (eP _ (by simp[binOp_eql])) (.b _)
    ·exact .pure (eP _ (by simp[binOp_neq])) (.b _)
    ·exact .pure (eP _ (by simp[binOp_lss])) (.b _)
    ·exact .pure (eP _ (by simp[binOp_leq])) (.b _)
    ·exact .pure (eP _ (by simp[binOp_gtr])) (.b _)
    ·exact .pure (eP _ (by simp[binOp_geq])) (.b _)
   ·simp at h
 ·rename_i p q hp hq;rw[hp]at h1;rw[hq]at h2;obtain⟨s,hs,rfl,IN⟩:=h1.nO;obtain⟨s',hs',rfl,hsl'⟩:=h2.nO
  have eP:∀ v,(Op.stringOp op s s').run P w=.ok v w→(execOp a.eval o).run P w=.ok (.value v) w:=by
   intro v hv;have hb:binOp op T (.string s) (.string s')=Op.stringOp op s s':=by cases op<;>rfl
   simp only[execOp,ho,hs,hs',eqGuard_at_string,pure_bind,hb,Sem.run_bind,hv,Result.andThen_ok,Sem.run_pure]
  split at h<;>simp only[aa,aI,reduceCtorEq]at h<;>obtain⟨rfl,rfl⟩:=h
  ·refine .pure (v:=.string (s++s')) (eP _ ?_) (.s _ _ ?_ ?_)
   ·have hn:¬ (s.size+s'.size > 9223372036854775807):=by rw[bsize,bsize];unfold maxLen at ff;omega
    rw[run_string_add_if,if_neg hn]
   ·simp[ByteArray.data_append]
   ·rw[List.length_append];exact ff
  ·exact .pure (eP _ (by simp[Op.stringOp,toList_data])) (.b _)
  ·exact .pure (eP _ (by simp[Op.stringOp,toList_data])) (.b _)
  ·exact .pure (eP _ (by simp[Op.stringOp,toList_data])) (.b _)
  ·exact .pure (eP _ (by simp[Op.stringOp,toList_data])) (.b _)
  ·exact .pure (eP _ (by simp[Op.stringOp,toList_data])) (.b _)
  ·exact .pure (eP _ (by simp[Op.stringOp,toList_data])) (.b _)
 ·simp at h
theorem abq{op:BinOp}{T yT:TypeId}{x y:Operand}{x' y':O}(ho:o.op=.binOp op T x y yT)(gl:Dv op=true)(hT:P.underlying T=some .bool)(hx:cO x=some x')(hy:cO y=some y')
  {ob:Prop} {z:V} (h:bm fr σ (.XA (On op) x' y')=some (ob,z)):Yields P o a w σ μ z:=by
 have h1:=eQ hF hx;have h2:=eQ hF hy;simp only[bm]at h;split at h
 ·rename_i p q hp hq;rw[hp]at h1;rw[hq]at h2;have e1:=h1.rT;have e2:=h2.rT;simp only[aa,aI]at h;obtain⟨rfl,rfl⟩:=h;have he:=run_equal_bool (P:=P) (w:=w) T p q hT;cases op<;>simp only[Dv,aD]at gl
  ·refine .pure (v:=.bool (p==q)) ?_ (.b _);simp only[execOp,ho,e1,e2,eqGuard_at_bool,pure_bind,Sem.run_bind,binOp,he,Result.andThen_ok,Sem.run_pure]
  ·refine .pure (v:=.bool (!(p==q))) ?_ (.b _);simp only[execOp,ho,e1,e2,eqGuard_at_bool,pure_bind,Sem.run_bind,binOp,he,Result.andThen_ok,Sem.run_pure]
 ·simp at h
omit hF in
theorem yt:∀ (fs:List Field) (ks:List Nat) (n:Nat) (xs ys:List V) (us vs:Array Value) (r:Bool) (d:Nat),rZ P n fs=some ks →
  (∀ j x,xs[j]?=some x→VR w σ μ x (us.getD (n+j) undef))→(∀ j x,ys[j]?=some x→VR w σ μ x (vs.getD (n+j) undef))→us.size=n+xs.length→vs.size=n+ys.length→l7 ks xs ys=some r →
  (Op.eqFields (d+1) us vs fs).run P w=.ok r w
 | [],ks,n,xs,ys,us,vs,r,d,hf,_,_,_,_,hc=>by
  simp only[rZ,aa]at hf;subst hf;cases xs with
  | nil=>cases ys with
   | nil=>simp only[l7,aa]at hc;subst hc;rfl
   | cons y ys=>simp[l7]at hc
  | cons x xs=>simp[l7]at hc
 | f::fs,ks,n,xs,ys,us,vs,r,d,hf,Bk,B9,hus,Ic,hc=>by
  simp only[rZ]at hf;split at hf
  ·rename_i Ww;obtain⟨Ww,hnm⟩:=Ww
   have hk:∃ k ks',ks=k::ks'∧rZ P (n+1) fs=some ks'∧jr P f.type=some false ∧
     ∀ x y u v p,di k x y=some p→VR w σ μ x u→VR w σ μ y v→(Op.equalIn (d+1) f.type u v).run P w=.ok p w:=by
    split at hf<;>simp only[aa,reduceCtorEq]at hf
    ·rename_i k ks' hu hr;refine⟨0,ks',hf.symm,hr,by simp[jr,hu],fun x y u v p hp hx hy=>?_⟩;cases x<;>(try (simp[di]at hp;done));cases y<;>(try (simp[di]at hp;done));simp only[di]at hp;split at hp<;>simp only[aa,reduceCtorEq]at hp;rename_i Qm;subst Qm;subst hp;rw[hx.iP,hy.iP];exact run_equalIn_int w d f.type _ k _ _ hu
    ·rename_i ks' hu hr;refine⟨1,ks',hf.symm,hr,by simp[jr,hu],fun x y u v p hp hx hy=>?_⟩;cases x<;>(try (simp[di]at hp;done));cases y<;>(try (simp[di]at hp;done));simp only[di,aa]at hp;subst hp;obtain⟨s,rfl,rfl,_⟩:=hx.nO;obtain⟨s',rfl,rfl,_⟩:=hy.nO;rw[run_equalIn_string w d f.type s s' hu,toList_data,toList_data]
    ·rename_i ks' hu hr;refine⟨2,ks',hf.symm,hr,by simp[jr,hu],fun x y u v p hp hx hy=>?_⟩;cases x<;>(try (simp[di]at hp;done));cases y<;>(try (simp[di]at hp;done));simp only[di,aa]at hp;subst hp;rw[hx.rT,hy.rT];exact run_equalIn_bool' w d f.type _ _ hu
   obtain⟨k,ks',rfl,aeD,hA,aiQ⟩:=hk;cases xs with
   | nil=>simp[l7]at hc
   | cons x xs =>
    cases ys with
    | nil=>simp[l7]at hc
    | cons y ys =>
     simp only[l7]at hc;split at hc<;>simp only[aa,reduceCtorEq]at hc;rename_i p q hp hq;have hx0:=Bk 0 x rfl;have hy0:=B9 0 y rfl;simp only[bC]at hx0 hy0;have hlx:n<us.size:=by simp at hus;omega
     have hly:n<vs.size:=by simp at Ic;omega
     have hpx:(part f.type us f.offset).run P w=.ok (us.getD n undef) w:=by
      simp only[part,Sem.run_bind,pK hA,Result.andThen_ok,aD,if_false,Ww];rw[show us[n]?=some (us.getD n undef)by simp[hlx]];rfl
     have hpy:(part f.type vs f.offset).run P w=.ok (vs.getD n undef) w:=by
      simp only[part,Sem.run_bind,pK hA,Result.andThen_ok,aD,if_false,Ww];rw[show vs[n]?=some (vs.getD n undef)by simp[hly]];rfl
     have heq:=aiQ x y _ _ p hp hx0 hy0
     have ih:=yt fs ks' (n+1) xs ys us vs q d aeD
      (fun j z hz=>by have:=Bk (j+1) z hz;rwa [show n+(j+1)=n+1+j by omega]at this)
      (fun j z hz=>by have:=B9 (j+1) z hz;rwa [show n+(j+1)=n+1+j by omega]at this)
      (by simp at hus;omega) (by simp at Ic;omega) hq
     subst hc;simp only[Op.eqFields,ne_eq,hnm,not_false_eq_true,if_true,Sem.run_bind,hpx,hpy,Result.andThen_ok,heq];cases p
     ·simp
     ·simp[ih]
  ·simp at hf
theorem abp{op:BinOp}{T yT:TypeId}{ks:List Nat}{x y:Operand}{x' y':O}(ho:o.op=.binOp op T x y yT)(gl:Dv op=true)(hT:MT P T=some ks)(hx:cO x=some x')(hy:cO y=some y')
  {ob:Prop} {z:V} (h:bm fr σ (.beq (On op) ks x' y')=some (ob,z)):Yields P o a w σ μ z:=by
 have h1:=eQ hF hx;have h2:=eQ hF hy;unfold MT at hT;split at hT
 ·rename_i fs hu;split at hT
  ·rename_i hc;simp only[bm]at h;split at h
   ·rename_i xs ys hp hq;rw[hp]at h1;rw[hq]at h2;obtain⟨us,e1,l1,v1⟩:=h1.qS;obtain⟨vs,e2,l2,v2⟩:=h2.qS;split at h
    ·rename_i r hr;simp only[aa,aI]at h;obtain⟨rfl,rfl⟩:=h;have hf:P.fieldsOf T=fs:=by simp[Program.fieldsOf,hu]
     have eP:(Op.equalIn 10000 T (.agg us) (.agg vs)).run P w=.ok r w:=by
      rw[run_equalIn_struct w 9999 T us vs (by rw[hf];exact hu) hc.1,hf];exact yt fs.toList ks 0 xs ys us vs r 9998 hT (fun j z hz=>by simpa using v1 j z hz) (fun j z hz=>by simpa using v2 j z hz) (by omega) (by omega) hr
     have hg:=run_eqGuard_agg (P:=P) w op T x y us vs hc.2;cases op<;>simp only[Dv,aD]at gl
     ·refine .pure (v:=.bool r) ?_ (.b _);simp only[execOp,ho,e1,e2,Sem.run_bind,hg,Result.andThen_ok,run_eql_struct,eP,Sem.run_pure]
     ·refine .pure (v:=.bool (!r)) ?_ (.b _);simp only[execOp,ho,e1,e2,Sem.run_bind,hg,Result.andThen_ok,run_neq_struct,eP,Sem.run_pure]
    ·simp at h
   ·simp at h
  ·simp at hT
 ·simp at hT
end dh
def CR(w:World)(σ:ag)(μ:Mem)(xs:List V)(vs:Array Value):Prop:=xs.length=vs.size∧∀ i x,xs[i]?=some x→VR w σ μ x (vs.getD i undef)
theorem VR.oK{w:World}{σ:ag}{μ:Mem}{x:V}{v:Value}(h:VR w σ μ x v)(s:Option Nat):VR w σ μ (oK s x) v:=by
 unfold Pm.oK;split
 ·rw[h.lG];exact .yq _
 ·rcases h.qR with⟨rfl,rfl⟩ | ⟨b,o,f,rfl,hm,hr⟩
  ·exact .yq _
  ·exact .sl _ _ b o _ f (aB _) hm hr.1 hr.2.1 hr.2.2
 ·exact h
theorem CR.dw{w:World}{σ:ag}{μ:Mem}:∀ (ss:List (Option Nat)) {xs:List V} {vs:Array Value},CR w σ μ xs vs→CR w σ μ (dw ss xs) vs:=by
 have key:∀ (ss:List (Option Nat)) (xs:List V) (n:Nat) (vs:Array Value),(∀ i x,xs[i]?=some x→VR w σ μ x (vs.getD (n+i) undef)) →
   (Pm.dw ss xs).length=xs.length∧∀ i x,(Pm.dw ss xs)[i]?=some x→VR w σ μ x (vs.getD (n+i) undef):=by
  intro ss
  induction ss with
  | nil=>intro xs n vs h;simpa[Pm.dw]using h
  | cons s ss ih =>
   intro xs n vs h;cases xs with
   | nil=>simp[Pm.dw]
   | cons x xs =>
    have h2:=ih xs (n+1) vs (fun i y hy=>by have:=h (i+1) y hy;rwa [show n+(i+1)=n+1+i by omega]at this);refine⟨by simp[Pm.dw,h2.1],fun i y hy=>?_⟩;cases i with
    | zero =>
     simp only[Pm.dw,ao,aa]at hy;subst hy;exact(h 0 x rfl).oK s
    | succ i =>
     simp only[Pm.dw,bQ]at hy;have:=h2.2 i y hy
     rwa [show n+1+i=n+(i+1)by omega]at this
 intro ss xs vs h;have:=key ss xs 0 vs (fun i x hx=>by simpa using h.2 i x hx);exact⟨this.1.trans h.1,fun i x hx=>by simpa using this.2 i x hx⟩
theorem s9{P:Program}{B:Nat}{w0 w:World}{σ:ag}{μ:Mem}(hS:jw P B w0 w σ μ){x:V}{v:Value}(h:VR w σ μ x v)(hc:jv σ x=true):v.oneCell'=true∧v.cells=#[v]:=by
 have slice_one:∀ a n c,(Value.slice a n c).oneCell'=true∧(Value.slice a n c).cells=#[.slice a n c]:=fun _ _ _=>⟨rfl,rfl⟩;cases h with
 | u v=>simp[jv]at hc
 | own id g v hid h =>
  simp only[jv]at hc;split at hc
  ·rename_i E sz by' g' sh xs ho;simp only[beq_iff_eq]at hc;subst hc;rw[(h _ _ _ _ _ _ ho).2 rfl];rcases(hS.rowAt ho).2.2 with⟨hm,_⟩ | ⟨b,cap,cur,hm,_⟩<;>rw[hm]<;>exact slice_one _ _ _
  ·simp at hc
 | sub id g lo hi v hid h =>
  simp only[jv]at hc;split at hc
  ·rename_i E sz by' g' sh xs ho;simp only[beq_iff_eq]at hc;subst hc;rw[((h _ _ _ _ _ _ ho).2 rfl).2.2];rcases(hS.rowAt ho).2.2 with⟨hm,_⟩ | ⟨b,cap,cur,hm,_⟩<;>rw[hm]<;>exact slice_one _ _ _
  ·simp at hc
 | rp id g i off v hid h =>
  simp only[jv]at hc;split at hc
  ·rename_i E sz by' g' sh xs ho;simp only[beq_iff_eq]at hc;subst hc;obtain⟨hi,hv⟩:=(h _ _ _ _ _ _ ho).2 rfl;rw[hv];rcases(hS.rowAt ho).2.2 with⟨_,hn⟩ | ⟨b,cap,cur,hm,_⟩
   ·subst hn;simp at hi
   ·rw[hm];exact⟨rfl,rfl⟩
  ·simp at hc
 | agg xs vs hl hv=>simp[jv]at hc
 | iK xs vs hl hv=>simp[jv]at hc
 | _=>exact⟨rfl,rfl⟩
theorem mj{P:Program}{B:Nat}{w0 w:World}{σ:ag}{μ:Mem}(hS:jw P B w0 w σ μ){x:V}{v:Value}(h:VR w σ μ x v)(hc:hY σ x=true):
  CR w σ μ (fI x) v.cells∧∀ u∈v.cells,u.oneCell'=true:=by
 by_cases ha:∃ xs,x=.agg xs
 ·obtain⟨xs,rfl⟩:=ha;obtain⟨vs,rfl,hl,hv⟩:=h.qS;refine⟨⟨hl,hv⟩,fun u hu=>?_⟩;obtain⟨i,hi,rfl⟩:=Array.mem_iff_getElem.1 hu;simp only[hY,bI]at hc;have hi':i<xs.length:=by rw[hl];exact hi
  have h1:=hv i xs[i] (aw hi');have h2:=(s9 hS h1 (hc _ (cK hi'))).1;have Lv:i<vs.size:=hi;have h3:vs.getD i undef=vs[i]:=by simp[Lv]
  rw[h3]at h2;exact h2
 ·have hx:hY σ x=jv σ x∧fI x=[x]:=by
   cases x<;>first | exact⟨rfl,rfl⟩ | exact absurd ⟨_,rfl⟩ ha
  rw[hx.1]at hc;obtain⟨h1,h2⟩:=s9 hS h hc;rw[hx.2,h2];refine⟨⟨rfl,fun i y hy=>?_⟩,fun u hu=>by simp only[Array.mem_singleton]at hu;subst hu;exact h1⟩;cases i with
  | zero=>simp only[ao,aa]at hy;subst hy;simpa using h
  | succ i=>simp at hy
theorem wI:∀ (l:List Value) (k off:Nat) (cells:Array Value),off+k+l.length≤cells.size →
  ((l.zipIdx k).foldl (fun(cs:Array Value) (p:Value×Nat)=>cs.setIfInBounds (off+p.2) p.1) cells).size=cells.size ∧
  ∀ i,((l.zipIdx k).foldl (fun(cs:Array Value) (p:Value×Nat)=>cs.setIfInBounds (off+p.2) p.1) cells).getD i undef =
   if off+k≤i∧i<off+k+l.length then l.getD (i - (off+k)) undef else cells.getD i undef
 | [],k,off,cells,_=>by simp;intro i h1 h2;omega
 | v::l,k,off,cells,h=>by
  simp only[ab]at h;have ih:=wI l (k+1) off (cells.setIfInBounds (off+k) v) (by simp;omega);simp only[List.zipIdx_cons,bd];refine⟨by rw[ih.1];simp,fun i=>?_⟩;rw[ih.2 i]
  by_cases h1:off+(k+1)≤i∧i<off+(k+1)+l.length
  ·rw[if_pos h1,if_pos (by simp only[ab];omega)];have:i - (off+k)=(i - (off+(k+1)))+1:=by omega
   rw[this];simp
  ·rw[if_neg h1]
   by_cases h2:i=off+k
   ·subst h2;rw[if_pos (by simp only[ab];omega)];simp[show off+k<cells.size by omega]
   ·rw[if_neg (by simp only[ab];omega)];simp only[bN];rw[ei (fun h=>h2 h.symm)]
theorem CR.fill{w:World}{σ:ag}{μ:Mem}{xs ys:List V}{cells vs:Array Value}(h:CR w σ μ xs cells)(hy:CR w σ μ ys vs)(off:Nat)(ho:off+ys.length≤xs.length):
  CR w σ μ (xs.take off++ys++xs.drop (off+ys.length)) (vs.zipIdx.foldl (fun cs (c,j)=>cs.setIfInBounds (off+j) c) cells):=by
 have ae8:=wI vs.toList 0 off cells (by rw[aY,← hy.1,← h.1];simpa using ho)
 have he:vs.zipIdx.foldl (fun cs (c,j)=>cs.setIfInBounds (off+j) c) cells=(vs.toList.zipIdx 0).foldl (fun(cs:Array Value) (p:Value×Nat)=>cs.setIfInBounds (off+p.2) p.1) cells:=by
  rw[← Array.foldl_toList,Array.toList_zipIdx]
 rw[he];refine⟨?_,fun i x hx=>?_⟩
 ·rw[ae8.1,← h.1];simp;omega
 ·rw[ae8.2 i];simp only[bC,aY];rw[← hy.1]
  by_cases h1:i<off
  ·rw[if_neg (by omega)];rw[List.append_assoc,aH (by simp;omega),bz h1]at hx;exact h.2 i x hx
  ·by_cases h2:i<off+ys.length
   ·rw[if_pos (by omega)];rw[aH (by simp;omega),aN (by simp;omega)]at hx;have hl:(xs.take off).length=off:=by simp;omega
    rw[hl]at hx;have:=hy.2 _ x hx;simpa using this
   ·rw[if_neg (by omega)];have hl:(xs.take off++ys).length=off+ys.length:=by simp;omega
    rw[aN (by omega),hl,dV]at hx;have h3:off+ys.length+(i - (off+ys.length))=i:=by omega
    rw[h3]at hx;exact h.2 i x hx
theorem Cd{w:World}{σ:ag}{μ:Mem}(place:Nat→Option (Nat×Nat)):∀ (parts:List (Nat×Value)) (ps:List (Nat×Nat×List V)) (xs cs:List V) (cells:Array Value),
  CR w σ μ xs cells→wK xs ps=some cs→ps.length=parts.length→(∀ (k:Nat) (p:Nat×Value) (q:Nat×Nat×List V),parts[k]?=some p→ps[k]?=some q→place p.1=some (q.1,q.2.1)∧CR w σ μ q.2.2 p.2.cells) →
  ∃ cells',Instr.fill place cells parts=some cells'∧CR w σ μ cs cells'
 | [],ps,xs,cs,cells,h,hf,hl,_=>by
  have:ps=[]:=bL hl;subst this;simp only[wK,aa]at hf;subst hf;exact⟨cells,rfl,h⟩
 | (i,v)::parts,ps,xs,cs,cells,h,hf,hl,hp=>by
  cases ps with
  | nil=>simp at hl
  | cons q ps =>
   obtain⟨off,sz,ys⟩:=q;have h0:=hp 0 (i,v) (off,sz,ys) rfl rfl;simp only[wK]at hf;split at hf
   ·rename_i hc;obtain⟨rfl,zk⟩:=hc;have hy:=h0.2;have hs:v.cells.size=ys.length:=hy.1.symm;have Td:=h.fill hy off zk;obtain⟨cells',h1,h2⟩:=Cd place parts ps _ cs _ Td hf (by simpa using hl) (fun k p q h3 h4=>hp (k+1) p q h3 h4);refine⟨cells',?_,h2⟩;simp only[Instr.fill,h0.1]
    have iQ:(decide (v.cells.size≠ys.length)||decide (off+v.cells.size > cells.size))=false:=by
     rw[hs,← h.1];simp;omega
    simp only[iQ,aD,if_false];exact h1
   ·simp at hf
theorem D2{w:World}{σ:ag}{μ:Mem}:∀ (l:List Value) (zs:List V),la l=some zs→zs.length=l.length∧∀ (i:Nat) (x:V),zs[i]?=some x→VR w σ μ x (l.getD i undef)
 | [],zs,h=>by simp only[la,aa]at h;subst h;simp
 | v::l,zs,h=>by
  simp only[la]at h;split at h<;>simp only[aa,reduceCtorEq]at h;rename_i y ys hy B9;subst h;obtain⟨h1,h2⟩:=D2 l ys B9;refine⟨by simp[h1],fun i x hx=>?_⟩;cases i with
  | zero=>simp only[ao,aa]at hx;subst hx;exact AI hy
  | succ i=>simpa using h2 i x hx
theorem od{w:World}{σ:ag}{μ:Mem}{cs:Array Value}{zs:List V}(h:la cs.toList=some zs):CR w σ μ zs cs:=by
 obtain⟨h1,h2⟩:=D2 (w:=w) (σ:=σ) (μ:=μ) _ _ h;refine⟨by simpa using h1,fun i x hx=>?_⟩;have:=h2 i x hx;simpa[List.getD_eq_getElem?_getD]using this
theorem CR.Rr{w:World}{σ:ag}{μ:Mem}{xs:List V}{vs:Array Value}(h:CR w σ μ xs vs):VR w σ μ (.agg xs) (.agg vs):=.agg xs vs h.1 h.2
theorem MS{xs:List (List V)}{sz:Nat}(cP:∀ r∈xs,r.length=sz):∀ {i j:Nat} {x:V},fe xs i j=some x→xs.flatten[i*sz+j]?=some x:=by
 induction xs with
 | nil=>intro i j x h;simp[fe]at h
 | cons r xs ih =>
  intro i j x h;have hr:=cP r (by simp);cases i with
  | zero =>
   simp only[fe,ao,jG]at h;have hj:j<r.length:=(ae.1 h).1;rw[zS,QY,aK,aH hj,h]
  | succ i =>
   have h':fe xs i j=some x:=by simpa[fe]using h
   have:=ih (fun r hr=>cP r (by simp[hr])) h';rw[zS,aN (by rw[hr,Nat.add_mul];omega),hr];have e:(i+1)*sz+j - sz=i*sz+j:=by rw[Nat.add_mul];omega
   rw[e,this]
theorem KS{xs:List (List V)}{sz:Nat}(cP:∀ r∈xs,r.length=sz):xs.flatten.length=xs.length*sz:=by
 induction xs with
 | nil=>simp
 | cons r xs ih=>rw[zS,List.length_append,cP r (by simp),ih (fun r hr=>cP r (by simp[hr])),ab,Nat.add_mul];omega
theorem DR(sz:Nat):∀ (rows:List (List V)) (pre:List V) (k:Nat) (tail:List V),(∀ r∈rows,r.length=sz)→pre.length=k*sz→tail.length=rows.length*sz →
  wK (pre++tail) ((rows.zipIdx k).map fun(r,i)=>(i*sz,sz,r))=some (pre++rows.flatten)
 | [],pre,k,tail,_,_,ht=>by
  have:tail=[]:=bL (by simpa using ht);subst this;simp[wK]
 | r::rows,pre,k,tail,hr,hp,ht=>by
  have KE:=hr r (by simp);have wH:sz≤tail.length:=by rw[ht,ab,Nat.add_mul];omega
  simp only[List.zipIdx_cons,ay,wK];rw[if_pos ⟨KE,by rw[List.length_append,hp];omega⟩];have e1:(pre++tail).take (k*sz)=pre:=by rw[← hp];exact mb
  have e2:(pre++tail).drop (k*sz+sz)=tail.drop sz:=by rw[← hp,List.drop_append];simp
  rw[e1,e2];have ih:=DR sz rows (pre++r) (k+1) (tail.drop sz) (fun x hx=>hr x (by simp[hx])) (by rw[List.length_append,hp,KE,Nat.add_mul];omega) (by rw[bH,ht,ab,Nat.add_mul];omega);rw[ih];simp
section dh
variable {P:Program} {o:Oper} {a:Act} {B:Nat} {w0 w:World} {σ:ag} {μ:Mem} {fr:List V} (hF:FR w σ μ fr a) (hS:jw P B w0 w σ μ)
include hF hS
theorem AM{places:List (Nat×Nat)}:∀ (parts:List (Nat×Operand)) (ps:List (Nat×Nat×O)),vm places parts=some ps→(∀ p∈ps,hY σ (ev fr p.2.2)=true) →
  ps.length=parts.length∧∀ (k:Nat) (p:Nat×Operand) (q:Nat×Nat×O),parts[k]?=some p→ps[k]?=some q →
   places[p.1]?=some (q.1,q.2.1)∧CR w σ μ (fI (ev fr q.2.2)) (a.eval p.2).cells
 | [],ps,h,_=>by simp only[vm,aa]at h;subst h;simp
 | (i,x)::r,ps,h,fD=>by
  simp only[vm]at h;split at h<;>simp only[aa,reduceCtorEq]at h;rename_i off sz y ys hf hy B9;subst h;obtain⟨h1,h2⟩:=AM r ys B9 (fun p hp=>fD p (cY _ hp));refine⟨by simp[h1],fun k p q hp hq=>?_⟩;cases k with
  | zero =>
   simp only[ao,aa]at hp hq;subst hp;subst hq;exact⟨hf,(mj hS (eQ hF hy) (fD (off,sz,y) lh)).1⟩
  | succ k=>exact h2 k p q (by simpa using hp) (by simpa using hq)
theorem UN{T:TypeId}{parts:Array (Nat×Operand)}{t:TypeInfo}{fs:Array Field}{z:Value}{zs:List V}{places:List (Nat×Nat)}{ps:List (Nat×Nat×O)}(ho:o.op=.build T parts)(ht:P.info? T=some t)(hu:P.underlying T=some (.struct fs))(hz:t.zero=some z)
  (qE:la z.cells.toList=some zs) (rV:placesOf P fs.toList=some places) (zN:vm places parts.toList=some ps) {ob:Prop} {y:V} (h:bm fr σ (.build zs ps)=some (ob,y)) (ff:ob):Yields P o a w σ μ y:=by
 simp only[bm]at h;split at h
 ·rename_i cs qV;simp only[aa,aI]at h;obtain⟨rfl,rfl⟩:=h;obtain⟨h1,h2⟩:=AM hF hS parts.toList ps zN ff
  obtain⟨cells',h3,h4⟩:=Cd (w:=w) (σ:=σ) (μ:=μ) (fun x=>places.toArray[x]?) (parts.toList.map fun(i,x)=>(i,a.eval x)) (ps.map fun(off,sz,x)=>(off,sz,fI (ev fr x))) zs cs z.cells (od qE) qV (by simp[h1]) (by
   intro k p q hp hq;rw[aZ]at hp hq;simp only[ar]at hp hq;obtain⟨p',hp',rfl⟩:=hp;obtain⟨q',hq',rfl⟩:=hq;obtain⟨hf,hc⟩:=h2 k p' q' hp' hq';exact⟨by simpa using hf,hc⟩)
  refine .pure (v:=.agg cells') ?_ h4.Rr
  have eP:=run_build (P:=P) w T (parts.map fun(i,x)=>(i,a.eval x)) cells' (by
   simp only[Program.built,ht,hu,hz,tf];unfold placesOf at rV;simp only[rV];exact h3)
  simp only[execOp,ho,Sem.run_bind,eP,Result.andThen_ok,Sem.run_pure]
 ·simp at h
theorem Ri{T E:TypeId}{n:Nat}{parts:Array (Nat×Operand)}{t te:TypeInfo}{z:Value}{zs:List V}{ps:List (Nat×Nat×O)}(ho:o.op=.build T parts)(ht:P.info? T=some t)(hu:P.underlying T=some (.array n E))(hz:t.zero=some z)(hte:P.info? E=some te)
  (qE:la z.cells.toList=some zs) (zN:vm ((List.range n).map fun i=>(i*te.size,te.size)) parts.toList=some ps) {ob:Prop} {y:V} (h:bm fr σ (.build zs ps)=some (ob,y)) (ff:ob):Yields P o a w σ μ y:=by
 simp only[bm]at h;split at h
 ·rename_i cs qV;simp only[aa,aI]at h;obtain⟨rfl,rfl⟩:=h;obtain⟨h1,h2⟩:=AM hF hS parts.toList ps zN ff
  obtain⟨cells',h3,h4⟩:=Cd (w:=w) (σ:=σ) (μ:=μ) (fun i=>some (i*te.size,te.size)) (parts.toList.map fun(i,x)=>(i,a.eval x)) (ps.map fun(off,sz,x)=>(off,sz,fI (ev fr x))) zs cs z.cells (od qE) qV (by simp[h1]) (by
   intro k p q hp hq;rw[aZ]at hp hq;simp only[ar]at hp hq;obtain⟨p',hp',rfl⟩:=hp;obtain⟨q',hq',rfl⟩:=hq;obtain⟨hf,hc⟩:=h2 k p' q' hp' hq';rw[aZ]at hf;simp only[ar]at hf;obtain⟨i,hi,hf⟩:=hf
   have Lv:i=p'.1:=by
    have:=(ae.1 hi).2;simpa using this.symm
   subst Lv;exact⟨by rw[hf],hc⟩)
  refine .pure (v:=.agg cells') ?_ h4.Rr
  have eP:=run_build (P:=P) w T (parts.map fun(i,x)=>(i,a.eval x)) cells' (by
   simp only[Program.built,ht,hu,hz,hte,tf];exact h3)
  simp only[execOp,ho,Sem.run_bind,eP,Result.andThen_ok,Sem.run_pure]
 ·simp at h
theorem Gn:∀ (parts:List (Nat×Operand)) (n:Nat) (xs:List O),vk n parts=some xs→(∀ x∈xs,hY σ (ev fr x)=true) →
  xs.length=parts.length∧∀ (k:Nat) (p:Nat×Operand) (x:O),parts[k]?=some p→xs[k]?=some x→p.1=n+k∧CR w σ μ (fI (ev fr x)) (a.eval p.2).cells
 | [],n,xs,h,_=>by simp only[vk,aa]at h;subst h;simp
 | (i,x)::r,n,xs,h,fD=>by
  simp only[vk]at h;split at h
  ·rename_i hi;subst hi;split at h<;>simp only[aa,reduceCtorEq]at h;rename_i y ys hy B9;subst h;obtain⟨h1,h2⟩:=Gn r _ ys B9 (fun p hp=>fD p (cY _ hp));refine⟨by simp[h1],fun k p q hp hq=>?_⟩;cases k with
   | zero =>
    simp only[ao,aa]at hp hq;subst hp;subst hq;exact⟨rfl,(mj hS (eQ hF hy) (fD y lh)).1⟩
   | succ k =>
    have:=h2 k p q (by simpa using hp) (by simpa using hq);exact⟨by omega,this.2⟩
  ·simp at h
theorem Ec{T E:TypeId}{len:Nat}{parts:Array (Nat×Operand)}{t:TypeInfo}{z:Value}{xs:List O}{szs:List (Option Nat)}(ho:o.op=.buildSlice T len parts)(hT:P.underlying T=some (.slice E))(ht:P.info? E=some t)(hz:t.zero=some z)
  (hn:parts.size=len) (gO:0<t.size) (UE:z.cells.size=t.size) (AA:len*t.size≤2^24) (zN:vk 0 parts.toList=some xs) (fD:∀ x∈xs,hY σ (ev fr x)=true) (Ov:∀ r∈xs.map fun x=>dw szs (fI (ev fr x)),r.length=t.size) :
  ∃ cells':Array Value,(execOp a.eval o).run P w=.ok (.value (.slice (some ⟨w.heap.size,0,none⟩) len len)) (w.alloc (.cells cells' E))∧(xs.map fun x=>dw szs (fI (ev fr x))).length=len∧cells'.size=len*t.size ∧
   ∀ i j x,fe (xs.map fun x=>dw szs (fI (ev fr x))) i j=some x→i*t.size+j<cells'.size∧VR w σ μ x (cells'.getD (i*t.size+j) undef):=by
 obtain⟨h1,h2⟩:=Gn hF hS parts.toList 0 xs zN fD;have hlen:xs.length=len:=by rw[h1];simpa using hn
 generalize hrw:(xs.map fun x=>dw szs (fI (ev fr x)))=rows at Ov ⊢;have KE:rows.length=len:=by rw[← hrw];simp[hlen]
 let zc:Array Value:=if len*t.size=0 then #[]else z.cells
 let zeros:Array Value:=(Array.range (len*t.size)).map (zc[· % zc.size]!)
 have hCR:CR w σ μ (List.replicate (len*t.size) V.u) zeros:=by
  refine⟨by simp[zeros],fun i x hx=>?_⟩;have:x=.u:=(ae.1 hx).2▸by simp
  subst this;exact .u _
 have X7:=DR t.size rows [] 0 (List.replicate (len*t.size) V.u) Ov (by simp) (by simp[KE]);simp only[ak]at X7
 obtain⟨cells',h3,h4⟩:=Cd (w:=w) (σ:=σ) (μ:=μ) (fun i=>some (i*t.size,t.size)) (parts.toList.map fun(i,x)=>(i,a.eval x)) _ _ _ zeros hCR X7 (by simp[KE,hn]) (by
  intro k p q hp hq;rw[aZ]at hp;simp only[ar]at hp;obtain⟨p',hp',rfl⟩:=hp;rw[aZ,List.getElem?_zipIdx]at hq;simp only[Option.map_map,ar]at hq;obtain⟨r,hr,rfl⟩:=hq;rw[← hrw,aZ]at hr;simp only[ar]at hr;obtain⟨x,hx,rfl⟩:=hr;obtain⟨e1,hc⟩:=h2 k p' x hp' hx;refine⟨?_,hc.dw szs⟩;simp[e1])
 have eP:(execOp a.eval o).run P w=.ok (.value (.slice (some ⟨w.heap.size,0,none⟩) len len)) (w.alloc (.cells cells' E)):=by
  have hnb:¬ (16777216<len*t.size):=by omega
  simp only[execOp,ho,Instr.buildSlice,Sem.run_bind,run_underlying hT,Result.andThen_ok,sizeOf,typeInfo,run_program,ht,Sem.run_pure];have hif:¬ (len*t.size > 2^24):=by omega
  simp only[hif,if_false]
  by_cases h0:len*t.size=0
  ·have ZB:zc=#[]:=by simp[zc,h0]
   have e1:zeros=(Array.range (len*t.size)).map ((#[]:Array Value)[· % (#[]:Array Value).size]!):=by simp only[zeros,ZB]
   simp only[h0,if_true,Sem.run_bind,Sem.run_pure,Result.andThen_ok];rw[e1,h0]at h3;simp only[tf,h3];simp[newRow]
  ·have ZB:zc=z.cells:=by simp[zc,h0]
   have e1:zeros=(Array.range (len*t.size)).map (z.cells[· % z.cells.size]!):=by simp only[zeros,ZB]
   simp only[h0,if_false,zeroValue,typeInfo,Sem.run_bind,run_program,ht,Result.andThen_ok,Sem.run_pure,hz];rw[e1]at h3;simp only[tf,h3];simp[newRow]
 refine⟨cells',eP,KE,?_,fun i j x hx=>?_⟩
 ·rw[← h4.1];simp[KS Ov,KE]
 ·have hfx:=MS Ov hx;exact⟨by rw[← h4.1];exact(ae.1 hfx).1,h4.2 _ x hfx⟩
theorem Rj{T E:TypeId}{len:Nat}{parts:Array (Nat×Operand)}{t:TypeInfo}{z:Value}{xs:List O}{szs:List (Option Nat)}(ho:o.op=.buildSlice T len parts)(hT:P.underlying T=some (.slice E))(ht:P.info? E=some t)(hz:t.zero=some z)
  (hn:parts.size=len) (gO:0<t.size) (UE:z.cells.size=t.size) (AA:len*t.size≤2^24) (zN:vk 0 parts.toList=some xs) {ob:Prop} {y:V} (h:bm fr σ (.dj t.size szs xs)=some (ob,y)) (ff:ob):Yields P o a w σ μ y:=by
 simp only[bm,aa,aI]at h;obtain⟨rfl,rfl⟩:=h;obtain⟨fD,uZ⟩:=ff;obtain⟨cells',eP,KE,qV,DE⟩:=Ec hF hS ho hT ht hz hn gO UE AA zN fD (fun r hr=>(uZ r hr).1);generalize hrw:(xs.map fun x=>dw szs (fI (ev fr x)))=rows at uZ KE DE ⊢;have Ov:∀ r∈rows,r.length=t.size:=fun r hr=>(uZ r hr).1;have hg:w.grownBy (w.alloc (.cells cells' E)) none:=World.grownBy_alloc w _ none;obtain⟨hS',hp⟩:=hS.grown hg;refine⟨_,_,eP,hg,?_⟩
 have jy:∀ i j x,fe rows i j=some x→(w.alloc (.cells cells' E)).cell? ⟨w.heap.size,0+i*t.size+j,none⟩=some (cells'.getD (i*t.size+j) undef)∧VR w σ μ x (cells'.getD (i*t.size+j) undef):=by
  intro i j x hx;obtain⟨fk,hv⟩:=DE i j x hx;refine⟨?_,hv⟩;rw[World.cell?_alloc_new,aK];simp[fk]
 have:=VR.lit (w:=w.alloc (.cells cells' E)) (σ:=σ) (μ:=μ) t.size rows w.heap.size 0 (fun i j=>cells'.getD (i*t.size+j) undef) (by
   rw[KE];have:len≤len*t.size:=af8 _ gO;unfold maxLen;omega) Ov (fun i j x hx=>⟨(jy i j x hx).1,fun hw=>?_,?_⟩) (fun i j x hx=>(jy i j x hx).2.mono hp)
 ·rwa [KE]at this
 ·obtain⟨id,ob,h5,h6,h7⟩:=hw;have hd:ob≠.dead:=by rintro rfl;exact h7
  exact absurd (hS.vv h5 hd h6).2 (Nat.lt_irrefl _)
 ·obtain⟨r,hr,hj⟩:=kL hx;exact(uZ r (bh hr)).2 x (bh hj)
end dh
structure Gw (w:World) (σ:ag) (μ:Mem) (xs:List (List V)) (sz:Nat) (v:Value):Prop where
 rows:∀ r∈xs,r.length=sz
 len:xs.length≤maxLen
 here:(xs=[]∧∃ a,v=.slice a 0 0)∨∃ b off cap,v=.slice (some ⟨b,off,none⟩) xs.length cap ∧
  ∀ i j x,fe xs i j=some x→x.pure=true∧∃ u,w.cell? ⟨b,off+i*sz+j,none⟩=some u∧VR w σ μ x u
theorem qx.XI{w:World}{σ:ag}{μ:Mem}{xs:List (List V)}{sz b o cap:Nat}{f:Nat→Nat→Value}(h:qx w σ μ xs sz b o f)(hl:xs.length≤maxLen):Gw w σ μ xs sz (.slice (some ⟨b,o,none⟩) xs.length cap) :=
 ⟨h.1,hl,.inr ⟨b,o,cap,rfl,fun i j x hx=>⟨(h.2.1 i j x hx).2.2,f i j,(h.2.1 i j x hx).1,h.2.2 i j x hx⟩⟩⟩
theorem Ae{P:Program}{B:Nat}{w0 w:World}{σ:ag}{μ:Mem}(hS:jw P B w0 w σ μ){x:V}{v:Value}(h:VR w σ μ x v){sz:Nat}{xs:List (List V)}(hx:rowsOf σ sz x=some xs):Gw w σ μ xs sz v:=by
 unfold rowsOf at hx;split at hx
 ·simp only[aa]at hx;subst hx;exact⟨by simp,by simp,.inl ⟨rfl,_,h.lG⟩⟩
 ·split at hx<;>simp only[aa,reduceCtorEq]at hx;rename_i gO;subst gO;subst hx;rcases h.qR with⟨rfl,rfl⟩ | ⟨b,o,f,rfl,hm,hr⟩
  ·exact⟨by simp,by simp,.inl ⟨rfl,_,rfl⟩⟩
  ·exact hr.XI hm
 ·split at hx<;>simp only[aa,reduceCtorEq]at hx;rename_i gO;subst gO;subst hx;rcases h.Dw with⟨rfl,_,rfl⟩ | ⟨b,o,cap,f,rfl,hc,hm,hr⟩
  ·exact⟨by simp,by simp,.inl ⟨rfl,_,rfl⟩⟩
  ·exact hr.XI (bZ hc hm)
 ·rename_i id g;split at hx
  ·rename_i E sz' by' g' sh xs' ho;split at hx<;>simp only[aa,reduceCtorEq]at hx;rename_i hg;obtain⟨rfl,rfl⟩:=hg;subst hx;have hv:=h.lX ho;obtain⟨_,cP,hr⟩:=hS.rowAt ho;rcases hr with⟨hm,hn⟩ | ⟨b,cap,cur,hm,_,hc,Il,_,hr⟩
   ·subst hn;exact⟨by simp,by simp,.inl ⟨rfl,_,hv.trans hm⟩⟩
   ·exact⟨cP,bZ hc Il,.inr ⟨b,0,cap,hv.trans hm,fun i j x hx=>by rw[aK];exact hr i j x hx⟩⟩
  ·simp at hx
 ·rename_i id g lo hi;split at hx
  ·rename_i E sz' by' g' sh xs' ho;split at hx<;>simp only[aa,reduceCtorEq]at hx;rename_i hg;obtain⟨rfl,rfl⟩:=hg;subst hx;obtain⟨h1,h2,hv⟩:=h.zd ho;obtain⟨_,cP,hr⟩:=hS.rowAt ho;have hrow':∀ r∈(xs'.drop lo).take (hi - lo),r.length=sz':=fun r hr=>cP r (gk (ct hr));have hl:((xs'.drop lo).take (hi - lo)).length=hi - lo:=by simp;omega
   rcases hr with⟨hm,hn⟩ | ⟨b,cap,cur,hm,_,hc,Il,_,hr⟩
   ·subst hn;refine⟨by simp,by simp,.inl ⟨by simp,none,?_⟩⟩;simp only[ah]at h2;rw[hv,hm];have h3:lo=0:=by omega
    have h4:hi=0:=by omega
    subst h3;subst h4;rfl
   ·refine⟨hrow',by rw[hl];omega,?_⟩;rw[hv,hm]
    by_cases he:cap=lo
    ·have h3:hi - lo=0:=by omega
     refine .inr ⟨b,0,cap - lo,?_,?_⟩
     ·rw[hl];simp[pW,he]
     ·intro i j x hx;rw[h3]at hx;simp[fe]at hx
    ·refine .inr ⟨b,lo*sz',cap - lo,?_,?_⟩
     ·rw[hl];simp[pW,he,Addr.add_lit]
     ·intro i j x hx;have:=hr _ _ _ (Cg hx)
      rwa [show(lo+i)*sz'+j=lo*sz'+i*sz'+j by rw[Nat.add_mul]]at this
  ·simp at hx
 ·simp at hx
theorem Gw.cells{w:World}{σ:ag}{μ:Mem}{xs:List (List V)}{sz:Nat}{b off n cap:Nat}(h:Gw w σ μ xs sz (.slice (some ⟨b,off,none⟩) n cap))(hx:∀ i j x,fe xs i j=some x→jv σ x=true){P:Program}{B:Nat}{w0:World}(hS:jw P B w0 w σ μ):
  ∃ vals:List Value,vals.length=xs.length*sz∧(∀ (j:Nat) (u:Value),vals[j]?=some u→w.cell? ((⟨b,off,none⟩:Addr).add j)=some u)∧(∀ u∈vals,u.oneCell'=true)∧mq w σ μ xs sz vals:=by
 rcases h.here with⟨rfl,a,he⟩ | ⟨b',off',cap',he,hr⟩
 ·exact⟨[],by simp,by simp,by simp,by simp,by simp[fe]⟩
 ·simp only[Value.slice.injEq,aa,Addr.mk.injEq,and_true]at he;obtain⟨⟨rfl,rfl⟩,rfl,rfl⟩:=he;have gO:0<xs.length*sz→0<sz:=fun h=>af7 h;let f:Nat→Value:=fun k=>(w.cell? ⟨b,off+k,none⟩).getD undef
  have hk:∀ k,k<xs.length*sz→∃ x,fe xs (k / sz) (k % sz)=some x∧x.pure=true∧w.cell? ⟨b,off+k,none⟩=some (f k)∧VR w σ μ x (f k):=by
   intro k hk;have hs:0<sz:=gO (by omega);have h1:k / sz<xs.length:=om (by rw[jL];exact hk);obtain⟨x,hx⟩:=FD h.rows h1 (Nn k hs);obtain⟨h2,u,h3,h4⟩:=hr _ _ _ hx;have e:off+k / sz*sz+k % sz=off+k:=by have:=Nat.div_add_mod k sz;rw[jL]at this;omega
   rw[e]at h3;have hf:f k=u:=by simp[f,h3]
   exact⟨x,hx,h2,by rw[hf];exact h3,by rw[hf];exact h4⟩
  refine⟨(List.range (xs.length*sz)).map f,by simp,fun j u hj=>?_,fun u hu=>?_,h.rows,fun i j x Lu=>?_⟩
  ·rw[aZ]at hj;simp only[ar]at hj;obtain⟨k,qA,rfl⟩:=hj
   have xO:j<xs.length*sz:=by
    have:=(ae.1 qA).1;simpa using this
   have:k=j:=by rw[ky xO]at qA;simpa using qA.symm
   subst this;rw[Addr.add_lit];obtain⟨_,_,_,h3,_⟩:=hk k xO;exact h3
  ·simp only[bK,dd]at hu;obtain⟨k,tJ,rfl⟩:=hu;obtain⟨x,h1,_,_,h4⟩:=hk k tJ;exact(s9 hS h4 (hx _ _ _ h1)).1
  ·obtain⟨h2,u,h3,h4⟩:=hr _ _ _ Lu;obtain⟨r,hr1,ZN⟩:=kL Lu;have hi:i<xs.length:=(ae.1 hr1).1;have hj:j<sz:=by rw[← h.rows r (bh hr1)];exact(ae.1 ZN).1
   have fk:i*sz+j<xs.length*sz:=by
    have:(i+1)*sz≤xs.length*sz:=cA _ hi;rw[Nat.add_mul]at this;omega
   refine⟨h2,u,?_,h4⟩;rw[aZ,ky fk];have:off+i*sz+j=off+(i*sz+j):=by omega
   rw[this]at h3;simp[f,h3]
theorem uy{σ:ag}{x:V}(h:x.pure=true):jv σ x=true:=by cases x<;>simp_all [V.pure,jv]
theorem foldl_push(ns:List Int):∀ (s:ByteArray),(ns.foldl (fun(r:ByteArray) n=>r.push (UInt8.ofNat n.toNat)) s).data.toList=s.data.toList++ns.map fun n=>UInt8.ofNat n.toNat:=by
 induction ns with
 | nil=>intro s;simp
 | cons n ns ih=>intro s;rw[bd,ih];simp[ByteArray.push]
theorem zG:∀ (xs:List (List V)) (l:List UInt8),bytesOf xs=some l→∃ ns:List Int,xs=ns.map (fun n=>[V.i .u8 n])∧l=ns.map fun n=>UInt8.ofNat n.toNat
 | [],l,h=>by simp only[bytesOf,aa]at h;subst h;exact⟨[],rfl,rfl⟩
 | r::rs,l,h=>by
  simp only[bytesOf]at h;split at h<;>simp only[aa,reduceCtorEq]at h;rename_i x ys hx B9;subst h;obtain⟨ns,h1,h2⟩:=zG rs ys B9;unfold r6 at hx;split at hx<;>simp only[aa,reduceCtorEq]at hx;rename_i n;subst hx;exact⟨n::ns,by simp[h1],by simp[h2]⟩
section dh
variable {P:Program} {o:Oper} {a:Act} {B:Nat} {w0 w:World} {σ:ag} {μ:Mem} {fr:List V} (hF:FR w σ μ fr a) (hS:jw P B w0 w σ μ)
include hF hS
theorem abr{s d e:TypeId}{x:Operand}{x':O}(ho:o.op=.convert s d x)(hs:P.underlying s=some (.slice e))(he:P.underlying e=some (.int .u8))(hd:P.underlying d=some .string)(hx:cO x=some x')
  {ob:Prop} {y:V} (h:bm fr σ (.ON x')=some (ob,y)):Yields P o a w σ μ y:=by
 have h1:=eQ hF hx;simp only[bm]at h;split at h
 ·rename_i xs Bk;split at h
  ·rename_i l hl;simp only[aa,aI]at h;obtain⟨_,rfl⟩:=h;have XZ:=Ae hS h1 Bk;obtain⟨ns,hns,Tj⟩:=zG xs l hl;have Tk:l.length=xs.length:=by rw[Tj,hns];simp
   rcases XZ.here with⟨hx0,a0,hv⟩ | ⟨b,off,cap,hv,hr⟩
   ·subst hx0;have:l=[]:=bL (by simpa using Tk);subst this;refine .pure (v:=.string ByteArray.empty) ?_ (.s _ _ rfl (by simp))
    have h0:(convert s d (.slice a0 0 0)).run P w=.ok (.string ByteArray.empty) w:=by
     cases a0 with
     | none=>exact run_convert_bytes_nil (P:=P) (w:=w) s e hs he 0 0 d hd
     | some a0 =>
      rw[run_convert_bytes_string w s d e _ _ _ hs he hd,run_bytesToString w a0 0 0 [] (run_loadCells_list w a0 [] (by simp))];rfl
    simp only[execOp,ho,hv,Sem.run_bind,h0,Result.andThen_ok,Sem.run_pure]
   ·have jy:∀ j,j<xs.length→w.cell? ((⟨b,off,none⟩:Addr).add j)=some (.int .u8 (ns.getD j 0)):=by
     intro j hj;have hjn:j<ns.length:=by rw[hns]at hj;simpa using hj
     have dY:fe xs j 0=some (.i .u8 ns[j]):=by rw[hns];simp[fe,hjn]
     obtain⟨_,u,h2,h3⟩:=hr j 0 _ dY;rw[h3.iP]at h2;rw[Addr.add_lit];simpa[hjn]using h2
    have aeQ:=run_loadCells (P:=P) w ⟨b,off,none⟩ xs.length (fun j=>.int .u8 (ns.getD j 0)) jy
    have hload':(loadCells ⟨b,off,none⟩ xs.length).run P w=.ok (ns.map (Value.int .u8)).toArray w:=by
     rw[aeQ];congr 2;apply kg;intro j;have hln':xs.length=ns.length:=by rw[hns];simp
     by_cases hj:j<ns.length
     ·rw[aZ,ky (by omega),aZ,aw hj];simp[hj]
     ·rw[bR (by simp;omega),bR (by simp;omega)]
    refine .pure (v:=.string (ns.foldl (fun r n=>r.push (UInt8.ofNat n.toNat)) ByteArray.empty)) ?_ (.s _ _ ?_ (by rw[Tk];exact XZ.len))
    ·simp only[execOp,ho,hv,Sem.run_bind,run_convert_bytes_string w s d e _ _ _ hs he hd,run_bytesToString w ⟨b,off,none⟩ xs.length cap ns hload',Result.andThen_ok,Sem.run_pure]
    ·rw[foldl_push,Tj];rfl
  ·simp at h
 ·simp at h
end dh
end Go.Pm

/- A part of a proof; the claim's last text says of what. -/
import Derived.Lib.Strings
import Derived.Laws.BytesArg
import Derived.Test.YtlakkaamfadipaaGreatDoorL7
set_option linter.all false

namespace Go.Pm
open Go Go.RowKit
theorem iI{P:Program}{w:World}{T:TypeId}{q:Bool}(h:dO P T=some q):(isAgg T).run P w=.ok q w:=by
 unfold dO at h;split at h<;>simp only[aa,reduceCtorEq]at h<;>subst h
 ·rename_i fs hu;simp[isAgg,run_underlying hu]
 ·rename_i n e hu;simp[isAgg,run_underlying hu]
 ·rename_i d h1 h2 hu;simp only[isAgg,Sem.run_bind,run_underlying hu,Result.andThen_ok];cases d<;>first | rfl | (exact absurd rfl (h1 _)) | (exact absurd rfl (h2 _ _))
theorem vM{P:Program}{w:World}{T:TypeId}{b off:Nat}{v:Value}(hT:dO P T=some false)(hc:w.cell? ⟨b,off,none⟩=some v):
  (Instr.loadAt T (.pointer (some ⟨b,off,none⟩))).run P w=.ok v w:=by
 simp[Instr.loadAt,Instr.sureAddr,loadVar,iI hT,hc]
theorem vN{P:Program}{w:World}{T:TypeId}{t:TypeInfo}{b off:Nat}(f:Nat→Value)(hT:dO P T=some true)(ht:P.info? T=some t)(hc:∀ j,j<t.size→w.cell? ⟨b,off+j,none⟩=some (f j)):
  (Instr.loadAt T (.pointer (some ⟨b,off,none⟩))).run P w=.ok (.agg ((List.range t.size).map f).toArray) w:=by
 have h1:=run_loadCells (P:=P) w ⟨b,off,none⟩ t.size f (fun j hj=>by rw[Addr.add_lit];exact hc j hj);simp[Instr.loadAt,Instr.sureAddr,loadVar,iI hT,sizeOf,typeInfo,ht,h1]
theorem jO{w:World}{b:Nat}{vs:Array Value}{T:Nat}{fr:Nat×Nat}(h:w.heap[b]?=some (.cells vs T fr))(j:Nat):w.cell? ⟨b,j,none⟩=vs[j]?:=by
 simp[World.cell?,h]
theorem fe.rowAt{P:Program}{B:Nat}{w0 w:World}{J:ae}{μ:Mem}(hS:fe P B w0 w J μ){id E sz by' g:Nat}{sh:Bool}{xs:List (List V)}(ho:J[id]?=some (.row E sz by' g sh xs)):
  Ti P E sz by'∧(∀ r∈xs,r.length=sz)∧((μ id=.slice none 0 0∧xs=[]) ∨
   ∃ b cap cur,μ id=.slice (some ⟨b,0,none⟩) xs.length cap∧w.heap[b]?=some (.cells cur E (0,0))∧xs.length≤cap∧cap≤maxLen∧cur.size=cap*sz ∧
    ∀ i j x,eV xs i j=some x→x.pure=true∧∃ v,w.cell? ⟨b,i*sz+j,none⟩=some v∧VR w J μ x v):=by
 obtain⟨hT,vals,⟨hl,hw⟩,bT,hr⟩:=hS.obj id _ ho;refine⟨hT,bT,?_⟩;rcases hw with⟨h1,h2⟩ | ⟨b,cap,cur,h1,h2,h3,h4,h5,h6,h7⟩
 ·exact .inl ⟨h1,aD h2⟩
 ·refine .inr ⟨b,cap,cur,h1,h3,h4,h5,h6,fun i j x hx=>⟨(hr i j x hx).1,?_⟩⟩;obtain⟨v,h8,h9⟩:=(hr i j x hx).2;refine⟨v,?_,h9⟩;rw[jO h3];rw[← h7]at h8
  have CZ:i*sz+j<xs.length*sz:=by
   rcases ft (i*sz+j) (xs.length*sz)with h | h
   ·exact h
   ·rw[a7 (by simp;omega)]at h8;simp at h8
  rw[aU CZ]at h8;simpa using h8
theorem fe.GH{P:Program}{B:Nat}{w0 w:World}{J:ae}{μ:Mem}(hS:fe P B w0 w J μ){id T:Nat}{cs:List V}(ho:J[id]?=some (.box T cs)):
  ∃ b vs,μ id=.pointer (some ⟨b,0,none⟩)∧B≤b∧w.heap[b]?=some (.cells vs T (0,0))∧vs.size=cs.length∧∀ j x,cs[j]?=some x→∃ u,w.cell? ⟨b,j,none⟩=some u∧VR w J μ x u:=by
 obtain⟨b,vs,h1,h2,h3,h4,h5⟩:=hS.obj id _ ho;refine⟨b,vs,h1,h2,h3,h4,fun j x hx=>?_⟩;obtain⟨u,h6,h7⟩:=h5 j x hx;exact⟨u,by rw[jO h3];exact h6,h7⟩
theorem Cs{P:Program}{w:World}{J:ae}{μ:Mem}{T:TypeId}{t:TypeInfo}{b off:Nat}{k:Option Nat}{row:List V}(ht:P.info? T=some t)
  (hk:(k=none∧dO P T=some false)∨(k=some t.size∧dO P T=some true)) (d:Nat)
  (hc:∀ j y,row[d+j]?=some y→∃ u,w.cell? ⟨b,off+j,none⟩=some u∧VR w J μ y u) :
  (k=none→∀ y,row[d]?=some y→∃ v,(Instr.loadAt T (.pointer (some ⟨b,off,none⟩))).run P w=.ok v w∧VR w J μ y v) ∧
  (∀ n,k=some n→d+n≤row.length→∃ v,(Instr.loadAt T (.pointer (some ⟨b,off,none⟩))).run P w=.ok v w∧VR w J μ (.agg ((row.drop d).take n)) v):=by
 constructor
 ·rintro rfl y hy;obtain⟨u,h1,h2⟩:=hc 0 y hy;have hT:=hk.resolve_right (by simp);exact⟨u,vM hT.2 (by simpa using h1),h2⟩
 ·rintro n rfl hn;have hT:=hk.resolve_left (by simp);simp only[aa]at hT;obtain⟨rfl,hT⟩:=hT
  have hf:∀ j,j<t.size→∃ u,w.cell? ⟨b,off+j,none⟩=some u∧∃ y,row[d+j]?=some y∧VR w J μ y u:=by
   intro j hj;have cM:d+j<row.length:=by omega
   obtain⟨u,h1,h2⟩:=hc j row[d+j] (an cM);exact⟨u,h1,row[d+j],an cM,h2⟩
  let f:Nat→Value:=fun j=>(w.cell? ⟨b,off+j,none⟩).getD undef
  have Su:∀ j,j<t.size→w.cell? ⟨b,off+j,none⟩=some (f j):=by
   intro j hj;obtain⟨u,h1,_⟩:=hf j hj;simp[f,h1]
  refine⟨.agg ((List.range t.size).map f).toArray,vN f hT ht Su,.agg _ _ (by simp;omega) ?_⟩;intro i y hy
  have hi:i<t.size:=by
   rcases ft i t.size with h | h
   ·exact h
   ·rw[a7 (by simp;omega)]at hy;simp at hy
  rw[aU hi,cv]at hy;obtain⟨u,h1,y',h2,h3⟩:=hf i hi;rw[h2]at hy;simp only[aa]at hy;subst hy
  have:(((List.range t.size).map f).toArray.getD i undef)=u:=by
   have h4:f i=u:=by simp[f,h1]
   simp[hi,h4]
  rw[this];exact h3
theorem sX{P:Program}{o:Oper}{a:Act}{w:World}{J:ae}{μ:Mem}{T:TypeId}{x:Operand}{t:TypeInfo}{b off:Nat}{k:Option Nat}{row:List V}
  (ho:o.op=.load T x) (hx:a.eval x=.pointer (some ⟨b,off,none⟩)) (ht:P.info? T=some t)
  (hk:(k=none∧dO P T=some false)∨(k=some t.size∧dO P T=some true)) (d:Nat)
  (hc:∀ j y,row[d+j]?=some y→∃ u,w.cell? ⟨b,off+j,none⟩=some u∧VR w J μ y u) :
  (k=none→∀ y,row[d]?=some y→Yields P o a w J μ y)∧(∀ n,k=some n→d+n≤row.length→Yields P o a w J μ (.agg ((row.drop d).take n))):=by
 obtain⟨h1,h2⟩:=Cs (P:=P) (row:=row) ht hk d hc;constructor
 ·intro hk y hy;obtain⟨v,h3,h4⟩:=h1 hk y hy;exact .pure (v:=v) (by simp[execOp,ho,hx,h3]) h4
 ·intro n hk hn;obtain⟨v,h3,h4⟩:=h2 n hk hn;exact .pure (v:=v) (by simp[execOp,ho,hx,h3]) h4
section b9
variable {P:Program} {o:Oper} {a:Act} {B:Nat} {w0 w:World} {J:ae} {μ:Mem} {fr:List V} (hF:FR w J μ fr a) (hS:fe P B w0 w J μ)
include hF hS
theorem Ja{T:TypeId}{x:Operand}{x':O}{t:TypeInfo}{k:Option Nat}(ho:o.op=.load T x)(hx:cO x=some x')(ht:P.info? T=some t)
  (hk:(k=none∧dO P T=some false)∨(k=some t.size∧dO P T=some true)) {ob:Prop} {y:V} (h:aJ fr J (.load k x')=some (ob,y)) (cK:ob):Yields P o a w J μ y:=by
 have h1:=cn hF hx;simp only[aJ]at h;split at h
 ·rename_i id off hp;rw[hp]at h1;obtain⟨b,hm,hv,_⟩:=h1.mG;split at h
  ·rename_i T' cs hb;obtain⟨b',vs,hm',hB,hh,eI,kN⟩:=hS.GH hb;rw[hm]at hm';simp only[Value.pointer.injEq,aa,Addr.mk.injEq,kD]at hm';subst hm';have hl:=sX (P:=P) (J:=J) (μ:=μ) (row:=cs) (k:=k) ho hv ht hk off (fun j z hz=>kN _ z hz);split at h
   ·split at h
    ·rename_i z hz;simp only[aa,ao]at h;obtain⟨_,rfl⟩:=h;exact hl.1 rfl _ hz
    ·simp at h
   ·simp only[aa,ao]at h;obtain⟨rfl,rfl⟩:=h;exact hl.2 _ rfl cK
  ·simp at h
 ·rename_i sz xs i off hp;rw[hp]at h1;obtain⟨b,o',f,hv,hi,bT,hc,NN⟩:=h1.AN;have Gf:xs[i]?=some xs[i]:=an hi
  have hl:=sX (P:=P) (J:=J) (μ:=μ) (row:=xs[i]) (k:=k) ho hv ht hk off (fun j z hz=>by
   have h2:eV xs i (off+j)=some z:=by rw[l8 Gf];exact hz
   exact⟨f (off+j),by rw[iF];exact(hc _ z h2).1,NN _ z h2⟩)
  split at h
  ·split at h
   ·rename_i z hz;simp only[aa,ao]at h;obtain⟨_,rfl⟩:=h;rw[l8 Gf]at hz;exact hl.1 rfl _ hz
   ·simp at h
  ·simp only[aa,ao]at h;obtain⟨rfl,rfl⟩:=h;have hg:xs.getD i []=xs[i]:=by simp[hi]
   rw[hg]at cK ⊢;exact hl.2 _ rfl cK
 ·rename_i id g i off hp;rw[hp]at h1;split at h
  ·rename_i E sz by' g' sh xs hb;split at h
   ·rename_i hg;subst hg;obtain⟨hi,hv⟩:=h1.AM hb;obtain⟨_,bT,hr⟩:=hS.rowAt hb;have Gf:xs[i]?=some xs[i]:=an hi;rcases hr with⟨_,hn⟩ | ⟨b,cap,cur,hm,hh,_,_,_,hr⟩
    ·subst hn;simp at hi
    ·have hv':a.eval x=.pointer (some ⟨b,i*sz+off,none⟩):=by rw[hv,hm];rfl
     have hl:=sX (P:=P) (J:=J) (μ:=μ) (row:=xs[i]) (k:=k) ho hv' ht hk off (fun j z hz=>by
      have h2:eV xs i (off+j)=some z:=by rw[l8 Gf];exact hz
      obtain⟨_,u,h3,h4⟩:=hr _ _ z h2;exact⟨u,by rw[iF];exact h3,h4⟩)
     split at h
     ·split at h
      ·rename_i z hz;simp only[aa,ao]at h;obtain⟨_,rfl⟩:=h;rw[l8 Gf]at hz;exact hl.1 rfl _ hz
      ·simp at h
     ·simp only[aa,ao]at h;obtain⟨rfl,rfl⟩:=h;have hg:xs.getD i []=xs[i]:=by simp[hi]
      rw[hg]at cK ⊢;exact hl.2 _ rfl cK
   ·simp at h
  ·simp at h
 ·simp at h
theorem Mw{x:Operand}{x':O}(ho:o.op=.nilCheck x)(hx:cO x=some x'){ob:Prop}{y:V}(h:aJ fr J (.cF x')=some (ob,y)):Yields P o a w J μ y:=by
 have h1:=cn hF hx
 have cx:∀ ad,a.eval x=.pointer (some ad)→(execOp a.eval o).run P w=.ok (.value (.pointer (some ad))) w:=by
  intro ad he;simp[execOp,ho,he]
 simp only[aJ]at h;split at h<;>(try simp only[aa,ao,reduceCtorEq]at h)
 ·rename_i id off hp;obtain⟨_,rfl⟩:=h;rw[hp]at h1;have h2:=h1;obtain⟨b,hm,hv,hb⟩:=h1.mG;rw[hv]at h2;exact .pure (cx _ hv) h2
 ·rename_i sz xs i off hp;obtain⟨_,rfl⟩:=h;rw[hp]at h1;have h2:=h1;obtain⟨b,o',f',hv,_⟩:=h1.AN;rw[hv]at h2;exact .pure (cx _ hv) h2
 ·rename_i id g i off hp;split at h
  ·rename_i E sz by' g' sh xs ho';split at h<;>simp only[aa,ao,reduceCtorEq]at h;rename_i hg;subst hg;obtain⟨_,rfl⟩:=h;rw[hp]at h1;have h2:=h1;obtain⟨hi,hv⟩:=h1.AM ho';obtain⟨_,_,hr⟩:=hS.rowAt ho';rcases hr with⟨_,hn⟩ | ⟨b,cap,cur,hm,_⟩
   ·subst hn;simp at hi
   ·have hv':a.eval x=.pointer (some ⟨b,i*sz+off,none⟩):=by rw[hv,hm];rfl
    rw[hv']at h2;exact .pure (cx _ hv') h2
  ·simp at h
theorem P1{x y:Operand}{x' y':O}{T ts}(ho:o.op=.call { callee:=.builtin .max,args:=#[x,y],argTypes:=ts })(hx:cO x=some x')(hy:cO y=some y'){ob:Prop}{z:V}(h:aJ fr J (.max2 x' y')=some (ob,z))(_:T=ts):Yields P o a w J μ z:=by
 have h1:=cn hF hx;have h2:=cn hF hy;simp only[aJ]at h;split at h
 ·rename_i k p k' q hp hq;simp only[aa,ao]at h;obtain⟨_,rfl⟩:=h;rw[hp]at h1;rw[hq]at h2;refine .pure (v:=.int k (if p<q then q else p)) ?_ (.i _ _);simp[execOp,ho,resolve,invoke,builtin,h1.dI,h2.dI,run_max_int2]
 ·simp at h
theorem P0{x y:Operand}{x' y':O}{ts}(ho:o.op=.call { callee:=.builtin .min,args:=#[x,y],argTypes:=ts })(hx:cO x=some x')(hy:cO y=some y'){ob:Prop}{z:V}(h:aJ fr J (.min2 x' y')=some (ob,z)):Yields P o a w J μ z:=by
 have h1:=cn hF hx;have h2:=cn hF hy;simp only[aJ]at h;split at h
 ·rename_i k p k' q hp hq;simp only[aa,ao]at h;obtain⟨_,rfl⟩:=h;rw[hp]at h1;rw[hq]at h2;refine .pure (v:=.int k (if q<p then q else p)) ?_ (.i _ _);simp[execOp,ho,resolve,invoke,builtin,h1.dI,h2.dI,run_min_int2]
 ·simp at h
end b9
theorem rS{P:Program}{t e:TypeId}(h:P.underlying t=some (.slice e)):P.elem t=e:=by simp[Program.elem,h]
theorem mb.row{w:World}{J:ae}{μ:Mem}{xs:List (List V)}{sz b o:Nat}{f:Nat→Nat→Value}(h:mb w J μ xs sz b o f){i:Nat}(hi:i<xs.length)(off:Nat):
  VR w J μ (.ep sz xs i off) (.pointer (some ⟨b,o+i*sz+off,none⟩)) :=
 .ep sz xs i off b (o+i*sz) (f i) hi h.1 (fun j x hx=>h.2.1 i j x hx) (fun j x hx=>h.2.2 i j x hx)
theorem vj{xs:List (List V)}{lo n i j:Nat}{x:V}(h:eV ((xs.drop lo).take n) i j=some x):eV xs (lo+i) j=some x:=by
 obtain⟨r,h1,h2⟩:=eP h
 have hi:i<n:=by
  rcases ft i n with h | h
  ·exact h
  ·rw[a7 (by simp;omega)]at h1;simp at h1
 rw[aU hi,cv]at h1;rw[l8 h1,h2]
theorem mb.sub{w:World}{J:ae}{μ:Mem}{xs:List (List V)}{sz b o:Nat}{f:Nat→Nat→Value}(h:mb w J μ xs sz b o f)(lo n:Nat):
  mb w J μ ((xs.drop lo).take n) sz b (o+lo*sz) (fun i j=>f (lo+i) j):=by
 refine⟨fun r hr=>h.1 r (dh (df hr)),fun i j x hx=>?_,fun i j x hx=>h.2.2 _ _ _ (vj hx)⟩;have:=h.2.1 _ _ _ (vj hx);have e:o+lo*sz+i*sz+j=o+(lo+i)*sz+j:=by rw[bO];omega
 rw[e];exact this
theorem xY{P:Program}{w:World}{t e:TypeId}{ti:TypeInfo}(ht:P.underlying t=some (.slice e))(hi:P.info? e=some ti)(a:Option Addr)(len cap:Nat)(lo hi':Option Value)(l h:Int)
  (nw:(lo=none∧l=0)∨∃ k,lo=some (.int k l)) (DJ:(hi'=none∧h=len)∨∃ k,hi'=some (.int k h)) (h0:0≤l) (h1:l≤h) (h2:h≤cap) :
  (Instr.sliceAt t (.slice a len cap) lo hi' none).run P w=.ok (iR (.slice a len cap) l.toNat h.toNat ti.size) w:=by
 have ht':P.underlying t=some (.slice (P.elem t)):=by rw[rS ht];exact ht
 have hs:(sizeOf (P.elem t)).run P w=.ok ti.size w:=by rw[rS ht];simp[sizeOf,typeInfo,hi]
 have VI:0≤h:=by omega
 rw[run_sliceAt_slice (w:=w) t _ lo hi' none ht'];have eh:(h.toNat:Int)=h:=Int.toNat_of_nonneg VI;rcases nw with⟨rfl,rfl⟩ | ⟨k,rfl⟩<;>rcases DJ with⟨rfl,rfl⟩ | ⟨k',rfl⟩
 ·rw[run_slice_all (w:=w) t a len cap ht',hs];simp[sliced,iR]
 ·rw[run_slice_h (w:=w) t a len cap ht' k' h VI h2,hs];simp[sliced,iR]
 ·rw[run_slice_l (w:=w) t a len cap ht' k l h0 h1,hs];simp[sliced,iR]
 ·rw[run_slice_lh (w:=w) t a len cap ht' k k' l h h0 h1 h2,hs];simp[sliced,iR]
theorem vL{P:Program}{w:World}{t:TypeId}(ht:P.underlying t=some .string)(s:ByteArray)(lo hi':Option Value)(l h:Int)
  (nw:(lo=none∧l=0)∨∃ k,lo=some (.int k l)) (DJ:(hi'=none∧h=s.size)∨∃ k,hi'=some (.int k h)) (h0:0≤l) (h1:l≤h) (h2:h≤s.size) :
  (Instr.sliceAt t (.string s) lo hi' none).run P w=.ok (.string (s.extract l.toNat h.toNat)) w:=by
 have VI:0≤h:=by omega
 rw[run_sliceAt_string (w:=w) t _ lo hi' none ht];rcases nw with⟨rfl,rfl⟩ | ⟨k,rfl⟩<;>rcases DJ with⟨rfl,rfl⟩ | ⟨k',rfl⟩
 ·rw[run_slice_string_all (w:=w) t s ht];simp
 ·rw[run_slice_string_to_if (w:=w) t s k' h ht,aQ ⟨VI,h2⟩];simp
 ·rw[run_slice_string_from_if (w:=w) t s k l ht,aQ ⟨h0,by omega⟩];simp
 ·rw[run_slice_string_if (w:=w) t s k k' l h ht,aQ ⟨VI,h2⟩,aQ ⟨h0,h1⟩]
theorem A1(s:ByteArray)(i j:Nat):(s.extract i j).data.toList=(s.data.toList.drop i).take (j - i):=by
 rw[ByteArray.data_extract,Array.toList_extract,List.extract_eq_take_drop]
section b9
variable {P:Program} {o:Oper} {a:Act} {B:Nat} {w0 w:World} {J:ae} {μ:Mem} {fr:List V} (hF:FR w J μ fr a) (hS:fe P B w0 w J μ)
include hF hS
theorem SC{T E:TypeId}{t:TypeInfo}{x i:Operand}{x' i':O}(ho:o.op=.indexAddr T x i)(hT:P.underlying T=some (.slice E))(ht:P.info? E=some t)(hx:cO x=some x')(hi:cO i=some i')
  {ob:Prop} {y:V} (h:aJ fr J (.idx t.size x' i')=some (ob,y)) (cK:ob):Yields P o a w J μ y:=by
 have h1:=cn hF hx;have h2:=cn hF hi;have hT':P.underlying T=some (.slice (P.elem T)):=by rw[rS hT];exact hT
 simp only[aJ]at h;split at h
 ·rename_i k n hn;rw[hn]at h2;have h2:=h2.dI
  have cx:∀ b off len cap,a.eval x=.slice (some ⟨b,off,none⟩) len cap→0≤n→n<len→(execOp a.eval o).run P w=.ok (.value (.pointer (some ⟨b,off+n.toNat*t.size,none⟩))) w:=by
   intro b off len cap he EC sg;simp[execOp,ho,he,h2,run_indexAt_slice (w:=w) T _ len cap k n hT',EC,sg,rS hT,sizeOf,typeInfo,ht,Addr.add_lit]
  split at h
  ·rename_i sz xs hp;split at h<;>simp only[aa,ao,reduceCtorEq]at h;rename_i eI;subst eI;obtain⟨rfl,rfl⟩:=h;rw[hp]at h1;rcases h1.wB with⟨rfl,_⟩ | ⟨b,off,cap,f,hv,_,_,hr⟩
   ·simp at cK;omega
   ·refine .pure (cx b off _ cap hv cK.1 cK.2) ?_;exact hr.row (by omega) 0
  ·rename_i sz xs hp;split at h<;>simp only[aa,ao,reduceCtorEq]at h;rename_i eI;subst eI;obtain⟨rfl,rfl⟩:=h;rw[hp]at h1;rcases h1.mH with⟨rfl,_⟩ | ⟨b,off,f,hv,_,hr⟩
   ·simp at cK;omega
   ·refine .pure (cx b off _ _ hv cK.1 cK.2) ?_;exact hr.row (by omega) 0
  ·rename_i id g hp;split at h
   ·rename_i E' sz by' g' sh xs hb;split at h<;>simp only[aa,ao,reduceCtorEq]at h;rename_i hg;obtain⟨rfl,rfl⟩:=hg;obtain⟨rfl,rfl⟩:=h;rw[hp]at h1;have hv:=h1.iL hb;obtain⟨_,_,hr⟩:=hS.rowAt hb;rcases hr with⟨_,hn⟩ | ⟨b,cap,cur,hm,_⟩
    ·subst hn;simp at cK;omega
    ·refine .pure (cx b 0 _ cap (hv.trans hm) cK.1 cK.2) (.rp id g _ _ _ (ab.1 hb).1 ?_);intro E2 sz2 by2 g2 sh2 xs2 h3;rw[hb]at h3;simp only[aa,Ob.row.injEq]at h3;obtain⟨rfl,rfl,rfl,rfl,rfl,rfl⟩:=h3;exact⟨aq _,fun _=>⟨by omega,by rw[hm];simp[S9]⟩⟩
   ·simp at h
  ·rename_i id g lo hi hp;split at h
   ·rename_i E' sz by' g' sh xs hb;split at h<;>simp only[aa,ao,reduceCtorEq]at h;rename_i hg;obtain⟨rfl,rfl⟩:=hg;obtain⟨rfl,rfl⟩:=h;rw[hp]at h1;obtain⟨hlh,DJ,hv⟩:=h1.mF hb;obtain⟨_,_,hr⟩:=hS.rowAt hb;rcases hr with⟨_,hn⟩ | ⟨b,cap,cur,hm,_,CQ,_⟩
    ·subst hn;simp at DJ;subst DJ;simp at cK;omega
    ·have gr:¬ cap=lo:=by omega
     have Sn:a.eval x=.slice (some ⟨b,lo*t.size,none⟩) (hi - lo) (cap - lo):=by rw[hv,hm];simp[iR,gr,Addr.add_lit]
     refine .pure (cx b (lo*t.size) _ (cap - lo) Sn cK.1 cK.2) (.rp id g _ _ _ (ab.1 hb).1 ?_);intro E2 sz2 by2 g2 sh2 xs2 h3;rw[hb]at h3;simp only[aa,Ob.row.injEq]at h3;obtain⟨rfl,rfl,rfl,rfl,rfl,rfl⟩:=h3;exact⟨aq _,fun _=>⟨by omega,by rw[hm];simp[S9,bO]⟩⟩
   ·simp at h
  ·rename_i id m hp;split at h<;>simp only[aa,ao,reduceCtorEq]at h;rename_i yf;obtain⟨rfl,rfl⟩:=h;rw[hp]at h1;obtain⟨b,hv,hm,Vy⟩:=h1.Gb;refine .pure (cx b 0 _ _ hv cK.1 cK.2) ?_;rw[yf,Bg,bj];exact .ptr id _ b Vy hm
  ·simp at h
 ·simp at h
theorem P4{T E:TypeId}{n:Nat}{t:TypeInfo}{x i:Operand}{x' i':O}(ho:o.op=.indexAddr T x i)(hT:P.underlying T=some (.array n E))(ht:P.info? E=some t)(hx:cO x=some x')(hi:cO i=some i')
  {ob:Prop} {y:V} (h:aJ fr J (.Dw n t.size x' i')=some (ob,y)) (cK:ob):Yields P o a w J μ y:=by
 have h1:=cn hF hx;have h2:=cn hF hi;have hl:P.arrayLen T=n:=by simp[Program.arrayLen,hT]
 have he:P.elem T=E:=by simp[Program.elem,hT]
 have hT':P.underlying T=some (.array (P.arrayLen T) (P.elem T)):=by rw[hl,he];exact hT
 simp only[aJ]at h;split at h<;>simp only[aa,ao,reduceCtorEq]at h;rename_i id off k m hp hq;obtain⟨rfl,rfl⟩:=h;rw[hp]at h1;rw[hq]at h2;obtain⟨b,hm,hv,hb⟩:=h1.mG;have h2:=h2.dI;refine .pure (v:=.pointer (some ⟨b,off+m.toNat*t.size,none⟩)) ?_ (.ptr id _ b hb hm);have hr:=run_indexAt_array (P:=P) (w:=w) T ⟨b,off,none⟩ k m hT';rw[hl,he,aQ cK]at hr;have hs:(sizeOf E).run P w=.ok t.size w:=by simp[sizeOf,typeInfo,ht]
 rw[hs,Result.andThen_ok,Addr.add_lit]at hr;simp only[execOp,ho,hv,h2,Sem.run_bind,hr,Result.andThen_ok,Sem.run_pure]
theorem SM{T E:TypeId}{n:Nat}{t:TypeInfo}{x:Operand}{x':O}(ho:o.op=.slice T x none none none)(hT:P.underlying T=some (.array n E))(ht:P.info? E=some t)(h1s:t.size=1)(hx:cO x=some x')
  {ob:Prop} {y:V} (h:aJ fr J (.Sz n x')=some (ob,y)) (cK:ob):Yields P o a w J μ y:=by
 have h1:=cn hF hx;have hl:P.arrayLen T=n:=by simp[Program.arrayLen,hT]
 have he:P.elem T=E:=by simp[Program.elem,hT]
 have hT':P.underlying T=some (.array (P.arrayLen T) (P.elem T)):=by rw[hl,he];exact hT
 simp only[aJ]at h;split at h<;>(try simp only[reduceCtorEq]at h);rename_i sz xs i hp;split at h<;>simp only[aa,ao,reduceCtorEq]at h;rename_i hn;obtain⟨rfl,rfl⟩:=h;rw[hp]at h1;obtain⟨b,o',f,hv,hi,bT,hc,s8⟩:=h1.AN;have hs:(sizeOf E).run P w=.ok t.size w:=by simp[sizeOf,typeInfo,ht]
 have hr:=run_sliceAt_array_all (P:=P) w T ⟨b,o',none⟩ hT';rw[hl,he,hs,Result.andThen_ok]at hr
 have ha:slicedAt ⟨b,o',none⟩ 0 n n t.size=.slice (some ⟨b,o',none⟩) n n:=by
  simp[slicedAt,Addr.add_lit]
 rw[ha]at hr;refine .pure (v:=.slice (some ⟨b,o',none⟩) n n) ?_ ?_
 ·simp only[execOp,ho,hv,eA,xQ,Sem.run_bind,hr,Result.andThen_ok,Sem.run_pure]
 ·have eJ:∀ (k j:Nat) (x:V),eV ((xs.getD i []).map fun c=>[c]) k j=some x→j=0∧eV xs i k=some x:=by
   have hri:xs[i]?=some (xs.getD i []):=by simp[ar,an hi]
   intro k j x hx;simp only[eV,hri,ey];generalize xs.getD i []=row at hx;simp only[eV,aW]at hx;cases hk:row[k]? with
   | none=>simp[hk]at hx
   | some c =>
    simp only[hk,bL,ey]at hx;cases j with
    | zero =>
     simp only[au]at hx;exact⟨rfl,hx⟩
    | succ j=>simp at hx
  have h6:=VR.sl (w:=w) (J:=J) (μ:=μ) 1 ((xs.getD i []).map fun c=>[c]) b o' n (fun k _=>f k) (by simp only[aj];omega) (by unfold maxLen;omega) (by simp)
   (fun k j x hx=>by
    obtain⟨rfl,h7⟩:=eJ k j x hx;have:=hc k x h7;simpa using this)
   (fun k j x hx=>s8 k x (eJ k j x hx).2)
  simp only[aj]at h6;rw[hn]at h6;exact h6
theorem PX{T:TypeId}{x i:Operand}{x' i':O}(ho:o.op=.index T x i)(hT:P.underlying T=some .string)(hx:cO x=some x')(hi:cO i=some i')
  {ob:Prop} {y:V} (h:aJ fr J (.gY x' i')=some (ob,y)) (cK:ob):Yields P o a w J μ y:=by
 have h1:=cn hF hx;have h2:=cn hF hi;simp only[aJ]at h;split at h<;>simp only[aa,ao,reduceCtorEq]at h;rename_i l k n hp hn;obtain⟨rfl,rfl⟩:=h;rw[hp]at h1;rw[hn]at h2;obtain⟨s,hv,hl,_⟩:=h1.kb;have eI:s.size=l.length:=by rw[← hl];exact bsize s
 refine .pure (v:=.int .u8 (l.getD n.toNat 0).toNat) ?_ (.i _ _);have hc:0≤n∧n<s.size:=by rw[eI];exact cK
 have cM:n.toNat<l.length:=by omega
 have hb:s[n.toNat]'(by omega)=l.getD n.toNat 0:=by
  subst hl;rw[ar,an cM];simp[ByteArray.getElem_eq_getElem_data]
 have h3:=run_index_string (P:=P) (w:=w) T s k n hT;rw[dif_pos hc,hb]at h3;simp only[execOp,ho,hv,h2.dI,Sem.run_bind,h3,Result.andThen_ok,Sem.run_pure]
theorem PU{T:TypeId}{f:Nat}{fs:Array Field}{fd:Field}{x:Operand}{x':O}(ho:o.op=.field T x f)(hT:P.underlying T=some (.struct fs))(hf:fs[f]?=some fd)(hA:dO P fd.type=some false)(hx:cO x=some x')
  {ob:Prop} {y:V} (h:aJ fr J (.GV fd.offset x')=some (ob,y)):Yields P o a w J μ y:=by
 have h1:=cn hF hx;simp only[aJ]at h;split at h
 ·rename_i xs hp;rw[hp]at h1;obtain⟨vs,hv,hl,s8⟩:=h1.fX;split at h<;>simp only[aa,ao,reduceCtorEq]at h;rename_i z hz;obtain⟨_,rfl⟩:=h;have cM:fd.offset<vs.size:=by rw[← hl];exact(ab.1 hz).1
  have hz':vs[fd.offset]?=some (vs.getD fd.offset undef):=by simp[cM]
  refine .pure (v:=vs.getD fd.offset undef) ?_ (s8 _ _ hz);simp only[execOp,ho,hv,Instr.field,run_underlying hT,hf,asAgg,part,iI hA,Sem.run_bind,Sem.run_pure,Result.andThen_ok,aG,aO,hz']
 ·simp at h
theorem PT{T E:TypeId}{n:Nat}{x i:Operand}{x' i':O}(ho:o.op=.index T x i)(hT:P.underlying T=some (.array n E))(hA:dO P E=some false)(hc:P.cellsOf E=1)(hx:cO x=some x')(hi:cO i=some i')
  {ob:Prop} {y:V} (h:aJ fr J (.GU n x' i')=some (ob,y)) (cK:ob):Yields P o a w J μ y:=by
 have h1:=cn hF hx;have h2:=cn hF hi;simp only[aJ]at h;split at h<;>simp only[aa,ao,reduceCtorEq]at h;rename_i xs k j hp hn;obtain⟨rfl,rfl⟩:=h;rw[hp]at h1;rw[hn]at h2;obtain⟨vs,hv,hl,s8⟩:=h1.fX;obtain⟨h0,Wu,qU⟩:=cK;have hj:j.toNat<xs.length:=by omega
 have Wt:j.toNat<vs.size:=by omega
 have hz':vs[j.toNat]?=some (vs.getD j.toNat undef):=by simp[Wt]
 have Q1:∃ ti,P.info? E=some ti:=by
  unfold dO Program.underlying at hA;cases h:P.info? E with
  | none=>simp[h]at hA
  | some i=>exact⟨i,rfl⟩
 obtain⟨ti,Pt⟩:=Q1
 have hs:(sizeOf E).run P w=.ok 1 w:=by
  have hc':ti.size=1:=by simpa[Program.cellsOf,Pt]using hc
  simp[sizeOf,typeInfo,Pt,hc']
 have hg:xs.getD j.toNat .u=xs[j.toNat]:=by rw[ar,an hj];rfl
 rw[hg];refine .pure (v:=vs.getD j.toNat undef) ?_ (s8 _ _ (an hj));have hcj:0≤j∧j<(n:Int):=⟨h0,Wu⟩;simp only[execOp,ho,hv,h2.dI,Instr.index,asIntOf,run_underlying hT,part,iI hA,Sem.run_bind,Sem.run_pure,Result.andThen_ok,aQ hcj,hs,Bg,aG,aO,hz']
theorem P3{T E:TypeId}{t:TypeInfo}{x hh m:Operand}{x' h' m':O}(ho:o.op=.slice T x none (some hh) (some m))(hT:P.underlying T=some (.slice E))(ht:P.info? E=some t)(hx:cO x=some x')(hh':cO hh=some h')(hm:cO m=some m')
  {ob:Prop} {y:V} (h:aJ fr J (.clip t.size x' h' m')=some (ob,y)) (cK:ob):Yields P o a w J μ y:=by
 have h1:=cn hF hx;have h2:=cn hF hh';have h3:=cn hF hm;simp only[aJ]at h;split at h
 ·rename_i k1 p k2 q hp hq;rw[hp]at h2;rw[hq]at h3;split at h
  ·rename_i sz xs sf;split at h<;>simp only[aa,ao,reduceCtorEq]at h;rename_i eI;obtain⟨rfl,rfl⟩:=h;subst eI;rw[sf]at h1;obtain⟨h0,Wq,X8⟩:=cK;have hs:(sizeOf E).run P w=.ok t.size w:=by simp[sizeOf,typeInfo,ht]
   have cx:∀ (b:Option Addr) (n c:Nat),a.eval x=.slice b n c→q≤c→(execOp a.eval o).run P w=.ok (.value (.slice (if q.toNat=0 then b else b.map (·.add 0)) p.toNat q.toNat)) w:=by
    intro b n c he Wp;have c1:0≤q∧q≤(c:Int):=by omega
    have c2:p≤max q 0:=by omega
    simp[execOp,ho,he,h2.dI,h3.dI,Instr.sliceAt,Instr.slice,Instr.sliceBounds,Instr.sliceBound,asIntOf,run_underlying hT,c1,c2,h0,hs]
   rcases h1.wB with⟨rfl,b,hv⟩ | ⟨b,off,cap,f,hv,hc,hm,hr⟩
   ·have Bo:p=0:=by simp at X8;omega
    have EA:q=0:=by simp at X8;omega
    subst Bo;subst EA;refine .pure (cx b 0 0 hv (by omega)) ?_;simp only[Sd,aR,qO];cases b with
    | none=>exact .yK _
    | some b=>exact .sle _ _
   ·refine .pure (cx _ _ cap hv (by omega)) ?_;have hlen:(xs.take p.toNat).length=p.toNat:=by simp;omega
    have ox:=hr.sub 0 p.toNat;simp only[Sc,Nat.zero_mul,eA]at ox;have h5:=VR.sl (w:=w) (J:=J) (μ:=μ) t.size _ b _ q.toNat _ (by rw[hlen];omega) (by omega) ox.1 ox.2.1 ox.2.2;rw[hlen]at h5;split
    ·exact h5
    ·simpa[Addr.add_lit]using h5
  ·simp at h
 ·simp at h
theorem PV{T:TypeId}{x:Operand}{x':O}(ho:o.op=.call { callee:=.builtin .len,args:=#[x],argTypes:=#[T] })(hT:P.underlying T=some .string)(hx:cO x=some x')
  {ob:Prop} {y:V} (h:aJ fr J (.len true x')=some (ob,y)):Yields P o a w J μ y:=by
 have h1:=cn hF hx;simp only[aJ]at h;split at h<;>simp only[aa,ao,reduceCtorEq]at h;rename_i l hp;obtain⟨_,rfl⟩:=h;rw[hp]at h1;obtain⟨s,hv,hl,_⟩:=h1.kb;have eI:s.size=l.length:=by rw[← hl];exact bsize s
 refine .pure (v:=.int .i64 l.length) ?_ (.i _ _);simp[execOp,ho,resolve,invoke,builtin,hv,run_len_string (w:=w) T _ s hT,goInt,eI]
theorem SB{T E:TypeId}{x:Operand}{x':O}(ho:o.op=.call { callee:=.builtin .len,args:=#[x],argTypes:=#[T] })(hT:P.underlying T=some (.slice E))(hx:cO x=some x')
  {ob:Prop} {y:V} (h:aJ fr J (.len false x')=some (ob,y)):Yields P o a w J μ y:=by
 have h1:=cn hF hx;have hT':P.underlying T=some (.slice (P.elem T)):=by rw[rS hT];exact hT
 have cx:∀ b n c,a.eval x=.slice b n c→Yields P o a w J μ (.i .i64 n):=by
  intro b n c he;refine .pure (v:=.int .i64 n) ?_ (.i _ _);simp[execOp,ho,resolve,invoke,builtin,he,run_len_slice (w:=w) T _ b n c hT',goInt]
 simp only[aJ]at h;split at h<;>(try simp only[aa,ao,reduceCtorEq]at h)
 ·rename_i hp;obtain⟨_,rfl⟩:=h;rw[hp]at h1;exact cx _ _ _ h1.kM
 ·rename_i sz xs hp;obtain⟨_,rfl⟩:=h;rw[hp]at h1;rcases h1.mH with⟨rfl,hv⟩ | ⟨b,off,f,hv,_⟩
  ·exact cx _ _ _ hv
  ·exact cx _ _ _ hv
 ·rename_i sz xs hp;obtain⟨_,rfl⟩:=h;rw[hp]at h1;rcases h1.wB with⟨rfl,_,hv⟩ | ⟨b,off,cap,f,hv,_⟩
  ·exact cx _ _ _ hv
  ·exact cx _ _ _ hv
 ·rename_i id g hp;split at h
  ·rename_i E' sz by' g' sh xs hb;split at h<;>simp only[aa,ao,reduceCtorEq]at h;rename_i hg;subst hg;obtain⟨_,rfl⟩:=h;rw[hp]at h1;have hv:=h1.iL hb;obtain⟨_,_,hr⟩:=hS.rowAt hb;rcases hr with⟨hm,hn⟩ | ⟨b,cap,cur,hm,_⟩
   ·subst hn;exact cx _ _ _ (hv.trans hm)
   ·exact cx _ _ _ (hv.trans hm)
  ·simp at h
 ·rename_i id g lo hi hp;split at h
  ·rename_i E' sz by' g' sh xs hb;split at h<;>simp only[aa,ao,reduceCtorEq]at h;rename_i hg;subst hg;obtain⟨_,rfl⟩:=h;rw[hp]at h1;obtain⟨_,_,hv⟩:=h1.mF hb;obtain⟨_,_,hr⟩:=hS.rowAt hb;rcases hr with⟨hm,hn⟩ | ⟨b,cap,cur,hm,_⟩
   ·rw[hm]at hv;exact cx _ _ _ hv
   ·rw[hm]at hv;exact cx _ _ _ hv
  ·simp at h
 ·rename_i id n hp;obtain⟨_,rfl⟩:=h;rw[hp]at h1;obtain⟨b,hv,_⟩:=h1.Gb;exact cx _ _ _ hv
theorem I9{T:TypeId}{x:Operand}{lo hi:Option Operand}{x':O}{lo' hi':Option O}(ho:o.op=.slice T x lo hi none)(hT:P.underlying T=some .string)(hx:cO x=some x')(hl:pS lo=some lo')(hh:pS hi=some hi')
  {ob:Prop} {y:V} (h:aJ fr J (.fN x' lo' hi')=some (ob,y)) (cK:ob):Yields P o a w J μ y:=by
 have h1:=cn hF hx;simp only[aJ]at h;split at h
 ·rename_i l hp;rw[hp]at h1;obtain⟨s,hv,QS,hm⟩:=h1.kb;have eI:s.size=l.length:=by rw[← QS];exact bsize s
  split at h<;>simp only[aa,ao,reduceCtorEq]at h;rename_i p q DG Gh;obtain⟨rfl,rfl⟩:=h
  have nw:(lo.map a.eval=none∧p=0)∨∃ k,lo.map a.eval=some (.int k p):=by
   cases lo with
   | none =>
    simp only[pS,aa]at hl;subst hl;simp only[aa]at DG;exact .inl ⟨rfl,DG.symm⟩
   | some z =>
    simp only[pS,ah]at hl;obtain⟨z',hz,rfl⟩:=hl;have h4:=cn hF hz;dsimp only at DG;split at DG<;>simp only[aa,reduceCtorEq]at DG;rename_i k p' hp';subst DG;rw[hp']at h4;exact .inr ⟨k,by simp[h4.dI]⟩
  have DJ:(hi.map a.eval=none∧q=s.size)∨∃ k,hi.map a.eval=some (.int k q):=by
   cases hi with
   | none =>
    simp only[pS,aa]at hh;subst hh;simp only[aa]at Gh;exact .inl ⟨rfl,by omega⟩
   | some z =>
    simp only[pS,ah]at hh;obtain⟨z',hz,rfl⟩:=hh;have h4:=cn hF hz;dsimp only at Gh;split at Gh<;>simp only[aa,reduceCtorEq]at Gh;rename_i k p' hp';subst Gh;rw[hp']at h4;exact .inr ⟨k,by simp[h4.dI]⟩
  have hr:=vL (P:=P) (w:=w) hT s (lo.map a.eval) (hi.map a.eval) p q nw DJ cK.1 cK.2.1 (by have:=cK.2.2;omega);refine .pure (v:=.string (s.extract p.toNat q.toNat)) ?_ (.s _ _ ?_ ?_)
  ·simp[execOp,ho,hv,hr]
  ·rw[A1,QS]
  ·have:=List.length_take_le (q.toNat - p.toNat) (l.drop p.toNat);have h5:(l.drop p.toNat).length≤l.length:=by simp
   simp only[ba,bJ];omega
 ·simp at h
theorem Mu{T E:TypeId}{t:TypeInfo}{x:Operand}{lo hi:Option Operand}{x':O}{lo' hi':Option O}(ho:o.op=.slice T x lo hi none)(hT:P.underlying T=some (.slice E))(ht:P.info? E=some t)(hx:cO x=some x')(hl:pS lo=some lo')(hh:pS hi=some hi')
  {ob:Prop} {y:V} (h:aJ fr J (.slice t.size x' lo' hi')=some (ob,y)) (cK:ob):Yields P o a w J μ y:=by
 have h1:=cn hF hx;simp only[aJ]at h;split at h
 ·simp at h
 ·rename_i n hn;split at h
  ·rename_i p q DG Gh
   have nw:(lo.map a.eval=none∧p=0)∨∃ k,lo.map a.eval=some (.int k p):=by
    cases lo with
    | none =>
     simp only[pS,aa]at hl;subst hl;simp only[aa]at DG;exact .inl ⟨rfl,DG.symm⟩
    | some z =>
     simp only[pS,ah]at hl;obtain⟨z',hz,rfl⟩:=hl;have h4:=cn hF hz;dsimp only at DG;split at DG<;>simp only[aa,reduceCtorEq]at DG;rename_i k p' hp';subst DG;rw[hp']at h4;exact .inr ⟨k,by simp[h4.dI]⟩
   have DJ:(hi.map a.eval=none∧q=(n:Int))∨∃ k,hi.map a.eval=some (.int k q):=by
    cases hi with
    | none =>
     simp only[pS,aa]at hh;subst hh;simp only[aa]at Gh;exact .inl ⟨rfl,by omega⟩
    | some z =>
     simp only[pS,ah]at hh;obtain⟨z',hz,rfl⟩:=hh;have h4:=cn hF hz;dsimp only at Gh;split at Gh<;>simp only[aa,reduceCtorEq]at Gh;rename_i k p' hp';subst Gh;rw[hp']at h4;exact .inr ⟨k,by simp[h4.dI]⟩
   have cx:∀ b c,a.eval x=.slice b n c→0≤p→p≤q→q≤c→(execOp a.eval o).run P w=.ok (.value (iR (.slice b n c) p.toNat q.toNat t.size)) w:=by
    intro b c he Bo Wq Wp;have hr:=xY (P:=P) (w:=w) hT ht b n c (lo.map a.eval) (hi.map a.eval) p q nw DJ Bo Wq Wp;simp[execOp,ho,he,hr]
   have Kz:∀ xs b off cap f,a.eval x=.slice (some ⟨b,off,none⟩) xs.length cap→xs.length≤cap→cap≤maxLen→mb w J μ xs t.size b off f→n=xs.length→0≤p∧p≤q∧q≤n →
     Yields P o a w J μ (.sl t.size ((xs.drop p.toNat).take (q.toNat - p.toNat))):=by
    intro xs b off cap f he hc wI hr hnx ⟨Bo,Wq,X8⟩;subst hnx;refine .pure (cx _ cap he Bo Wq (by omega)) ?_;have hlen:((xs.drop p.toNat).take (q.toNat - p.toNat)).length=q.toNat - p.toNat:=by simp;omega
    by_cases PH:cap=p.toNat
    ·have:q.toNat - p.toNat=0:=by omega
     simp only[iR,PH,aR,this,qO,eQ];exact .sl t.size [] b off 0 (fun _ _=>undef) (by simp) (by simp[maxLen]) (by simp) (by simp[eV]) (by simp[eV])
    ·simp only[iR,PH,aO,bL,Addr.add_lit];have:=hr.sub p.toNat (q.toNat - p.toNat);have h5:=VR.sl (w:=w) (J:=J) (μ:=μ) t.size _ b _ (cap - p.toNat) _ (by rw[hlen];omega) (by omega) this.1 this.2.1 this.2.2
     rwa [hlen]at h5
   split at h
   ·rename_i hp;simp only[aa,ao]at h;obtain⟨rfl,rfl⟩:=h;rw[hp]at h1 hn;simp only[aa]at hn;obtain⟨rfl,rfl⟩:=cK;have hv:=h1.kM;subst hn;refine .pure (v:=.slice none 0 0) ?_ .nil;rw[cx none 0 hv (by omega) (by omega) (by omega)];simp[iR]
   ·rename_i sz xs hp;simp only[aa,ao]at h;obtain⟨rfl,rfl⟩:=h;rw[hp]at h1 hn;dsimp only at hn;split at hn<;>simp only[aa,reduceCtorEq]at hn;rename_i eI;subst eI;rcases h1.mH with⟨rfl,hv⟩ | ⟨b,off,f,hv,hm,hr⟩
    ·simp only[aK]at hn;subst hn;have Bo:p=0:=by omega
     have EA:q=0:=by omega
     subst Bo;subst EA;refine .pure (cx none 0 hv (by omega) (by omega) (by omega)) ?_;simp only[iR,Sd,aR,V5,V2,eQ];exact .yK _
    ·exact Kz xs b off _ f hv (aq _) hm hr hn.symm cK
   ·rename_i sz xs hp;simp only[aa,ao]at h;obtain⟨rfl,rfl⟩:=h;rw[hp]at h1 hn;dsimp only at hn;split at hn<;>simp only[aa,reduceCtorEq]at hn;rename_i eI;subst eI;rcases h1.wB with⟨rfl,a0,hv⟩ | ⟨b,off,cap,f,hv,hc,hm,hr⟩
    ·simp only[aK]at hn;subst hn;have Bo:p=0:=by omega
     have EA:q=0:=by omega
     subst Bo;subst EA;refine .pure (cx a0 0 hv (by omega) (by omega) (by omega)) ?_;simp only[iR,Sd,aR,V5,V2,eQ];cases a0 with
     | none=>exact .yK _
     | some a0=>exact .sle _ a0
    ·exact Kz xs b off cap f hv hc hm hr hn.symm cK
   ·rename_i id g hp;simp only[aa,ao]at h;obtain⟨rfl,rfl⟩:=h;rw[hp]at h1 hn;dsimp only at hn;split at hn
    ·rename_i E' sz by' g' sh xs hb;split at hn<;>simp only[aa,reduceCtorEq]at hn;rename_i hg;obtain⟨rfl,rfl⟩:=hg;subst hn;have hv:=h1.iL hb;obtain⟨_,_,hr⟩:=hS.rowAt hb
     have NP:∀ v,μ id=v→VR w J μ (.sub id g p.toNat q.toNat) (iR v p.toNat q.toNat t.size):=by
      intro v hm;refine .sub id g _ _ _ (ab.1 hb).1 ?_;intro E2 sz2 by2 g2 sh2 xs2 h3;rw[hb]at h3;simp only[aa,Ob.row.injEq]at h3;obtain⟨rfl,rfl,rfl,rfl,rfl,rfl⟩:=h3;exact⟨aq _,fun _=>⟨by omega,by omega,by rw[hm]⟩⟩
     rcases hr with⟨hm,hn⟩ | ⟨b,cap,cur,hm,_,jL,_⟩
     ·subst hn;exact .pure (cx none 0 (hv.trans hm) cK.1 cK.2.1 (by simpa using cK.2.2)) (NP _ hm)
     ·exact .pure (cx _ cap (hv.trans hm) cK.1 cK.2.1 (by have:=cK.2.2;omega)) (NP _ hm)
    ·simp at hn
   ·simp at h
  ·simp at h
end b9
end Go.Pm

/- A part of the proof that for every input the law NetworkLimits returns true and leaves its argument as it was. -/
import Derived.Lib.Strings
import Derived.Laws.BytesArg
import Derived.Test.YtgihcpilgfbggaaGreatDoorL6
set_option linter.all false

namespace Go.Pm
open Go Go.RowKit
theorem mj{P:Program}{w:World}{T:TypeId}{q:Bool}(h:gK P T=some q):(isAgg T).run P w=.ok q w:=by
 unfold gK at h;split at h<;>simp only[aa,reduceCtorEq]at h<;>subst h
 ·rename_i fs hu;simp[isAgg,run_underlying hu]
 ·rename_i n e hu;simp[isAgg,run_underlying hu]
 ·rename_i d h1 h2 hu;simp only[isAgg,Sem.run_bind,run_underlying hu,Result.andThen_ok];cases d<;>first | rfl | (exact absurd rfl (h1 _)) | (exact absurd rfl (h2 _ _))
theorem wS{P:Program}{w:World}{T:TypeId}{b off:Nat}{v:Value}(hT:gK P T=some false)(hc:w.cell? ⟨b,off,none⟩=some v):
  (Instr.loadAt T (.pointer (some ⟨b,off,none⟩))).run P w=.ok v w:=by
 simp[Instr.loadAt,Instr.sureAddr,loadVar,mj hT,hc]
theorem wT{P:Program}{w:World}{T:TypeId}{t:TypeInfo}{b off:Nat}(f:Nat→Value)(hT:gK P T=some true)(ht:P.info? T=some t)(hc:∀ j,j<t.size→w.cell? ⟨b,off+j,none⟩=some (f j)):
  (Instr.loadAt T (.pointer (some ⟨b,off,none⟩))).run P w=.ok (.agg ((List.range t.size).map f).toArray) w:=by
 have h1:=run_loadCells (P:=P) w ⟨b,off,none⟩ t.size f (fun j hj=>by rw[Addr.add_lit];exact hc j hj);simp[Instr.loadAt,Instr.sureAddr,loadVar,mj hT,sizeOf,typeInfo,ht,h1]
theorem kJ{w:World}{b:Nat}{vs:Array Value}{T:Nat}{fr:Nat×Nat}(h:w.heap[b]?=some (.cells vs T fr))(j:Nat):w.cell? ⟨b,j,none⟩=vs[j]?:=by
 simp[World.cell?,h]
theorem gM.rowAt{P:Program}{B:Nat}{w0 w:World}{σ:ah}{μ:Mem}(hS:gM P B w0 w σ μ){id E sz by' g:Nat}{sh:Bool}{xs:List (List V)}(ho:σ[id]?=some (.row E sz by' g sh xs)):
  Ti P E sz by'∧(∀ r∈xs,r.length=sz)∧((μ id=.slice none 0 0∧xs=[]) ∨
   ∃ b cap cur,μ id=.slice (some ⟨b,0,none⟩) xs.length cap∧w.heap[b]?=some (.cells cur E (0,0))∧xs.length≤cap∧cap≤maxLen∧cur.size=cap*sz ∧
    ∀ i j x,ft xs i j=some x→x.pure=true∧∃ v,w.cell? ⟨b,i*sz+j,none⟩=some v∧VR w σ μ x v):=by
 obtain⟨hT,vals,⟨hl,hw⟩,cm,hr⟩:=hS.obj id _ ho;refine⟨hT,cm,?_⟩;rcases hw with⟨h1,h2⟩ | ⟨b,cap,cur,h1,h2,h3,h4,h5,h6,h7⟩
 ·exact .inl ⟨h1,bq h2⟩
 ·refine .inr ⟨b,cap,cur,h1,h3,h4,h5,h6,fun i j x hx=>⟨(hr i j x hx).1,?_⟩⟩;obtain⟨v,h8,h9⟩:=(hr i j x hx).2;refine⟨v,?_,h9⟩;rw[kJ h3];rw[← h7]at h8
  have Fv:i*sz+j<xs.length*sz:=by
   rcases fM (i*sz+j) (xs.length*sz)with h | h
   ·exact h
   ·rw[bo (by simp;omega)]at h8;simp at h8
  rw[bn Fv]at h8;simpa using h8
theorem gM.E6{P:Program}{B:Nat}{w0 w:World}{σ:ah}{μ:Mem}(hS:gM P B w0 w σ μ){id T:Nat}{cs:List V}(ho:σ[id]?=some (.box T cs)):
  ∃ b vs,μ id=.pointer (some ⟨b,0,none⟩)∧B≤b∧w.heap[b]?=some (.cells vs T (0,0))∧vs.size=cs.length∧∀ j x,cs[j]?=some x→∃ u,w.cell? ⟨b,j,none⟩=some u∧VR w σ μ x u:=by
 obtain⟨b,vs,h1,h2,h3,h4,h5⟩:=hS.obj id _ ho;refine⟨b,vs,h1,h2,h3,h4,fun j x hx=>?_⟩;obtain⟨u,h6,h7⟩:=h5 j x hx;exact⟨u,by rw[kJ h3];exact h6,h7⟩
theorem Eg{P:Program}{w:World}{σ:ah}{μ:Mem}{T:TypeId}{t:TypeInfo}{b off:Nat}{k:Option Nat}{row:List V}(ht:P.info? T=some t)
  (hk:(k=none∧gK P T=some false)∨(k=some t.size∧gK P T=some true)) (d:Nat)
  (hc:∀ j y,row[d+j]?=some y→∃ u,w.cell? ⟨b,off+j,none⟩=some u∧VR w σ μ y u) :
  (k=none→∀ y,row[d]?=some y→∃ v,(Instr.loadAt T (.pointer (some ⟨b,off,none⟩))).run P w=.ok v w∧VR w σ μ y v) ∧
  (∀ n,k=some n→d+n≤row.length→∃ v,(Instr.loadAt T (.pointer (some ⟨b,off,none⟩))).run P w=.ok v w∧VR w σ μ (.agg ((row.drop d).take n)) v):=by
 constructor
 ·rintro rfl y hy;obtain⟨u,h1,h2⟩:=hc 0 y hy;have hT:=hk.resolve_right (by simp);exact⟨u,wS hT.2 (by simpa using h1),h2⟩
 ·rintro n rfl hn;have hT:=hk.resolve_left (by simp);simp only[aa]at hT;obtain⟨rfl,hT⟩:=hT
  have hf:∀ j,j<t.size→∃ u,w.cell? ⟨b,off+j,none⟩=some u∧∃ y,row[d+j]?=some y∧VR w σ μ y u:=by
   intro j hj;have eC:d+j<row.length:=by omega
   obtain⟨u,h1,h2⟩:=hc j row[d+j] (ao eC);exact⟨u,h1,row[d+j],ao eC,h2⟩
  let f:Nat→Value:=fun j=>(w.cell? ⟨b,off+j,none⟩).getD undef
  have Zb:∀ j,j<t.size→w.cell? ⟨b,off+j,none⟩=some (f j):=by
   intro j hj;obtain⟨u,h1,_⟩:=hf j hj;simp[f,h1]
  refine⟨.agg ((List.range t.size).map f).toArray,wT f hT ht Zb,.agg _ _ (by simp;omega) ?_⟩;intro i y hy
  have hi:i<t.size:=by
   rcases fM i t.size with h | h
   ·exact h
   ·rw[bo (by simp;omega)]at hy;simp at hy
  rw[bn hi,dp]at hy;obtain⟨u,h1,y',h2,h3⟩:=hf i hi;rw[h2]at hy;simp only[aa]at hy;subst hy
  have:(((List.range t.size).map f).toArray.getD i undef)=u:=by
   have h4:f i=u:=by simp[f,h1]
   simp[hi,h4]
  rw[this];exact h3
theorem uf{P:Program}{o:Oper}{a:Act}{w:World}{σ:ah}{μ:Mem}{T:TypeId}{x:Operand}{t:TypeInfo}{b off:Nat}{k:Option Nat}{row:List V}
  (ho:o.op=.load T x) (hx:a.eval x=.pointer (some ⟨b,off,none⟩)) (ht:P.info? T=some t)
  (hk:(k=none∧gK P T=some false)∨(k=some t.size∧gK P T=some true)) (d:Nat)
  (hc:∀ j y,row[d+j]?=some y→∃ u,w.cell? ⟨b,off+j,none⟩=some u∧VR w σ μ y u) :
  (k=none→∀ y,row[d]?=some y→Yields P o a w σ μ y)∧(∀ n,k=some n→d+n≤row.length→Yields P o a w σ μ (.agg ((row.drop d).take n))):=by
 obtain⟨h1,h2⟩:=Eg (P:=P) (row:=row) ht hk d hc;constructor
 ·intro hk y hy;obtain⟨v,h3,h4⟩:=h1 hk y hy;exact .pure (v:=v) (by simp[execOp,ho,hx,h3]) h4
 ·intro n hk hn;obtain⟨v,h3,h4⟩:=h2 n hk hn;exact .pure (v:=v) (by simp[execOp,ho,hx,h3]) h4
section cx
variable {P:Program} {o:Oper} {a:Act} {B:Nat} {w0 w:World} {σ:ah} {μ:Mem} {fr:List V} (hF:FR w σ μ fr a) (hS:gM P B w0 w σ μ)
include hF hS
theorem Kx{T:TypeId}{x:Operand}{x':O}{t:TypeInfo}{k:Option Nat}(ho:o.op=.load T x)(hx:cO x=some x')(ht:P.info? T=some t)
  (hk:(k=none∧gK P T=some false)∨(k=some t.size∧gK P T=some true)) {ob:Prop} {y:V} (h:aS fr σ (.load k x')=some (ob,y)) (dO:ob):Yields P o a w σ μ y:=by
 have h1:=dK hF hx;simp only[aS]at h;split at h
 ·rename_i id off hp;rw[hp]at h1;obtain⟨b,hm,hv,_⟩:=h1.oT;split at h
  ·rename_i T' cs hb;obtain⟨b',vs,hm',hB,hh,fq,mq⟩:=hS.E6 hb;rw[hm]at hm';simp only[Value.pointer.injEq,aa,Addr.mk.injEq,and_true]at hm';subst hm';have hl:=uf (P:=P) (σ:=σ) (μ:=μ) (row:=cs) (k:=k) ho hv ht hk off (fun j z hz=>mq _ z hz);split at h
   ·split at h
    ·rename_i z hz;simp only[aa,aA]at h;obtain⟨_,rfl⟩:=h;exact hl.1 rfl _ hz
    ·simp at h
   ·simp only[aa,aA]at h;obtain⟨rfl,rfl⟩:=h;exact hl.2 _ rfl dO
  ·simp at h
 ·rename_i sz xs i off hp;rw[hp]at h1;obtain⟨b,o',f,hv,hi,cm,hc,Ko⟩:=h1.Ct;have Kn:xs[i]?=some xs[i]:=ao hi
  have hl:=uf (P:=P) (σ:=σ) (μ:=μ) (row:=xs[i]) (k:=k) ho hv ht hk off (fun j z hz=>by
   have h2:ft xs i (off+j)=some z:=by rw[mW Kn];exact hz
   exact⟨f (off+j),by rw[Nat.add_assoc];exact(hc _ z h2).1,Ko _ z h2⟩)
  split at h
  ·split at h
   ·rename_i z hz;simp only[aa,aA]at h;obtain⟨_,rfl⟩:=h;rw[mW Kn]at hz;exact hl.1 rfl _ hz
   ·simp at h
  ·simp only[aa,aA]at h;obtain⟨rfl,rfl⟩:=h;have hg:xs.getD i []=xs[i]:=by simp[hi]
   rw[hg]at dO ⊢;exact hl.2 _ rfl dO
 ·rename_i id g i off hp;rw[hp]at h1;split at h
  ·rename_i E sz by' g' sh xs hb;split at h
   ·rename_i hg;subst hg;obtain⟨hi,hv⟩:=h1.Cr hb;obtain⟨_,cm,hr⟩:=hS.rowAt hb;have Kn:xs[i]?=some xs[i]:=ao hi;rcases hr with⟨_,hn⟩ | ⟨b,cap,cur,hm,hh,_,_,_,hr⟩
    ·subst hn;simp at hi
    ·have hv':a.eval x=.pointer (some ⟨b,i*sz+off,none⟩):=by rw[hv,hm];rfl
     have hl:=uf (P:=P) (σ:=σ) (μ:=μ) (row:=xs[i]) (k:=k) ho hv' ht hk off (fun j z hz=>by
      have h2:ft xs i (off+j)=some z:=by rw[mW Kn];exact hz
      obtain⟨_,u,h3,h4⟩:=hr _ _ z h2;exact⟨u,by rw[Nat.add_assoc];exact h3,h4⟩)
     split at h
     ·split at h
      ·rename_i z hz;simp only[aa,aA]at h;obtain⟨_,rfl⟩:=h;rw[mW Kn]at hz;exact hl.1 rfl _ hz
      ·simp at h
     ·simp only[aa,aA]at h;obtain⟨rfl,rfl⟩:=h;have hg:xs.getD i []=xs[i]:=by simp[hi]
      rw[hg]at dO ⊢;exact hl.2 _ rfl dO
   ·simp at h
  ·simp at h
 ·simp at h
theorem NU{x:Operand}{x':O}(ho:o.op=.nilCheck x)(hx:cO x=some x'){ob:Prop}{y:V}(h:aS fr σ (.dF x')=some (ob,y)):Yields P o a w σ μ y:=by
 have h1:=dK hF hx
 have dx:∀ ad,a.eval x=.pointer (some ad)→(execOp a.eval o).run P w=.ok (.value (.pointer (some ad))) w:=by
  intro ad he;simp[execOp,ho,he]
 simp only[aS]at h;split at h<;>(try simp only[aa,aA,reduceCtorEq]at h)
 ·rename_i id off hp;obtain⟨_,rfl⟩:=h;rw[hp]at h1;have h2:=h1;obtain⟨b,hm,hv,hb⟩:=h1.oT;rw[hv]at h2;exact .pure (dx _ hv) h2
 ·rename_i sz xs i off hp;obtain⟨_,rfl⟩:=h;rw[hp]at h1;have h2:=h1;obtain⟨b,o',f',hv,_⟩:=h1.Ct;rw[hv]at h2;exact .pure (dx _ hv) h2
 ·rename_i id g i off hp;split at h
  ·rename_i E sz by' g' sh xs ho';split at h<;>simp only[aa,aA,reduceCtorEq]at h;rename_i hg;subst hg;obtain⟨_,rfl⟩:=h;rw[hp]at h1;have h2:=h1;obtain⟨hi,hv⟩:=h1.Cr ho';obtain⟨_,_,hr⟩:=hS.rowAt ho';rcases hr with⟨_,hn⟩ | ⟨b,cap,cur,hm,_⟩
   ·subst hn;simp at hi
   ·have hv':a.eval x=.pointer (some ⟨b,i*sz+off,none⟩):=by rw[hv,hm];rfl
    rw[hv']at h2;exact .pure (dx _ hv') h2
  ·simp at h
theorem Rk{x y:Operand}{x' y':O}{T ts}(ho:o.op=.call { callee:=.builtin .max,args:=#[x,y],argTypes:=ts })(hx:cO x=some x')(hy:cO y=some y'){ob:Prop}{z:V}(h:aS fr σ (.max2 x' y')=some (ob,z))(_:T=ts):Yields P o a w σ μ z:=by
 have h1:=dK hF hx;have h2:=dK hF hy;simp only[aS]at h;split at h
 ·rename_i k p k' q hp hq;simp only[aa,aA]at h;obtain⟨_,rfl⟩:=h;rw[hp]at h1;rw[hq]at h2;refine .pure (v:=.int k (if p<q then q else p)) ?_ (.i _ _);simp[execOp,ho,resolve,invoke,builtin,h1.gl,h2.gl,run_max_int2]
 ·simp at h
theorem Rj{x y:Operand}{x' y':O}{ts}(ho:o.op=.call { callee:=.builtin .min,args:=#[x,y],argTypes:=ts })(hx:cO x=some x')(hy:cO y=some y'){ob:Prop}{z:V}(h:aS fr σ (.min2 x' y')=some (ob,z)):Yields P o a w σ μ z:=by
 have h1:=dK hF hx;have h2:=dK hF hy;simp only[aS]at h;split at h
 ·rename_i k p k' q hp hq;simp only[aa,aA]at h;obtain⟨_,rfl⟩:=h;rw[hp]at h1;rw[hq]at h2;refine .pure (v:=.int k (if q<p then q else p)) ?_ (.i _ _);simp[execOp,ho,resolve,invoke,builtin,h1.gl,h2.gl,run_min_int2]
 ·simp at h
end cx
theorem tf{P:Program}{t e:TypeId}(h:P.underlying t=some (.slice e)):P.elem t=e:=by simp[Program.elem,h]
theorem mY.row{w:World}{σ:ah}{μ:Mem}{xs:List (List V)}{sz b o:Nat}{f:Nat→Nat→Value}(h:mY w σ μ xs sz b o f){i:Nat}(hi:i<xs.length)(off:Nat):
  VR w σ μ (.ep sz xs i off) (.pointer (some ⟨b,o+i*sz+off,none⟩)) :=
 .ep sz xs i off b (o+i*sz) (f i) hi h.1 (fun j x hx=>h.2.1 i j x hx) (fun j x hx=>h.2.2 i j x hx)
theorem wx{xs:List (List V)}{lo n i j:Nat}{x:V}(h:ft ((xs.drop lo).take n) i j=some x):ft xs (lo+i) j=some x:=by
 obtain⟨r,h1,h2⟩:=ib h
 have hi:i<n:=by
  rcases fM i n with h | h
  ·exact h
  ·rw[bo (by simp;omega)]at h1;simp at h1
 rw[bn hi,dp]at h1;rw[mW h1,h2]
theorem mY.sub{w:World}{σ:ah}{μ:Mem}{xs:List (List V)}{sz b o:Nat}{f:Nat→Nat→Value}(h:mY w σ μ xs sz b o f)(lo n:Nat):
  mY w σ μ ((xs.drop lo).take n) sz b (o+lo*sz) (fun i j=>f (lo+i) j):=by
 refine⟨fun r hr=>h.1 r (ff (dd hr)),fun i j x hx=>?_,fun i j x hx=>h.2.2 _ _ _ (wx hx)⟩;have:=h.2.1 _ _ _ (wx hx);have e:o+lo*sz+i*sz+j=o+(lo+i)*sz+j:=by rw[Nat.add_mul];omega
 rw[e];exact this
theorem yX{P:Program}{w:World}{t e:TypeId}{ti:TypeInfo}(ht:P.underlying t=some (.slice e))(hi:P.info? e=some ti)(a:Option Addr)(len cap:Nat)(lo hi':Option Value)(l h:Int)
  (lC:(lo=none∧l=0)∨∃ k,lo=some (.int k l)) (Ft:(hi'=none∧h=len)∨∃ k,hi'=some (.int k h)) (h0:0≤l) (h1:l≤h) (h2:h≤cap) :
  (Instr.sliceAt t (.slice a len cap) lo hi' none).run P w=.ok (jI (.slice a len cap) l.toNat h.toNat ti.size) w:=by
 have ht':P.underlying t=some (.slice (P.elem t)):=by rw[tf ht];exact ht
 have hs:(sizeOf (P.elem t)).run P w=.ok ti.size w:=by rw[tf ht];simp[sizeOf,typeInfo,hi]
 have Xm:0≤h:=by omega
 rw[run_sliceAt_slice (w:=w) t _ lo hi' none ht'];have eh:(h.toNat:Int)=h:=Int.toNat_of_nonneg Xm;rcases lC with⟨rfl,rfl⟩ | ⟨k,rfl⟩<;>rcases Ft with⟨rfl,rfl⟩ | ⟨k',rfl⟩
 ·rw[run_slice_all (w:=w) t a len cap ht',hs];simp[sliced,jI]
 ·rw[run_slice_h (w:=w) t a len cap ht' k' h Xm h2,hs];simp[sliced,jI]
 ·rw[run_slice_l (w:=w) t a len cap ht' k l h0 h1,hs];simp[sliced,jI]
 ·rw[run_slice_lh (w:=w) t a len cap ht' k k' l h h0 h1 h2,hs];simp[sliced,jI]
theorem wR{P:Program}{w:World}{t:TypeId}(ht:P.underlying t=some .string)(s:ByteArray)(lo hi':Option Value)(l h:Int)
  (lC:(lo=none∧l=0)∨∃ k,lo=some (.int k l)) (Ft:(hi'=none∧h=s.size)∨∃ k,hi'=some (.int k h)) (h0:0≤l) (h1:l≤h) (h2:h≤s.size) :
  (Instr.sliceAt t (.string s) lo hi' none).run P w=.ok (.string (s.extract l.toNat h.toNat)) w:=by
 have Xm:0≤h:=by omega
 rw[run_sliceAt_string (w:=w) t _ lo hi' none ht];rcases lC with⟨rfl,rfl⟩ | ⟨k,rfl⟩<;>rcases Ft with⟨rfl,rfl⟩ | ⟨k',rfl⟩
 ·rw[run_slice_string_all (w:=w) t s ht];simp
 ·rw[run_slice_string_to_if (w:=w) t s k' h ht,if_pos ⟨Xm,h2⟩];simp
 ·rw[run_slice_string_from_if (w:=w) t s k l ht,if_pos ⟨h0,by omega⟩];simp
 ·rw[run_slice_string_if (w:=w) t s k k' l h ht,if_pos ⟨Xm,h2⟩,if_pos ⟨h0,h1⟩]
theorem CK(s:ByteArray)(i j:Nat):(s.extract i j).data.toList=(s.data.toList.drop i).take (j - i):=by
 rw[ByteArray.data_extract,Array.toList_extract,List.extract_eq_take_drop]
section cx
variable {P:Program} {o:Oper} {a:Act} {B:Nat} {w0 w:World} {σ:ah} {μ:Mem} {fr:List V} (hF:FR w σ μ fr a) (hS:gM P B w0 w σ μ)
include hF hS
theorem Uh{T E:TypeId}{t:TypeInfo}{x i:Operand}{x' i':O}(ho:o.op=.indexAddr T x i)(hT:P.underlying T=some (.slice E))(ht:P.info? E=some t)(hx:cO x=some x')(hi:cO i=some i')
  {ob:Prop} {y:V} (h:aS fr σ (.idx t.size x' i')=some (ob,y)) (dO:ob):Yields P o a w σ μ y:=by
 have h1:=dK hF hx;have h2:=dK hF hi;have hT':P.underlying T=some (.slice (P.elem T)):=by rw[tf hT];exact hT
 simp only[aS]at h;split at h
 ·rename_i k n hn;rw[hn]at h2;have h2:=h2.gl
  have dx:∀ b off len cap,a.eval x=.slice (some ⟨b,off,none⟩) len cap→0≤n→n<len→(execOp a.eval o).run P w=.ok (.value (.pointer (some ⟨b,off+n.toNat*t.size,none⟩))) w:=by
   intro b off len cap he Px pz;simp[execOp,ho,he,h2,run_indexAt_slice (w:=w) T _ len cap k n hT',Px,pz,tf hT,sizeOf,typeInfo,ht,Addr.add_lit]
  split at h
  ·rename_i sz xs hp;split at h<;>simp only[aa,aA,reduceCtorEq]at h;rename_i fq;subst fq;obtain⟨rfl,rfl⟩:=h;rw[hp]at h1;rcases h1.Cq with⟨rfl,_⟩ | ⟨b,off,cap,f,hv,_,_,hr⟩
   ·simp at dO;omega
   ·refine .pure (dx b off _ cap hv dO.1 dO.2) ?_;exact hr.row (by omega) 0
  ·rename_i sz xs hp;split at h<;>simp only[aa,aA,reduceCtorEq]at h;rename_i fq;subst fq;obtain⟨rfl,rfl⟩:=h;rw[hp]at h1;rcases h1.ny with⟨rfl,_⟩ | ⟨b,off,f,hv,_,hr⟩
   ·simp at dO;omega
   ·refine .pure (dx b off _ _ hv dO.1 dO.2) ?_;exact hr.row (by omega) 0
  ·rename_i id g hp;split at h
   ·rename_i E' sz by' g' sh xs hb;split at h<;>simp only[aa,aA,reduceCtorEq]at h;rename_i hg;obtain⟨rfl,rfl⟩:=hg;obtain⟨rfl,rfl⟩:=h;rw[hp]at h1;have hv:=h1.jY hb;obtain⟨_,_,hr⟩:=hS.rowAt hb;rcases hr with⟨_,hn⟩ | ⟨b,cap,cur,hm,_⟩
    ·subst hn;simp at dO;omega
    ·refine .pure (dx b 0 _ cap (hv.trans hm) dO.1 dO.2) (.rp id g _ _ _ (ab.1 hb).1 ?_);intro E2 sz2 by2 g2 sh2 xs2 h3;rw[hb]at h3;simp only[aa,Ob.row.injEq]at h3;obtain⟨rfl,rfl,rfl,rfl,rfl,rfl⟩:=h3;exact⟨aw _,fun _=>⟨by omega,by rw[hm];simp[UC]⟩⟩
   ·simp at h
  ·rename_i id g lo hi hp;split at h
   ·rename_i E' sz by' g' sh xs hb;split at h<;>simp only[aa,aA,reduceCtorEq]at h;rename_i hg;obtain⟨rfl,rfl⟩:=hg;obtain⟨rfl,rfl⟩:=h;rw[hp]at h1;obtain⟨hlh,Ft,hv⟩:=h1.nw hb;obtain⟨_,_,hr⟩:=hS.rowAt hb;rcases hr with⟨_,hn⟩ | ⟨b,cap,cur,hm,_,H8,_⟩
    ·subst hn;simp at Ft;subst Ft;simp at dO;omega
    ·have js:¬ cap=lo:=by omega
     have XY:a.eval x=.slice (some ⟨b,lo*t.size,none⟩) (hi - lo) (cap - lo):=by rw[hv,hm];simp[jI,js,Addr.add_lit]
     refine .pure (dx b (lo*t.size) _ (cap - lo) XY dO.1 dO.2) (.rp id g _ _ _ (ab.1 hb).1 ?_);intro E2 sz2 by2 g2 sh2 xs2 h3;rw[hb]at h3;simp only[aa,Ob.row.injEq]at h3;obtain⟨rfl,rfl,rfl,rfl,rfl,rfl⟩:=h3;exact⟨aw _,fun _=>⟨by omega,by rw[hm];simp[UC,Nat.add_mul]⟩⟩
   ·simp at h
  ·simp at h
 ·simp at h
theorem Rm{T E:TypeId}{n:Nat}{t:TypeInfo}{x i:Operand}{x' i':O}(ho:o.op=.indexAddr T x i)(hT:P.underlying T=some (.array n E))(ht:P.info? E=some t)(hx:cO x=some x')(hi:cO i=some i')
  {ob:Prop} {y:V} (h:aS fr σ (.C2 n t.size x' i')=some (ob,y)) (dO:ob):Yields P o a w σ μ y:=by
 have h1:=dK hF hx;have h2:=dK hF hi;have hl:P.arrayLen T=n:=by simp[Program.arrayLen,hT]
 have he:P.elem T=E:=by simp[Program.elem,hT]
 have hT':P.underlying T=some (.array (P.arrayLen T) (P.elem T)):=by rw[hl,he];exact hT
 simp only[aS]at h;split at h<;>simp only[aa,aA,reduceCtorEq]at h;rename_i id off k m hp hq;obtain⟨rfl,rfl⟩:=h;rw[hp]at h1;rw[hq]at h2;obtain⟨b,hm,hv,hb⟩:=h1.oT;have h2:=h2.gl;refine .pure (v:=.pointer (some ⟨b,off+m.toNat*t.size,none⟩)) ?_ (.ptr id _ b hb hm);have hr:=run_indexAt_array (P:=P) (w:=w) T ⟨b,off,none⟩ k m hT';rw[hl,he,if_pos dO]at hr;have hs:(sizeOf E).run P w=.ok t.size w:=by simp[sizeOf,typeInfo,ht]
 rw[hs,Result.andThen_ok,Addr.add_lit]at hr;simp only[execOp,ho,hv,h2,Sem.run_bind,hr,Result.andThen_ok,Sem.run_pure]
theorem Up{T E:TypeId}{n:Nat}{t:TypeInfo}{x:Operand}{x':O}(ho:o.op=.slice T x none none none)(hT:P.underlying T=some (.array n E))(ht:P.info? E=some t)(h1s:t.size=1)(hx:cO x=some x')
  {ob:Prop} {y:V} (h:aS fr σ (.TS n x')=some (ob,y)) (dO:ob):Yields P o a w σ μ y:=by
 have h1:=dK hF hx;have hl:P.arrayLen T=n:=by simp[Program.arrayLen,hT]
 have he:P.elem T=E:=by simp[Program.elem,hT]
 have hT':P.underlying T=some (.array (P.arrayLen T) (P.elem T)):=by rw[hl,he];exact hT
 simp only[aS]at h;split at h<;>(try simp only[reduceCtorEq]at h);rename_i sz xs i hp;split at h<;>simp only[aa,aA,reduceCtorEq]at h;rename_i hn;obtain⟨rfl,rfl⟩:=h;rw[hp]at h1;obtain⟨b,o',f,hv,hi,cm,hc,Cx⟩:=h1.Ct;have hs:(sizeOf E).run P w=.ok t.size w:=by simp[sizeOf,typeInfo,ht]
 have hr:=run_sliceAt_array_all (P:=P) w T ⟨b,o',none⟩ hT';rw[hl,he,hs,Result.andThen_ok]at hr
 have ha:slicedAt ⟨b,o',none⟩ 0 n n t.size=.slice (some ⟨b,o',none⟩) n n:=by
  simp[slicedAt,Addr.add_lit]
 rw[ha]at hr;refine .pure (v:=.slice (some ⟨b,o',none⟩) n n) ?_ ?_
 ·simp only[execOp,ho,hv,cn,Option.map_none,Sem.run_bind,hr,Result.andThen_ok,Sem.run_pure]
 ·have er:∀ (k j:Nat) (x:V),ft ((xs.getD i []).map fun c=>[c]) k j=some x→j=0∧ft xs i k=some x:=by
   have hri:xs[i]?=some (xs.getD i []):=by simp[List.getD_eq_getElem?_getD,ao hi]
   intro k j x hx;simp only[ft,hri,fY];generalize xs.getD i []=row at hx;simp only[ft,bg]at hx;cases hk:row[k]? with
   | none=>simp[hk]at hx
   | some c =>
    simp only[hk,cg,fY]at hx;cases j with
    | zero =>
     simp only[ax]at hx;exact⟨rfl,hx⟩
    | succ j=>simp at hx
  have h6:=VR.sl (w:=w) (σ:=σ) (μ:=μ) 1 ((xs.getD i []).map fun c=>[c]) b o' n (fun k _=>f k) (by simp only[ae];omega) (by unfold maxLen;omega) (by simp)
   (fun k j x hx=>by
    obtain⟨rfl,h7⟩:=er k j x hx;have:=hc k x h7;simpa using this)
   (fun k j x hx=>Cx k x (er k j x hx).2)
  simp only[ae]at h6;rw[hn]at h6;exact h6
theorem Rg{T:TypeId}{x i:Operand}{x' i':O}(ho:o.op=.index T x i)(hT:P.underlying T=some .string)(hx:cO x=some x')(hi:cO i=some i')
  {ob:Prop} {y:V} (h:aS fr σ (.gQ x' i')=some (ob,y)) (dO:ob):Yields P o a w σ μ y:=by
 have h1:=dK hF hx;have h2:=dK hF hi;simp only[aS]at h;split at h<;>simp only[aa,aA,reduceCtorEq]at h;rename_i l k n hp hn;obtain⟨rfl,rfl⟩:=h;rw[hp]at h1;rw[hn]at h2;obtain⟨s,hv,hl,_⟩:=h1.lU;have fq:s.size=l.length:=by rw[← hl];exact bsize s
 refine .pure (v:=.int .u8 (l.getD n.toNat 0).toNat) ?_ (.i _ _);have hc:0≤n∧n<s.size:=by rw[fq];exact dO
 have eC:n.toNat<l.length:=by omega
 have hb:s[n.toNat]'(by omega)=l.getD n.toNat 0:=by
  subst hl;rw[List.getD_eq_getElem?_getD,ao eC];simp[ByteArray.getElem_eq_getElem_data]
 have h3:=run_index_string (P:=P) (w:=w) T s k n hT;rw[dif_pos hc,hb]at h3;simp only[execOp,ho,hv,h2.gl,Sem.run_bind,h3,Result.andThen_ok,Sem.run_pure]
theorem Rf{T:TypeId}{x:Operand}{x':O}(ho:o.op=.call { callee:=.builtin .len,args:=#[x],argTypes:=#[T] })(hT:P.underlying T=some .string)(hx:cO x=some x')
  {ob:Prop} {y:V} (h:aS fr σ (.len true x')=some (ob,y)):Yields P o a w σ μ y:=by
 have h1:=dK hF hx;simp only[aS]at h;split at h<;>simp only[aa,aA,reduceCtorEq]at h;rename_i l hp;obtain⟨_,rfl⟩:=h;rw[hp]at h1;obtain⟨s,hv,hl,_⟩:=h1.lU;have fq:s.size=l.length:=by rw[← hl];exact bsize s
 refine .pure (v:=.int .i64 l.length) ?_ (.i _ _);simp[execOp,ho,resolve,invoke,builtin,hv,run_len_string (w:=w) T _ s hT,goInt,fq]
theorem o9{T E:TypeId}{x:Operand}{x':O}(ho:o.op=.call { callee:=.builtin .len,args:=#[x],argTypes:=#[T] })(hT:P.underlying T=some (.slice E))(hx:cO x=some x')
  {ob:Prop} {y:V} (h:aS fr σ (.len false x')=some (ob,y)):Yields P o a w σ μ y:=by
 have h1:=dK hF hx;have hT':P.underlying T=some (.slice (P.elem T)):=by rw[tf hT];exact hT
 have dx:∀ b n c,a.eval x=.slice b n c→Yields P o a w σ μ (.i .i64 n):=by
  intro b n c he;refine .pure (v:=.int .i64 n) ?_ (.i _ _);simp[execOp,ho,resolve,invoke,builtin,he,run_len_slice (w:=w) T _ b n c hT',goInt]
 simp only[aS]at h;split at h<;>(try simp only[aa,aA,reduceCtorEq]at h)
 ·rename_i hp;obtain⟨_,rfl⟩:=h;rw[hp]at h1;exact dx _ _ _ h1.lA
 ·rename_i sz xs hp;obtain⟨_,rfl⟩:=h;rw[hp]at h1;rcases h1.ny with⟨rfl,hv⟩ | ⟨b,off,f,hv,_⟩
  ·exact dx _ _ _ hv
  ·exact dx _ _ _ hv
 ·rename_i sz xs hp;obtain⟨_,rfl⟩:=h;rw[hp]at h1;rcases h1.Cq with⟨rfl,_,hv⟩ | ⟨b,off,cap,f,hv,_⟩
  ·exact dx _ _ _ hv
  ·exact dx _ _ _ hv
 ·rename_i id g hp;split at h
  ·rename_i E' sz by' g' sh xs hb;split at h<;>simp only[aa,aA,reduceCtorEq]at h;rename_i hg;subst hg;obtain⟨_,rfl⟩:=h;rw[hp]at h1;have hv:=h1.jY hb;obtain⟨_,_,hr⟩:=hS.rowAt hb;rcases hr with⟨hm,hn⟩ | ⟨b,cap,cur,hm,_⟩
   ·subst hn;exact dx _ _ _ (hv.trans hm)
   ·exact dx _ _ _ (hv.trans hm)
  ·simp at h
 ·rename_i id g lo hi hp;split at h
  ·rename_i E' sz by' g' sh xs hb;split at h<;>simp only[aa,aA,reduceCtorEq]at h;rename_i hg;subst hg;obtain⟨_,rfl⟩:=h;rw[hp]at h1;obtain⟨_,_,hv⟩:=h1.nw hb;obtain⟨_,_,hr⟩:=hS.rowAt hb;rcases hr with⟨hm,hn⟩ | ⟨b,cap,cur,hm,_⟩
   ·rw[hm]at hv;exact dx _ _ _ hv
   ·rw[hm]at hv;exact dx _ _ _ hv
  ·simp at h
theorem Kw{T:TypeId}{x:Operand}{lo hi:Option Operand}{x':O}{lo' hi':Option O}(ho:o.op=.slice T x lo hi none)(hT:P.underlying T=some .string)(hx:cO x=some x')(hl:rq lo=some lo')(hh:rq hi=some hi')
  {ob:Prop} {y:V} (h:aS fr σ (.fv x' lo' hi')=some (ob,y)) (dO:ob):Yields P o a w σ μ y:=by
 have h1:=dK hF hx;simp only[aS]at h;split at h
 ·rename_i l hp;rw[hp]at h1;obtain⟨s,hv,Pv,hm⟩:=h1.lU;have fq:s.size=l.length:=by rw[← Pv];exact bsize s
  split at h<;>simp only[aa,aA,reduceCtorEq]at h;rename_i p q JN JL;obtain⟨rfl,rfl⟩:=h
  have lC:(lo.map a.eval=none∧p=0)∨∃ k,lo.map a.eval=some (.int k p):=by
   cases lo with
   | none =>
    simp only[rq,aa]at hl;subst hl;simp only[aa]at JN;exact .inl ⟨rfl,JN.symm⟩
   | some z =>
    simp only[rq,ak]at hl;obtain⟨z',hz,rfl⟩:=hl;have h4:=dK hF hz;dsimp only at JN;split at JN<;>simp only[aa,reduceCtorEq]at JN;rename_i k p' hp';subst JN;rw[hp']at h4;exact .inr ⟨k,by simp[h4.gl]⟩
  have Ft:(hi.map a.eval=none∧q=s.size)∨∃ k,hi.map a.eval=some (.int k q):=by
   cases hi with
   | none =>
    simp only[rq,aa]at hh;subst hh;simp only[aa]at JL;exact .inl ⟨rfl,by omega⟩
   | some z =>
    simp only[rq,ak]at hh;obtain⟨z',hz,rfl⟩:=hh;have h4:=dK hF hz;dsimp only at JL;split at JL<;>simp only[aa,reduceCtorEq]at JL;rename_i k p' hp';subst JL;rw[hp']at h4;exact .inr ⟨k,by simp[h4.gl]⟩
  have hr:=wR (P:=P) (w:=w) hT s (lo.map a.eval) (hi.map a.eval) p q lC Ft dO.1 dO.2.1 (by have:=dO.2.2;omega);refine .pure (v:=.string (s.extract p.toNat q.toNat)) ?_ (.s _ _ ?_ ?_)
  ·simp[execOp,ho,hv,hr]
  ·rw[CK,Pv]
  ·have:=List.length_take_le (q.toNat - p.toNat) (l.drop p.toNat);have h5:(l.drop p.toNat).length≤l.length:=by simp
   simp only[ba,bB];omega
 ·simp at h
theorem NT{T E:TypeId}{t:TypeInfo}{x:Operand}{lo hi:Option Operand}{x':O}{lo' hi':Option O}(ho:o.op=.slice T x lo hi none)(hT:P.underlying T=some (.slice E))(ht:P.info? E=some t)(hx:cO x=some x')(hl:rq lo=some lo')(hh:rq hi=some hi')
  {ob:Prop} {y:V} (h:aS fr σ (.slice t.size x' lo' hi')=some (ob,y)) (dO:ob):Yields P o a w σ μ y:=by
 have h1:=dK hF hx;simp only[aS]at h;split at h
 ·simp at h
 ·rename_i n hn;split at h
  ·rename_i p q JN JL
   have lC:(lo.map a.eval=none∧p=0)∨∃ k,lo.map a.eval=some (.int k p):=by
    cases lo with
    | none =>
     simp only[rq,aa]at hl;subst hl;simp only[aa]at JN;exact .inl ⟨rfl,JN.symm⟩
    | some z =>
     simp only[rq,ak]at hl;obtain⟨z',hz,rfl⟩:=hl;have h4:=dK hF hz;dsimp only at JN;split at JN<;>simp only[aa,reduceCtorEq]at JN;rename_i k p' hp';subst JN;rw[hp']at h4;exact .inr ⟨k,by simp[h4.gl]⟩
   have Ft:(hi.map a.eval=none∧q=(n:Int))∨∃ k,hi.map a.eval=some (.int k q):=by
    cases hi with
    | none =>
     simp only[rq,aa]at hh;subst hh;simp only[aa]at JL;exact .inl ⟨rfl,by omega⟩
    | some z =>
     simp only[rq,ak]at hh;obtain⟨z',hz,rfl⟩:=hh;have h4:=dK hF hz;dsimp only at JL;split at JL<;>simp only[aa,reduceCtorEq]at JL;rename_i k p' hp';subst JL;rw[hp']at h4;exact .inr ⟨k,by simp[h4.gl]⟩
   have dx:∀ b c,a.eval x=.slice b n c→0≤p→p≤q→q≤c→(execOp a.eval o).run P w=.ok (.value (jI (.slice b n c) p.toNat q.toNat t.size)) w:=by
    intro b c he SQ YW hqc;have hr:=yX (P:=P) (w:=w) hT ht b n c (lo.map a.eval) (hi.map a.eval) p q lC Ft SQ YW hqc;simp[execOp,ho,he,hr]
   have Mg:∀ xs b off cap f,a.eval x=.slice (some ⟨b,off,none⟩) xs.length cap→xs.length≤cap→cap≤maxLen→mY w σ μ xs t.size b off f→n=xs.length→0≤p∧p≤q∧q≤n →
     Yields P o a w σ μ (.sl t.size ((xs.drop p.toNat).take (q.toNat - p.toNat))):=by
    intro xs b off cap f he hc zr hr hnx ⟨SQ,YW,hqn⟩;subst hnx;refine .pure (dx _ cap he SQ YW (by omega)) ?_;have hlen:((xs.drop p.toNat).take (q.toNat - p.toNat)).length=q.toNat - p.toNat:=by simp;omega
    by_cases Ud:cap=p.toNat
    ·have:q.toNat - p.toNat=0:=by omega
     simp only[jI,Ud,if_true,this,sg,eU];exact .sl t.size [] b off 0 (fun _ _=>undef) (by simp) (by simp[maxLen]) (by simp) (by simp[ft]) (by simp[ft])
    ·simp only[jI,Ud,if_false,cg,Addr.add_lit];have:=hr.sub p.toNat (q.toNat - p.toNat);have h5:=VR.sl (w:=w) (σ:=σ) (μ:=μ) t.size _ b _ (cap - p.toNat) _ (by rw[hlen];omega) (by omega) this.1 this.2.1 this.2.2
     rwa [hlen]at h5
   split at h
   ·rename_i hp;simp only[aa,aA]at h;obtain⟨rfl,rfl⟩:=h;rw[hp]at h1 hn;simp only[aa]at hn;obtain⟨rfl,rfl⟩:=dO;have hv:=h1.lA;subst hn;refine .pure (v:=.slice none 0 0) ?_ .nil;rw[dx none 0 hv (by omega) (by omega) (by omega)];simp[jI]
   ·rename_i sz xs hp;simp only[aa,aA]at h;obtain⟨rfl,rfl⟩:=h;rw[hp]at h1 hn;dsimp only at hn;split at hn<;>simp only[aa,reduceCtorEq]at hn;rename_i fq;subst fq;rcases h1.ny with⟨rfl,hv⟩ | ⟨b,off,f,hv,hm,hr⟩
    ·simp only[ai]at hn;subst hn;have SQ:p=0:=by omega
     have WO:q=0:=by omega
     subst SQ;subst WO;refine .pure (dx none 0 hv (by omega) (by omega) (by omega)) ?_;simp only[jI,Int.toNat_zero,if_true,XO,XL,eU];exact .zY _
    ·exact Mg xs b off _ f hv (aw _) hm hr hn.symm dO
   ·rename_i sz xs hp;simp only[aa,aA]at h;obtain⟨rfl,rfl⟩:=h;rw[hp]at h1 hn;dsimp only at hn;split at hn<;>simp only[aa,reduceCtorEq]at hn;rename_i fq;subst fq;rcases h1.Cq with⟨rfl,a0,hv⟩ | ⟨b,off,cap,f,hv,hc,hm,hr⟩
    ·simp only[ai]at hn;subst hn;have SQ:p=0:=by omega
     have WO:q=0:=by omega
     subst SQ;subst WO;refine .pure (dx a0 0 hv (by omega) (by omega) (by omega)) ?_;simp only[jI,Int.toNat_zero,if_true,XO,XL,eU];cases a0 with
     | none=>exact .zY _
     | some a0=>exact .sle _ a0
    ·exact Mg xs b off cap f hv hc hm hr hn.symm dO
   ·rename_i id g hp;simp only[aa,aA]at h;obtain⟨rfl,rfl⟩:=h;rw[hp]at h1 hn;dsimp only at hn;split at hn
    ·rename_i E' sz by' g' sh xs hb;split at hn<;>simp only[aa,reduceCtorEq]at hn;rename_i hg;obtain⟨rfl,rfl⟩:=hg;subst hn;have hv:=h1.jY hb;obtain⟨_,_,hr⟩:=hS.rowAt hb
     have Pu:∀ v,μ id=v→VR w σ μ (.sub id g p.toNat q.toNat) (jI v p.toNat q.toNat t.size):=by
      intro v hm;refine .sub id g _ _ _ (ab.1 hb).1 ?_;intro E2 sz2 by2 g2 sh2 xs2 h3;rw[hb]at h3;simp only[aa,Ob.row.injEq]at h3;obtain⟨rfl,rfl,rfl,rfl,rfl,rfl⟩:=h3;exact⟨aw _,fun _=>⟨by omega,by omega,by rw[hm]⟩⟩
     rcases hr with⟨hm,hn⟩ | ⟨b,cap,cur,hm,_,ku,_⟩
     ·subst hn;exact .pure (dx none 0 (hv.trans hm) dO.1 dO.2.1 (by simpa using dO.2.2)) (Pu _ hm)
     ·exact .pure (dx _ cap (hv.trans hm) dO.1 dO.2.1 (by have:=dO.2.2;omega)) (Pu _ hm)
    ·simp at hn
   ·simp at h
  ·simp at h
end cx
end Go.Pm

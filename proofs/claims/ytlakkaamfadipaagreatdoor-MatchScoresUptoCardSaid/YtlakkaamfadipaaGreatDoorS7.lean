/- A part of a proof; the claim's last text says of what. -/
import Derived.Lib.Strings
import Derived.Laws.BytesArg
import Derived.Test.YtlakkaamfadipaaGreatDoorS6
set_option linter.all false

namespace Go.Pm
open Go Go.RowKit
theorem jn{P:Program}{w:World}{T:TypeId}{q:Bool}(h:er P T=some q):(isAgg T).run P w=.ok q w:=by
 unfold er at h;split at h<;>simp only[aa,reduceCtorEq]at h<;>subst h
 ·rename_i fs hu;simp[isAgg,run_underlying hu]
 ·rename_i n e hu;simp[isAgg,run_underlying hu]
 ·rename_i d h1 h2 hu;simp only[isAgg,Sem.run_bind,run_underlying hu,Result.andThen_ok];cases d<;>first | rfl | (exact absurd rfl (h1 _)) | (exact absurd rfl (h2 _ _))
theorem yi{P:Program}{w:World}{T:TypeId}{b off:Nat}{v:Value}(hT:er P T=some false)(hc:w.cell? ⟨b,off,none⟩=some v):
  (Instr.loadAt T (.pointer (some ⟨b,off,none⟩))).run P w=.ok v w:=by
 simp[Instr.loadAt,Instr.sureAddr,loadVar,jn hT,hc]
theorem yj{P:Program}{w:World}{T:TypeId}{t:TypeInfo}{b off:Nat}(f:Nat→Value)(hT:er P T=some true)(ht:P.info? T=some t)(hc:∀ j,j<t.size→w.cell? ⟨b,off+j,none⟩=some (f j)):
  (Instr.loadAt T (.pointer (some ⟨b,off,none⟩))).run P w=.ok (.agg ((List.range t.size).map f).toArray) w:=by
 have h1:=run_loadCells (P:=P) w ⟨b,off,none⟩ t.size f (fun j hj=>by rw[Addr.add_lit];exact hc j hj);simp[Instr.loadAt,Instr.sureAddr,loadVar,jn hT,sizeOf,typeInfo,ht,h1]
theorem ky{w:World}{b:Nat}{vs:Array Value}{T:Nat}{fr:Nat×Nat}(h:w.heap[b]?=some (.cells vs T fr))(j:Nat):w.cell? ⟨b,j,none⟩=vs[j]?:=by
 simp[World.cell?,h]
theorem fx.rowAt{P:Program}{B:Nat}{w0 w:World}{J:ae}{μ:Mem}(hS:fx P B w0 w J μ){id E sz by' g:Nat}{sh:Bool}{xs:List (List V)}(ho:J[id]?=some (.row E sz by' g sh xs)):
  Ti P E sz by'∧(∀ r∈xs,r.length=sz)∧((μ id=.slice none 0 0∧xs=[]) ∨
   ∃ b cap cur,μ id=.slice (some ⟨b,0,none⟩) xs.length cap∧w.heap[b]?=some (.cells cur E (0,0))∧xs.length≤cap∧cap≤maxLen∧cur.size=cap*sz ∧
    ∀ i j x,eS xs i j=some x→x.pure=true∧∃ v,w.cell? ⟨b,i*sz+j,none⟩=some v∧VR w J μ x v):=by
 obtain⟨hT,vals,⟨hl,hw⟩,cq,hr⟩:=hS.obj id _ ho;refine⟨hT,cq,?_⟩;rcases hw with⟨h1,h2⟩ | ⟨b,cap,cur,h1,h2,h3,h4,h5,h6,h7⟩
 ·exact .inl ⟨h1,aG h2⟩
 ·refine .inr ⟨b,cap,cur,h1,h3,h4,h5,h6,fun i j x hx=>⟨(hr i j x hx).1,?_⟩⟩;obtain⟨v,h8,h9⟩:=(hr i j x hx).2;refine⟨v,?_,h9⟩;rw[ky h3];rw[← h7]at h8
  have Fy:i*sz+j<xs.length*sz:=by
   rcases fb (i*sz+j) (xs.length*sz)with h | h
   ·exact h
   ·rw[bl (by simp;omega)]at h8;simp at h8
  rw[bg Fy]at h8;simpa using h8
theorem fx.JF{P:Program}{B:Nat}{w0 w:World}{J:ae}{μ:Mem}(hS:fx P B w0 w J μ){id T:Nat}{cs:List V}(ho:J[id]?=some (.box T cs)):
  ∃ b vs,μ id=.pointer (some ⟨b,0,none⟩)∧B≤b∧w.heap[b]?=some (.cells vs T (0,0))∧vs.size=cs.length∧∀ j x,cs[j]?=some x→∃ u,w.cell? ⟨b,j,none⟩=some u∧VR w J μ x u:=by
 obtain⟨b,vs,h1,h2,h3,h4,h5⟩:=hS.obj id _ ho;refine⟨b,vs,h1,h2,h3,h4,fun j x hx=>?_⟩;obtain⟨u,h6,h7⟩:=h5 j x hx;exact⟨u,by rw[ky h3];exact h6,h7⟩
theorem E5{P:Program}{w:World}{J:ae}{μ:Mem}{T:TypeId}{t:TypeInfo}{b off:Nat}{k:Option Nat}{row:List V}(ht:P.info? T=some t)
  (hk:(k=none∧er P T=some false)∨(k=some t.size∧er P T=some true)) (d:Nat)
  (hc:∀ j y,row[d+j]?=some y→∃ u,w.cell? ⟨b,off+j,none⟩=some u∧VR w J μ y u) :
  (k=none→∀ y,row[d]?=some y→∃ v,(Instr.loadAt T (.pointer (some ⟨b,off,none⟩))).run P w=.ok v w∧VR w J μ y v) ∧
  (∀ n,k=some n→d+n≤row.length→∃ v,(Instr.loadAt T (.pointer (some ⟨b,off,none⟩))).run P w=.ok v w∧VR w J μ (.agg ((row.drop d).take n)) v):=by
 constructor
 ·rintro rfl y hy;obtain⟨u,h1,h2⟩:=hc 0 y hy;have hT:=hk.resolve_right (by simp);exact⟨u,yi hT.2 (by simpa using h1),h2⟩
 ·rintro n rfl hn;have hT:=hk.resolve_left (by simp);simp only[aa]at hT;obtain⟨rfl,hT⟩:=hT
  have hf:∀ j,j<t.size→∃ u,w.cell? ⟨b,off+j,none⟩=some u∧∃ y,row[d+j]?=some y∧VR w J μ y u:=by
   intro j hj;have dc:d+j<row.length:=by omega
   obtain⟨u,h1,h2⟩:=hc j row[d+j] (ak dc);exact⟨u,h1,row[d+j],ak dc,h2⟩
  let f:Nat→Value:=fun j=>(w.cell? ⟨b,off+j,none⟩).getD undef
  have V6:∀ j,j<t.size→w.cell? ⟨b,off+j,none⟩=some (f j):=by
   intro j hj;obtain⟨u,h1,_⟩:=hf j hj;simp[f,h1]
  refine⟨.agg ((List.range t.size).map f).toArray,yj f hT ht V6,.agg _ _ (by simp;omega) ?_⟩;intro i y hy
  have hi:i<t.size:=by
   rcases fb i t.size with h | h
   ·exact h
   ·rw[bl (by simp;omega)]at hy;simp at hy
  rw[bg hi,gq]at hy;obtain⟨u,h1,y',h2,h3⟩:=hf i hi;rw[h2]at hy;simp only[aa]at hy;subst hy
  have:(((List.range t.size).map f).toArray.getD i undef)=u:=by
   have h4:f i=u:=by simp[f,h1]
   simp[hi,h4]
  rw[this];exact h3
theorem uY{P:Program}{o:Oper}{a:Act}{w:World}{J:ae}{μ:Mem}{T:TypeId}{x:Operand}{t:TypeInfo}{b off:Nat}{k:Option Nat}{row:List V}
  (ho:o.op=.load T x) (hx:a.eval x=.pointer (some ⟨b,off,none⟩)) (ht:P.info? T=some t)
  (hk:(k=none∧er P T=some false)∨(k=some t.size∧er P T=some true)) (d:Nat)
  (hc:∀ j y,row[d+j]?=some y→∃ u,w.cell? ⟨b,off+j,none⟩=some u∧VR w J μ y u) :
  (k=none→∀ y,row[d]?=some y→Yields P o a w J μ y)∧(∀ n,k=some n→d+n≤row.length→Yields P o a w J μ (.agg ((row.drop d).take n))):=by
 obtain⟨h1,h2⟩:=E5 (P:=P) (row:=row) ht hk d hc;constructor
 ·intro hk y hy;obtain⟨v,h3,h4⟩:=h1 hk y hy;exact .pure (v:=v) (by simp[execOp,ho,hx,h3]) h4
 ·intro n hk hn;obtain⟨v,h3,h4⟩:=h2 n hk hn;exact .pure (v:=v) (by simp[execOp,ho,hx,h3]) h4
section cF
variable {P:Program} {o:Oper} {a:Act} {B:Nat} {w0 w:World} {J:ae} {μ:Mem} {fr:List V} (hF:FR w J μ fr a) (hS:fx P B w0 w J μ)
include hF hS
theorem Ms{T:TypeId}{x:Operand}{x':O}{t:TypeInfo}{k:Option Nat}(ho:o.op=.load T x)(hx:cO x=some x')(ht:P.info? T=some t)
  (hk:(k=none∧er P T=some false)∨(k=some t.size∧er P T=some true)) {ob:Prop} {y:V} (h:aM fr J (.load k x')=some (ob,y)) (cY:ob):Yields P o a w J μ y:=by
 have h1:=cP hF hx;simp only[aM]at h;split at h
 ·rename_i id off hp;rw[hp]at h1;obtain⟨b,hm,hv,_⟩:=h1.nw;split at h
  ·rename_i T' cs hb;obtain⟨b',vs,hm',hB,hh,fw,mi⟩:=hS.JF hb;rw[hm]at hm';simp only[Value.pointer.injEq,aa,Addr.mk.injEq,fq]at hm';subst hm';have hl:=uY (P:=P) (J:=J) (μ:=μ) (row:=cs) (k:=k) ho hv ht hk off (fun j z hz=>mi _ z hz);split at h
   ·split at h
    ·rename_i z hz;simp only[aa,ao]at h;obtain⟨_,rfl⟩:=h;exact hl.1 rfl _ hz
    ·simp at h
   ·simp only[aa,ao]at h;obtain⟨rfl,rfl⟩:=h;exact hl.2 _ rfl cY
  ·simp at h
 ·rename_i sz xs i off hp;rw[hp]at h1;obtain⟨b,o',f,hv,hi,cq,hc,Re⟩:=h1.Dd;have Jf:xs[i]?=some xs[i]:=ak hi
  have hl:=uY (P:=P) (J:=J) (μ:=μ) (row:=xs[i]) (k:=k) ho hv ht hk off (fun j z hz=>by
   have h2:eS xs i (off+j)=some z:=by rw[nT Jf];exact hz
   exact⟨f (off+j),by rw[fF];exact(hc _ z h2).1,Re _ z h2⟩)
  split at h
  ·split at h
   ·rename_i z hz;simp only[aa,ao]at h;obtain⟨_,rfl⟩:=h;rw[nT Jf]at hz;exact hl.1 rfl _ hz
   ·simp at h
  ·simp only[aa,ao]at h;obtain⟨rfl,rfl⟩:=h;have hg:xs.getD i []=xs[i]:=by simp[hi]
   rw[hg]at cY ⊢;exact hl.2 _ rfl cY
 ·rename_i id g i off hp;rw[hp]at h1;split at h
  ·rename_i E sz by' g' sh xs hb;split at h
   ·rename_i hg;subst hg;obtain⟨hi,hv⟩:=h1.Dc hb;obtain⟨_,cq,hr⟩:=hS.rowAt hb;have Jf:xs[i]?=some xs[i]:=ak hi;rcases hr with⟨_,hn⟩ | ⟨b,cap,cur,hm,hh,_,_,_,hr⟩
    ·subst hn;simp at hi
    ·have hv':a.eval x=.pointer (some ⟨b,i*sz+off,none⟩):=by rw[hv,hm];rfl
     have hl:=uY (P:=P) (J:=J) (μ:=μ) (row:=xs[i]) (k:=k) ho hv' ht hk off (fun j z hz=>by
      have h2:eS xs i (off+j)=some z:=by rw[nT Jf];exact hz
      obtain⟨_,u,h3,h4⟩:=hr _ _ z h2;exact⟨u,by rw[fF];exact h3,h4⟩)
     split at h
     ·split at h
      ·rename_i z hz;simp only[aa,ao]at h;obtain⟨_,rfl⟩:=h;rw[nT Jf]at hz;exact hl.1 rfl _ hz
      ·simp at h
     ·simp only[aa,ao]at h;obtain⟨rfl,rfl⟩:=h;have hg:xs.getD i []=xs[i]:=by simp[hi]
      rw[hg]at cY ⊢;exact hl.2 _ rfl cY
   ·simp at h
  ·simp at h
 ·simp at h
theorem PX{x:Operand}{x':O}(ho:o.op=.nilCheck x)(hx:cO x=some x'){ob:Prop}{y:V}(h:aM fr J (.dn x')=some (ob,y)):Yields P o a w J μ y:=by
 have h1:=cP hF hx
 have cT:∀ ad,a.eval x=.pointer (some ad)→(execOp a.eval o).run P w=.ok (.value (.pointer (some ad))) w:=by
  intro ad he;simp[execOp,ho,he]
 simp only[aM]at h;split at h<;>(try simp only[aa,ao,reduceCtorEq]at h)
 ·rename_i id off hp;obtain⟨_,rfl⟩:=h;rw[hp]at h1;have h2:=h1;obtain⟨b,hm,hv,hb⟩:=h1.nw;rw[hv]at h2;exact .pure (cT _ hv) h2
 ·rename_i sz xs i off hp;obtain⟨_,rfl⟩:=h;rw[hp]at h1;have h2:=h1;obtain⟨b,o',f',hv,_⟩:=h1.Dd;rw[hv]at h2;exact .pure (cT _ hv) h2
 ·rename_i id g i off hp;split at h
  ·rename_i E sz by' g' sh xs ho';split at h<;>simp only[aa,ao,reduceCtorEq]at h;rename_i hg;subst hg;obtain⟨_,rfl⟩:=h;rw[hp]at h1;have h2:=h1;obtain⟨hi,hv⟩:=h1.Dc ho';obtain⟨_,_,hr⟩:=hS.rowAt ho';rcases hr with⟨_,hn⟩ | ⟨b,cap,cur,hm,_⟩
   ·subst hn;simp at hi
   ·have hv':a.eval x=.pointer (some ⟨b,i*sz+off,none⟩):=by rw[hv,hm];rfl
    rw[hv']at h2;exact .pure (cT _ hv') h2
  ·simp at h
theorem Tz{x y:Operand}{x' y':O}{T ts}(ho:o.op=.call { callee:=.builtin .max,args:=#[x,y],argTypes:=ts })(hx:cO x=some x')(hy:cO y=some y'){ob:Prop}{z:V}(h:aM fr J (.max2 x' y')=some (ob,z))(_:T=ts):Yields P o a w J μ z:=by
 have h1:=cP hF hx;have h2:=cP hF hy;simp only[aM]at h;split at h
 ·rename_i k p k' q hp hq;simp only[aa,ao]at h;obtain⟨_,rfl⟩:=h;rw[hp]at h1;rw[hq]at h2;refine .pure (v:=.int k (if p<q then q else p)) ?_ (.i _ _);simp[execOp,ho,resolve,invoke,builtin,h1.ei,h2.ei,run_max_int2]
 ·simp at h
theorem Ty{x y:Operand}{x' y':O}{ts}(ho:o.op=.call { callee:=.builtin .min,args:=#[x,y],argTypes:=ts })(hx:cO x=some x')(hy:cO y=some y'){ob:Prop}{z:V}(h:aM fr J (.min2 x' y')=some (ob,z)):Yields P o a w J μ z:=by
 have h1:=cP hF hx;have h2:=cP hF hy;simp only[aM]at h;split at h
 ·rename_i k p k' q hp hq;simp only[aa,ao]at h;obtain⟨_,rfl⟩:=h;rw[hp]at h1;rw[hq]at h2;refine .pure (v:=.int k (if q<p then q else p)) ?_ (.i _ _);simp[execOp,ho,resolve,invoke,builtin,h1.ei,h2.ei,run_min_int2]
 ·simp at h
end cF
theorem ud{P:Program}{t e:TypeId}(h:P.underlying t=some (.slice e)):P.elem t=e:=by simp[Program.elem,h]
theorem mQ.row{w:World}{J:ae}{μ:Mem}{xs:List (List V)}{sz b o:Nat}{f:Nat→Nat→Value}(h:mQ w J μ xs sz b o f){i:Nat}(hi:i<xs.length)(off:Nat):
  VR w J μ (.ep sz xs i off) (.pointer (some ⟨b,o+i*sz+off,none⟩)) :=
 .ep sz xs i off b (o+i*sz) (f i) hi h.1 (fun j x hx=>h.2.1 i j x hx) (fun j x hx=>h.2.2 i j x hx)
theorem xN{xs:List (List V)}{lo n i j:Nat}{x:V}(h:eS ((xs.drop lo).take n) i j=some x):eS xs (lo+i) j=some x:=by
 obtain⟨r,h1,h2⟩:=ie h
 have hi:i<n:=by
  rcases fb i n with h | h
  ·exact h
  ·rw[bl (by simp;omega)]at h1;simp at h1
 rw[bg hi,gq]at h1;rw[nT h1,h2]
theorem mQ.sub{w:World}{J:ae}{μ:Mem}{xs:List (List V)}{sz b o:Nat}{f:Nat→Nat→Value}(h:mQ w J μ xs sz b o f)(lo n:Nat):
  mQ w J μ ((xs.drop lo).take n) sz b (o+lo*sz) (fun i j=>f (lo+i) j):=by
 refine⟨fun r hr=>h.1 r (pN (fu hr)),fun i j x hx=>?_,fun i j x hx=>h.2.2 _ _ _ (xN hx)⟩;have:=h.2.1 _ _ _ (xN hx);have e:o+lo*sz+i*sz+j=o+(lo+i)*sz+j:=by rw[cD];omega
 rw[e];exact this
theorem As{P:Program}{w:World}{t e:TypeId}{ti:TypeInfo}(ht:P.underlying t=some (.slice e))(hi:P.info? e=some ti)(a:Option Addr)(len cap:Nat)(lo hi':Option Value)(l h:Int)
  (oM:(lo=none∧l=0)∨∃ k,lo=some (.int k l)) (Jn:(hi'=none∧h=len)∨∃ k,hi'=some (.int k h)) (h0:0≤l) (h1:l≤h) (h2:h≤cap) :
  (Instr.sliceAt t (.slice a len cap) lo hi' none).run P w=.ok (kO (.slice a len cap) l.toNat h.toNat ti.size) w:=by
 have ht':P.underlying t=some (.slice (P.elem t)):=by rw[ud ht];exact ht
 have hs:(sizeOf (P.elem t)).run P w=.ok ti.size w:=by rw[ud ht];simp[sizeOf,typeInfo,hi]
 have Zo:0≤h:=by omega
 rw[run_sliceAt_slice (w:=w) t _ lo hi' none ht'];have eh:(h.toNat:Int)=h:=Int.toNat_of_nonneg Zo;rcases oM with⟨rfl,rfl⟩ | ⟨k,rfl⟩<;>rcases Jn with⟨rfl,rfl⟩ | ⟨k',rfl⟩
 ·rw[run_slice_all (w:=w) t a len cap ht',hs];simp[sliced,kO]
 ·rw[run_slice_h (w:=w) t a len cap ht' k' h Zo h2,hs];simp[sliced,kO]
 ·rw[run_slice_l (w:=w) t a len cap ht' k l h0 h1,hs];simp[sliced,kO]
 ·rw[run_slice_lh (w:=w) t a len cap ht' k k' l h h0 h1 h2,hs];simp[sliced,kO]
theorem yh{P:Program}{w:World}{t:TypeId}(ht:P.underlying t=some .string)(s:ByteArray)(lo hi':Option Value)(l h:Int)
  (oM:(lo=none∧l=0)∨∃ k,lo=some (.int k l)) (Jn:(hi'=none∧h=s.size)∨∃ k,hi'=some (.int k h)) (h0:0≤l) (h1:l≤h) (h2:h≤s.size) :
  (Instr.sliceAt t (.string s) lo hi' none).run P w=.ok (.string (s.extract l.toNat h.toNat)) w:=by
 have Zo:0≤h:=by omega
 rw[run_sliceAt_string (w:=w) t _ lo hi' none ht];rcases oM with⟨rfl,rfl⟩ | ⟨k,rfl⟩<;>rcases Jn with⟨rfl,rfl⟩ | ⟨k',rfl⟩
 ·rw[run_slice_string_all (w:=w) t s ht];simp
 ·rw[run_slice_string_to_if (w:=w) t s k' h ht,bf ⟨Zo,h2⟩];simp
 ·rw[run_slice_string_from_if (w:=w) t s k l ht,bf ⟨h0,by omega⟩];simp
 ·rw[run_slice_string_if (w:=w) t s k k' l h ht,bf ⟨Zo,h2⟩,bf ⟨h0,h1⟩]
theorem Dp(s:ByteArray)(i j:Nat):(s.extract i j).data.toList=(s.data.toList.drop i).take (j - i):=by
 rw[ByteArray.data_extract,Array.toList_extract,List.extract_eq_take_drop]
section cF
variable {P:Program} {o:Oper} {a:Act} {B:Nat} {w0 w:World} {J:ae} {μ:Mem} {fr:List V} (hF:FR w J μ fr a) (hS:fx P B w0 w J μ)
include hF hS
theorem Wg{T E:TypeId}{t:TypeInfo}{x i:Operand}{x' i':O}(ho:o.op=.indexAddr T x i)(hT:P.underlying T=some (.slice E))(ht:P.info? E=some t)(hx:cO x=some x')(hi:cO i=some i')
  {ob:Prop} {y:V} (h:aM fr J (.idx t.size x' i')=some (ob,y)) (cY:ob):Yields P o a w J μ y:=by
 have h1:=cP hF hx;have h2:=cP hF hi;have hT':P.underlying T=some (.slice (P.elem T)):=by rw[ud hT];exact hT
 simp only[aM]at h;split at h
 ·rename_i k n hn;rw[hn]at h2;have h2:=h2.ei
  have cT:∀ b off len cap,a.eval x=.slice (some ⟨b,off,none⟩) len cap→0≤n→n<len→(execOp a.eval o).run P w=.ok (.value (.pointer (some ⟨b,off+n.toNat*t.size,none⟩))) w:=by
   intro b off len cap he Oc Jl;simp[execOp,ho,he,h2,run_indexAt_slice (w:=w) T _ len cap k n hT',Oc,Jl,ud hT,sizeOf,typeInfo,ht,Addr.add_lit]
  split at h
  ·rename_i sz xs hp;split at h<;>simp only[aa,ao,reduceCtorEq]at h;rename_i fw;subst fw;obtain⟨rfl,rfl⟩:=h;rw[hp]at h1;rcases h1.yQ with⟨rfl,_⟩ | ⟨b,off,cap,f,hv,_,_,hr⟩
   ·simp at cY;omega
   ·refine .pure (cT b off _ cap hv cY.1 cY.2) ?_;exact hr.row (by omega) 0
  ·rename_i sz xs hp;split at h<;>simp only[aa,ao,reduceCtorEq]at h;rename_i fw;subst fw;obtain⟨rfl,rfl⟩:=h;rw[hp]at h1;rcases h1.ny with⟨rfl,_⟩ | ⟨b,off,f,hv,_,hr⟩
   ·simp at cY;omega
   ·refine .pure (cT b off _ _ hv cY.1 cY.2) ?_;exact hr.row (by omega) 0
  ·rename_i id g hp;split at h
   ·rename_i E' sz by' g' sh xs hb;split at h<;>simp only[aa,ao,reduceCtorEq]at h;rename_i hg;obtain⟨rfl,rfl⟩:=hg;obtain⟨rfl,rfl⟩:=h;rw[hp]at h1;have hv:=h1.jP hb;obtain⟨_,_,hr⟩:=hS.rowAt hb;rcases hr with⟨_,hn⟩ | ⟨b,cap,cur,hm,_⟩
    ·subst hn;simp at cY;omega
    ·refine .pure (cT b 0 _ cap (hv.trans hm) cY.1 cY.2) (.rp id g _ _ _ (ab.1 hb).1 ?_);intro E2 sz2 by2 g2 sh2 xs2 h3;rw[hb]at h3;simp only[aa,Ob.row.injEq]at h3;obtain⟨rfl,rfl,rfl,rfl,rfl,rfl⟩:=h3;exact⟨aq _,fun _=>⟨by omega,by rw[hm];simp[WE]⟩⟩
   ·simp at h
  ·rename_i id g lo hi hp;split at h
   ·rename_i E' sz by' g' sh xs hb;split at h<;>simp only[aa,ao,reduceCtorEq]at h;rename_i hg;obtain⟨rfl,rfl⟩:=hg;obtain⟨rfl,rfl⟩:=h;rw[hp]at h1;obtain⟨hlh,Jn,hv⟩:=h1.pc hb;obtain⟨_,_,hr⟩:=hS.rowAt hb;rcases hr with⟨_,hn⟩ | ⟨b,cap,cur,hm,_,Ht,_⟩
    ·subst hn;simp at Jn;subst Jn;simp at cY;omega
    ·have gv:¬ cap=lo:=by omega
     have PE:a.eval x=.slice (some ⟨b,lo*t.size,none⟩) (hi - lo) (cap - lo):=by rw[hv,hm];simp[kO,gv,Addr.add_lit]
     refine .pure (cT b (lo*t.size) _ (cap - lo) PE cY.1 cY.2) (.rp id g _ _ _ (ab.1 hb).1 ?_);intro E2 sz2 by2 g2 sh2 xs2 h3;rw[hb]at h3;simp only[aa,Ob.row.injEq]at h3;obtain⟨rfl,rfl,rfl,rfl,rfl,rfl⟩:=h3;exact⟨aq _,fun _=>⟨by omega,by rw[hm];simp[WE,cD]⟩⟩
   ·simp at h
  ·rename_i id m hp;split at h<;>simp only[aa,ao,reduceCtorEq]at h;rename_i Fl;obtain⟨rfl,rfl⟩:=h;rw[hp]at h1;obtain⟨b,hv,hm,Zd⟩:=h1.I9;refine .pure (cT b 0 _ _ hv cY.1 cY.2) ?_;rw[Fl,DD,bz];exact .ptr id _ b Zd hm
  ·simp at h
 ·simp at h
theorem TC{T E:TypeId}{n:Nat}{t:TypeInfo}{x i:Operand}{x' i':O}(ho:o.op=.indexAddr T x i)(hT:P.underlying T=some (.array n E))(ht:P.info? E=some t)(hx:cO x=some x')(hi:cO i=some i')
  {ob:Prop} {y:V} (h:aM fr J (.Gd n t.size x' i')=some (ob,y)) (cY:ob):Yields P o a w J μ y:=by
 have h1:=cP hF hx;have h2:=cP hF hi;have hl:P.arrayLen T=n:=by simp[Program.arrayLen,hT]
 have he:P.elem T=E:=by simp[Program.elem,hT]
 have hT':P.underlying T=some (.array (P.arrayLen T) (P.elem T)):=by rw[hl,he];exact hT
 simp only[aM]at h;split at h<;>simp only[aa,ao,reduceCtorEq]at h;rename_i id off k m hp hq;obtain⟨rfl,rfl⟩:=h;rw[hp]at h1;rw[hq]at h2;obtain⟨b,hm,hv,hb⟩:=h1.nw;have h2:=h2.ei;refine .pure (v:=.pointer (some ⟨b,off+m.toNat*t.size,none⟩)) ?_ (.ptr id _ b hb hm);have hr:=run_indexAt_array (P:=P) (w:=w) T ⟨b,off,none⟩ k m hT';rw[hl,he,bf cY]at hr;have hs:(sizeOf E).run P w=.ok t.size w:=by simp[sizeOf,typeInfo,ht]
 rw[hs,Result.andThen_ok,Addr.add_lit]at hr;simp only[execOp,ho,hv,h2,Sem.run_bind,hr,Result.andThen_ok,Sem.run_pure]
theorem Wq{T E:TypeId}{n:Nat}{t:TypeInfo}{x:Operand}{x':O}(ho:o.op=.slice T x none none none)(hT:P.underlying T=some (.array n E))(ht:P.info? E=some t)(h1s:t.size=1)(hx:cO x=some x')
  {ob:Prop} {y:V} (h:aM fr J (.Wb n x')=some (ob,y)) (cY:ob):Yields P o a w J μ y:=by
 have h1:=cP hF hx;have hl:P.arrayLen T=n:=by simp[Program.arrayLen,hT]
 have he:P.elem T=E:=by simp[Program.elem,hT]
 have hT':P.underlying T=some (.array (P.arrayLen T) (P.elem T)):=by rw[hl,he];exact hT
 simp only[aM]at h;split at h<;>(try simp only[reduceCtorEq]at h);rename_i sz xs i hp;split at h<;>simp only[aa,ao,reduceCtorEq]at h;rename_i hn;obtain⟨rfl,rfl⟩:=h;rw[hp]at h1;obtain⟨b,o',f,hv,hi,cq,hc,Af⟩:=h1.Dd;have hs:(sizeOf E).run P w=.ok t.size w:=by simp[sizeOf,typeInfo,ht]
 have hr:=run_sliceAt_array_all (P:=P) w T ⟨b,o',none⟩ hT';rw[hl,he,hs,Result.andThen_ok]at hr
 have ha:slicedAt ⟨b,o',none⟩ 0 n n t.size=.slice (some ⟨b,o',none⟩) n n:=by
  simp[slicedAt,Addr.add_lit]
 rw[ha]at hr;refine .pure (v:=.slice (some ⟨b,o',none⟩) n n) ?_ ?_
 ·simp only[execOp,ho,hv,dK,fY,Sem.run_bind,hr,Result.andThen_ok,Sem.run_pure]
 ·have eA:∀ (k j:Nat) (x:V),eS ((xs.getD i []).map fun c=>[c]) k j=some x→j=0∧eS xs i k=some x:=by
   have YH:xs[i]?=some (xs.getD i []):=by simp[an,ak hi]
   intro k j x hx;simp only[eS,YH,gp];generalize xs.getD i []=row at hx;simp only[eS,a8]at hx;cases hk:row[k]? with
   | none=>simp[hk]at hx
   | some c =>
    simp only[hk,bK,gp]at hx;cases j with
    | zero =>
     simp only[aw]at hx;exact⟨rfl,hx⟩
    | succ j=>simp at hx
  have h6:=VR.sl (w:=w) (J:=J) (μ:=μ) 1 ((xs.getD i []).map fun c=>[c]) b o' n (fun k _=>f k) (by simp only[ag];omega) (by unfold maxLen;omega) (by simp)
   (fun k j x hx=>by
    obtain⟨rfl,h7⟩:=eA k j x hx;have:=hc k x h7;simpa using this)
   (fun k j x hx=>Af k x (eA k j x hx).2)
  simp only[ag]at h6;rw[hn]at h6;exact h6
theorem Tv{T:TypeId}{x i:Operand}{x' i':O}(ho:o.op=.index T x i)(hT:P.underlying T=some .string)(hx:cO x=some x')(hi:cO i=some i')
  {ob:Prop} {y:V} (h:aM fr J (.fS x' i')=some (ob,y)) (cY:ob):Yields P o a w J μ y:=by
 have h1:=cP hF hx;have h2:=cP hF hi;simp only[aM]at h;split at h<;>simp only[aa,ao,reduceCtorEq]at h;rename_i l k n hp hn;obtain⟨rfl,rfl⟩:=h;rw[hp]at h1;rw[hn]at h2;obtain⟨s,hv,hl,_⟩:=h1.kr;have fw:s.size=l.length:=by rw[← hl];exact bsize s
 refine .pure (v:=.int .u8 (l.getD n.toNat 0).toNat) ?_ (.i _ _);have hc:0≤n∧n<s.size:=by rw[fw];exact cY
 have dc:n.toNat<l.length:=by omega
 have hb:s[n.toNat]'(by omega)=l.getD n.toNat 0:=by
  subst hl;rw[an,ak dc];simp[ByteArray.getElem_eq_getElem_data]
 have h3:=run_index_string (P:=P) (w:=w) T s k n hT;rw[dif_pos hc,hb]at h3;simp only[execOp,ho,hv,h2.ei,Sem.run_bind,h3,Result.andThen_ok,Sem.run_pure]
theorem Tt{T:TypeId}{f:Nat}{fs:Array Field}{fd:Field}{x:Operand}{x':O}(ho:o.op=.field T x f)(hT:P.underlying T=some (.struct fs))(hf:fs[f]?=some fd)(hA:er P fd.type=some false)(hx:cO x=some x')
  {ob:Prop} {y:V} (h:aM fr J (.JS fd.offset x')=some (ob,y)):Yields P o a w J μ y:=by
 have h1:=cP hF hx;simp only[aM]at h;split at h
 ·rename_i xs hp;rw[hp]at h1;obtain⟨vs,hv,hl,Af⟩:=h1.gr;split at h<;>simp only[aa,ao,reduceCtorEq]at h;rename_i z hz;obtain⟨_,rfl⟩:=h;have dc:fd.offset<vs.size:=by rw[← hl];exact(ab.1 hz).1
  have hz':vs[fd.offset]?=some (vs.getD fd.offset undef):=by simp[dc]
  refine .pure (v:=vs.getD fd.offset undef) ?_ (Af _ _ hz);simp only[execOp,ho,hv,Instr.field,run_underlying hT,hf,asAgg,part,jn hA,Sem.run_bind,Sem.run_pure,Result.andThen_ok,aF,aK,hz']
 ·simp at h
theorem Ts{T E:TypeId}{n:Nat}{x i:Operand}{x' i':O}(ho:o.op=.index T x i)(hT:P.underlying T=some (.array n E))(hA:er P E=some false)(hc:P.cellsOf E=1)(hx:cO x=some x')(hi:cO i=some i')
  {ob:Prop} {y:V} (h:aM fr J (.JR n x' i')=some (ob,y)) (cY:ob):Yields P o a w J μ y:=by
 have h1:=cP hF hx;have h2:=cP hF hi;simp only[aM]at h;split at h<;>simp only[aa,ao,reduceCtorEq]at h;rename_i xs k j hp hn;obtain⟨rfl,rfl⟩:=h;rw[hp]at h1;rw[hn]at h2;obtain⟨vs,hv,hl,Af⟩:=h1.gr;obtain⟨h0,ZY,pK⟩:=cY;have hj:j.toNat<xs.length:=by omega
 have ZX:j.toNat<vs.size:=by omega
 have hz':vs[j.toNat]?=some (vs.getD j.toNat undef):=by simp[ZX]
 have UM:∃ ti,P.info? E=some ti:=by
  unfold er Program.underlying at hA;cases h:P.info? E with
  | none=>simp[h]at hA
  | some i=>exact⟨i,rfl⟩
 obtain⟨ti,SV⟩:=UM
 have hs:(sizeOf E).run P w=.ok 1 w:=by
  have hc':ti.size=1:=by simpa[Program.cellsOf,SV]using hc
  simp[sizeOf,typeInfo,SV,hc']
 have hg:xs.getD j.toNat .u=xs[j.toNat]:=by rw[an,ak hj];rfl
 rw[hg];refine .pure (v:=vs.getD j.toNat undef) ?_ (Af _ _ (ak hj));have hcj:0≤j∧j<(n:Int):=⟨h0,ZY⟩;simp only[execOp,ho,hv,h2.ei,Instr.index,asIntOf,run_underlying hT,part,jn hA,Sem.run_bind,Sem.run_pure,Result.andThen_ok,bf hcj,hs,DD,aF,aK,hz']
theorem TB{T E:TypeId}{t:TypeInfo}{x hh m:Operand}{x' h' m':O}(ho:o.op=.slice T x none (some hh) (some m))(hT:P.underlying T=some (.slice E))(ht:P.info? E=some t)(hx:cO x=some x')(hh':cO hh=some h')(hm:cO m=some m')
  {ob:Prop} {y:V} (h:aM fr J (.clip t.size x' h' m')=some (ob,y)) (cY:ob):Yields P o a w J μ y:=by
 have h1:=cP hF hx;have h2:=cP hF hh';have h3:=cP hF hm;simp only[aM]at h;split at h
 ·rename_i k1 p k2 q hp hq;rw[hp]at h2;rw[hq]at h3;split at h
  ·rename_i sz xs ux;split at h<;>simp only[aa,ao,reduceCtorEq]at h;rename_i fw;obtain⟨rfl,rfl⟩:=h;subst fw;rw[ux]at h1;obtain⟨h0,ZU,hqn⟩:=cY;have hs:(sizeOf E).run P w=.ok t.size w:=by simp[sizeOf,typeInfo,ht]
   have cT:∀ (b:Option Addr) (n c:Nat),a.eval x=.slice b n c→q≤c→(execOp a.eval o).run P w=.ok (.value (.slice (if q.toNat=0 then b else b.map (·.add 0)) p.toNat q.toNat)) w:=by
    intro b n c he hqc;have c1:0≤q∧q≤(c:Int):=by omega
    have c2:p≤max q 0:=by omega
    simp[execOp,ho,he,h2.ei,h3.ei,Instr.sliceAt,Instr.slice,Instr.sliceBounds,Instr.sliceBound,asIntOf,run_underlying hT,c1,c2,h0,hs]
   rcases h1.yQ with⟨rfl,b,hv⟩ | ⟨b,off,cap,f,hv,hc,hm,hr⟩
   ·have Gn:p=0:=by simp at hqn;omega
    have PG:q=0:=by simp at hqn;omega
    subst Gn;subst PG;refine .pure (cT b 0 0 hv (by omega)) ?_;simp only[VQ,aL,lj];cases b with
    | none=>exact .Ae _
    | some b=>exact .sle _ _
   ·refine .pure (cT _ _ cap hv (by omega)) ?_;have hlen:(xs.take p.toNat).length=p.toNat:=by simp;omega
    have s6:=hr.sub 0 p.toNat;simp only[lk,L5,dK]at s6;have h5:=VR.sl (w:=w) (J:=J) (μ:=μ) t.size _ b _ q.toNat _ (by rw[hlen];omega) (by omega) s6.1 s6.2.1 s6.2.2;rw[hlen]at h5;split
    ·exact h5
    ·simpa[Addr.add_lit]using h5
  ·simp at h
 ·simp at h
theorem Tu{T:TypeId}{x:Operand}{x':O}(ho:o.op=.call { callee:=.builtin .len,args:=#[x],argTypes:=#[T] })(hT:P.underlying T=some .string)(hx:cO x=some x')
  {ob:Prop} {y:V} (h:aM fr J (.len true x')=some (ob,y)):Yields P o a w J μ y:=by
 have h1:=cP hF hx;simp only[aM]at h;split at h<;>simp only[aa,ao,reduceCtorEq]at h;rename_i l hp;obtain⟨_,rfl⟩:=h;rw[hp]at h1;obtain⟨s,hv,hl,_⟩:=h1.kr;have fw:s.size=l.length:=by rw[← hl];exact bsize s
 refine .pure (v:=.int .i64 l.length) ?_ (.i _ _);simp[execOp,ho,resolve,invoke,builtin,hv,run_len_string (w:=w) T _ s hT,goInt,fw]
theorem We{T E:TypeId}{x:Operand}{x':O}(ho:o.op=.call { callee:=.builtin .len,args:=#[x],argTypes:=#[T] })(hT:P.underlying T=some (.slice E))(hx:cO x=some x')
  {ob:Prop} {y:V} (h:aM fr J (.len false x')=some (ob,y)):Yields P o a w J μ y:=by
 have h1:=cP hF hx;have hT':P.underlying T=some (.slice (P.elem T)):=by rw[ud hT];exact hT
 have cT:∀ b n c,a.eval x=.slice b n c→Yields P o a w J μ (.i .i64 n):=by
  intro b n c he;refine .pure (v:=.int .i64 n) ?_ (.i _ _);simp[execOp,ho,resolve,invoke,builtin,he,run_len_slice (w:=w) T _ b n c hT',goInt]
 simp only[aM]at h;split at h<;>(try simp only[aa,ao,reduceCtorEq]at h)
 ·rename_i hp;obtain⟨_,rfl⟩:=h;rw[hp]at h1;exact cT _ _ _ h1.lp
 ·rename_i sz xs hp;obtain⟨_,rfl⟩:=h;rw[hp]at h1;rcases h1.ny with⟨rfl,hv⟩ | ⟨b,off,f,hv,_⟩
  ·exact cT _ _ _ hv
  ·exact cT _ _ _ hv
 ·rename_i sz xs hp;obtain⟨_,rfl⟩:=h;rw[hp]at h1;rcases h1.yQ with⟨rfl,_,hv⟩ | ⟨b,off,cap,f,hv,_⟩
  ·exact cT _ _ _ hv
  ·exact cT _ _ _ hv
 ·rename_i id g hp;split at h
  ·rename_i E' sz by' g' sh xs hb;split at h<;>simp only[aa,ao,reduceCtorEq]at h;rename_i hg;subst hg;obtain⟨_,rfl⟩:=h;rw[hp]at h1;have hv:=h1.jP hb;obtain⟨_,_,hr⟩:=hS.rowAt hb;rcases hr with⟨hm,hn⟩ | ⟨b,cap,cur,hm,_⟩
   ·subst hn;exact cT _ _ _ (hv.trans hm)
   ·exact cT _ _ _ (hv.trans hm)
  ·simp at h
 ·rename_i id g lo hi hp;split at h
  ·rename_i E' sz by' g' sh xs hb;split at h<;>simp only[aa,ao,reduceCtorEq]at h;rename_i hg;subst hg;obtain⟨_,rfl⟩:=h;rw[hp]at h1;obtain⟨_,_,hv⟩:=h1.pc hb;obtain⟨_,_,hr⟩:=hS.rowAt hb;rcases hr with⟨hm,hn⟩ | ⟨b,cap,cur,hm,_⟩
   ·rw[hm]at hv;exact cT _ _ _ hv
   ·rw[hm]at hv;exact cT _ _ _ hv
  ·simp at h
 ·rename_i id n hp;obtain⟨_,rfl⟩:=h;rw[hp]at h1;obtain⟨b,hv,_⟩:=h1.I9;exact cT _ _ _ hv
theorem Mr{T:TypeId}{x:Operand}{lo hi:Option Operand}{x':O}{lo' hi':Option O}(ho:o.op=.slice T x lo hi none)(hT:P.underlying T=some .string)(hx:cO x=some x')(hl:rK lo=some lo')(hh:rK hi=some hi')
  {ob:Prop} {y:V} (h:aM fr J (.fJ x' lo' hi')=some (ob,y)) (cY:ob):Yields P o a w J μ y:=by
 have h1:=cP hF hx;simp only[aM]at h;split at h
 ·rename_i l hp;rw[hp]at h1;obtain⟨s,hv,SX,hm⟩:=h1.kr;have fw:s.size=l.length:=by rw[← SX];exact bsize s
  split at h<;>simp only[aa,ao,reduceCtorEq]at h;rename_i p q Gm Mg;obtain⟨rfl,rfl⟩:=h
  have oM:(lo.map a.eval=none∧p=0)∨∃ k,lo.map a.eval=some (.int k p):=by
   cases lo with
   | none =>
    simp only[rK,aa]at hl;subst hl;simp only[aa]at Gm;exact .inl ⟨rfl,Gm.symm⟩
   | some z =>
    simp only[rK,aj]at hl;obtain⟨z',hz,rfl⟩:=hl;have h4:=cP hF hz;dsimp only at Gm;split at Gm<;>simp only[aa,reduceCtorEq]at Gm;rename_i k p' hp';subst Gm;rw[hp']at h4;exact .inr ⟨k,by simp[h4.ei]⟩
  have Jn:(hi.map a.eval=none∧q=s.size)∨∃ k,hi.map a.eval=some (.int k q):=by
   cases hi with
   | none =>
    simp only[rK,aa]at hh;subst hh;simp only[aa]at Mg;exact .inl ⟨rfl,by omega⟩
   | some z =>
    simp only[rK,aj]at hh;obtain⟨z',hz,rfl⟩:=hh;have h4:=cP hF hz;dsimp only at Mg;split at Mg<;>simp only[aa,reduceCtorEq]at Mg;rename_i k p' hp';subst Mg;rw[hp']at h4;exact .inr ⟨k,by simp[h4.ei]⟩
  have hr:=yh (P:=P) (w:=w) hT s (lo.map a.eval) (hi.map a.eval) p q oM Jn cY.1 cY.2.1 (by have:=cY.2.2;omega);refine .pure (v:=.string (s.extract p.toNat q.toNat)) ?_ (.s _ _ ?_ ?_)
  ·simp[execOp,ho,hv,hr]
  ·rw[Dp,SX]
  ·have:=List.length_take_le (q.toNat - p.toNat) (l.drop p.toNat);have h5:(l.drop p.toNat).length≤l.length:=by simp
   simp only[cz,cV];omega
 ·simp at h
theorem PV{T E:TypeId}{t:TypeInfo}{x:Operand}{lo hi:Option Operand}{x':O}{lo' hi':Option O}(ho:o.op=.slice T x lo hi none)(hT:P.underlying T=some (.slice E))(ht:P.info? E=some t)(hx:cO x=some x')(hl:rK lo=some lo')(hh:rK hi=some hi')
  {ob:Prop} {y:V} (h:aM fr J (.slice t.size x' lo' hi')=some (ob,y)) (cY:ob):Yields P o a w J μ y:=by
 have h1:=cP hF hx;simp only[aM]at h;split at h
 ·simp at h
 ·rename_i n hn;split at h
  ·rename_i p q Gm Mg
   have oM:(lo.map a.eval=none∧p=0)∨∃ k,lo.map a.eval=some (.int k p):=by
    cases lo with
    | none =>
     simp only[rK,aa]at hl;subst hl;simp only[aa]at Gm;exact .inl ⟨rfl,Gm.symm⟩
    | some z =>
     simp only[rK,aj]at hl;obtain⟨z',hz,rfl⟩:=hl;have h4:=cP hF hz;dsimp only at Gm;split at Gm<;>simp only[aa,reduceCtorEq]at Gm;rename_i k p' hp';subst Gm;rw[hp']at h4;exact .inr ⟨k,by simp[h4.ei]⟩
   have Jn:(hi.map a.eval=none∧q=(n:Int))∨∃ k,hi.map a.eval=some (.int k q):=by
    cases hi with
    | none =>
     simp only[rK,aa]at hh;subst hh;simp only[aa]at Mg;exact .inl ⟨rfl,by omega⟩
    | some z =>
     simp only[rK,aj]at hh;obtain⟨z',hz,rfl⟩:=hh;have h4:=cP hF hz;dsimp only at Mg;split at Mg<;>simp only[aa,reduceCtorEq]at Mg;rename_i k p' hp';subst Mg;rw[hp']at h4;exact .inr ⟨k,by simp[h4.ei]⟩
   have cT:∀ b c,a.eval x=.slice b n c→0≤p→p≤q→q≤c→(execOp a.eval o).run P w=.ok (.value (kO (.slice b n c) p.toNat q.toNat t.size)) w:=by
    intro b c he Gn ZU hqc;have hr:=As (P:=P) (w:=w) hT ht b n c (lo.map a.eval) (hi.map a.eval) p q oM Jn Gn ZU hqc;simp[execOp,ho,he,hr]
   have NY:∀ xs b off cap f,a.eval x=.slice (some ⟨b,off,none⟩) xs.length cap→xs.length≤cap→cap≤maxLen→mQ w J μ xs t.size b off f→n=xs.length→0≤p∧p≤q∧q≤n →
     Yields P o a w J μ (.sl t.size ((xs.drop p.toNat).take (q.toNat - p.toNat))):=by
    intro xs b off cap f he hc DJ hr hnx ⟨Gn,ZU,hqn⟩;subst hnx;refine .pure (cT _ cap he Gn ZU (by omega)) ?_;have hlen:((xs.drop p.toNat).take (q.toNat - p.toNat)).length=q.toNat - p.toNat:=by simp;omega
    by_cases Ta:cap=p.toNat
    ·have:q.toNat - p.toNat=0:=by omega
     simp only[kO,Ta,aL,this,lj,eJ];exact .sl t.size [] b off 0 (fun _ _=>undef) (by simp) (by simp[maxLen]) (by simp) (by simp[eS]) (by simp[eS])
    ·simp only[kO,Ta,aK,bK,Addr.add_lit];have:=hr.sub p.toNat (q.toNat - p.toNat);have h5:=VR.sl (w:=w) (J:=J) (μ:=μ) t.size _ b _ (cap - p.toNat) _ (by rw[hlen];omega) (by omega) this.1 this.2.1 this.2.2
     rwa [hlen]at h5
   split at h
   ·rename_i hp;simp only[aa,ao]at h;obtain⟨rfl,rfl⟩:=h;rw[hp]at h1 hn;simp only[aa]at hn;obtain⟨rfl,rfl⟩:=cY;have hv:=h1.lp;subst hn;refine .pure (v:=.slice none 0 0) ?_ .nil;rw[cT none 0 hv (by omega) (by omega) (by omega)];simp[kO]
   ·rename_i sz xs hp;simp only[aa,ao]at h;obtain⟨rfl,rfl⟩:=h;rw[hp]at h1 hn;dsimp only at hn;split at hn<;>simp only[aa,reduceCtorEq]at hn;rename_i fw;subst fw;rcases h1.ny with⟨rfl,hv⟩ | ⟨b,off,f,hv,hm,hr⟩
    ·simp only[aC]at hn;subst hn;have Gn:p=0:=by omega
     have PG:q=0:=by omega
     subst Gn;subst PG;refine .pure (cT none 0 hv (by omega) (by omega) (by omega)) ?_;simp only[kO,VQ,aL,ZJ,ZG,eJ];exact .Ae _
    ·exact NY xs b off _ f hv (aq _) hm hr hn.symm cY
   ·rename_i sz xs hp;simp only[aa,ao]at h;obtain⟨rfl,rfl⟩:=h;rw[hp]at h1 hn;dsimp only at hn;split at hn<;>simp only[aa,reduceCtorEq]at hn;rename_i fw;subst fw;rcases h1.yQ with⟨rfl,a0,hv⟩ | ⟨b,off,cap,f,hv,hc,hm,hr⟩
    ·simp only[aC]at hn;subst hn;have Gn:p=0:=by omega
     have PG:q=0:=by omega
     subst Gn;subst PG;refine .pure (cT a0 0 hv (by omega) (by omega) (by omega)) ?_;simp only[kO,VQ,aL,ZJ,ZG,eJ];cases a0 with
     | none=>exact .Ae _
     | some a0=>exact .sle _ a0
    ·exact NY xs b off cap f hv hc hm hr hn.symm cY
   ·rename_i id g hp;simp only[aa,ao]at h;obtain⟨rfl,rfl⟩:=h;rw[hp]at h1 hn;dsimp only at hn;split at hn
    ·rename_i E' sz by' g' sh xs hb;split at hn<;>simp only[aa,reduceCtorEq]at hn;rename_i hg;obtain⟨rfl,rfl⟩:=hg;subst hn;have hv:=h1.jP hb;obtain⟨_,_,hr⟩:=hS.rowAt hb
     have YD:∀ v,μ id=v→VR w J μ (.sub id g p.toNat q.toNat) (kO v p.toNat q.toNat t.size):=by
      intro v hm;refine .sub id g _ _ _ (ab.1 hb).1 ?_;intro E2 sz2 by2 g2 sh2 xs2 h3;rw[hb]at h3;simp only[aa,Ob.row.injEq]at h3;obtain⟨rfl,rfl,rfl,rfl,rfl,rfl⟩:=h3;exact⟨aq _,fun _=>⟨by omega,by omega,by rw[hm]⟩⟩
     rcases hr with⟨hm,hn⟩ | ⟨b,cap,cur,hm,_,kV,_⟩
     ·subst hn;exact .pure (cT none 0 (hv.trans hm) cY.1 cY.2.1 (by simpa using cY.2.2)) (YD _ hm)
     ·exact .pure (cT _ cap (hv.trans hm) cY.1 cY.2.1 (by have:=cY.2.2;omega)) (YD _ hm)
    ·simp at hn
   ·simp at h
  ·simp at h
end cF
end Go.Pm

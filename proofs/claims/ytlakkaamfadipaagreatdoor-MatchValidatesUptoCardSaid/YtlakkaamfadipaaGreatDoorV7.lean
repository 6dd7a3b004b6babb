/- A part of a proof; the claim's last text says of what. -/
import Derived.Lib.Strings
import Derived.Laws.BytesArg
import Derived.Test.YtlakkaamfadipaaGreatDoorV6
set_option linter.all false

namespace Go.Pm
open Go Go.RowKit
theorem jt{P:Program}{w:World}{T:TypeId}{q:Bool}(h:eD P T=some q):(isAgg T).run P w=.ok q w:=by
 unfold eD at h;split at h<;>simp only[aa,reduceCtorEq]at h<;>subst h
 ·rename_i fs hu;simp[isAgg,run_underlying hu]
 ·rename_i n e hu;simp[isAgg,run_underlying hu]
 ·rename_i d h1 h2 hu;simp only[isAgg,Sem.run_bind,run_underlying hu,Result.andThen_ok];cases d<;>first | rfl | (exact absurd rfl (h1 _)) | (exact absurd rfl (h2 _ _))
theorem xq{P:Program}{w:World}{T:TypeId}{b off:Nat}{v:Value}(hT:eD P T=some false)(hc:w.cell? ⟨b,off,none⟩=some v):
  (Instr.loadAt T (.pointer (some ⟨b,off,none⟩))).run P w=.ok v w:=by
 simp[Instr.loadAt,Instr.sureAddr,loadVar,jt hT,hc]
theorem xr{P:Program}{w:World}{T:TypeId}{t:TypeInfo}{b off:Nat}(f:Nat→Value)(hT:eD P T=some true)(ht:P.info? T=some t)(hc:∀ j,j<t.size→w.cell? ⟨b,off+j,none⟩=some (f j)):
  (Instr.loadAt T (.pointer (some ⟨b,off,none⟩))).run P w=.ok (.agg ((List.range t.size).map f).toArray) w:=by
 have h1:=run_loadCells (P:=P) w ⟨b,off,none⟩ t.size f (fun j hj=>by rw[Addr.add_lit];exact hc j hj);simp[Instr.loadAt,Instr.sureAddr,loadVar,jt hT,sizeOf,typeInfo,ht,h1]
theorem kt{w:World}{b:Nat}{vs:Array Value}{T:Nat}{fr:Nat×Nat}(h:w.heap[b]?=some (.cells vs T fr))(j:Nat):w.cell? ⟨b,j,none⟩=vs[j]?:=by
 simp[World.cell?,h]
theorem fF.rowAt{P:Program}{B:Nat}{w0 w:World}{J:ae}{μ:Mem}(hS:fF P B w0 w J μ){id E sz by' g:Nat}{sh:Bool}{xs:List (List V)}(ho:J[id]?=some (.row E sz by' g sh xs)):
  Ti P E sz by'∧(∀ r∈xs,r.length=sz)∧((μ id=.slice none 0 0∧xs=[]) ∨
   ∃ b cap cur,μ id=.slice (some ⟨b,0,none⟩) xs.length cap∧w.heap[b]?=some (.cells cur E (0,0))∧xs.length≤cap∧cap≤maxLen∧cur.size=cap*sz ∧
    ∀ i j x,fw xs i j=some x→x.pure=true∧∃ v,w.cell? ⟨b,i*sz+j,none⟩=some v∧VR w J μ x v):=by
 obtain⟨hT,vals,⟨hl,hw⟩,ck,hr⟩:=hS.obj id _ ho;refine⟨hT,ck,?_⟩;rcases hw with⟨h1,h2⟩ | ⟨b,cap,cur,h1,h2,h3,h4,h5,h6,h7⟩
 ·exact .inl ⟨h1,aL h2⟩
 ·refine .inr ⟨b,cap,cur,h1,h3,h4,h5,h6,fun i j x hx=>⟨(hr i j x hx).1,?_⟩⟩;obtain⟨v,h8,h9⟩:=(hr i j x hx).2;refine⟨v,?_,h9⟩;rw[kt h3];rw[← h7]at h8
  have C0:i*sz+j<xs.length*sz:=by
   rcases fp (i*sz+j) (xs.length*sz)with h | h
   ·exact h
   ·rw[bn (by simp;omega)]at h8;simp at h8
  rw[bj C0]at h8;simpa using h8
theorem fF.IL{P:Program}{B:Nat}{w0 w:World}{J:ae}{μ:Mem}(hS:fF P B w0 w J μ){id T:Nat}{cs:List V}(ho:J[id]?=some (.box T cs)):
  ∃ b vs,μ id=.pointer (some ⟨b,0,none⟩)∧B≤b∧w.heap[b]?=some (.cells vs T (0,0))∧vs.size=cs.length∧∀ j x,cs[j]?=some x→∃ u,w.cell? ⟨b,j,none⟩=some u∧VR w J μ x u:=by
 obtain⟨b,vs,h1,h2,h3,h4,h5⟩:=hS.obj id _ ho;refine⟨b,vs,h1,h2,h3,h4,fun j x hx=>?_⟩;obtain⟨u,h6,h7⟩:=h5 j x hx;exact⟨u,by rw[kt h3];exact h6,h7⟩
theorem Ea{P:Program}{w:World}{J:ae}{μ:Mem}{T:TypeId}{t:TypeInfo}{b off:Nat}{k:Option Nat}{row:List V}(ht:P.info? T=some t)
  (hk:(k=none∧eD P T=some false)∨(k=some t.size∧eD P T=some true)) (d:Nat)
  (hc:∀ j y,row[d+j]?=some y→∃ u,w.cell? ⟨b,off+j,none⟩=some u∧VR w J μ y u) :
  (k=none→∀ y,row[d]?=some y→∃ v,(Instr.loadAt T (.pointer (some ⟨b,off,none⟩))).run P w=.ok v w∧VR w J μ y v) ∧
  (∀ n,k=some n→d+n≤row.length→∃ v,(Instr.loadAt T (.pointer (some ⟨b,off,none⟩))).run P w=.ok v w∧VR w J μ (.agg ((row.drop d).take n)) v):=by
 constructor
 ·rintro rfl y hy;obtain⟨u,h1,h2⟩:=hc 0 y hy;have hT:=hk.resolve_right (by simp);exact⟨u,xq hT.2 (by simpa using h1),h2⟩
 ·rintro n rfl hn;have hT:=hk.resolve_left (by simp);simp only[aa]at hT;obtain⟨rfl,hT⟩:=hT
  have hf:∀ j,j<t.size→∃ u,w.cell? ⟨b,off+j,none⟩=some u∧∃ y,row[d+j]?=some y∧VR w J μ y u:=by
   intro j hj;have dp:d+j<row.length:=by omega
   obtain⟨u,h1,h2⟩:=hc j row[d+j] (al dp);exact⟨u,h1,row[d+j],al dp,h2⟩
  let f:Nat→Value:=fun j=>(w.cell? ⟨b,off+j,none⟩).getD undef
  have Vw:∀ j,j<t.size→w.cell? ⟨b,off+j,none⟩=some (f j):=by
   intro j hj;obtain⟨u,h1,_⟩:=hf j hj;simp[f,h1]
  refine⟨.agg ((List.range t.size).map f).toArray,xr f hT ht Vw,.agg _ _ (by simp;omega) ?_⟩;intro i y hy
  have hi:i<t.size:=by
   rcases fp i t.size with h | h
   ·exact h
   ·rw[bn (by simp;omega)]at hy;simp at hy
  rw[bj hi,gw]at hy;obtain⟨u,h1,y',h2,h3⟩:=hf i hi;rw[h2]at hy;simp only[aa]at hy;subst hy
  have:(((List.range t.size).map f).toArray.getD i undef)=u:=by
   have h4:f i=u:=by simp[f,h1]
   simp[hi,h4]
  rw[this];exact h3
theorem uy{P:Program}{o:Oper}{a:Act}{w:World}{J:ae}{μ:Mem}{T:TypeId}{x:Operand}{t:TypeInfo}{b off:Nat}{k:Option Nat}{row:List V}
  (ho:o.op=.load T x) (hx:a.eval x=.pointer (some ⟨b,off,none⟩)) (ht:P.info? T=some t)
  (hk:(k=none∧eD P T=some false)∨(k=some t.size∧eD P T=some true)) (d:Nat)
  (hc:∀ j y,row[d+j]?=some y→∃ u,w.cell? ⟨b,off+j,none⟩=some u∧VR w J μ y u) :
  (k=none→∀ y,row[d]?=some y→Yields P o a w J μ y)∧(∀ n,k=some n→d+n≤row.length→Yields P o a w J μ (.agg ((row.drop d).take n))):=by
 obtain⟨h1,h2⟩:=Ea (P:=P) (row:=row) ht hk d hc;constructor
 ·intro hk y hy;obtain⟨v,h3,h4⟩:=h1 hk y hy;exact .pure (v:=v) (by simp[execOp,ho,hx,h3]) h4
 ·intro n hk hn;obtain⟨v,h3,h4⟩:=h2 n hk hn;exact .pure (v:=v) (by simp[execOp,ho,hx,h3]) h4
section cD
variable {P:Program} {o:Oper} {a:Act} {B:Nat} {w0 w:World} {J:ae} {μ:Mem} {fr:List V} (hF:FR w J μ fr a) (hS:fF P B w0 w J μ)
include hF hS
theorem LH{T:TypeId}{x:Operand}{x':O}{t:TypeInfo}{k:Option Nat}(ho:o.op=.load T x)(hx:cO x=some x')(ht:P.info? T=some t)
  (hk:(k=none∧eD P T=some false)∨(k=some t.size∧eD P T=some true)) {ob:Prop} {y:V} (h:aQ fr J (.load k x')=some (ob,y)) (cX:ob):Yields P o a w J μ y:=by
 have h1:=cK hF hx;simp only[aQ]at h;split at h
 ·rename_i id off hp;rw[hp]at h1;obtain⟨b,hm,hv,_⟩:=h1.nk;split at h
  ·rename_i T' cs hb;obtain⟨b',vs,hm',hB,hh,fE,mS⟩:=hS.IL hb;rw[hm]at hm';simp only[Value.pointer.injEq,aa,Addr.mk.injEq,fA]at hm';subst hm';have hl:=uy (P:=P) (J:=J) (μ:=μ) (row:=cs) (k:=k) ho hv ht hk off (fun j z hz=>mS _ z hz);split at h
   ·split at h
    ·rename_i z hz;simp only[aa,an]at h;obtain⟨_,rfl⟩:=h;exact hl.1 rfl _ hz
    ·simp at h
   ·simp only[aa,an]at h;obtain⟨rfl,rfl⟩:=h;exact hl.2 _ rfl cX
  ·simp at h
 ·rename_i sz xs i off hp;rw[hp]at h1;obtain⟨b,o',f,hv,hi,ck,hc,QG⟩:=h1.Cw;have Gu:xs[i]?=some xs[i]:=al hi
  have hl:=uy (P:=P) (J:=J) (μ:=μ) (row:=xs[i]) (k:=k) ho hv ht hk off (fun j z hz=>by
   have h2:fw xs i (off+j)=some z:=by rw[nK Gu];exact hz
   exact⟨f (off+j),by rw[mb];exact(hc _ z h2).1,QG _ z h2⟩)
  split at h
  ·split at h
   ·rename_i z hz;simp only[aa,an]at h;obtain⟨_,rfl⟩:=h;rw[nK Gu]at hz;exact hl.1 rfl _ hz
   ·simp at h
  ·simp only[aa,an]at h;obtain⟨rfl,rfl⟩:=h;have hg:xs.getD i []=xs[i]:=by simp[hi]
   rw[hg]at cX ⊢;exact hl.2 _ rfl cX
 ·rename_i id g i off hp;rw[hp]at h1;split at h
  ·rename_i E sz by' g' sh xs hb;split at h
   ·rename_i hg;subst hg;obtain⟨hi,hv⟩:=h1.Cu hb;obtain⟨_,ck,hr⟩:=hS.rowAt hb;have Gu:xs[i]?=some xs[i]:=al hi;rcases hr with⟨_,hn⟩ | ⟨b,cap,cur,hm,hh,_,_,_,hr⟩
    ·subst hn;simp at hi
    ·have hv':a.eval x=.pointer (some ⟨b,i*sz+off,none⟩):=by rw[hv,hm];rfl
     have hl:=uy (P:=P) (J:=J) (μ:=μ) (row:=xs[i]) (k:=k) ho hv' ht hk off (fun j z hz=>by
      have h2:fw xs i (off+j)=some z:=by rw[nK Gu];exact hz
      obtain⟨_,u,h3,h4⟩:=hr _ _ z h2;exact⟨u,by rw[mb];exact h3,h4⟩)
     split at h
     ·split at h
      ·rename_i z hz;simp only[aa,an]at h;obtain⟨_,rfl⟩:=h;rw[nK Gu]at hz;exact hl.1 rfl _ hz
      ·simp at h
     ·simp only[aa,an]at h;obtain⟨rfl,rfl⟩:=h;have hg:xs.getD i []=xs[i]:=by simp[hi]
      rw[hg]at cX ⊢;exact hl.2 _ rfl cX
   ·simp at h
  ·simp at h
 ·simp at h
theorem Po{x:Operand}{x':O}(ho:o.op=.nilCheck x)(hx:cO x=some x'){ob:Prop}{y:V}(h:aQ fr J (.di x')=some (ob,y)):Yields P o a w J μ y:=by
 have h1:=cK hF hx
 have cQ:∀ ad,a.eval x=.pointer (some ad)→(execOp a.eval o).run P w=.ok (.value (.pointer (some ad))) w:=by
  intro ad he;simp[execOp,ho,he]
 simp only[aQ]at h;split at h<;>(try simp only[aa,an,reduceCtorEq]at h)
 ·rename_i id off hp;obtain⟨_,rfl⟩:=h;rw[hp]at h1;have h2:=h1;obtain⟨b,hm,hv,hb⟩:=h1.nk;rw[hv]at h2;exact .pure (cQ _ hv) h2
 ·rename_i sz xs i off hp;obtain⟨_,rfl⟩:=h;rw[hp]at h1;have h2:=h1;obtain⟨b,o',f',hv,_⟩:=h1.Cw;rw[hv]at h2;exact .pure (cQ _ hv) h2
 ·rename_i id g i off hp;split at h
  ·rename_i E sz by' g' sh xs ho';split at h<;>simp only[aa,an,reduceCtorEq]at h;rename_i hg;subst hg;obtain⟨_,rfl⟩:=h;rw[hp]at h1;have h2:=h1;obtain⟨hi,hv⟩:=h1.Cu ho';obtain⟨_,_,hr⟩:=hS.rowAt ho';rcases hr with⟨_,hn⟩ | ⟨b,cap,cur,hm,_⟩
   ·subst hn;simp at hi
   ·have hv':a.eval x=.pointer (some ⟨b,i*sz+off,none⟩):=by rw[hv,hm];rfl
    rw[hv']at h2;exact .pure (cQ _ hv') h2
  ·simp at h
theorem SU{x y:Operand}{x' y':O}{T ts}(ho:o.op=.call { callee:=.builtin .max,args:=#[x,y],argTypes:=ts })(hx:cO x=some x')(hy:cO y=some y'){ob:Prop}{z:V}(h:aQ fr J (.max2 x' y')=some (ob,z))(_:T=ts):Yields P o a w J μ z:=by
 have h1:=cK hF hx;have h2:=cK hF hy;simp only[aQ]at h;split at h
 ·rename_i k p k' q hp hq;simp only[aa,an]at h;obtain⟨_,rfl⟩:=h;rw[hp]at h1;rw[hq]at h2;refine .pure (v:=.int k (if p<q then q else p)) ?_ (.i _ _);simp[execOp,ho,resolve,invoke,builtin,h1.ey,h2.ey,run_max_int2]
 ·simp at h
theorem SR{x y:Operand}{x' y':O}{ts}(ho:o.op=.call { callee:=.builtin .min,args:=#[x,y],argTypes:=ts })(hx:cO x=some x')(hy:cO y=some y'){ob:Prop}{z:V}(h:aQ fr J (.min2 x' y')=some (ob,z)):Yields P o a w J μ z:=by
 have h1:=cK hF hx;have h2:=cK hF hy;simp only[aQ]at h;split at h
 ·rename_i k p k' q hp hq;simp only[aa,an]at h;obtain⟨_,rfl⟩:=h;rw[hp]at h1;rw[hq]at h2;refine .pure (v:=.int k (if q<p then q else p)) ?_ (.i _ _);simp[execOp,ho,resolve,invoke,builtin,h1.ey,h2.ey,run_min_int2]
 ·simp at h
end cD
theorem tA{P:Program}{t e:TypeId}(h:P.underlying t=some (.slice e)):P.elem t=e:=by simp[Program.elem,h]
theorem mP.row{w:World}{J:ae}{μ:Mem}{xs:List (List V)}{sz b o:Nat}{f:Nat→Nat→Value}(h:mP w J μ xs sz b o f){i:Nat}(hi:i<xs.length)(off:Nat):
  VR w J μ (.ep sz xs i off) (.pointer (some ⟨b,o+i*sz+off,none⟩)) :=
 .ep sz xs i off b (o+i*sz) (f i) hi h.1 (fun j x hx=>h.2.1 i j x hx) (fun j x hx=>h.2.2 i j x hx)
theorem wQ{xs:List (List V)}{lo n i j:Nat}{x:V}(h:fw ((xs.drop lo).take n) i j=some x):fw xs (lo+i) j=some x:=by
 obtain⟨r,h1,h2⟩:=ib h
 have hi:i<n:=by
  rcases fp i n with h | h
  ·exact h
  ·rw[bn (by simp;omega)]at h1;simp at h1
 rw[bj hi,gw]at h1;rw[nK h1,h2]
theorem mP.sub{w:World}{J:ae}{μ:Mem}{xs:List (List V)}{sz b o:Nat}{f:Nat→Nat→Value}(h:mP w J μ xs sz b o f)(lo n:Nat):
  mP w J μ ((xs.drop lo).take n) sz b (o+lo*sz) (fun i j=>f (lo+i) j):=by
 refine⟨fun r hr=>h.1 r (pz (dT hr)),fun i j x hx=>?_,fun i j x hx=>h.2.2 _ _ _ (wQ hx)⟩;have:=h.2.1 _ _ _ (wQ hx);have e:o+lo*sz+i*sz+j=o+(lo+i)*sz+j:=by rw[cB];omega
 rw[e];exact this
theorem zG{P:Program}{w:World}{t e:TypeId}{ti:TypeInfo}(ht:P.underlying t=some (.slice e))(hi:P.info? e=some ti)(a:Option Addr)(len cap:Nat)(lo hi':Option Value)(l h:Int)
  (nM:(lo=none∧l=0)∨∃ k,lo=some (.int k l)) (Iv:(hi'=none∧h=len)∨∃ k,hi'=some (.int k h)) (h0:0≤l) (h1:l≤h) (h2:h≤cap) :
  (Instr.sliceAt t (.slice a len cap) lo hi' none).run P w=.ok (kK (.slice a len cap) l.toNat h.toNat ti.size) w:=by
 have ht':P.underlying t=some (.slice (P.elem t)):=by rw[tA ht];exact ht
 have hs:(sizeOf (P.elem t)).run P w=.ok ti.size w:=by rw[tA ht];simp[sizeOf,typeInfo,hi]
 have YD:0≤h:=by omega
 rw[run_sliceAt_slice (w:=w) t _ lo hi' none ht'];have eh:(h.toNat:Int)=h:=Int.toNat_of_nonneg YD;rcases nM with⟨rfl,rfl⟩ | ⟨k,rfl⟩<;>rcases Iv with⟨rfl,rfl⟩ | ⟨k',rfl⟩
 ·rw[run_slice_all (w:=w) t a len cap ht',hs];simp[sliced,kK]
 ·rw[run_slice_h (w:=w) t a len cap ht' k' h YD h2,hs];simp[sliced,kK]
 ·rw[run_slice_l (w:=w) t a len cap ht' k l h0 h1,hs];simp[sliced,kK]
 ·rw[run_slice_lh (w:=w) t a len cap ht' k k' l h h0 h1 h2,hs];simp[sliced,kK]
theorem xp{P:Program}{w:World}{t:TypeId}(ht:P.underlying t=some .string)(s:ByteArray)(lo hi':Option Value)(l h:Int)
  (nM:(lo=none∧l=0)∨∃ k,lo=some (.int k l)) (Iv:(hi'=none∧h=s.size)∨∃ k,hi'=some (.int k h)) (h0:0≤l) (h1:l≤h) (h2:h≤s.size) :
  (Instr.sliceAt t (.string s) lo hi' none).run P w=.ok (.string (s.extract l.toNat h.toNat)) w:=by
 have YD:0≤h:=by omega
 rw[run_sliceAt_string (w:=w) t _ lo hi' none ht];rcases nM with⟨rfl,rfl⟩ | ⟨k,rfl⟩<;>rcases Iv with⟨rfl,rfl⟩ | ⟨k',rfl⟩
 ·rw[run_slice_string_all (w:=w) t s ht];simp
 ·rw[run_slice_string_to_if (w:=w) t s k' h ht,aI ⟨YD,h2⟩];simp
 ·rw[run_slice_string_from_if (w:=w) t s k l ht,aI ⟨h0,by omega⟩];simp
 ·rw[run_slice_string_if (w:=w) t s k k' l h ht,aI ⟨YD,h2⟩,aI ⟨h0,h1⟩]
theorem CH(s:ByteArray)(i j:Nat):(s.extract i j).data.toList=(s.data.toList.drop i).take (j - i):=by
 rw[ByteArray.data_extract,Array.toList_extract,List.extract_eq_take_drop]
section cD
variable {P:Program} {o:Oper} {a:Act} {B:Nat} {w0 w:World} {J:ae} {μ:Mem} {fr:List V} (hF:FR w J μ fr a) (hS:fF P B w0 w J μ)
include hF hS
theorem VG{T E:TypeId}{t:TypeInfo}{x i:Operand}{x' i':O}(ho:o.op=.indexAddr T x i)(hT:P.underlying T=some (.slice E))(ht:P.info? E=some t)(hx:cO x=some x')(hi:cO i=some i')
  {ob:Prop} {y:V} (h:aQ fr J (.idx t.size x' i')=some (ob,y)) (cX:ob):Yields P o a w J μ y:=by
 have h1:=cK hF hx;have h2:=cK hF hi;have hT':P.underlying T=some (.slice (P.elem T)):=by rw[tA hT];exact hT
 simp only[aQ]at h;split at h
 ·rename_i k n hn;rw[hn]at h2;have h2:=h2.ey
  have cQ:∀ b off len cap,a.eval x=.slice (some ⟨b,off,none⟩) len cap→0≤n→n<len→(execOp a.eval o).run P w=.ok (.value (.pointer (some ⟨b,off+n.toNat*t.size,none⟩))) w:=by
   intro b off len cap he Nx Is;simp[execOp,ho,he,h2,run_indexAt_slice (w:=w) T _ len cap k n hT',Nx,Is,tA hT,sizeOf,typeInfo,ht,Addr.add_lit]
  split at h
  ·rename_i sz xs hp;split at h<;>simp only[aa,an,reduceCtorEq]at h;rename_i fE;subst fE;obtain⟨rfl,rfl⟩:=h;rw[hp]at h1;rcases h1.x7 with⟨rfl,_⟩ | ⟨b,off,cap,f,hv,_,_,hr⟩
   ·simp at cX;omega
   ·refine .pure (cQ b off _ cap hv cX.1 cX.2) ?_;exact hr.row (by omega) 0
  ·rename_i sz xs hp;split at h<;>simp only[aa,an,reduceCtorEq]at h;rename_i fE;subst fE;obtain⟨rfl,rfl⟩:=h;rw[hp]at h1;rcases h1.np with⟨rfl,_⟩ | ⟨b,off,f,hv,_,hr⟩
   ·simp at cX;omega
   ·refine .pure (cQ b off _ _ hv cX.1 cX.2) ?_;exact hr.row (by omega) 0
  ·rename_i id g hp;split at h
   ·rename_i E' sz by' g' sh xs hb;split at h<;>simp only[aa,an,reduceCtorEq]at h;rename_i hg;obtain⟨rfl,rfl⟩:=hg;obtain⟨rfl,rfl⟩:=h;rw[hp]at h1;have hv:=h1.jS hb;obtain⟨_,_,hr⟩:=hS.rowAt hb;rcases hr with⟨_,hn⟩ | ⟨b,cap,cur,hm,_⟩
    ·subst hn;simp at cX;omega
    ·refine .pure (cQ b 0 _ cap (hv.trans hm) cX.1 cX.2) (.rp id g _ _ _ (ab.1 hb).1 ?_);intro E2 sz2 by2 g2 sh2 xs2 h3;rw[hb]at h3;simp only[aa,Ob.row.injEq]at h3;obtain⟨rfl,rfl,rfl,rfl,rfl,rfl⟩:=h3;exact⟨au _,fun _=>⟨by omega,by rw[hm];simp[V7]⟩⟩
   ·simp at h
  ·rename_i id g lo hi hp;split at h
   ·rename_i E' sz by' g' sh xs hb;split at h<;>simp only[aa,an,reduceCtorEq]at h;rename_i hg;obtain⟨rfl,rfl⟩:=hg;obtain⟨rfl,rfl⟩:=h;rw[hp]at h1;obtain⟨hlh,Iv,hv⟩:=h1.oI hb;obtain⟨_,_,hr⟩:=hS.rowAt hb;rcases hr with⟨_,hn⟩ | ⟨b,cap,cur,hm,_,Gz,_⟩
    ·subst hn;simp at Iv;subst Iv;simp at cX;omega
    ·have ig:¬ cap=lo:=by omega
     have Vo:a.eval x=.slice (some ⟨b,lo*t.size,none⟩) (hi - lo) (cap - lo):=by rw[hv,hm];simp[kK,ig,Addr.add_lit]
     refine .pure (cQ b (lo*t.size) _ (cap - lo) Vo cX.1 cX.2) (.rp id g _ _ _ (ab.1 hb).1 ?_);intro E2 sz2 by2 g2 sh2 xs2 h3;rw[hb]at h3;simp only[aa,Ob.row.injEq]at h3;obtain⟨rfl,rfl,rfl,rfl,rfl,rfl⟩:=h3;exact⟨au _,fun _=>⟨by omega,by rw[hm];simp[V7,cB]⟩⟩
   ·simp at h
  ·rename_i id m hp;split at h<;>simp only[aa,an,reduceCtorEq]at h;rename_i Gw;obtain⟨rfl,rfl⟩:=h;rw[hp]at h1;obtain⟨b,hv,hm,Yu⟩:=h1.Ie;refine .pure (cQ b 0 _ _ hv cX.1 cX.2) ?_;rw[Gw,CV,bo];exact .ptr id _ b Yu hm
  ·simp at h
 ·simp at h
theorem SY{T E:TypeId}{n:Nat}{t:TypeInfo}{x i:Operand}{x' i':O}(ho:o.op=.indexAddr T x i)(hT:P.underlying T=some (.array n E))(ht:P.info? E=some t)(hx:cO x=some x')(hi:cO i=some i')
  {ob:Prop} {y:V} (h:aQ fr J (.Fc n t.size x' i')=some (ob,y)) (cX:ob):Yields P o a w J μ y:=by
 have h1:=cK hF hx;have h2:=cK hF hi;have hl:P.arrayLen T=n:=by simp[Program.arrayLen,hT]
 have he:P.elem T=E:=by simp[Program.elem,hT]
 have hT':P.underlying T=some (.array (P.arrayLen T) (P.elem T)):=by rw[hl,he];exact hT
 simp only[aQ]at h;split at h<;>simp only[aa,an,reduceCtorEq]at h;rename_i id off k m hp hq;obtain⟨rfl,rfl⟩:=h;rw[hp]at h1;rw[hq]at h2;obtain⟨b,hm,hv,hb⟩:=h1.nk;have h2:=h2.ey;refine .pure (v:=.pointer (some ⟨b,off+m.toNat*t.size,none⟩)) ?_ (.ptr id _ b hb hm);have hr:=run_indexAt_array (P:=P) (w:=w) T ⟨b,off,none⟩ k m hT';rw[hl,he,aI cX]at hr;have hs:(sizeOf E).run P w=.ok t.size w:=by simp[sizeOf,typeInfo,ht]
 rw[hs,Result.andThen_ok,Addr.add_lit]at hr;simp only[execOp,ho,hv,h2,Sem.run_bind,hr,Result.andThen_ok,Sem.run_pure]
theorem VP{T E:TypeId}{n:Nat}{t:TypeInfo}{x:Operand}{x':O}(ho:o.op=.slice T x none none none)(hT:P.underlying T=some (.array n E))(ht:P.info? E=some t)(h1s:t.size=1)(hx:cO x=some x')
  {ob:Prop} {y:V} (h:aQ fr J (.VD n x')=some (ob,y)) (cX:ob):Yields P o a w J μ y:=by
 have h1:=cK hF hx;have hl:P.arrayLen T=n:=by simp[Program.arrayLen,hT]
 have he:P.elem T=E:=by simp[Program.elem,hT]
 have hT':P.underlying T=some (.array (P.arrayLen T) (P.elem T)):=by rw[hl,he];exact hT
 simp only[aQ]at h;split at h<;>(try simp only[reduceCtorEq]at h);rename_i sz xs i hp;split at h<;>simp only[aa,an,reduceCtorEq]at h;rename_i hn;obtain⟨rfl,rfl⟩:=h;rw[hp]at h1;obtain⟨b,o',f,hv,hi,ck,hc,AY⟩:=h1.Cw;have hs:(sizeOf E).run P w=.ok t.size w:=by simp[sizeOf,typeInfo,ht]
 have hr:=run_sliceAt_array_all (P:=P) w T ⟨b,o',none⟩ hT';rw[hl,he,hs,Result.andThen_ok]at hr
 have ha:slicedAt ⟨b,o',none⟩ 0 n n t.size=.slice (some ⟨b,o',none⟩) n n:=by
  simp[slicedAt,Addr.add_lit]
 rw[ha]at hr;refine .pure (v:=.slice (some ⟨b,o',none⟩) n n) ?_ ?_
 ·simp only[execOp,ho,hv,dm,zr,Sem.run_bind,hr,Result.andThen_ok,Sem.run_pure]
 ·have eH:∀ (k j:Nat) (x:V),fw ((xs.getD i []).map fun c=>[c]) k j=some x→j=0∧fw xs i k=some x:=by
   have hri:xs[i]?=some (xs.getD i []):=by simp[ar,al hi]
   intro k j x hx;simp only[fw,hri,gv];generalize xs.getD i []=row at hx;simp only[fw,bf]at hx;cases hk:row[k]? with
   | none=>simp[hk]at hx
   | some c =>
    simp only[hk,bY,gv]at hx;cases j with
    | zero =>
     simp only[aq]at hx;exact⟨rfl,hx⟩
    | succ j=>simp at hx
  have h6:=VR.sl (w:=w) (J:=J) (μ:=μ) 1 ((xs.getD i []).map fun c=>[c]) b o' n (fun k _=>f k) (by simp only[ah];omega) (by unfold maxLen;omega) (by simp)
   (fun k j x hx=>by
    obtain⟨rfl,h7⟩:=eH k j x hx;have:=hc k x h7;simpa using this)
   (fun k j x hx=>AY k x (eH k j x hx).2)
  simp only[ah]at h6;rw[hn]at h6;exact h6
theorem SO{T:TypeId}{x i:Operand}{x' i':O}(ho:o.op=.index T x i)(hT:P.underlying T=some .string)(hx:cO x=some x')(hi:cO i=some i')
  {ob:Prop} {y:V} (h:aQ fr J (.ft x' i')=some (ob,y)) (cX:ob):Yields P o a w J μ y:=by
 have h1:=cK hF hx;have h2:=cK hF hi;simp only[aQ]at h;split at h<;>simp only[aa,an,reduceCtorEq]at h;rename_i l k n hp hn;obtain⟨rfl,rfl⟩:=h;rw[hp]at h1;rw[hn]at h2;obtain⟨s,hv,hl,_⟩:=h1.kG;have fE:s.size=l.length:=by rw[← hl];exact bsize s
 refine .pure (v:=.int .u8 (l.getD n.toNat 0).toNat) ?_ (.i _ _);have hc:0≤n∧n<s.size:=by rw[fE];exact cX
 have dp:n.toNat<l.length:=by omega
 have hb:s[n.toNat]'(by omega)=l.getD n.toNat 0:=by
  subst hl;rw[ar,al dp];simp[ByteArray.getElem_eq_getElem_data]
 have h3:=run_index_string (P:=P) (w:=w) T s k n hT;rw[dif_pos hc,hb]at h3;simp only[execOp,ho,hv,h2.ey,Sem.run_bind,h3,Result.andThen_ok,Sem.run_pure]
theorem SM{T:TypeId}{f:Nat}{fs:Array Field}{fd:Field}{x:Operand}{x':O}(ho:o.op=.field T x f)(hT:P.underlying T=some (.struct fs))(hf:fs[f]?=some fd)(hA:eD P fd.type=some false)(hx:cO x=some x')
  {ob:Prop} {y:V} (h:aQ fr J (.IX fd.offset x')=some (ob,y)):Yields P o a w J μ y:=by
 have h1:=cK hF hx;simp only[aQ]at h;split at h
 ·rename_i xs hp;rw[hp]at h1;obtain⟨vs,hv,hl,AY⟩:=h1.gA;split at h<;>simp only[aa,an,reduceCtorEq]at h;rename_i z hz;obtain⟨_,rfl⟩:=h;have dp:fd.offset<vs.size:=by rw[← hl];exact(ab.1 hz).1
  have hz':vs[fd.offset]?=some (vs.getD fd.offset undef):=by simp[dp]
  refine .pure (v:=vs.getD fd.offset undef) ?_ (AY _ _ hz);simp only[execOp,ho,hv,Instr.field,run_underlying hT,hf,asAgg,part,jt hA,Sem.run_bind,Sem.run_pure,Result.andThen_ok,aA,aJ,hz']
 ·simp at h
theorem SL{T E:TypeId}{n:Nat}{x i:Operand}{x' i':O}(ho:o.op=.index T x i)(hT:P.underlying T=some (.array n E))(hA:eD P E=some false)(hc:P.cellsOf E=1)(hx:cO x=some x')(hi:cO i=some i')
  {ob:Prop} {y:V} (h:aQ fr J (.IW n x' i')=some (ob,y)) (cX:ob):Yields P o a w J μ y:=by
 have h1:=cK hF hx;have h2:=cK hF hi;simp only[aQ]at h;split at h<;>simp only[aa,an,reduceCtorEq]at h;rename_i xs k j hp hn;obtain⟨rfl,rfl⟩:=h;rw[hp]at h1;rw[hn]at h2;obtain⟨vs,hv,hl,AY⟩:=h1.gA;obtain⟨h0,Zg,qd⟩:=cX;have hj:j.toNat<xs.length:=by omega
 have Zf:j.toNat<vs.size:=by omega
 have hz':vs[j.toNat]?=some (vs.getD j.toNat undef):=by simp[Zf]
 have T6:∃ ti,P.info? E=some ti:=by
  unfold eD Program.underlying at hA;cases h:P.info? E with
  | none=>simp[h]at hA
  | some i=>exact⟨i,rfl⟩
 obtain⟨ti,Sk⟩:=T6
 have hs:(sizeOf E).run P w=.ok 1 w:=by
  have hc':ti.size=1:=by simpa[Program.cellsOf,Sk]using hc
  simp[sizeOf,typeInfo,Sk,hc']
 have hg:xs.getD j.toNat .u=xs[j.toNat]:=by rw[ar,al hj];rfl
 rw[hg];refine .pure (v:=vs.getD j.toNat undef) ?_ (AY _ _ (al hj));have hcj:0≤j∧j<(n:Int):=⟨h0,Zg⟩;simp only[execOp,ho,hv,h2.ey,Instr.index,asIntOf,run_underlying hT,part,jt hA,Sem.run_bind,Sem.run_pure,Result.andThen_ok,aI hcj,hs,CV,aA,aJ,hz']
theorem SX{T E:TypeId}{t:TypeInfo}{x hh m:Operand}{x' h' m':O}(ho:o.op=.slice T x none (some hh) (some m))(hT:P.underlying T=some (.slice E))(ht:P.info? E=some t)(hx:cO x=some x')(hh':cO hh=some h')(hm:cO m=some m')
  {ob:Prop} {y:V} (h:aQ fr J (.clip t.size x' h' m')=some (ob,y)) (cX:ob):Yields P o a w J μ y:=by
 have h1:=cK hF hx;have h2:=cK hF hh';have h3:=cK hF hm;simp only[aQ]at h;split at h
 ·rename_i k1 p k2 q hp hq;rw[hp]at h2;rw[hq]at h3;split at h
  ·rename_i sz xs tQ;split at h<;>simp only[aa,an,reduceCtorEq]at h;rename_i fE;obtain⟨rfl,rfl⟩:=h;subst fE;rw[tQ]at h1;obtain⟨h0,Zb,hqn⟩:=cX;have hs:(sizeOf E).run P w=.ok t.size w:=by simp[sizeOf,typeInfo,ht]
   have cQ:∀ (b:Option Addr) (n c:Nat),a.eval x=.slice b n c→q≤c→(execOp a.eval o).run P w=.ok (.value (.slice (if q.toNat=0 then b else b.map (·.add 0)) p.toNat q.toNat)) w:=by
    intro b n c he hqc;have c1:0≤q∧q≤(c:Int):=by omega
    have c2:p≤max q 0:=by omega
    simp[execOp,ho,he,h2.ey,h3.ey,Instr.sliceAt,Instr.slice,Instr.sliceBounds,Instr.sliceBound,asIntOf,run_underlying hT,c1,c2,h0,hs]
   rcases h1.x7 with⟨rfl,b,hv⟩ | ⟨b,off,cap,f,hv,hc,hm,hr⟩
   ·have Fi:p=0:=by simp at hqn;omega
    have O4:q=0:=by simp at hqn;omega
    subst Fi;subst O4;refine .pure (cQ b 0 0 hv (by omega)) ?_;simp only[Vg,aO,jC];cases b with
    | none=>exact .xl _
    | some b=>exact .sle _ _
   ·refine .pure (cQ _ _ cap hv (by omega)) ?_;have hlen:(xs.take p.toNat).length=p.toNat:=by simp;omega
    have sA:=hr.sub 0 p.toNat;simp only[lj,K9,dm]at sA;have h5:=VR.sl (w:=w) (J:=J) (μ:=μ) t.size _ b _ q.toNat _ (by rw[hlen];omega) (by omega) sA.1 sA.2.1 sA.2.2;rw[hlen]at h5;split
    ·exact h5
    ·simpa[Addr.add_lit]using h5
  ·simp at h
 ·simp at h
theorem SN{T:TypeId}{x:Operand}{x':O}(ho:o.op=.call { callee:=.builtin .len,args:=#[x],argTypes:=#[T] })(hT:P.underlying T=some .string)(hx:cO x=some x')
  {ob:Prop} {y:V} (h:aQ fr J (.len true x')=some (ob,y)):Yields P o a w J μ y:=by
 have h1:=cK hF hx;simp only[aQ]at h;split at h<;>simp only[aa,an,reduceCtorEq]at h;rename_i l hp;obtain⟨_,rfl⟩:=h;rw[hp]at h1;obtain⟨s,hv,hl,_⟩:=h1.kG;have fE:s.size=l.length:=by rw[← hl];exact bsize s
 refine .pure (v:=.int .i64 l.length) ?_ (.i _ _);simp[execOp,ho,resolve,invoke,builtin,hv,run_len_string (w:=w) T _ s hT,goInt,fE]
theorem VF{T E:TypeId}{x:Operand}{x':O}(ho:o.op=.call { callee:=.builtin .len,args:=#[x],argTypes:=#[T] })(hT:P.underlying T=some (.slice E))(hx:cO x=some x')
  {ob:Prop} {y:V} (h:aQ fr J (.len false x')=some (ob,y)):Yields P o a w J μ y:=by
 have h1:=cK hF hx;have hT':P.underlying T=some (.slice (P.elem T)):=by rw[tA hT];exact hT
 have cQ:∀ b n c,a.eval x=.slice b n c→Yields P o a w J μ (.i .i64 n):=by
  intro b n c he;refine .pure (v:=.int .i64 n) ?_ (.i _ _);simp[execOp,ho,resolve,invoke,builtin,he,run_len_slice (w:=w) T _ b n c hT',goInt]
 simp only[aQ]at h;split at h<;>(try simp only[aa,an,reduceCtorEq]at h)
 ·rename_i hp;obtain⟨_,rfl⟩:=h;rw[hp]at h1;exact cQ _ _ _ h1.kp
 ·rename_i sz xs hp;obtain⟨_,rfl⟩:=h;rw[hp]at h1;rcases h1.np with⟨rfl,hv⟩ | ⟨b,off,f,hv,_⟩
  ·exact cQ _ _ _ hv
  ·exact cQ _ _ _ hv
 ·rename_i sz xs hp;obtain⟨_,rfl⟩:=h;rw[hp]at h1;rcases h1.x7 with⟨rfl,_,hv⟩ | ⟨b,off,cap,f,hv,_⟩
  ·exact cQ _ _ _ hv
  ·exact cQ _ _ _ hv
 ·rename_i id g hp;split at h
  ·rename_i E' sz by' g' sh xs hb;split at h<;>simp only[aa,an,reduceCtorEq]at h;rename_i hg;subst hg;obtain⟨_,rfl⟩:=h;rw[hp]at h1;have hv:=h1.jS hb;obtain⟨_,_,hr⟩:=hS.rowAt hb;rcases hr with⟨hm,hn⟩ | ⟨b,cap,cur,hm,_⟩
   ·subst hn;exact cQ _ _ _ (hv.trans hm)
   ·exact cQ _ _ _ (hv.trans hm)
  ·simp at h
 ·rename_i id g lo hi hp;split at h
  ·rename_i E' sz by' g' sh xs hb;split at h<;>simp only[aa,an,reduceCtorEq]at h;rename_i hg;subst hg;obtain⟨_,rfl⟩:=h;rw[hp]at h1;obtain⟨_,_,hv⟩:=h1.oI hb;obtain⟨_,_,hr⟩:=hS.rowAt hb;rcases hr with⟨hm,hn⟩ | ⟨b,cap,cur,hm,_⟩
   ·rw[hm]at hv;exact cQ _ _ _ hv
   ·rw[hm]at hv;exact cQ _ _ _ hv
  ·simp at h
 ·rename_i id n hp;obtain⟨_,rfl⟩:=h;rw[hp]at h1;obtain⟨b,hv,_⟩:=h1.Ie;exact cQ _ _ _ hv
theorem LG{T:TypeId}{x:Operand}{lo hi:Option Operand}{x':O}{lo' hi':Option O}(ho:o.op=.slice T x lo hi none)(hT:P.underlying T=some .string)(hx:cO x=some x')(hl:rh lo=some lo')(hh:rh hi=some hi')
  {ob:Prop} {y:V} (h:aQ fr J (.eK x' lo' hi')=some (ob,y)) (cX:ob):Yields P o a w J μ y:=by
 have h1:=cK hF hx;simp only[aQ]at h;split at h
 ·rename_i l hp;rw[hp]at h1;obtain⟨s,hv,Sn,hm⟩:=h1.kG;have fE:s.size=l.length:=by rw[← Sn];exact bsize s
  split at h<;>simp only[aa,an,reduceCtorEq]at h;rename_i p q Iq Lr;obtain⟨rfl,rfl⟩:=h
  have nM:(lo.map a.eval=none∧p=0)∨∃ k,lo.map a.eval=some (.int k p):=by
   cases lo with
   | none =>
    simp only[rh,aa]at hl;subst hl;simp only[aa]at Iq;exact .inl ⟨rfl,Iq.symm⟩
   | some z =>
    simp only[rh,aj]at hl;obtain⟨z',hz,rfl⟩:=hl;have h4:=cK hF hz;dsimp only at Iq;split at Iq<;>simp only[aa,reduceCtorEq]at Iq;rename_i k p' hp';subst Iq;rw[hp']at h4;exact .inr ⟨k,by simp[h4.ey]⟩
  have Iv:(hi.map a.eval=none∧q=s.size)∨∃ k,hi.map a.eval=some (.int k q):=by
   cases hi with
   | none =>
    simp only[rh,aa]at hh;subst hh;simp only[aa]at Lr;exact .inl ⟨rfl,by omega⟩
   | some z =>
    simp only[rh,aj]at hh;obtain⟨z',hz,rfl⟩:=hh;have h4:=cK hF hz;dsimp only at Lr;split at Lr<;>simp only[aa,reduceCtorEq]at Lr;rename_i k p' hp';subst Lr;rw[hp']at h4;exact .inr ⟨k,by simp[h4.ey]⟩
  have hr:=xp (P:=P) (w:=w) hT s (lo.map a.eval) (hi.map a.eval) p q nM Iv cX.1 cX.2.1 (by have:=cX.2.2;omega);refine .pure (v:=.string (s.extract p.toNat q.toNat)) ?_ (.s _ _ ?_ ?_)
  ·simp[execOp,ho,hv,hr]
  ·rw[CH,Sn]
  ·have:=List.length_take_le (q.toNat - p.toNat) (l.drop p.toNat);have h5:(l.drop p.toNat).length≤l.length:=by simp
   simp only[bT,cy];omega
 ·simp at h
theorem Pk{T E:TypeId}{t:TypeInfo}{x:Operand}{lo hi:Option Operand}{x':O}{lo' hi':Option O}(ho:o.op=.slice T x lo hi none)(hT:P.underlying T=some (.slice E))(ht:P.info? E=some t)(hx:cO x=some x')(hl:rh lo=some lo')(hh:rh hi=some hi')
  {ob:Prop} {y:V} (h:aQ fr J (.slice t.size x' lo' hi')=some (ob,y)) (cX:ob):Yields P o a w J μ y:=by
 have h1:=cK hF hx;simp only[aQ]at h;split at h
 ·simp at h
 ·rename_i n hn;split at h
  ·rename_i p q Iq Lr
   have nM:(lo.map a.eval=none∧p=0)∨∃ k,lo.map a.eval=some (.int k p):=by
    cases lo with
    | none =>
     simp only[rh,aa]at hl;subst hl;simp only[aa]at Iq;exact .inl ⟨rfl,Iq.symm⟩
    | some z =>
     simp only[rh,aj]at hl;obtain⟨z',hz,rfl⟩:=hl;have h4:=cK hF hz;dsimp only at Iq;split at Iq<;>simp only[aa,reduceCtorEq]at Iq;rename_i k p' hp';subst Iq;rw[hp']at h4;exact .inr ⟨k,by simp[h4.ey]⟩
   have Iv:(hi.map a.eval=none∧q=(n:Int))∨∃ k,hi.map a.eval=some (.int k q):=by
    cases hi with
    | none =>
     simp only[rh,aa]at hh;subst hh;simp only[aa]at Lr;exact .inl ⟨rfl,by omega⟩
    | some z =>
     simp only[rh,aj]at hh;obtain⟨z',hz,rfl⟩:=hh;have h4:=cK hF hz;dsimp only at Lr;split at Lr<;>simp only[aa,reduceCtorEq]at Lr;rename_i k p' hp';subst Lr;rw[hp']at h4;exact .inr ⟨k,by simp[h4.ey]⟩
   have cQ:∀ b c,a.eval x=.slice b n c→0≤p→p≤q→q≤c→(execOp a.eval o).run P w=.ok (.value (kK (.slice b n c) p.toNat q.toNat t.size)) w:=by
    intro b c he Fi Zb hqc;have hr:=zG (P:=P) (w:=w) hT ht b n c (lo.map a.eval) (hi.map a.eval) p q nM Iv Fi Zb hqc;simp[execOp,ho,he,hr]
   have Ni:∀ xs b off cap f,a.eval x=.slice (some ⟨b,off,none⟩) xs.length cap→xs.length≤cap→cap≤maxLen→mP w J μ xs t.size b off f→n=xs.length→0≤p∧p≤q∧q≤n →
     Yields P o a w J μ (.sl t.size ((xs.drop p.toNat).take (q.toNat - p.toNat))):=by
    intro xs b off cap f he hc CZ hr hnx ⟨Fi,Zb,hqn⟩;subst hnx;refine .pure (cQ _ cap he Fi Zb (by omega)) ?_;have hlen:((xs.drop p.toNat).take (q.toNat - p.toNat)).length=q.toNat - p.toNat:=by simp;omega
    by_cases O9:cap=p.toNat
    ·have:q.toNat - p.toNat=0:=by omega
     simp only[kK,O9,aO,this,jC,eT];exact .sl t.size [] b off 0 (fun _ _=>undef) (by simp) (by simp[maxLen]) (by simp) (by simp[fw]) (by simp[fw])
    ·simp only[kK,O9,aJ,bY,Addr.add_lit];have:=hr.sub p.toNat (q.toNat - p.toNat);have h5:=VR.sl (w:=w) (J:=J) (μ:=μ) t.size _ b _ (cap - p.toNat) _ (by rw[hlen];omega) (by omega) this.1 this.2.1 this.2.2
     rwa [hlen]at h5
   split at h
   ·rename_i hp;simp only[aa,an]at h;obtain⟨rfl,rfl⟩:=h;rw[hp]at h1 hn;simp only[aa]at hn;obtain⟨rfl,rfl⟩:=cX;have hv:=h1.kp;subst hn;refine .pure (v:=.slice none 0 0) ?_ .nil;rw[cQ none 0 hv (by omega) (by omega) (by omega)];simp[kK]
   ·rename_i sz xs hp;simp only[aa,an]at h;obtain⟨rfl,rfl⟩:=h;rw[hp]at h1 hn;dsimp only at hn;split at hn<;>simp only[aa,reduceCtorEq]at hn;rename_i fE;subst fE;rcases h1.np with⟨rfl,hv⟩ | ⟨b,off,f,hv,hm,hr⟩
    ·simp only[ay]at hn;subst hn;have Fi:p=0:=by omega
     have O4:q=0:=by omega
     subst Fi;subst O4;refine .pure (cQ none 0 hv (by omega) (by omega) (by omega)) ?_;simp only[kK,Vg,aO,YZ,YX,eT];exact .xl _
    ·exact Ni xs b off _ f hv (au _) hm hr hn.symm cX
   ·rename_i sz xs hp;simp only[aa,an]at h;obtain⟨rfl,rfl⟩:=h;rw[hp]at h1 hn;dsimp only at hn;split at hn<;>simp only[aa,reduceCtorEq]at hn;rename_i fE;subst fE;rcases h1.x7 with⟨rfl,a0,hv⟩ | ⟨b,off,cap,f,hv,hc,hm,hr⟩
    ·simp only[ay]at hn;subst hn;have Fi:p=0:=by omega
     have O4:q=0:=by omega
     subst Fi;subst O4;refine .pure (cQ a0 0 hv (by omega) (by omega) (by omega)) ?_;simp only[kK,Vg,aO,YZ,YX,eT];cases a0 with
     | none=>exact .xl _
     | some a0=>exact .sle _ a0
    ·exact Ni xs b off cap f hv hc hm hr hn.symm cX
   ·rename_i id g hp;simp only[aa,an]at h;obtain⟨rfl,rfl⟩:=h;rw[hp]at h1 hn;dsimp only at hn;split at hn
    ·rename_i E' sz by' g' sh xs hb;split at hn<;>simp only[aa,reduceCtorEq]at hn;rename_i hg;obtain⟨rfl,rfl⟩:=hg;subst hn;have hv:=h1.jS hb;obtain⟨_,_,hr⟩:=hS.rowAt hb
     have XS:∀ v,μ id=v→VR w J μ (.sub id g p.toNat q.toNat) (kK v p.toNat q.toNat t.size):=by
      intro v hm;refine .sub id g _ _ _ (ab.1 hb).1 ?_;intro E2 sz2 by2 g2 sh2 xs2 h3;rw[hb]at h3;simp only[aa,Ob.row.injEq]at h3;obtain⟨rfl,rfl,rfl,rfl,rfl,rfl⟩:=h3;exact⟨au _,fun _=>⟨by omega,by omega,by rw[hm]⟩⟩
     rcases hr with⟨hm,hn⟩ | ⟨b,cap,cur,hm,_,kR,_⟩
     ·subst hn;exact .pure (cQ none 0 (hv.trans hm) cX.1 cX.2.1 (by simpa using cX.2.2)) (XS _ hm)
     ·exact .pure (cQ _ cap (hv.trans hm) cX.1 cX.2.1 (by have:=cX.2.2;omega)) (XS _ hm)
    ·simp at hn
   ·simp at h
  ·simp at h
end cD
end Go.Pm

/- A part of the proof of the statement of the last text of this claim; its conditions stand there. -/
import Derived.Deep.Slices
import Derived.Deep.Strs
import Derived.Test.YtkkjfegefckehaaGreatDoorB19
import Derived.Test.YtkkjfegefckehaaGreatDoorP3
set_option linter.all false

namespace Go.Proofs.Tryz
open Go Go.Pm Go.Bt Go.ChangeShapes Go.WideShapes Go.ChangeAt Go.RowKit Go.Proofs.YtkkjfegefckehaaGreatDoor
theorem kK{H:Type}{d:DataW H}:∀ {l:List (DataW H)},d∈l→Rows.uptoBulk d≤Rows.uptoBulkAll l
 | [],h=>by cases h
 | x::r,h=>by
  simp only[Rows.uptoBulkAll];rcases aU.1 h with rfl | h
  ·omega
  ·have:=kK h;omega
theorem Eb{H:Type}{d:DataW H}{l:List (DataW H)}(h:d∈l):Rows.uptoBulk d≤Rows.uptoBulk (.agg l):=by
 have:=kK h;simp only[Rows.uptoBulk];omega
theorem ju:prog.cellsOf 3=1∧prog.cellsOf 9=1∧prog.cellsOf 25=1∧prog.cellsOf 22=1∧prog.cellsOf 76=3∧prog.cellsOf 24=3∧prog.cellsOf 27=8∧prog.cellsOf 29=13:=by
 refine⟨by kernel_rfl,by kernel_rfl,by kernel_rfl,by kernel_rfl,by kernel_rfl,by kernel_rfl,by kernel_rfl,by kernel_rfl⟩
theorem XT{α:Type}:∀ {l:List α},l.length=3→∃ a b c,l=[a,b,c]
 | [a,b,c],_=>⟨a,b,c,rfl⟩
theorem ael{α:Type}:∀ {l:List α},l.length=4→∃ a b c d,l=[a,b,c,d]
 | [a,b,c,d],_=>⟨a,b,c,d,rfl⟩
theorem XS{α:Type}:∀ {l:List α},l.length=8→∃ a b c d e f g h,l=[a,b,c,d,e,f,g,h]
 | [a,b,c,d,e,f,g,h],_=>⟨a,b,c,d,e,f,g,h,rfl⟩
theorem Zx{α:Type}:∀ {l:List α},l.length=13→∃ a b c d e f g h i j k m n,l=[a,b,c,d,e,f,g,h,i,j,k,m,n]
 | [a,b,c,d,e,f,g,h,i,j,k,m,n],_=>⟨a,b,c,d,e,f,g,h,i,j,k,m,n,rfl⟩
section
variable {H:Type} {enc:TypeId×Value→H} {W:World} {base:Nat} {held:Bool} (μ:Mem)
theorem AN(b:ByteArray):b.data.toList.length=b.size:=by simp
theorem yG{n:Nat}{v:Value}{x:DataW H×List MemPlace}(h:DataW.trod enc prog W base (fun _=>true) held n 9 [v]=some x):∃ s:List UInt8,VR W [] μ (.s s) v∧s.length≤Rows.uptoBulk x.1:=by
 obtain⟨b,h1,rfl,h3⟩:=DataW.trod_string underlying9 h;simp only[ca,and_true]at h1;subst h1;refine⟨b.data.toList,.s _ b rfl (by rw[AN];exact h3),?_⟩;simp[Rows.uptoBulk]
theorem oH{n:Nat}{v:Value}{x:DataW H×List MemPlace}(h:DataW.trod enc prog W base (fun _=>true) held n 3 [v]=some x):∃ k:Int,v=.int .i64 k ∧ -9223372036854775808≤k∧k≤9223372036854775807:=by
 obtain⟨k,h1,rfl,h3⟩:=DataW.trod_int underlying3 h;simp only[ca,and_true]at h1;have:=bounds_i64 h3;exact⟨k,h1,this.1,this.2⟩
structure ItC (cs:List Value) (y:Int×ByteArray×Int) (B:Nat):Prop where
 cells:cs=[.int .i64 y.1,.string y.2.1,.int .i64 y.2.2]
 size:y.2.1.size≤maxLen
 id : -9223372036854775808≤y.2.2∧y.2.2≤9223372036854775807
 aaQ:y.2.1.size+1≤B
theorem Pg{n:Nat}{cs:List Value}{x:DataW H×List MemPlace}(h:DataW.trod enc prog W base (fun _=>true) held n 76 cs=some x):∃ y:Int×ByteArray×Int,ItC cs y (Rows.uptoBulk x.1):=by
 obtain⟨y0,y1,y2,m,rfl,hl,h0,h1,h2⟩:=Deep.trod_struct3 underlying76 h;rw[ju.2.2.2.2.1]at hl;obtain⟨c0,c1,c2,rfl⟩:=XT hl;simp only[ju.1,ju.2.1,mg,gN,cC,fJ]at h0 h1 h2;obtain⟨k,rfl,_⟩:=oH h0;obtain⟨b,e1,rfl,h3⟩:=DataW.trod_string underlying9 h1;simp only[ca,and_true]at e1;subst e1;obtain⟨i,rfl,hi⟩:=oH h2;refine⟨(k,b,i),rfl,h3,hi,?_⟩;simp[Rows.uptoBulk,Rows.uptoBulkAll];omega
def Dh(y:Int×ByteArray×Int):It:=⟨y.1,y.2.1.data.toList,y.2.2⟩
theorem Ea{D:Nat→DataW H}{F:Nat→Int×ByteArray×Int}:∀ (l:List Nat),(∀ i∈l,(F i).2.1.size+1≤Rows.uptoBulk (D i))→(l.map fun i=>Dh (F i)).length+aM (l.map fun i=>Dh (F i))≤Rows.uptoBulkAll (l.map D)
 | [],_=>by simp[aM,Rows.uptoBulkAll]
 | i::l,h=>by
  have h1:=h i (by simp);have h2:=Ea l fun j hj=>h j (by simp[hj]);have e:(Dh (F i)).text.length=(F i).2.1.size:=AN _;simp only[ay,ab,aM,Rows.uptoBulkAll,e]at h2 ⊢;omega
theorem pX{b o k:Nat}:(Addr.mk b o none).add k=⟨b,o+k,none⟩:=by
 simp only[Addr.add];split
 ·rename_i h;subst h;simp
 ·rfl
theorem vF{n:Nat}{t e:TypeId}{v:Value}{x:DataW H×List MemPlace}(ht:prog.underlying t=some (.slice e))(hk:0<prog.cellsOf e)(h:DataW.trod enc prog W base (fun _=>true) held n t [v]=some x):
  (∀ a len cap,v=.slice (some a) len cap→a.spot=none)∨∃ a,v=.slice (some a) 0 0:=by
 rcases Deep.open_slice ht h with⟨h0,_⟩ | ⟨a,len,cap,m,n',D,Pl,h0,_,hl,hm,Tf,_,hx⟩
 ·simp only[ca,and_true]at h0;subst h0;exact .inl fun a len cap h=>by simp at h
 ·simp only[ca,and_true]at h0;simp only[if_true]at Tf;subst Tf
  by_cases h1:m=0
  ·subst h1;have:len=0:=by omega
   subst this;exact .inr ⟨a,h0⟩
  ·refine .inl fun a' len' cap' h=>?_;rw[h0]at h;simp only[Value.slice.injEq,aa]at h;obtain⟨rfl,_,_⟩:=h;obtain⟨cs',h2,_⟩:=hx 0 (by omega);obtain⟨_,h4,h3⟩:=World.cells?_some h2;have h3:=h3 0 hk;rw[aw (by omega)]at h3;simp only[QY,Addr.add,if_true,World.cell?]at h3;cases hs:a.spot with
   | none=>rfl
   | some s =>
    rw[hs]at h3;split at h3<;>simp at h3
theorem CF{n:Nat}{v:Value}{x:DataW H×List MemPlace}(h:DataW.trod enc prog W base (fun _=>true) held n 25 [v]=some x):
  ∃ f:List It,VR W [] μ (.sl 3 (f.map It.cells)) v∧f.length+aM f≤Rows.uptoBulk x.1∧∀ y∈f,-9223372036854775808≤y.id∧y.id≤9223372036854775807:=by
 rcases vF underlying25 (by rw[ju.2.2.2.2.1];decide) h with hs | ⟨a,rfl⟩
 case inr=>exact⟨[],.sle _ a,by simp[aM],by simp⟩
 rcases Deep.open_slice underlying25 h with⟨h0,rfl⟩ | ⟨a,len,cap,m,n',D,Pl,h0,_,hl,hm,Tf,rfl,hx⟩
 ·simp only[ca,and_true]at h0;subst h0;exact⟨[],.yq _,by simp[aM],by simp⟩
 ·simp only[ca,and_true]at h0;have Ax:=hs _ _ _ h0;obtain⟨b,o,s⟩:=a;simp only at Ax;subst Ax;subst h0;have hle:len≤m:=by rw[Tf];split<;>omega
  obtain⟨F,hF⟩:=Deep.choose_lt (α:=Int×ByteArray×Int) (n:=len) (p:=fun i y=>∃ cs',W.cells? base ((Addr.mk b o none).add (i*3)) 3=some cs'∧ItC cs' y (Rows.uptoBulk (D i))) (fun i hi=>by
   obtain⟨cs',h1,h2⟩:=hx i (by omega);obtain⟨y,hy⟩:=Pg h2;rw[ju.2.2.2.2.1]at h1;exact⟨y,cs',h1,hy⟩)
  refine⟨(List.range len).map fun i=>Dh (F i),?_,?_,?_⟩
  ·have jy:∀ i,i<len→W.cell? ⟨b,o+i*3,none⟩=some (.int .i64 (F i).1)∧W.cell? ⟨b,o+i*3+1,none⟩=some (.string (F i).2.1)∧W.cell? ⟨b,o+i*3+2,none⟩=some (.int .i64 (F i).2.2):=by
    intro i hi;obtain⟨cs',h1,h2⟩:=hF i hi;rw[h2.cells,pX]at h1;obtain⟨_,_,h3⟩:=World.cells?_some h1;have a0:=h3 0 (by decide);have a1:=h3 1 (by decide);have a2:=h3 2 (by decide);simp only[pX,bC]at a0 a1 a2;exact⟨a0,a1,a2⟩
   let f:Nat→Nat→Value:=fun i j=>if j=0 then .int .i64 (F i).1 else if j=1 then .string (F i).2.1 else .int .i64 (F i).2.2
   have dY:∀ i j x,fe (((List.range len).map fun i=>Dh (F i)).map It.cells) i j=some x→i<len∧((j=0∧x=.i .i64 (F i).1)∨(j=1∧x=.s (F i).2.1.data.toList)∨(j=2∧x=.i .i64 (F i).2.2)):=by
    intro i j x hx;simp only[fe,ga,aZ,ar]at hx;obtain⟨row,⟨y,⟨k,hk,rfl⟩,rfl⟩,hj⟩:=hx;have qB:i<len:=by simpa using(ae.1 hk).1
    rw[ky qB]at hk;simp only[aa]at hk;subst hk;refine⟨qB,?_⟩;rcases j with _ | _ | _ | j
    ·simp only[It.cells,Dh,ao,aa]at hj;exact .inl ⟨rfl,hj.symm⟩
    ·simp only[It.cells,Dh,ao,bQ,aa]at hj;exact .inr (.inl ⟨rfl,hj.symm⟩)
    ·simp only[It.cells,Dh,ao,bQ,aa]at hj;exact .inr (.inr ⟨rfl,hj.symm⟩)
    ·simp[It.cells,Dh]at hj
   have hlen:(((List.range len).map fun i=>Dh (F i)).map It.cells).length=len:=by simp
   have:=VR.sl (w:=W) (σ:=[]) (μ:=μ) 3 (((List.range len).map fun i=>Dh (F i)).map It.cells) b o cap f (by omega) hm (fun r hr=>by
    obtain⟨y,_,rfl⟩:=bK.1 hr;rfl) (fun i j x hx=>by
    obtain⟨hi,hx⟩:=dY i j x hx;obtain⟨a0,a1,a2⟩:=jy i hi;rcases hx with⟨rfl,rfl⟩ | ⟨rfl,rfl⟩ | ⟨rfl,rfl⟩
    ·exact⟨a0,wE,rfl⟩
    ·exact⟨a1,wE,rfl⟩
    ·exact⟨a2,wE,rfl⟩) (fun i j x hx=>by
    obtain⟨hi,hx⟩:=dY i j x hx;rcases hx with⟨rfl,rfl⟩ | ⟨rfl,rfl⟩ | ⟨rfl,rfl⟩
    ·exact .i _ _
    ·obtain⟨cs',h1,h2⟩:=hF i hi;exact .s _ _ rfl (by rw[AN];exact h2.size)
    ·exact .i _ _)
   rwa [hlen]at this
  ·have:=Ea (D:=D) (F:=F) (List.range len) (fun i hi=>by
    obtain⟨_,_,h2⟩:=hF i (dd.1 hi);exact h2.aaQ)
   simp only[Rows.uptoBulk];omega
  ·intro y hy;obtain⟨i,hi,rfl⟩:=bK.1 hy;obtain⟨_,_,h2⟩:=hF i (dd.1 hi);exact h2.id
theorem oR{H:Type}:∀ (l:List (DataW H)),l.length≤Rows.uptoBulkAll l
 | []=>by simp[Rows.uptoBulkAll]
 | d::r=>by
  have h1:=oR r
  have h2:1≤Rows.uptoBulk d:=by cases d with
   | lit l=>cases l<;>simp[Rows.uptoBulk]
   | nil=>simp[Rows.uptoBulk]
   | ptr d=>simp[Rows.uptoBulk]
   | slice elems spare=>simp[Rows.uptoBulk]
   | agg parts=>simp[Rows.uptoBulk]
   | iface t d=>simp[Rows.uptoBulk]
   | map entries=>simp[Rows.uptoBulk]
   | held h=>simp[Rows.uptoBulk]
  simp only[Rows.uptoBulkAll,ab];omega
theorem rG{n:Nat}{v:Value}{x:DataW H×List MemPlace}(h:DataW.trod enc prog W base (fun _=>true) held n 22 [v]=some x):
  ∃ l:List Int,VR W [] μ (.sl 1 (l.map bj)) v∧l.length≤Rows.uptoBulk x.1:=by
 rcases vF underlying22 (by rw[ju.1];decide) h with hs | ⟨a,rfl⟩
 case inr=>exact⟨[],.sle _ a,by simp⟩
 rcases open_ints underlying22 underlying3 ju.1 h with⟨h0,rfl⟩ | ⟨a,len,cap,zs,h0,_,hl,hm,hz,rfl,jy,cz⟩
 ·simp only[ca,and_true]at h0;subst h0;exact⟨[],.yq _,by simp⟩
 ·simp only[ca,and_true]at h0;have Ax:=hs _ _ _ h0;obtain⟨b,o,s⟩:=a;simp only at Ax;subst Ax;subst h0;have hle:len≤zs.length:=by rw[hz];split<;>omega
  have dY:∀ i j x,fe ((zs.take len).map bj) i j=some x→j=0∧i<len∧x=.i .i64 (zs.getD i 0):=by
   intro i j x hx;simp only[fe,ga,aZ,ar]at hx;obtain⟨row,⟨n,hn,rfl⟩,hj⟩:=hx
   have qB:i<len:=by
    have:=(ae.1 hn).1;simp at this;omega
   rcases j with _ | j
   ·simp only[bj,ao,aa]at hj;refine⟨rfl,qB,?_⟩;rw[bz qB]at hn;rw[← hj,List.getD_eq_getElem?_getD,hn];rfl
   ·simp[bj]at hj
  have hlen:((zs.take len).map bj).length=len:=by simp;omega
  refine⟨zs.take len,?_,?_⟩
  ·have:=VR.sl (w:=W) (σ:=[]) (μ:=μ) 1 ((zs.take len).map bj) b o cap (fun i _=>.int .i64 (zs.getD i 0)) (by omega) hm (fun r hr=>by obtain⟨n,_,rfl⟩:=bK.1 hr;rfl) (fun i j x hx=>by
    obtain⟨rfl,hi,rfl⟩:=dY i j x hx;have:=jy i (by omega);rw[pX]at this;simp only[qC,bC];exact⟨this,wE,rfl⟩) (fun i j x hx=>by
    obtain⟨rfl,hi,rfl⟩:=dY i j x hx;exact .i _ _)
   rwa [hlen]at this
  ·have:=oR (H:=H) (lits .i64 (zs.take len));simp only[Rows.uptoBulk];have e:(lits (H:=H) .i64 (zs.take len)).length=(zs.take len).length:=by simp[lits]
   omega
def Reads(W:World)(μ:Mem)(xs:List V)(cs:List Value):Prop:=xs.length=cs.length∧∀ (i:Nat) (x:V) (v:Value),xs[i]?=some x→cs[i]?=some v→VR W [] μ x v
theorem Reads.nil:Reads W μ [] []:=⟨rfl,by simp⟩
theorem Reads.cons{x:V}{v:Value}{xs:List V}{cs:List Value}(h:VR W [] μ x v)(t:Reads W μ xs cs):Reads W μ (x::xs) (v::cs):=by
 refine⟨by simp[t.1],fun i y u hy hu=>?_⟩;cases i with
 | zero=>simp only[ao,aa]at hy hu;subst hy;subst hu;exact h
 | succ i=>exact t.2 i y u (by simpa using hy) (by simpa using hu)
theorem drop_take{α:Type}{a b c d e f g h:α}:([a,b,c,d,e,f,g,h].drop 0).take 1=[a]∧([a,b,c,d,e,f,g,h].drop 1).take 1=[b]∧([a,b,c,d,e,f,g,h].drop 2).take 1=[c]∧([a,b,c,d,e,f,g,h].drop 3).take 1=[d] ∧
  ([a,b,c,d,e,f,g,h].drop 4).take 1=[e]∧([a,b,c,d,e,f,g,h].drop 5).take 1=[f]∧([a,b,c,d,e,f,g,h].drop 6).take 1=[g]∧([a,b,c,d,e,f,g,h].drop 7).take 1=[h]:=⟨rfl,rfl,rfl,rfl,rfl,rfl,rfl,rfl⟩
theorem L3{n:Nat}{cs:List Value}{x:DataW H×List MemPlace}(h:DataW.trod enc prog W base (fun _=>true) held n 27 cs=some x):
  ∃ e:En,Reads W μ e.cells cs∧(e.source.length+aM e.source≤Rows.uptoBulk x.1∧e.target.length+aM e.target≤Rows.uptoBulk x.1∧e.bS.length≤Rows.uptoBulk x.1∧e.next.length≤Rows.uptoBulk x.1∧e.cQ.length≤Rows.uptoBulk x.1∧e.cn.length≤Rows.uptoBulk x.1) ∧
   (∀ y∈e.source++e.target,-9223372036854775808≤y.id∧y.id≤9223372036854775807) ∧ -9223372036854775808≤e.origin∧e.origin≤9223372036854775807:=by
 obtain⟨xs,m,_,rfl,hl,Ca,hf⟩:=DataW.trod_struct underlying27 h;rw[ju.2.2.2.2.2.2.1]at hl;obtain⟨c0,c1,c2,c3,c4,c5,c6,c7,rfl⟩:=XS hl;obtain⟨y0,y1,y2,y3,y4,y5,y6,y7,rfl⟩:=XS (l:=xs) (by rw[Ca];rfl);have f0:DataW.trod enc prog W base (fun _=>true) held m 25 (([c0,c1,c2,c3,c4,c5,c6,c7].drop 0).take (prog.cellsOf 25))=some y0:=hf 0 _ rfl;have f1:DataW.trod enc prog W base (fun _=>true) held m 25 (([c0,c1,c2,c3,c4,c5,c6,c7].drop 1).take (prog.cellsOf 25))=some y1:=hf 1 _ rfl;have f2:DataW.trod enc prog W base (fun _=>true) held m 9 (([c0,c1,c2,c3,c4,c5,c6,c7].drop 2).take (prog.cellsOf 9))=some y2:=hf 2 _ rfl;have f3:DataW.trod enc prog W base (fun _=>true) held m 9 (([c0,c1,c2,c3,c4,c5,c6,c7].drop 3).take (prog.cellsOf 9))=some y3:=hf 3 _ rfl;have f4:DataW.trod enc prog W base (fun _=>true) held m 9 (([c0,c1,c2,c3,c4,c5,c6,c7].drop 4).take (prog.cellsOf 9))=some y4:=hf 4 _ rfl;have f5:DataW.trod enc prog W base (fun _=>true) held m 9 (([c0,c1,c2,c3,c4,c5,c6,c7].drop 5).take (prog.cellsOf 9))=some y5:=hf 5 _ rfl;have f6:DataW.trod enc prog W base (fun _=>true) held m 3 (([c0,c1,c2,c3,c4,c5,c6,c7].drop 6).take (prog.cellsOf 3))=some y6:=hf 6 _ rfl;have f7:DataW.trod enc prog W base (fun _=>true) held m 3 (([c0,c1,c2,c3,c4,c5,c6,c7].drop 7).take (prog.cellsOf 3))=some y7:=hf 7 _ rfl;clear hf;obtain⟨t0,t1,t2,t3,t4,t5,t6,t7⟩:=drop_take (a:=c0) (b:=c1) (c:=c2) (d:=c3) (e:=c4) (f:=c5) (g:=c6) (h:=c7);simp only[ju.1,ju.2.1,ju.2.2.1,t0,t1,t2,t3,t4,t5,t6,t7]at f0 f1 f2 f3 f4 f5 f6 f7;obtain⟨a,va,ba,ia⟩:=CF μ f0;obtain⟨b,vb,bb,ib⟩:=CF μ f1;obtain⟨p,vp,bp⟩:=yG μ f2;obtain⟨q,vq,bq⟩:=yG μ f3;obtain⟨u,vu,bu⟩:=yG μ f4;obtain⟨r,vr,br⟩:=yG μ f5;obtain⟨k,rfl,hk⟩:=oH f6;obtain⟨o,rfl,ho⟩:=oH f7;have B:∀ y∈[y0,y1,y2,y3,y4,y5,y6,y7],Rows.uptoBulk y.1≤Rows.uptoBulk (.agg ([y0,y1,y2,y3,y4,y5,y6,y7].map (·.1))):=fun y hy=>Eb (bK.2 ⟨y,hy,rfl⟩);refine⟨⟨a,b,p,q,u,r,k,o⟩,.cons μ va (.cons μ vb (.cons μ vp (.cons μ vq (.cons μ vu (.cons μ vr (.cons μ (.i _ _) (.cons μ (.i _ _) (.nil μ)))))))),⟨bZ ba (B y0 (by simp)),bZ bb (B y1 (by simp)),bZ bp (B y2 (by simp)),bZ bq (B y3 (by simp)),bZ bu (B y4 (by simp)),bZ br (B y5 (by simp))⟩,fun y hy=>?_,ho⟩;rcases List.mem_append.1 hy with hy | hy
 ·exact ia y hy
 ·exact ib y hy
theorem L2{n:Nat}{cs:List Value}{x:DataW H×List MemPlace}(h:DataW.trod enc prog W base (fun _=>true) held n 24 cs=some x):∃ t:bc,Reads W μ t.cells cs:=by
 obtain⟨y0,y1,y2,m,rfl,hl,h0,h1,h2⟩:=Deep.trod_struct3 underlying24 h;rw[ju.2.2.2.2.2.1]at hl;obtain⟨c0,c1,c2,rfl⟩:=XT hl;simp only[ju.1,mg,gN,cC,fJ]at h0 h1 h2;obtain⟨a,rfl,_⟩:=oH h0;obtain⟨b,rfl,_⟩:=oH h1;obtain⟨c,rfl,_⟩:=oH h2;exact⟨⟨a,b,c⟩,.cons μ (.i _ _) (.cons μ (.i _ _) (.cons μ (.i _ _) (.nil μ)))⟩
theorem Reads.app{xs ys:List V}{cs ds:List Value}(h:Reads W μ xs cs)(k:Reads W μ ys ds):Reads W μ (xs++ys) (cs++ds):=by
 refine⟨by simp[h.1,k.1],fun i x v hx hv=>?_⟩;rcases fV i xs.length with hl | hg
 ·rw[aH hl]at hx;rw[aH (by rw[← h.1];exact hl)]at hv;exact h.2 i x v hx hv
 ·rw[aN hg]at hx;rw[aN (by rw[← h.1];exact hg),← h.1]at hv;exact k.2 _ x v hx hv
theorem U6{n:Nat}{cs:List Value}{x:DataW H×List MemPlace}(h:DataW.trod enc prog W base (fun _=>true) held n 29 cs=some x)(hB:Rows.uptoBulk x.1≤1048576):∃ o:aJ,Reads W μ o.cells cs∧o.small:=by
 obtain⟨xs,m,_,rfl,hl,Ca,hf⟩:=DataW.trod_struct underlying29 h;rw[ju.2.2.2.2.2.2.2]at hl;obtain⟨c0,c1,c2,c3,c4,c5,c6,c7,c8,c9,zF,Re,Rc,rfl⟩:=Zx hl;obtain⟨y0,y1,y2,y3,rfl⟩:=ael (l:=xs) (by rw[Ca];rfl);have f0:DataW.trod enc prog W base (fun _=>true) held m 24 (([c0,c1,c2,c3,c4,c5,c6,c7,c8,c9,zF,Re,Rc].drop 0).take (prog.cellsOf 24))=some y0:=hf 0 _ rfl;have f1:DataW.trod enc prog W base (fun _=>true) held m 3 (([c0,c1,c2,c3,c4,c5,c6,c7,c8,c9,zF,Re,Rc].drop 3).take (prog.cellsOf 3))=some y1:=hf 1 _ rfl;have f2:DataW.trod enc prog W base (fun _=>true) held m 27 (([c0,c1,c2,c3,c4,c5,c6,c7,c8,c9,zF,Re,Rc].drop 4).take (prog.cellsOf 27))=some y2:=hf 2 _ rfl;have f3:DataW.trod enc prog W base (fun _=>true) held m 22 (([c0,c1,c2,c3,c4,c5,c6,c7,c8,c9,zF,Re,Rc].drop 12).take (prog.cellsOf 22))=some y3:=hf 3 _ rfl;clear hf;simp only[ju.1,ju.2.2.2.1,ju.2.2.2.2.2.1,ju.2.2.2.2.2.2.1,mg,gN,cC,fJ]at f0 f1 f2 f3;obtain⟨t,vt⟩:=L2 μ f0;obtain⟨k,rfl,_⟩:=oH f1;obtain⟨e,ve,⟨b1,b2,b3,b4,b5,b6⟩,ie,_⟩:=L3 μ f2;obtain⟨l,vl,bl⟩:=rG μ f3;have B2:Rows.uptoBulk y2.1≤Rows.uptoBulk (.agg ([y0,y1,y2,y3].map (·.1))):=Eb (bK.2 ⟨y2,by simp,rfl⟩);have B3:Rows.uptoBulk y3.1≤Rows.uptoBulk (.agg ([y0,y1,y2,y3].map (·.1))):=Eb (bK.2 ⟨y3,by simp,rfl⟩);have hB:Rows.uptoBulk (DataW.agg ([y0,y1,y2,y3].map (·.1)))≤1048576:=hB;have g1:e.source.length<2^30:=by omega
 have g2:aM e.source<2^30:=by omega
 have g3:e.target.length<2^30:=by omega
 have g4:aM e.target<2^30:=by omega
 have g5:e.bS.length<2^30:=by omega
 have g6:e.next.length<2^30:=by omega
 have g7:e.cQ.length<2^30:=by omega
 have g8:e.cn.length<2^30:=by omega
 have g9:l.length<2^30:=by omega
 refine⟨⟨t,k,e,l⟩,((vt.app μ (.cons μ (.i _ _) (.nil μ))).app μ ve).app μ (.cons μ vl (.nil μ)),⟨⟨g1,g2,g3,g4,g5,g6,ie⟩,g7,g8,g9⟩⟩
end
set_option maxRecDepth 20000 in
theorem aaS{H:Type}{enc:TypeId×Value→H}{W:World}{r:Reach}{base:Nat}{v:Value}{d:DataW H}{p:List MemPlace}(μ:Mem)(im:Value.okWide prog W r base 29 v)(hd:DataW.Trod enc prog W 0 (fun _=>true) true 29 v d p)(hB:Rows.uptoBulk d≤1048576):
  ∃ o:aJ,VR W [] μ (.agg o.cells) v∧o.small:=by
 obtain⟨fuel,hf⟩:=hd;simp only[Value.okWide,underlying29]at im;obtain⟨cs,rfl,_⟩:=im;have Z4:(Value.agg cs).cells.toList=cs.toList:=rfl;rw[Z4]at hf;obtain⟨o,ho,hs⟩:=U6 μ hf hB;refine⟨o,.agg o.cells cs (by rw[ho.1];simp) fun i x hx=>?_,hs⟩
 have hi:i<cs.size:=by
  have:=(ae.1 hx).1;rw[ho.1]at this;simpa using this
 have:=ho.2 i x cs[i] hx (by rw[sa];simp[hi]);simpa[Array.getD,hi]using this
end Go.Proofs.Tryz

/- A part of a proof; the claim's last text says of what. -/
import Derived.Deep.Slices
import Derived.Deep.Strs
import Derived.Test.YtlakkaamfadipaaGreatDoorV21
import Derived.Test.YtlakkaamfadipaaGreatDoorV31
set_option linter.all false

namespace Go.Proofs.Tryz
open Go Go.Pm Go.Bt Go.ChangeShapes Go.WideShapes Go.ChangeAt Go.RowKit Go.Proofs.YtlakkaamfadipaaGreatDoor
theorem uT{H:Type}{d:DataW H}:∀ {l:List (DataW H)},d∈l→Rows.uptoBulk d≤Rows.uptoBulkAll l
 | [],h=>by cases h
 | x::r,h=>by
  simp only[Rows.uptoBulkAll];rcases bA.1 h with rfl | h
  ·omega
  ·have:=uT h;omega
theorem OI{H:Type}{d:DataW H}{l:List (DataW H)}(h:d∈l):Rows.uptoBulk d≤Rows.uptoBulk (.agg l):=by
 have:=uT h;simp only[Rows.uptoBulk];omega
theorem oR:prog.cellsOf 3=1∧prog.cellsOf 9=1∧prog.cellsOf 22=1∧prog.cellsOf 25=1∧prog.cellsOf 61=3∧prog.cellsOf 24=6∧prog.cellsOf 37=8:=by
 refine⟨by kernel_rfl,by kernel_rfl,by kernel_rfl,by kernel_rfl,by kernel_rfl,by kernel_rfl,by kernel_rfl⟩
theorem XF{α:Type}:∀ {l:List α},l.length=3→∃ a b c,l=[a,b,c]
 | [a,b,c],_=>⟨a,b,c,rfl⟩
theorem Si{α:Type}:∀ {l:List α},l.length=6→∃ a b c d e f,l=[a,b,c,d,e,f]
 | [a,b,c,d,e,f],_=>⟨a,b,c,d,e,f,rfl⟩
section
variable {H:Type} {enc:TypeId×Value→H} {W:World} {base:Nat} {held:Bool} (μ:Mem)
theorem uS(b:ByteArray):b.data.toList.length=b.size:=by simp
theorem DE{n:Nat}{v:Value}{x:DataW H×List MemPlace}(h:DataW.trod enc prog W base (fun _=>true) held n 9 [v]=some x):∃ s:List UInt8,VR W [] μ (.s s) v∧s.length≤Rows.uptoBulk x.1:=by
 obtain⟨b,h1,rfl,h3⟩:=DataW.trod_string underlying9 h;simp only[fq,fA]at h1;subst h1;refine⟨b.data.toList,.s _ b rfl (by rw[uS];exact h3),?_⟩;simp[Rows.uptoBulk]
theorem pQ{n:Nat}{v:Value}{x:DataW H×List MemPlace}(h:DataW.trod enc prog W base (fun _=>true) held n 3 [v]=some x):∃ k:Int,v=.int .i64 k ∧ -9223372036854775808≤k∧k≤9223372036854775807:=by
 obtain⟨k,h1,rfl,h3⟩:=DataW.trod_int underlying3 h;simp only[fq,fA]at h1;have:=bounds_i64 h3;exact⟨k,h1,this.1,this.2⟩
structure ItC (cs:List Value) (y:Int×ByteArray×Int) (B:Nat):Prop where
 ahq:cs=[.int .i64 y.1,.string y.2.1,.int .i64 y.2.2]
 size:y.2.1.size≤maxLen
 id : -9223372036854775808≤y.2.2∧y.2.2≤9223372036854775807
 acZ:y.2.1.size+1≤B
theorem Ju{n:Nat}{cs:List Value}{x:DataW H×List MemPlace}(h:DataW.trod enc prog W base (fun _=>true) held n 61 cs=some x):∃ y:Int×ByteArray×Int,ItC cs y (Rows.uptoBulk x.1):=by
 obtain⟨y0,y1,y2,m,rfl,hl,h0,h1,h2⟩:=Deep.trod_struct3 underlying61 h;rw[oR.2.2.2.2.1]at hl;obtain⟨c0,c1,c2,rfl⟩:=XF hl;simp only[oR.1,oR.2.1,lj,jz,eC,jC]at h0 h1 h2;obtain⟨k,rfl,_⟩:=pQ h0;obtain⟨b,e1,rfl,h3⟩:=DataW.trod_string underlying9 h1;simp only[fq,fA]at e1;subst e1;obtain⟨i,rfl,hi⟩:=pQ h2;refine⟨(k,b,i),rfl,h3,hi,?_⟩;simp[Rows.uptoBulk,Rows.uptoBulkAll];omega
def xZ(y:Int×ByteArray×Int):It:=⟨y.1,y.2.1.data.toList,y.2.2⟩
theorem yP{D:Nat→DataW H}{F:Nat→Int×ByteArray×Int}:∀ (l:List Nat),(∀ i∈l,(F i).2.1.size+1≤Rows.uptoBulk (D i))→(l.map fun i=>xZ (F i)).length+aN (l.map fun i=>xZ (F i))≤Rows.uptoBulkAll (l.map D)
 | [],_=>by simp[aN,Rows.uptoBulkAll]
 | i::l,h=>by
  have h1:=h i (by simp);have h2:=yP l fun j hj=>h j (by simp[hj]);have e:(xZ (F i)).aht.length=(F i).2.1.size:=uS _;simp only[az,ag,aN,Rows.uptoBulkAll,e]at h2 ⊢;omega
theorem Dt{b o k:Nat}:(Addr.mk b o none).add k=⟨b,o+k,none⟩:=by
 simp only[Addr.add];split
 ·rename_i h;subst h;simp
 ·rfl
theorem Pz{n:Nat}{t e:TypeId}{v:Value}{x:DataW H×List MemPlace}(ht:prog.underlying t=some (.slice e))(hk:0<prog.cellsOf e)(h:DataW.trod enc prog W base (fun _=>true) held n t [v]=some x):
  (∀ a len cap,v=.slice (some a) len cap→a.spot=none)∨∃ a,v=.slice (some a) 0 0:=by
 rcases Deep.open_slice ht h with⟨h0,_⟩ | ⟨a,len,cap,m,n',D,Pl,h0,_,hl,hm,Vt,_,hx⟩
 ·simp only[fq,fA]at h0;subst h0;exact .inl fun a len cap h=>by simp at h
 ·simp only[fq,fA]at h0;simp only[aO]at Vt;subst Vt
  by_cases h1:m=0
  ·subst h1;have:len=0:=by omega
   subst this;exact .inr ⟨a,h0⟩
  ·refine .inl fun a' len' cap' h=>?_;rw[h0]at h;simp only[Value.slice.injEq,aa]at h;obtain⟨rfl,_,_⟩:=h;obtain⟨cs',h2,_⟩:=hx 0 (by omega);obtain⟨_,h4,h3⟩:=World.cells?_some h2;have h3:=h3 0 hk;rw[al (by omega)]at h3;simp only[K9,Addr.add,aO,World.cell?]at h3;cases hs:a.spot with
   | none=>rfl
   | some s =>
    rw[hs]at h3;split at h3<;>simp at h3
theorem FU{n:Nat}{v:Value}{x:DataW H×List MemPlace}(h:DataW.trod enc prog W base (fun _=>true) held n 22 [v]=some x):
  ∃ f:List It,VR W [] μ (.sl 3 (f.map It.ahq)) v∧f.length+aN f≤Rows.uptoBulk x.1∧∀ y∈f,-9223372036854775808≤y.id∧y.id≤9223372036854775807:=by
 rcases Pz underlying22 (by rw[oR.2.2.2.2.1];decide) h with hs | ⟨a,rfl⟩
 case inr=>exact⟨[],.sle _ a,by simp[aN],by simp⟩
 rcases Deep.open_slice underlying22 h with⟨h0,rfl⟩ | ⟨a,len,cap,m,n',D,Pl,h0,_,hl,hm,Vt,rfl,hx⟩
 ·simp only[fq,fA]at h0;subst h0;exact⟨[],.xl _,by simp[aN],by simp⟩
 ·simp only[fq,fA]at h0;have AZ:=hs _ _ _ h0;obtain⟨b,o,s⟩:=a;simp only at AZ;subst AZ;subst h0;have hle:len≤m:=by rw[Vt];split<;>omega
  obtain⟨F,hF⟩:=Deep.choose_lt (α:=Int×ByteArray×Int) (n:=len) (p:=fun i y=>∃ cs',W.cells? base ((Addr.mk b o none).add (i*3)) 3=some cs'∧ItC cs' y (Rows.uptoBulk (D i))) (fun i hi=>by
   obtain⟨cs',h1,h2⟩:=hx i (by omega);obtain⟨y,hy⟩:=Ju h2;rw[oR.2.2.2.2.1]at h1;exact⟨y,cs',h1,hy⟩)
  refine⟨(List.range len).map fun i=>xZ (F i),?_,?_,?_⟩
  ·have nr:∀ i,i<len→W.cell? ⟨b,o+i*3,none⟩=some (.int .i64 (F i).1)∧W.cell? ⟨b,o+i*3+1,none⟩=some (.string (F i).2.1)∧W.cell? ⟨b,o+i*3+2,none⟩=some (.int .i64 (F i).2.2):=by
    intro i hi;obtain⟨cs',h1,h2⟩:=hF i hi;rw[h2.ahq,Dt]at h1;obtain⟨_,_,h3⟩:=World.cells?_some h1;have a0:=h3 0 (by decide);have a1:=h3 1 (by decide);have a2:=h3 2 (by decide);simp only[Dt,dm]at a0 a1 a2;exact⟨a0,a1,a2⟩
   let f:Nat→Nat→Value:=fun i j=>if j=0 then .int .i64 (F i).1 else if j=1 then .string (F i).2.1 else .int .i64 (F i).2.2
   have eH:∀ i j x,fw (((List.range len).map fun i=>xZ (F i)).map It.ahq) i j=some x→i<len∧((j=0∧x=.i .i64 (F i).1)∨(j=1∧x=.s (F i).2.1.data.toList)∨(j=2∧x=.i .i64 (F i).2.2)):=by
    intro i j x hx;simp only[fw,wg,bf,aj]at hx;obtain⟨row,⟨y,⟨k,hk,rfl⟩,rfl⟩,hj⟩:=hx;have rz:i<len:=by simpa using(ab.1 hk).1
    rw[gS rz]at hk;simp only[aa]at hk;subst hk;refine⟨rz,?_⟩;rcases j with _ | _ | _ | j
    ·simp only[It.ahq,xZ,aq,aa]at hj;exact .inl ⟨rfl,hj.symm⟩
    ·simp only[It.ahq,xZ,aq,bF,aa]at hj;exact .inr (.inl ⟨rfl,hj.symm⟩)
    ·simp only[It.ahq,xZ,aq,bF,aa]at hj;exact .inr (.inr ⟨rfl,hj.symm⟩)
    ·simp[It.ahq,xZ]at hj
   have hlen:(((List.range len).map fun i=>xZ (F i)).map It.ahq).length=len:=by simp
   have:=VR.sl (w:=W) (J:=[]) (μ:=μ) 3 (((List.range len).map fun i=>xZ (F i)).map It.ahq) b o cap f (by omega) hm (fun r hr=>by
    obtain⟨y,_,rfl⟩:=bI.1 hr;rfl) (fun i j x hx=>by
    obtain⟨hi,hx⟩:=eH i j x hx;obtain⟨a0,a1,a2⟩:=nr i hi;rcases hx with⟨rfl,rfl⟩ | ⟨rfl,rfl⟩ | ⟨rfl,rfl⟩
    ·exact⟨a0,H4,rfl⟩
    ·exact⟨a1,H4,rfl⟩
    ·exact⟨a2,H4,rfl⟩) (fun i j x hx=>by
    obtain⟨hi,hx⟩:=eH i j x hx;rcases hx with⟨rfl,rfl⟩ | ⟨rfl,rfl⟩ | ⟨rfl,rfl⟩
    ·exact .i _ _
    ·obtain⟨cs',h1,h2⟩:=hF i hi;exact .s _ _ rfl (by rw[uS];exact h2.size)
    ·exact .i _ _)
   rwa [hlen]at this
  ·have:=yP (D:=D) (F:=F) (List.range len) (fun i hi=>by
    obtain⟨_,_,h2⟩:=hF i (cA.1 hi);exact h2.acZ)
   simp only[Rows.uptoBulk];omega
  ·intro y hy;obtain⟨i,hi,rfl⟩:=bI.1 hy;obtain⟨_,_,h2⟩:=hF i (cA.1 hi);exact h2.id
def Reads(W:World)(μ:Mem)(xs:List V)(cs:List Value):Prop:=xs.length=cs.length∧∀ (i:Nat) (x:V) (v:Value),xs[i]?=some x→cs[i]?=some v→VR W [] μ x v
theorem Reads.nil:Reads W μ [] []:=⟨rfl,by simp⟩
theorem Reads.cons{x:V}{v:Value}{xs:List V}{cs:List Value}(h:VR W [] μ x v)(t:Reads W μ xs cs):Reads W μ (x::xs) (v::cs):=by
 refine⟨by simp[t.1],fun i y u hy hu=>?_⟩;cases i with
 | zero=>simp only[aq,aa]at hy hu;subst hy;subst hu;exact h
 | succ i=>exact t.2 i y u (by simpa using hy) (by simpa using hu)
theorem drop_take{α:Type}{a b c d e f g h:α}:([a,b,c,d,e,f,g,h].drop 0).take 1=[a]∧([a,b,c,d,e,f,g,h].drop 1).take 1=[b]∧([a,b,c,d,e,f,g,h].drop 2).take 1=[c]∧([a,b,c,d,e,f,g,h].drop 3).take 1=[d] ∧
  ([a,b,c,d,e,f,g,h].drop 4).take 1=[e]∧([a,b,c,d,e,f,g,h].drop 5).take 1=[f]∧([a,b,c,d,e,f,g,h].drop 6).take 1=[g]∧([a,b,c,d,e,f,g,h].drop 7).take 1=[h]:=⟨rfl,rfl,rfl,rfl,rfl,rfl,rfl,rfl⟩
theorem FT{n:Nat}{cs:List Value}{x:DataW H×List MemPlace}(h:DataW.trod enc prog W base (fun _=>true) held n 24 cs=some x):
  ∃ q:Qr,Reads W μ q.ahq cs∧(q.ahu.length+aN q.ahu≤Rows.uptoBulk x.1∧q.bM.length≤Rows.uptoBulk x.1∧q.next.length≤Rows.uptoBulk x.1) ∧ -9223372036854775808≤q.now∧q.now≤9223372036854775807:=by
 obtain⟨xs,m,_,rfl,hl,qd,hf⟩:=DataW.trod_struct underlying24 h;rw[oR.2.2.2.2.2.1]at hl;obtain⟨c0,c1,c2,c3,c4,c5,rfl⟩:=Si hl;obtain⟨y0,y1,y2,y3,y4,y5,rfl⟩:=Si (l:=xs) (by rw[qd];rfl);have f0:DataW.trod enc prog W base (fun _=>true) held m 22 (([c0,c1,c2,c3,c4,c5].drop 0).take (prog.cellsOf 22))=some y0:=hf 0 _ rfl;have f1:DataW.trod enc prog W base (fun _=>true) held m 9 (([c0,c1,c2,c3,c4,c5].drop 1).take (prog.cellsOf 9))=some y1:=hf 1 _ rfl;have f2:DataW.trod enc prog W base (fun _=>true) held m 9 (([c0,c1,c2,c3,c4,c5].drop 2).take (prog.cellsOf 9))=some y2:=hf 2 _ rfl;have f3:DataW.trod enc prog W base (fun _=>true) held m 3 (([c0,c1,c2,c3,c4,c5].drop 3).take (prog.cellsOf 3))=some y3:=hf 3 _ rfl;have f4:DataW.trod enc prog W base (fun _=>true) held m 3 (([c0,c1,c2,c3,c4,c5].drop 4).take (prog.cellsOf 3))=some y4:=hf 4 _ rfl;have f5:DataW.trod enc prog W base (fun _=>true) held m 3 (([c0,c1,c2,c3,c4,c5].drop 5).take (prog.cellsOf 3))=some y5:=hf 5 _ rfl;clear hf;simp only[oR.1,oR.2.1,oR.2.2.1,lj,jz,eC,jC]at f0 f1 f2 f3 f4 f5;obtain⟨a,va,ba,ia⟩:=FU μ f0;obtain⟨p,vp,bp⟩:=DE μ f1;obtain⟨q,vq,bq⟩:=DE μ f2;obtain⟨k,rfl,hk⟩:=pQ f3;obtain⟨o,rfl,ho⟩:=pQ f4;obtain⟨z,rfl,hz⟩:=pQ f5;have B:∀ y∈[y0,y1,y2,y3,y4,y5],Rows.uptoBulk y.1≤Rows.uptoBulk (.agg ([y0,y1,y2,y3,y4,y5].map (·.1))):=fun y hy=>OI (bI.2 ⟨y,hy,rfl⟩);exact⟨⟨a,p,q,k,o,z⟩,.cons μ va (.cons μ vp (.cons μ vq (.cons μ (.i _ _) (.cons μ (.i _ _) (.cons μ (.i _ _) (.nil μ)))))),⟨br ba (B y0 (by simp)),br bp (B y1 (by simp)),br bq (B y2 (by simp))⟩,hk⟩
end
structure OU (q:Qr):Prop where
 ahu:q.ahu.length+aN q.ahu≤1048576
 bM:q.bM.length≤1048576
 next:q.next.length≤1048576
 now : -9223372036854775808≤q.now∧q.now≤9223372036854775807
structure aeG (e:En):Prop where
 ahu:e.ahu.length+aN e.ahu≤1048576
 ahB:e.ahB.length+aN e.ahB≤1048576
 bM:e.bM.length≤1048576
 next:e.next.length≤1048576
 cY:e.cY.length≤1048576
 cE:e.cE.length≤1048576
 ids:∀ y∈e.ahu++e.ahB,-9223372036854775808≤y.id∧y.id≤9223372036854775807
 ahD : -9223372036854775808≤e.ahD∧e.ahD≤9223372036854775807
set_option maxRecDepth 20000 in
theorem Va{H:Type}{enc:TypeId×Value→H}{W:World}{r:Reach}{base:Nat}{v:Value}{d:DataW H}{p:List MemPlace}(μ:Mem)(rS:Value.okWide prog W r base 24 v)(hd:DataW.Trod enc prog W 0 (fun _=>true) true 24 v d p)(hB:Rows.uptoBulk d≤1048576):
  ∃ q:Qr,VR W [] μ (.agg q.ahq) v∧OU q:=by
 obtain⟨fuel,hf⟩:=hd;simp only[Value.okWide,underlying24]at rS;obtain⟨cs,rfl,_⟩:=rS;have Ui:(Value.agg cs).cells.toList=cs.toList:=rfl;rw[Ui]at hf;obtain⟨o,ho,hs,hn⟩:=FT μ hf;refine⟨o,.agg o.ahq cs (by rw[ho.1];simp) fun i x hx=>?_,⟨br hs.1 hB,br hs.2.1 hB,br hs.2.2 hB,hn⟩⟩
 have hi:i<cs.size:=by
  have:=(ab.1 hx).1;rw[ho.1]at this;simpa using this
 have:=ho.2 i x cs[i] hx (by rw[gn];simp[hi]);simpa[Array.getD,hi]using this
end Go.Proofs.Tryz

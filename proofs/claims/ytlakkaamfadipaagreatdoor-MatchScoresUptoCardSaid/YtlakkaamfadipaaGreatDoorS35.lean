/- A part of a proof; the claim's last text says of what. -/
import Derived.Deep.Slices
import Derived.Deep.Strs
import Derived.Test.YtlakkaamfadipaaGreatDoorS20
import Derived.Test.YtlakkaamfadipaaGreatDoorS30
set_option linter.all false

namespace Go.Proofs.Tryz
open Go Go.Pm Go.Bt Go.ChangeShapes Go.WideShapes Go.ChangeAt Go.RowKit Go.Proofs.YtlakkaamfadipaaGreatDoor
theorem rC{H:Type}{d:DataW H}:∀ {l:List (DataW H)},d∈l→Rows.uptoBulk d≤Rows.uptoBulkAll l
 | [],h=>by cases h
 | x::r,h=>by
  simp only[Rows.uptoBulkAll];rcases bJ.1 h with rfl | h
  ·omega
  ·have:=rC h;omega
theorem F5{H:Type}{d:DataW H}{l:List (DataW H)}(h:d∈l):Rows.uptoBulk d≤Rows.uptoBulk (.agg l):=by
 have:=rC h;simp only[Rows.uptoBulk];omega
theorem kZ:prog.cellsOf 3=1∧prog.cellsOf 9=1∧prog.cellsOf 22=1∧prog.cellsOf 25=1∧prog.cellsOf 61=3∧prog.cellsOf 24=6∧prog.cellsOf 37=8:=by
 refine⟨by kernel_rfl,by kernel_rfl,by kernel_rfl,by kernel_rfl,by kernel_rfl,by kernel_rfl,by kernel_rfl⟩
theorem Ym{α:Type}:∀ {l:List α},l.length=3→∃ a b c,l=[a,b,c]
 | [a,b,c],_=>⟨a,b,c,rfl⟩
theorem SP{α:Type}:∀ {l:List α},l.length=8→∃ a b c d e f g h,l=[a,b,c,d,e,f,g,h]
 | [a,b,c,d,e,f,g,h],_=>⟨a,b,c,d,e,f,g,h,rfl⟩
theorem SQ{α:Type}:∀ {l:List α},l.length=6→∃ a b c d e f,l=[a,b,c,d,e,f]
 | [a,b,c,d,e,f],_=>⟨a,b,c,d,e,f,rfl⟩
section
variable {H:Type} {enc:TypeId×Value→H} {W:World} {base:Nat} {held:Bool} (μ:Mem)
theorem vA(b:ByteArray):b.data.toList.length=b.size:=by simp
theorem om{n:Nat}{v:Value}{x:DataW H×List MemPlace}(h:DataW.trod enc prog W base (fun _=>true) held n 9 [v]=some x):∃ s:List UInt8,VR W [] μ (.s s) v∧s.length≤Rows.uptoBulk x.1:=by
 obtain⟨b,h1,rfl,h3⟩:=DataW.trod_string underlying9 h;simp only[fc,fq]at h1;subst h1;refine⟨b.data.toList,.s _ b rfl (by rw[vA];exact h3),?_⟩;simp[Rows.uptoBulk]
theorem my{n:Nat}{v:Value}{x:DataW H×List MemPlace}(h:DataW.trod enc prog W base (fun _=>true) held n 3 [v]=some x):∃ k:Int,v=.int .i64 k ∧ -9223372036854775808≤k∧k≤9223372036854775807:=by
 obtain⟨k,h1,rfl,h3⟩:=DataW.trod_int underlying3 h;simp only[fc,fq]at h1;have:=bounds_i64 h3;exact⟨k,h1,this.1,this.2⟩
structure ItC (cs:List Value) (y:Int×ByteArray×Int) (B:Nat):Prop where
 ah7:cs=[.int .i64 y.1,.string y.2.1,.int .i64 y.2.2]
 size:y.2.1.size≤maxLen
 id : -9223372036854775808≤y.2.2∧y.2.2≤9223372036854775807
 adT:y.2.1.size+1≤B
theorem Kl{n:Nat}{cs:List Value}{x:DataW H×List MemPlace}(h:DataW.trod enc prog W base (fun _=>true) held n 61 cs=some x):∃ y:Int×ByteArray×Int,ItC cs y (Rows.uptoBulk x.1):=by
 obtain⟨y0,y1,y2,m,rfl,hl,h0,h1,h2⟩:=Deep.trod_struct3 underlying61 h;rw[kZ.2.2.2.2.1]at hl;obtain⟨c0,c1,c2,rfl⟩:=Ym hl;simp only[kZ.1,kZ.2.1,lk,lR,rE,lj]at h0 h1 h2;obtain⟨k,rfl,_⟩:=my h0;obtain⟨b,e1,rfl,h3⟩:=DataW.trod_string underlying9 h1;simp only[fc,fq]at e1;subst e1;obtain⟨i,rfl,hi⟩:=my h2;refine⟨(k,b,i),rfl,h3,hi,?_⟩;simp[Rows.uptoBulk,Rows.uptoBulkAll];omega
def yM(y:Int×ByteArray×Int):It:=⟨y.1,y.2.1.data.toList,y.2.2⟩
theorem zO{D:Nat→DataW H}{F:Nat→Int×ByteArray×Int}:∀ (l:List Nat),(∀ i∈l,(F i).2.1.size+1≤Rows.uptoBulk (D i))→(l.map fun i=>yM (F i)).length+aH (l.map fun i=>yM (F i))≤Rows.uptoBulkAll (l.map D)
 | [],_=>by simp[aH,Rows.uptoBulkAll]
 | i::l,h=>by
  have h1:=h i (by simp);have h2:=zO l fun j hj=>h j (by simp[hj]);have e:(yM (F i)).aib.length=(F i).2.1.size:=vA _;simp only[ay,ai,aH,Rows.uptoBulkAll,e]at h2 ⊢;omega
theorem Ec{b o k:Nat}:(Addr.mk b o none).add k=⟨b,o+k,none⟩:=by
 simp only[Addr.add];split
 ·rename_i h;subst h;simp
 ·rfl
theorem P9{n:Nat}{t e:TypeId}{v:Value}{x:DataW H×List MemPlace}(ht:prog.underlying t=some (.slice e))(hk:0<prog.cellsOf e)(h:DataW.trod enc prog W base (fun _=>true) held n t [v]=some x):
  (∀ a len cap,v=.slice (some a) len cap→a.spot=none)∨∃ a,v=.slice (some a) 0 0:=by
 rcases Deep.open_slice ht h with⟨h0,_⟩ | ⟨a,len,cap,m,n',D,Pl,h0,_,hl,hm,V3,_,hx⟩
 ·simp only[fc,fq]at h0;subst h0;exact .inl fun a len cap h=>by simp at h
 ·simp only[fc,fq]at h0;simp only[aL]at V3;subst V3
  by_cases h1:m=0
  ·subst h1;have:len=0:=by omega
   subst this;exact .inr ⟨a,h0⟩
  ·refine .inl fun a' len' cap' h=>?_;rw[h0]at h;simp only[Value.slice.injEq,aa]at h;obtain⟨rfl,_,_⟩:=h;obtain⟨cs',h2,_⟩:=hx 0 (by omega);obtain⟨_,h4,h3⟩:=World.cells?_some h2;have h3:=h3 0 hk;rw[ak (by omega)]at h3;simp only[L5,Addr.add,aL,World.cell?]at h3;cases hs:a.spot with
   | none=>rfl
   | some s =>
    rw[hs]at h3;split at h3<;>simp at h3
theorem sB{n:Nat}{v:Value}{x:DataW H×List MemPlace}(h:DataW.trod enc prog W base (fun _=>true) held n 22 [v]=some x):
  ∃ f:List It,VR W [] μ (.sl 3 (f.map It.ah7)) v∧f.length+aH f≤Rows.uptoBulk x.1∧∀ y∈f,-9223372036854775808≤y.id∧y.id≤9223372036854775807:=by
 rcases P9 underlying22 (by rw[kZ.2.2.2.2.1];decide) h with hs | ⟨a,rfl⟩
 case inr=>exact⟨[],.sle _ a,by simp[aH],by simp⟩
 rcases Deep.open_slice underlying22 h with⟨h0,rfl⟩ | ⟨a,len,cap,m,n',D,Pl,h0,_,hl,hm,V3,rfl,hx⟩
 ·simp only[fc,fq]at h0;subst h0;exact⟨[],.Ae _,by simp[aH],by simp⟩
 ·simp only[fc,fq]at h0;have BD:=hs _ _ _ h0;obtain⟨b,o,s⟩:=a;simp only at BD;subst BD;subst h0;have hle:len≤m:=by rw[V3];split<;>omega
  obtain⟨F,hF⟩:=Deep.choose_lt (α:=Int×ByteArray×Int) (n:=len) (p:=fun i y=>∃ cs',W.cells? base ((Addr.mk b o none).add (i*3)) 3=some cs'∧ItC cs' y (Rows.uptoBulk (D i))) (fun i hi=>by
   obtain⟨cs',h1,h2⟩:=hx i (by omega);obtain⟨y,hy⟩:=Kl h2;rw[kZ.2.2.2.2.1]at h1;exact⟨y,cs',h1,hy⟩)
  refine⟨(List.range len).map fun i=>yM (F i),?_,?_,?_⟩
  ·have nA:∀ i,i<len→W.cell? ⟨b,o+i*3,none⟩=some (.int .i64 (F i).1)∧W.cell? ⟨b,o+i*3+1,none⟩=some (.string (F i).2.1)∧W.cell? ⟨b,o+i*3+2,none⟩=some (.int .i64 (F i).2.2):=by
    intro i hi;obtain⟨cs',h1,h2⟩:=hF i hi;rw[h2.ah7,Ec]at h1;obtain⟨_,_,h3⟩:=World.cells?_some h1;have a0:=h3 0 (by decide);have a1:=h3 1 (by decide);have a2:=h3 2 (by decide);simp only[Ec,dK]at a0 a1 a2;exact⟨a0,a1,a2⟩
   let f:Nat→Nat→Value:=fun i j=>if j=0 then .int .i64 (F i).1 else if j=1 then .string (F i).2.1 else .int .i64 (F i).2.2
   have eA:∀ i j x,eS (((List.range len).map fun i=>yM (F i)).map It.ah7) i j=some x→i<len∧((j=0∧x=.i .i64 (F i).1)∨(j=1∧x=.s (F i).2.1.data.toList)∨(j=2∧x=.i .i64 (F i).2.2)):=by
    intro i j x hx;simp only[eS,xn,a8,aj]at hx;obtain⟨row,⟨y,⟨k,hk,rfl⟩,rfl⟩,hj⟩:=hx;have r8:i<len:=by simpa using(ab.1 hk).1
    rw[gS r8]at hk;simp only[aa]at hk;subst hk;refine⟨r8,?_⟩;rcases j with _ | _ | _ | j
    ·simp only[It.ah7,yM,aw,aa]at hj;exact .inl ⟨rfl,hj.symm⟩
    ·simp only[It.ah7,yM,aw,bI,aa]at hj;exact .inr (.inl ⟨rfl,hj.symm⟩)
    ·simp only[It.ah7,yM,aw,bI,aa]at hj;exact .inr (.inr ⟨rfl,hj.symm⟩)
    ·simp[It.ah7,yM]at hj
   have hlen:(((List.range len).map fun i=>yM (F i)).map It.ah7).length=len:=by simp
   have:=VR.sl (w:=W) (J:=[]) (μ:=μ) 3 (((List.range len).map fun i=>yM (F i)).map It.ah7) b o cap f (by omega) hm (fun r hr=>by
    obtain⟨y,_,rfl⟩:=bH.1 hr;rfl) (fun i j x hx=>by
    obtain⟨hi,hx⟩:=eA i j x hx;obtain⟨a0,a1,a2⟩:=nA i hi;rcases hx with⟨rfl,rfl⟩ | ⟨rfl,rfl⟩ | ⟨rfl,rfl⟩
    ·exact⟨a0,I0,rfl⟩
    ·exact⟨a1,I0,rfl⟩
    ·exact⟨a2,I0,rfl⟩) (fun i j x hx=>by
    obtain⟨hi,hx⟩:=eA i j x hx;rcases hx with⟨rfl,rfl⟩ | ⟨rfl,rfl⟩ | ⟨rfl,rfl⟩
    ·exact .i _ _
    ·obtain⟨cs',h1,h2⟩:=hF i hi;exact .s _ _ rfl (by rw[vA];exact h2.size)
    ·exact .i _ _)
   rwa [hlen]at this
  ·have:=zO (D:=D) (F:=F) (List.range len) (fun i hi=>by
    obtain⟨_,_,h2⟩:=hF i (cC.1 hi);exact h2.adT)
   simp only[Rows.uptoBulk];omega
  ·intro y hy;obtain⟨i,hi,rfl⟩:=bH.1 hy;obtain⟨_,_,h2⟩:=hF i (cC.1 hi);exact h2.id
def Reads(W:World)(μ:Mem)(xs:List V)(cs:List Value):Prop:=xs.length=cs.length∧∀ (i:Nat) (x:V) (v:Value),xs[i]?=some x→cs[i]?=some v→VR W [] μ x v
theorem Reads.nil:Reads W μ [] []:=⟨rfl,by simp⟩
theorem Reads.cons{x:V}{v:Value}{xs:List V}{cs:List Value}(h:VR W [] μ x v)(t:Reads W μ xs cs):Reads W μ (x::xs) (v::cs):=by
 refine⟨by simp[t.1],fun i y u hy hu=>?_⟩;cases i with
 | zero=>simp only[aw,aa]at hy hu;subst hy;subst hu;exact h
 | succ i=>exact t.2 i y u (by simpa using hy) (by simpa using hu)
theorem drop_take{α:Type}{a b c d e f g h:α}:([a,b,c,d,e,f,g,h].drop 0).take 1=[a]∧([a,b,c,d,e,f,g,h].drop 1).take 1=[b]∧([a,b,c,d,e,f,g,h].drop 2).take 1=[c]∧([a,b,c,d,e,f,g,h].drop 3).take 1=[d] ∧
  ([a,b,c,d,e,f,g,h].drop 4).take 1=[e]∧([a,b,c,d,e,f,g,h].drop 5).take 1=[f]∧([a,b,c,d,e,f,g,h].drop 6).take 1=[g]∧([a,b,c,d,e,f,g,h].drop 7).take 1=[h]:=⟨rfl,rfl,rfl,rfl,rfl,rfl,rfl,rfl⟩
theorem GS{n:Nat}{cs:List Value}{x:DataW H×List MemPlace}(h:DataW.trod enc prog W base (fun _=>true) held n 37 cs=some x):
  ∃ e:En,Reads W μ e.ah7 cs∧(e.aia.length+aH e.aia≤Rows.uptoBulk x.1∧e.aii.length+aH e.aii≤Rows.uptoBulk x.1∧e.bQ.length≤Rows.uptoBulk x.1∧e.next.length≤Rows.uptoBulk x.1∧e.cJ.length≤Rows.uptoBulk x.1∧e.b8.length≤Rows.uptoBulk x.1) ∧
   (∀ y∈e.aia++e.aii,-9223372036854775808≤y.id∧y.id≤9223372036854775807)∧(-9223372036854775808≤e.ail∧e.ail≤9223372036854775807) ∧ -9223372036854775808≤e.aif∧e.aif≤9223372036854775807:=by
 obtain⟨xs,m,_,rfl,hl,pK,hf⟩:=DataW.trod_struct underlying37 h;rw[kZ.2.2.2.2.2.2]at hl;obtain⟨c0,c1,c2,c3,c4,c5,c6,c7,rfl⟩:=SP hl;obtain⟨y0,y1,y2,y3,y4,y5,y6,y7,rfl⟩:=SP (l:=xs) (by rw[pK];rfl);have f0:DataW.trod enc prog W base (fun _=>true) held m 22 (([c0,c1,c2,c3,c4,c5,c6,c7].drop 0).take (prog.cellsOf 22))=some y0:=hf 0 _ rfl;have f1:DataW.trod enc prog W base (fun _=>true) held m 22 (([c0,c1,c2,c3,c4,c5,c6,c7].drop 1).take (prog.cellsOf 22))=some y1:=hf 1 _ rfl;have f2:DataW.trod enc prog W base (fun _=>true) held m 9 (([c0,c1,c2,c3,c4,c5,c6,c7].drop 2).take (prog.cellsOf 9))=some y2:=hf 2 _ rfl;have f3:DataW.trod enc prog W base (fun _=>true) held m 9 (([c0,c1,c2,c3,c4,c5,c6,c7].drop 3).take (prog.cellsOf 9))=some y3:=hf 3 _ rfl;have f4:DataW.trod enc prog W base (fun _=>true) held m 9 (([c0,c1,c2,c3,c4,c5,c6,c7].drop 4).take (prog.cellsOf 9))=some y4:=hf 4 _ rfl;have f5:DataW.trod enc prog W base (fun _=>true) held m 9 (([c0,c1,c2,c3,c4,c5,c6,c7].drop 5).take (prog.cellsOf 9))=some y5:=hf 5 _ rfl;have f6:DataW.trod enc prog W base (fun _=>true) held m 3 (([c0,c1,c2,c3,c4,c5,c6,c7].drop 6).take (prog.cellsOf 3))=some y6:=hf 6 _ rfl;have f7:DataW.trod enc prog W base (fun _=>true) held m 3 (([c0,c1,c2,c3,c4,c5,c6,c7].drop 7).take (prog.cellsOf 3))=some y7:=hf 7 _ rfl;clear hf;obtain⟨t0,t1,t2,t3,t4,t5,t6,t7⟩:=drop_take (a:=c0) (b:=c1) (c:=c2) (d:=c3) (e:=c4) (f:=c5) (g:=c6) (h:=c7);simp only[kZ.1,kZ.2.1,kZ.2.2.1,t0,t1,t2,t3,t4,t5,t6,t7]at f0 f1 f2 f3 f4 f5 f6 f7;obtain⟨a,va,ba,ia⟩:=sB μ f0;obtain⟨b,vb,bb,ib⟩:=sB μ f1;obtain⟨p,vp,bp⟩:=om μ f2;obtain⟨q,vq,bq⟩:=om μ f3;obtain⟨u,vu,bu⟩:=om μ f4;obtain⟨r,vr,br⟩:=om μ f5;obtain⟨k,rfl,hk⟩:=my f6;obtain⟨o,rfl,ho⟩:=my f7;have B:∀ y∈[y0,y1,y2,y3,y4,y5,y6,y7],Rows.uptoBulk y.1≤Rows.uptoBulk (.agg ([y0,y1,y2,y3,y4,y5,y6,y7].map (·.1))):=fun y hy=>F5 (bH.2 ⟨y,hy,rfl⟩);refine⟨⟨a,b,p,q,u,r,k,o⟩,.cons μ va (.cons μ vb (.cons μ vp (.cons μ vq (.cons μ vu (.cons μ vr (.cons μ (.i _ _) (.cons μ (.i _ _) (.nil μ)))))))),⟨aQ ba (B y0 (by simp)),aQ bb (B y1 (by simp)),aQ bp (B y2 (by simp)),aQ bq (B y3 (by simp)),aQ bu (B y4 (by simp)),aQ br (B y5 (by simp))⟩,fun y hy=>?_,ho,hk⟩;rcases bL.1 hy with hy | hy
 ·exact ia y hy
 ·exact ib y hy
theorem GR{n:Nat}{cs:List Value}{x:DataW H×List MemPlace}(h:DataW.trod enc prog W base (fun _=>true) held n 24 cs=some x):
  ∃ q:Qr,Reads W μ q.ah7 cs∧(q.aia.length+aH q.aia≤Rows.uptoBulk x.1∧q.bQ.length≤Rows.uptoBulk x.1∧q.next.length≤Rows.uptoBulk x.1) ∧ -9223372036854775808≤q.now∧q.now≤9223372036854775807:=by
 obtain⟨xs,m,_,rfl,hl,pK,hf⟩:=DataW.trod_struct underlying24 h;rw[kZ.2.2.2.2.2.1]at hl;obtain⟨c0,c1,c2,c3,c4,c5,rfl⟩:=SQ hl;obtain⟨y0,y1,y2,y3,y4,y5,rfl⟩:=SQ (l:=xs) (by rw[pK];rfl);have f0:DataW.trod enc prog W base (fun _=>true) held m 22 (([c0,c1,c2,c3,c4,c5].drop 0).take (prog.cellsOf 22))=some y0:=hf 0 _ rfl;have f1:DataW.trod enc prog W base (fun _=>true) held m 9 (([c0,c1,c2,c3,c4,c5].drop 1).take (prog.cellsOf 9))=some y1:=hf 1 _ rfl;have f2:DataW.trod enc prog W base (fun _=>true) held m 9 (([c0,c1,c2,c3,c4,c5].drop 2).take (prog.cellsOf 9))=some y2:=hf 2 _ rfl;have f3:DataW.trod enc prog W base (fun _=>true) held m 3 (([c0,c1,c2,c3,c4,c5].drop 3).take (prog.cellsOf 3))=some y3:=hf 3 _ rfl;have f4:DataW.trod enc prog W base (fun _=>true) held m 3 (([c0,c1,c2,c3,c4,c5].drop 4).take (prog.cellsOf 3))=some y4:=hf 4 _ rfl;have f5:DataW.trod enc prog W base (fun _=>true) held m 3 (([c0,c1,c2,c3,c4,c5].drop 5).take (prog.cellsOf 3))=some y5:=hf 5 _ rfl;clear hf;simp only[kZ.1,kZ.2.1,kZ.2.2.1,lk,lR,rE,lj]at f0 f1 f2 f3 f4 f5;obtain⟨a,va,ba,ia⟩:=sB μ f0;obtain⟨p,vp,bp⟩:=om μ f1;obtain⟨q,vq,bq⟩:=om μ f2;obtain⟨k,rfl,hk⟩:=my f3;obtain⟨o,rfl,ho⟩:=my f4;obtain⟨z,rfl,hz⟩:=my f5;have B:∀ y∈[y0,y1,y2,y3,y4,y5],Rows.uptoBulk y.1≤Rows.uptoBulk (.agg ([y0,y1,y2,y3,y4,y5].map (·.1))):=fun y hy=>F5 (bH.2 ⟨y,hy,rfl⟩);exact⟨⟨a,p,q,k,o,z⟩,.cons μ va (.cons μ vp (.cons μ vq (.cons μ (.i _ _) (.cons μ (.i _ _) (.cons μ (.i _ _) (.nil μ)))))),⟨aQ ba (B y0 (by simp)),aQ bp (B y1 (by simp)),aQ bq (B y2 (by simp))⟩,hk⟩
end
structure JM (q:Qr):Prop where
 aia:q.aia.length+aH q.aia≤1048576
 bQ:q.bQ.length≤1048576
 next:q.next.length≤1048576
 now : -9223372036854775808≤q.now∧q.now≤9223372036854775807
structure JO (e:En):Prop where
 aia:e.aia.length+aH e.aia≤1048576
 aii:e.aii.length+aH e.aii≤1048576
 bQ:e.bQ.length≤1048576
 next:e.next.length≤1048576
 cJ:e.cJ.length≤1048576
 b8:e.b8.length≤1048576
 ids:∀ y∈e.aia++e.aii,-9223372036854775808≤y.id∧y.id≤9223372036854775807
 aif : -9223372036854775808≤e.aif∧e.aif≤9223372036854775807
set_option maxRecDepth 20000 in
theorem VM{H:Type}{enc:TypeId×Value→H}{W:World}{r:Reach}{base:Nat}{v:Value}{d:DataW H}{p:List MemPlace}(μ:Mem)(qy:Value.okWide prog W r base 24 v)(hd:DataW.Trod enc prog W 0 (fun _=>true) true 24 v d p)(hB:Rows.uptoBulk d≤1048576):
  ∃ q:Qr,VR W [] μ (.agg q.ah7) v∧JM q:=by
 obtain⟨fuel,hf⟩:=hd;simp only[Value.okWide,underlying24]at qy;obtain⟨cs,rfl,_⟩:=qy;have HC:(Value.agg cs).cells.toList=cs.toList:=rfl;rw[HC]at hf;obtain⟨o,ho,hs,hn⟩:=GR μ hf;refine⟨o,.agg o.ah7 cs (by rw[ho.1];simp) fun i x hx=>?_,⟨aQ hs.1 hB,aQ hs.2.1 hB,aQ hs.2.2 hB,hn⟩⟩
 have hi:i<cs.size:=by
  have:=(ab.1 hx).1;rw[ho.1]at this;simpa using this
 have:=ho.2 i x cs[i] hx (by rw[eV];simp[hi]);simpa[Array.getD,hi]using this
set_option maxRecDepth 20000 in
theorem Sr{H:Type}{enc:TypeId×Value→H}{W:World}{r:Reach}{base:Nat}{v:Value}{d:DataW H}{p:List MemPlace}(μ:Mem)(qy:Value.okWide prog W r base 37 v)(hd:DataW.Trod enc prog W 0 (fun _=>true) true 37 v d p)(hB:Rows.uptoBulk d≤1048576):
  ∃ e:En,VR W [] μ (.agg e.ah7) v∧JO e:=by
 obtain⟨fuel,hf⟩:=hd;simp only[Value.okWide,underlying37]at qy;obtain⟨cs,rfl,_⟩:=qy;have HC:(Value.agg cs).cells.toList=cs.toList:=rfl;rw[HC]at hf;obtain⟨o,ho,hs,hi,_,hc⟩:=GS μ hf;refine⟨o,.agg o.ah7 cs (by rw[ho.1];simp) fun i x hx=>?_,⟨aQ hs.1 hB,aQ hs.2.1 hB,aQ hs.2.2.1 hB,aQ hs.2.2.2.1 hB,aQ hs.2.2.2.2.1 hB,aQ hs.2.2.2.2.2 hB,hi,hc⟩⟩
 have hi:i<cs.size:=by
  have:=(ab.1 hx).1;rw[ho.1]at this;simpa using this
 have:=ho.2 i x cs[i] hx (by rw[eV];simp[hi]);simpa[Array.getD,hi]using this
end Go.Proofs.Tryz

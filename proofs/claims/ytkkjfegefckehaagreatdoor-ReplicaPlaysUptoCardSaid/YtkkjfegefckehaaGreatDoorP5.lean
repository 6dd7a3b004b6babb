/- A part of the proof of the statement of the last text of this claim; its conditions stand there. -/
import Derived.Test.YtkkjfegefckehaaGreatDoorB38
import Derived.Test.YtkkjfegefckehaaGreatDoorP1
import Derived.Test.YtkkjfegefckehaaGreatDoorP2
set_option linter.all false

namespace Go.Proofs.Tryz
open Go Go.Pm Go.Bt
open Go.Pm.V(u)
theorem Zw{σ:ag}{K:Exit→St→Prop}(aQ:bP σ)(f:List It)(hlen:f.length<2^32)(ht:aM f<2^32):∀ (rest pre:List It) (n:Nat),f=pre++rest→n+aM rest<2^40 →
  ((∀ j0 j1 j2 j4 j5 j6 j7 j8 j9 cT cS cX cR cN cM cL cW df dn dx dy dD dI dH dG dX ez eA eH eW fg fi ft fw fG fM fL fK fX gi gF gR gQ il ix iV iU iT iS iR,K (.exit 0) ⟨[j0,j1,j2,.i .i64 (n+aM rest:Nat),j4,j5,j6,j7,j8,j9,cT,cS,cX,cR,cN,cM,cL,cW,df,dn,dx,dy,dD,dI,dH,dG,dX,ez,eA,eH,eW,fg,fi,ft,fw,fG,fM,fL,fK,fX,gi,gF,gR,gQ,il,ix,iV,iU,iT,iS,iR],σ⟩)) →
  fO σ.length prog J4 K (rest.length+1) ⟨[u,u,u,.i .i64 n,u,u,u,u,u,u,u,u,u,u,u,u,u,u,u,u,u,u,u,u,u,u,u,u,u,u,u,u,u,u,u,u,u,.sl 3 (f.map It.cells),.i .i64 f.length,.i .i64 pre.length,u,u,u,u,u,u,u,u,u,u,u],σ⟩:=by
 intro rest
 induction rest with
 | nil =>
  intro pre n he hb h1;have he:f=pre:=by simpa using he
  subst he;refine ax fun R hR=>?_;simp only[J4,VV,seval];simp only[aM,bC]at h1;exact⟨fun h=>by simp at h,fun _=>h1 ..⟩
 | cons x rest ih =>
  intro pre n he hb h1;have u0:f.length=pre.length+(rest.length+1):=by rw[he];simp
  have hw:IntKind.i64.wrap ((pre.length:Int)+1)=(((pre++[x]).length:Nat):Int):=by
   rw[aV (by omega)];simp
  have dY:(List.map It.cells f).getD pre.length []=x.cells:=by rw[he];exact ki
  have hd:decide ((pre.length:Int)<(f.length:Int))=true:=by simp;omega
  simp only[aM]at hb h1;have FZ:IntKind.i64.wrap ((n:Int)+(x.text.length:Int))=((n+x.text.length:Nat):Int):=by rw[IntWalk.i64_in _ (by omega)];omega
  refine ax fun R hR=>?_;simp only[J4,an,dY,hd,hw,FZ,It.cells,List.length_map,VV,seval];refine⟨⟨by omega,by omega⟩,?_⟩;refine hR _ (rF (aB _) aQ ?_ ?_ (ih (pre++[x]) (n+x.text.length) (by rw[he];simp) (by omega) (by rw[Nat.add_assoc];exact h1)))
  ·repeat' constructor
  ·simp only[LW]
theorem tW(a b:List It):aM (a++b)=aM a+aM b:=by
 induction a with
 | nil=>simp[aM]
 | cons x r ih=>simp only[aq,aM,ih];omega
theorem LM(o:aJ)(hs:o.small)(σ:ag):PC prog 10 [.agg o.cells] σ (fun r σ'=>r=.b (decide (AX o<300))∧σ'=σ):=by
 refine PC.intro func10 zF fun aQ cz=>?_;simp only[p10,SS,seval];have h1:=hs.entry.source;have h2:=hs.entry.target;have h3:=hs.entry.gY;have h4:=hs.entry.o8;have h5:=hs.entry.bS;have h6:=hs.entry.next;have h7:=hs.seen;have a1:IntKind.i64.wrap ((o.entry.source.length:Int)+o.entry.target.length)=((o.entry.source.length+o.entry.target.length:Nat):Int):=by rw[IntWalk.i64_in _ (by omega)];omega
 have a2:IntKind.i64.wrap (((o.entry.source.length+o.entry.target.length:Nat):Int)+o.entry.bS.length)=((o.entry.source.length+o.entry.target.length+o.entry.bS.length:Nat):Int):=by rw[IntWalk.i64_in _ (by omega)];omega
 have a3:IntKind.i64.wrap (((o.entry.source.length+o.entry.target.length+o.entry.bS.length:Nat):Int)+o.entry.next.length)=((o.entry.source.length+o.entry.target.length+o.entry.bS.length+o.entry.next.length:Nat):Int):=by rw[IntWalk.i64_in _ (by omega)];omega
 have a4:IntKind.i64.wrap (((o.entry.source.length+o.entry.target.length+o.entry.bS.length+o.entry.next.length:Nat):Int)+o.seen.length)=((o.entry.source.length+o.entry.target.length+o.entry.bS.length+o.entry.next.length+o.seen.length:Nat):Int):=by rw[IntWalk.i64_in _ (by omega)];omega
 refine bA.cut fun R hR=>?_;simp only[aJ.cells,bc.cells,En.cells,VV,seval];refine hR _ ?_;clear hR R;refine bA.cut fun R hR=>?_;simp only[List.length_map,a1,a2,a3,a4,VV,seval];refine hR _ (bA.ej (fr':=[u,.ptr σ.length 0,u,.i .i64 (o.entry.source.length+o.entry.target.length+o.entry.bS.length+o.entry.next.length+o.seen.length:Nat),u,u,u,u,u,u,u,u,u,u,u,u,u,u,u,u,u,u,u,u,u,u,u,u,u,u,u,u,u,u,u,u,u,u,u,u,u,u,u,u,u,u,u,u,u,u,u]) ?_ (by repeat' constructor));clear hR R;generalize Oz:o.entry.source.length+o.entry.target.length+o.entry.bS.length+o.entry.next.length+o.seen.length=n0 at *;have gO:n0+aM (o.entry.source++o.entry.target)=AX o:=by rw[tW,AX];omega
 have Ik:decide (((AX o:Nat):Int)<300)=decide (AX o<300):=by rw[decide_eq_decide];omega
 clear hs;refine bA.cut fun R hR=>?_
 have tail:∀ (f:List It) {fr:List V} {s:ag},f=o.entry.source++o.entry.target→(∃ loc,Wk prog σ.length fr s [u,u,u,.i .i64 n0,u,u,u,u,u,u,u,u,u,u,u,u,u,u,u,u,u,u,u,u,u,u,u,u,u,u,u,u,u,u,u,u,u,.sl 3 (f.map It.cells),.i .i64 f.length,.i .i64 (([]:List It).length:Nat),u,u,u,u,u,u,u,u,u,u,u] (σ++loc)) →
   bA σ.length prog (.loop J4) (Ed 0 (CD R (BI prog σ.length [.t 2] fun r σ'=>r=.b (decide (AX o<300))∧σ'=σ))) ⟨fr,s⟩:=by
  rintro f fr s rfl ⟨loc,hw⟩;refine bA.wk (hw.trans (Wk.r3 (σ:=σ) (loc:=loc) (aB _) aQ (eX.1 (by simp only[LW])))) (bA.pd (_+1) (Zw aQ (o.entry.source++o.entry.target) (by simp;omega) (by rw[tW];omega) (o.entry.source++o.entry.target) [] n0 rfl (by rw[tW];omega) ?_));rw[gO];intros;simp only[VV,seval];refine hR _ (aj ?_);simp only[Ik,VV,seval];exact aO (.inr rfl) (by simp only[RS,seval];rfl) ⟨rfl,rfl⟩
 cases ha:o.entry.source with
 | nil =>
  cases hb:o.entry.target with
  | nil =>
   simp only[az,me,ah,maxLen,V.pure,VV,seval];refine tail [] (by simp[ha,hb]) ⟨_,Wk.ej ?_⟩;simp only[az,ah]
   repeat' constructor
  | cons b t =>
   rw[hb]at h2;simp only[ab]at h2;simp only[az,me,ay,rv,aD,ab,List.length_map,maxLen,V.pure,VV,seval];refine⟨⟨by omega,by omega⟩,tail (b::t) (by simp[ha,hb]) ⟨_,(Wk.TN 1 (E:=76) (sz:=3) (by':=32) (g:=0) (sh:=false) (rows:=b.cells::t.map It.cells) rfl).trans (Wk.ej ?_)⟩⟩;simp only[ay,az,ab,ah,fz,kc,and_self,if_true]
   repeat' constructor
 | cons a s =>
  rw[ha]at h1;simp only[ab]at h1;simp only[ay,rv,aD,ab,List.length_map,maxLen,V.pure,VV,seval];have el:(s.map It.cells++o.entry.target.map It.cells).length+1=(a::(s++o.entry.target)).length:=by simp
  rw[el,← List.map_append];refine⟨⟨by omega,by omega⟩,⟨by omega,by omega⟩,tail (a::(s++o.entry.target)) (by simp[ha]) ⟨_,(Wk.TN 1 (E:=76) (sz:=3) (by':=32) (g:=1) (sh:=false) (rows:=a.cells::(s++o.entry.target).map It.cells) rfl).trans (Wk.ej ?_)⟩⟩;simp only[ay,az,fz,kc,and_self,if_true]
  repeat' constructor
end Go.Proofs.Tryz

/- A part of the proof of the statement of the last text of this claim; its conditions stand there. -/
import Derived.Test.YtkkjfegefckehaaGreatDoorB1
import Derived.Test.YtkkjfegefckehaaGreatDoorB21
import Derived.Test.YtkkjfegefckehaaGreatDoorB32
import Derived.Test.YtkkjfegefckehaaGreatDoorB33
set_option linter.all false

namespace Go.Proofs.Tryz
open Go Go.Pm Go.Bt Go.RowKit
open Go.Pm.V(u)
theorem afs{x:ByteArray}{l:List UInt8}(h:x.data.toList=l):x=⟨l.toArray⟩:=by subst h;simp
theorem z8(ks:List (List UInt8))(hka:KA ks)(hl:ks.length<2^40)(k:List UInt8)(σ:ag):PC prog 135 [.sl 1 (ks.map nD),.s k] σ (fun r σ'=>r=.i .i64 (ka k ks)∧σ'=σ):=by
 refine PC.Sk fun B w0 w μ vs hB hv=>?_;have h0:=hv.2 0 _ rfl;have h1:=hv.2 1 _ rfl;have e:vs=#[vs.getD 0 undef,vs.getD 1 undef]:=vs2 hv.1;obtain⟨x,hx,Ca,_⟩:=h1.nO;rw[e,hx];refine⟨.int .i64 (ka k ks:Nat),?_,fun w'=>.i _ _⟩
 have none:∀ (a:Option Addr) (cap:Nat),ks=[]→Calls prog 135 #[.slice a 0 cap,.string x] w fun e w'=>e=.returned (.int .i64 (ka k ks:Nat))∧w.grownBy w' Option.none:=by
  intro a cap h;subst h;refine(Any.sort_SearchStrings_none Tryz.Ju a cap x w).mono ?_;rintro e w' ⟨rfl,hb⟩;exact⟨rfl,kI hb⟩
 rcases h0.Dw with⟨h2,a,zM⟩ | ⟨b,o,cap,f,zM,hc,hm,hr⟩
 ·rw[zM];exact none a 0 (by simpa using h2)
 ·by_cases Tl:ks=[]
  ·rw[zM,Tl];have:=none (some ⟨b,o,Option.none⟩) cap Tl;rw[Tl]at this;exact this
  have jy:∀ i (hi:i<ks.length),w.cell? ⟨b,o+i,Option.none⟩=some (.string ⟨ks[i].toArray⟩):=by
   intro i hi;have dY:fe (ks.map nD) i 0=some (.s ks[i]):=by simp[fe,nD,hi]
   have h3:=(hr.2.1 i 0 _ dY).1;obtain⟨y,hy,hyl,_⟩:=(hr.2.2 i 0 _ dY).nO;rw[hy,afs hyl]at h3;simpa using h3
  have hlen:0<ks.length:=dK.2 Tl
  have hblk:b<w.heap.size:=by
   have:=jy 0 hlen;simp only[World.cell?]at this;split at this
   ·rename_i h;exact(cg.1 h).1
   ·simp at this
  let d:Array ByteArray:=(ks.map fun k=>ByteArray.mk k.toArray).toArray;have hd:d.size=ks.length:=by simp[d]
  have OC:∀ i (hi:i<ks.length),d[i]! = ⟨ks[i].toArray⟩:=by
   intro i hi;rw[getElem!_pos d i (by omega)];simp[d]
  have hS:=Any.sort_SearchStrings Tryz.Ju b o cap d x w (fun i hi=>by
   rw[hd]at hi;rw[jy i hi,OC i hi]) hblk (by omega) (fun i j Lu hj hi=>by
   rw[hd]at hj;rw[OC i (by omega)]at hi;rw[OC j hj];simp only[cm,decide_eq_false_iff_not,Ca,qO]at hi ⊢
   by_cases he:i=j
   ·subst he;exact hi
   ·have:=gE.1 hka i j (by omega) hj (by omega);intro h;exact hi (jA this h))
  have Z2:d.toList.countP (fun y=>!!decide (y.data.toList<x.data.toList))=ka k ks:=by
   simp only[d,List.countP_map,ka,Ca];exact List.countP_congr fun y _=>by simp
  rw[zM,List.length_map,← hd];refine hS.mono ?_;rintro e w' ⟨rfl,hb⟩;rw[Z2];exact⟨rfl,kI hb⟩
end Go.Proofs.Tryz
namespace Go.Proofs.Tryz
open Go Go.Pm Go.Bt
open Go.Pm.V(u)
theorem Yx:Ti prog 9 1 16:=nR (by kernel_rfl)
theorem VX{σ:ag}{K:Exit→St→Prop}(aQ:bP σ)(m:List En)(hlen:m.length≤1024)(hs:∀ e∈m,e.small):∀ (rest pre:List En) (out:List (List UInt8)) (g:Nat),m=pre++rest→out.length=pre.length →
  ((jP rest out).2=true→∀ g,(∀ j0 j1 j2 j3 j5 j6 j7 j8 j9 cT cS cX cR cN cM cL cW df dn dx dy dD dI dH dG dX ez eA eH eW fg fi ft fw fG fM fL fK fX gi,K (.exit 0) ⟨[j0,j1,j2,j3,.own σ.length g,j5,j6,j7,j8,j9,cT,cS,cX,cR,cN,cM,cL,cW,df,dn,dx,dy,dD,dI,dH,dG,dX,ez,eA,eH,eW,fg,fi,ft,fw,fG,fM,fL,fK,fX,gi],σ++[.row 9 1 16 g false ((jP rest out).1.map nD)]⟩)) →
  ((jP rest out).2=false→∀ (loc:ag),(∀ j0 j1 j4 j5 j6 j7 j8 j9 cT cS cX cR cN cM cL cW df dn dx dy dD dI dH dG dX ez eA eH eW fg fi ft fw fG fM fL fK fX gi,K .ret ⟨[j0,j1,.nil,.b false,j4,j5,j6,j7,j8,j9,cT,cS,cX,cR,cN,cM,cL,cW,df,dn,dx,dy,dD,dI,dH,dG,dX,ez,eA,eH,eW,fg,fi,ft,fw,fG,fM,fL,fK,fX,gi],σ++loc⟩)) →
  fO σ.length prog Hv K (rest.length+1) ⟨[u,u,u,u,.own σ.length g,u,u,u,u,u,.sl 8 (m.map En.cells),.i .i64 m.length,.i .i64 pre.length,u,u,u,u,u,u,u,u,u,u,u,u,u,u,u,u,u,u,u,u,u,u,u,u,u,u,u,u],σ++[.row 9 1 16 g false (out.map nD)]⟩:=by
 intro rest
 induction rest with
 | nil =>
  intro pre out g he ho h1 h2;have he:m=pre:=by simpa using he
  subst he;refine ax fun R hR=>?_;simp only[Hv,VV,seval];exact⟨fun h=>by simp at h,fun _=>h1 rfl g ..⟩
 | cons x rest ih =>
  intro pre out g he ho h1 h2;have hx:x∈m:=by rw[he];simp
  have sx:=hs x hx;have E1:m.length=pre.length+(rest.length+1):=by rw[he];simp
  have hw:IntKind.i64.wrap ((pre.length:Int)+1)=(((pre++[x]).length:Nat):Int):=by
   rw[aV (by omega)];simp
  have dY:(List.map En.cells m).getD pre.length []=x.cells:=by rw[he];exact ki
  have hd:decide ((pre.length:Int)<(m.length:Int))=true:=by simp;omega
  refine ax fun R hR=>?_;simp only[Hv,an,dY,hd,En.cells,List.length_map,VV,seval];refine⟨⟨by omega,by omega⟩,?_⟩;refine ai (kF x sx _) rfl ?_;simp only[VV,seval];refine⟨fun h=>?_,fun h=>?_⟩
  ·have h:cy x≠0:=by simpa using h
   exact h2 (by simp only[jP,if_pos h]) _ ..
  have h:¬ cy x≠0:=by simpa using h
  refine ai (Di x sx _) rfl ?_;simp only[jP,if_neg h]at h1 h2;have e0:out.map nD++[[V.s (cf x)]]=(out++[cf x]).map nD:=by simp[nD]
  have hy:0<pre.length→fe ((out++[cf x]).map nD) (pre.length - 1) 0=some (.s (out.getLast?.getD [])):=by
   intro h;rcases dQ out with rfl | ⟨o,y,rfl⟩
   ·simp at ho;omega
   ·simp only[dt,List.length_append,ab,ah]at ho ⊢;rw[← ho];simp[fe,nD]
  have hk:fe ((out++[cf x]).map nD) pre.length 0=some (.s (cf x)):=by
   rw[← ho];simp[fe,nD]
  have hl:(((out++[cf x]).map nD).length:Int)=pre.length+1:=by simp[ho]
  have hws:0<pre.length→IntKind.i64.wrap ((pre.length:Int) - 1)=((pre.length - 1:Nat):Int):=fun h=>by rw[IntWalk.i64_in _ (by omega)];omega
  simp only[e0,List.length_map,V.pure,maxLen,VV,seval];refine⟨⟨by omega,by omega⟩,fun h=>?_,.s (out.getLast?.getD []),fun h=>⟨True,?_,trivial⟩,?_⟩
  ·have h:0<pre.length:=by simpa using h
   rw[hws h,← List.length_map (f:=nD),hl];omega
  ·have h:0<pre.length:=by simpa using h
   rw[hws h,an,hy h]
  simp only[hk,VV,seval];refine⟨fun _=>by simp;omega,_,fun _=>rfl,?_⟩
  have OA:(decide ((0:Int)<(pre.length:Int))&&!Op.bytesLess (out.getLast?.getD []) (cf x))=uH out (cf x):=by
   rcases dQ out with rfl | ⟨o,y,rfl⟩
   ·have:pre.length=0:=by simpa using ho.symm
    simp[uH,this]
   ·have:0<pre.length:=by simp at ho;omega
    simp[uH,this]
  simp only[hw,OA,VV,seval];refine⟨fun h=>?_,fun h=>?_⟩
  ·exact h2 (by rw[if_pos h]) (_::_) ..
  ·have h:¬ uH out (cf x)=true:=by rw[h];simp
   simp only[if_neg h]at h1 h2;refine hR _ (cH (fr':=[u,u,u,u,.own σ.length (g+1),u,u,u,u,u,.sl 8 (m.map En.cells),.i .i64 m.length,.i .i64 (pre++[x]).length,u,u,u,u,u,u,u,u,u,u,u,u,u,u,u,u,u,u,u,u,u,u,u,u,u,u,u,u]) [_] _ (bU aQ (by simp)) (by repeat' constructor) ?_ (ih (pre++[x]) (out++[cf x]) (g+1) (by rw[he];simp) (by simp[ho]) h1 h2));simp only[ab,ah,Nat.lt_add_right_iff_pos,Nat.zero_lt_succ,LW]
theorem Mq(m:List En)(hs:∀ e∈m,e.small)(σ:ag):PC prog 134 [.sl 8 (m.map En.cells)] σ (fun r σ'=>r=.iK [.sl 1 ((keysOf m).1.map nD),.b (keysOf m).2]∧σ'=σ):=by
 refine PC.intro func134 akr fun aQ cz=>aj ?_;simp only[adC,SS,seval];simp only[List.length_map,VV,seval];refine⟨fun h=>?_,fun h=>?_⟩
 ·have h:1024<m.length:=by simp at h;omega
  refine ed (xs':=[.sl 1 [],.b false]) (.inr rfl) (by simp only[kO,sj,VV,seval]) (Wk.ej (.cons (.nil _) (.cons (.refl _) .nil))) rfl ?_;simp only[keysOf,if_pos h];exact⟨rfl,by trivial⟩
 ·have h:¬ 1024<m.length:=by simp at h;omega
  refine bA.wk ((Wk.gZ (P:=prog) (σ:=σ) (k:=4) Yx rfl).trans (Wk.ej ?_)) (bA.pd (m.length+1) (VX aQ m (by omega) hs m [] [] 0 rfl rfl (fun ho=>?_) (fun ho=>?_)))
  ·simp only[VV,seval]
   repeat' constructor
  ·intro g;intros;simp only[VV,seval];refine gg 0 aQ (.inr rfl) (by simp only[RS,seval];rfl) rfl ?_ ?_
   ·simp only[ay,az,bC,fz,kc,and_self,if_true,LW]
   ·simp only[ay,az,bC,fz,kc,and_self,if_true,keysOf,if_neg h,ho];exact⟨rfl,trivial⟩
  ·intro loc;intros;refine dv (ys:=[.sl 1 [],.b false]) aQ (.inr rfl) (by simp only[RS,seval];rfl) ?_ (by simp only[LW]) ?_
   ·exact .cons (.nil _) (.cons (.refl _) .nil)
   ·have e:jP m []=([],false):=by
     have key:∀ (m:List En) (out:List (List UInt8)),(jP m out).2=false→jP m out=([],false):=by
      intro m
      induction m with
      | nil=>intro out h;simp[jP]at h
      | cons x m ih =>
       intro out h;simp only[jP]at h ⊢;split
       ·rfl
       ·rename_i h1;rw[if_neg h1]at h;split
        ·rfl
        ·rename_i h2;rw[if_neg h2]at h;exact ih _ h
     exact key m [] ho
    simp only[keysOf,if_neg h,e];exact⟨rfl,by trivial⟩
theorem Mr(m:List En)(hs:∀ e∈m,e.small)(k:List UInt8)(σ:ag):PC prog 82 [.sl 8 (m.map En.cells),.s k] σ (fun r σ'=>r=.i .i64 (find m k)∧σ'=σ):=by
 refine PC.intro func82 c82 fun aQ cz=>aj ?_;simp only[p82,SS,seval];simp only[VV,seval];refine ai (Mq m hs _) rfl ?_;simp only[VV,seval];have tJ:=(Mz m).1;refine ai (z8 (keysOf m).1 (MA m) (by omega) k _) rfl ?_;have hc:=DY k (keysOf m).1;simp only[find];generalize (keysOf m).1=ks at tJ hc;generalize (keysOf m).2=ok;generalize ka k ks=c at hc;simp only[List.length_map,VV,seval]
 have fk:((!ok||(c:Int)==(ks.length:Int))==false)=true→c<ks.length:=by
  intro h;have h:ok=true∧¬ (c:Int)=ks.length:=by simpa using h
  omega
 refine⟨fun h=>by have:=fk h;omega,.s (ks.getD c []),fun h=>⟨True,?_,trivial⟩,?_⟩
 ·have:=fk h;simp[fe,nD,this]
 simp only[VV,seval]
 have OA:((!ok||(c:Int)==(ks.length:Int))||!ks.getD c []==k)=decide (ok=false∨c=ks.length∨ks.getD c []≠k):=by
  rw[du];simp[or_assoc,Int.ofNat_inj]
 rw[OA];refine⟨fun h=>?_,fun h=>?_⟩
 ·have h:=of_decide_eq_true h;rw[if_pos h];exact aO (.inr rfl) (by simp only[RS,seval];rfl) ⟨rfl,rfl⟩
 ·have h:=of_decide_eq_false h;rw[if_neg h];exact aO (.inr rfl) (by simp only[RS,seval];rfl) ⟨rfl,rfl⟩
end Go.Proofs.Tryz

/- A part of a proof; the claim's last text says of what. -/
import Derived.WalkKit
import Derived.Laws.IdiomStrings
import Derived.Test.YtlakkaamfadipaaGreatDoorL24
import Derived.Test.YtlakkaamfadipaaGreatDoorL28
import Derived.Test.YtlakkaamfadipaaGreatDoorL32
set_option linter.all false

namespace Go.Proofs.Tryz
open Go Go.Pm Go.Bt Go.RowKit
def Fi(w wr:World)(l:List UInt8)(k:Nat):Prop :=
 w.grownBy wr none∧wr.heap.size=w.heap.size+1∧∀ j x,l[j]?=some x→wr.cell? ⟨w.heap.size,j,none⟩=some (.int .u8 (if j<k then mD x else x).toNat)∧wr.frozen? ⟨w.heap.size,j,none⟩=false
theorem Ep(w:World)(l:List UInt8)(c:Nat):
  Fi w (w.alloc (.cells (bytesRow ⟨l.toArray⟩ c) 5 ((bytesRow ⟨l.toArray⟩ c).size,(bytesRow ⟨l.toArray⟩ c).size+1))).drew l 0:=by
 refine⟨?_,?_,fun j x hj=>?_⟩
 ·have h:=World.grownBy_alloc w (.cells (bytesRow ⟨l.toArray⟩ c) 5 ((bytesRow ⟨l.toArray⟩ c).size,(bytesRow ⟨l.toArray⟩ c).size+1)) none;exact⟨h.os,h.tape,h.output,h.size,h.block⟩
 ·simp
 ·have jr:j<l.length:=(ab.1 hj).1;have hx:l[j]=x:=(ab.1 hj).2;have eI:j<(bytesRow ⟨l.toArray⟩ c).size:=by simp[bytesRow];omega
  rw[aC (by omega)];constructor
  ·show(w.alloc _).cell? _=_;rw[World.cell?_alloc_mark,bytesRow_at ⟨l.toArray⟩ c j (by simpa using jr)];simp[hx]
  ·show(w.alloc _).frozen? _=_;rw[World.frozen?_alloc_mark];simp only[Bool.and_eq_false_iff,dx];exact .inl (by omega)
theorem HH{w wr:World}{l:List UInt8}{k:Nat}(h:Fi w wr l k){x:UInt8}(hk:l[k]?=some x){v:Int}(hv:v=(mD x).toNat):Fi w (wr.setCell ⟨w.heap.size,k,none⟩ (.int .u8 v)) l (k+1):=by
 obtain⟨h1,h2,h3⟩:=h;refine⟨⟨h1.os,h1.tape,h1.output,by simpa using h1.size,fun i hi gr=>?_⟩,by simpa using h2,fun j y hj=>?_⟩
 ·rw[← h1.block i hi gr];simp only[World.setCell,bH];rw[aC (by omega)]
 ·have h4:=h3 j y hj;have h5:=h3 k x hk
  by_cases Gm:j=k
  ·subst Gm;rw[hk]at hj;simp only[aa]at hj;subst hj;refine⟨?_,?_⟩
   ·rw[World.cell?_setCell_same _ _ _ h5.1,aQ (by omega),hv]
   ·simpa using h5.2
  ·refine⟨?_,?_⟩
   ·rw[World.cell?_setCell_other _ _ _ _ (by intro e;injection e;omega),h4.1];congr 3
    by_cases h:j<k
    ·rw[aQ h,aQ (by omega)]
    ·rw[aC h,aC (by omega)]
   ·simpa using h4.2
theorem y6{w wr:World}{l:List UInt8}{k:Nat}(h:Fi w wr l k){x:UInt8}(hk:l[k]?=some x)(hv:mD x=x):Fi w wr l (k+1):=by
 obtain⟨h1,h2,h3⟩:=h;refine⟨h1,h2,fun j y hj=>⟨?_,(h3 j y hj).2⟩⟩;rw[(h3 j y hj).1];congr 3
 by_cases Gm:j=k
 ·subst Gm;rw[hk]at hj;simp only[aa]at hj;subst hj;rw[aC (by omega),aQ (by omega),hv]
 ·by_cases h:j<k
  ·rw[aQ h,aQ (by omega)]
  ·rw[aC h,aC (by omega)]
theorem HI{w wr:World}{l:List UInt8}(h:Fi w wr l l.length)(cap:Nat):(convert 58 9 (.slice (some ⟨w.heap.size,0,none⟩) l.length cap)).run prog wr=.ok (.string ⟨(lower l).toArray⟩) wr:=by
 have:=run_convert_bytes_back (P:=prog) wr 58 9 5 ⟨w.heap.size,0,none⟩ cap (lower l) underlying58 underlying5 underlying9 (fun j hj=>by
  have jr:j<l.length:=by simpa[lower]using hj
  have:=(h.2.2 j l[j] (an jr)).1;rw[aQ jr]at this;rw[Addr.add_lit,bj,this];simp[lower])
 simpa[lower]using this
set_option maxRecDepth 100000 in
set_option maxHeartbeats 4000000 in
theorem Cn(l:List UInt8)(hl:l.length≤maxLen)(w:World):
  Calls prog 257 #[.string ⟨l.toArray⟩] w fun e w'=>e=.returned (.string ⟨(lower l).toArray⟩)∧w.grownBy w' none:=by
 have hc:=run_bytes_of_string (P:=prog) w 9 58 5 ⟨l.toArray⟩ underlying9 underlying58 underlying5
 go_enter func257,Tryz.ntmps257
 go_wp2
 go_loopw [10] (fun i wr=>∃ k:Nat,k≤l.length∧i=.int .i64 k∧Fi w wr l k) (fun i _=>l.length - (intOf i).toNat)
 case atStart=>exact⟨0,eX _,rfl,Ep w l _⟩
 case round =>
  obtain⟨k,hk,rfl,hL⟩:=hrel;have hg:=hL.1
  have hcx:k<l.length→wr.cell? ⟨w.heap.size,k,none⟩=some (.int .u8 (l.getD k 0).toNat):=fun h=>by
   have:=(hL.2.2 k l[k] (an h)).1;rw[aC (by omega)]at this;rw[this];simp[ar,h]
  have YA:k<l.length→wr.frozen? ⟨w.heap.size,k,none⟩=false:=fun h=>(hL.2.2 k l[k] (an h)).2;have VA:=fun(h:k=l.length) (cap:Nat)=>HI (h▸hL) cap;unfold maxLen at hl
  go_wp2
  ·rename_i cM h1 h2;refine⟨⟨k+1,cM,rfl,HH hL (an cM) ?_⟩,by simp[intOf];omega⟩;rw[Co (by simpa using h1) (by simpa using h2)];omega
  ·rename_i cM h1 h2;exact⟨⟨k+1,cM,rfl,y6 hL (an cM) (wx (by simp at h1 h2 ⊢;omega))⟩,by simp[intOf];omega⟩
  ·rename_i cM h1;exact⟨⟨k+1,cM,rfl,y6 hL (an cM) (wx (by simp at h1 ⊢;omega))⟩,by simp[intOf];omega⟩
  ·rename_i I4;rw[VA (by omega)]
   go_wp2
   go_ret
   exact⟨rfl,hg⟩
theorem J4(l:List UInt8)(J:ae):PC prog 257 [.s l] J (fun r J'=>r=.s (lower l)∧J'=J):=by
 refine PC.JZ fun B w0 w μ vs hB hv=>?_;obtain⟨s,hs,hl,hm⟩:=(hv.2 0 _ rfl).kb
 have s8:vs=#[.string ⟨l.toArray⟩]:=by
  have h1:=hv.1;have e:s=⟨l.toArray⟩:=by rw[← hl]
  rw[← e,← hs];apply Array.ext
  ·simpa using h1
  ·intro i h2 h3;have:i=0:=by simp at h3;omega
   subst this;simp[h2]
 rw[s8];exact⟨_,Cn l hm w,fun w'=>.s _ _ (by simp) (by rw[AF];exact hm)⟩
end Go.Proofs.Tryz
namespace Go.Proofs.Tryz
open Go Go.Pm Go.Bt
theorem Jo:Ti prog 150 3 32:=nD (by kernel_rfl)
theorem Kc{J:ae}{K:Exit→St→Prop}(F0 F9 F10 F11:V)(bx:Ob):∀ (N:Nat) (s:List UInt8) (rs:List (List V)) (g:Nat),s.length≤N→s.length<2^61→rs.length+s.length<2^40 →
  (∀ g,((fh (F0) (fj 2 (fh (.own J.length g) (fj 5 (fh (F9) (fh (F10) (fh (F11) (fj 38 fo)))))))) fun ZZ=>K (.exit 3) ⟨ZZ,J++[.row 150 3 32 g false (rs++(nT s).map It.aen),bx]⟩)) →
  gw J.length prog Cg K (N+1) ⟨(F0::uu 2 (.own J.length g::uu 2 (.s s::uu 2 (F9::F10::F11::uu 38 [])))),J++[.row 150 3 32 g false rs,bx]⟩:=by
 intro N
 induction N with
 | zero =>
  intro s rs g hs hl hb h1;have hs:s=[]:=aD (by omega);subst hs;have e:(nT []).map It.aen=[]:=rfl;rw[e,bF]at h1;refine aH fun R hR=>?_;simp only[Cg,VV,seval];exact h1 g ..
 | succ N ih =>
  intro s rs g hs hl hb h1;cases s with
  | nil =>
   have e:(nT []).map It.aen=[]:=rfl;rw[e,bF]at h1;refine aH fun R hR=>?_;simp only[Cg,VV,seval];exact h1 g ..
  | cons c r =>
   have gr:c::r≠[]:=by simp
   have hp:=mz (c::r);have hle:=Ei gr;rw[Df gr]at h1;refine aH fun R hR=>?_;simp only[Cg,VV,seval];refine⟨fun _=>?_,fun h=>by simp at h⟩;refine aA (DU c r (by simp at hl;omega) _) rfl ?_;simp only[VV,seval];simp only[ai]at hle hb hl hs;have hd:List.take (r.length+1 - (ek (c::r)).2) (List.drop (ek (c::r)).2 (c::r))=(c::r).drop (ek (c::r)).2:=ca (by simp);rw[hd];refine⟨⟨by omega,by omega⟩,⟨by omega,by simp only[maxLen];omega⟩,⟨by omega,by omega,by omega⟩,?_⟩;refine hR _ (bk ?_ (ih ((c::r).drop (ek (c::r)).2) (rs++[[V.i .i64 (ek (c::r)).1,V.s (List.take (ek (c::r)).2 (c::r)),V.i .i64 0]]) (g+1) (by simp;omega) (by simp;omega) (by simp;omega) (by simpa[It.aen]using h1)))
   repeat' constructor
theorem Kb{J:ae}{K:Exit→St→Prop}(its:List It)(bz:bG J)(hlen:its.length<2^38)(ht:bP its<2^38):∀ (rest pre:List It) (out:List It) (g:Nat),its=pre++rest→out.length≤pre.length+(bP its - bP rest) →
  (∀ g,((fj 3 (fh (.own J.length g) (fj 46 fo))) fun ZZ=>K (.exit 0) ⟨ZZ,J++[.row 150 3 32 g false ((out++cd rest).map It.aen)]⟩)) →
  gw J.length prog vX K (rest.length+1) ⟨(.sl 3 (its.map It.aen)::uu 2 (.own J.length g::uu 5 (.sl 3 (its.map It.aen)::.i .i64 its.length::.i .i64 pre.length::uu 38 []))),J++[.row 150 3 32 g false (out.map It.aen)]⟩:=by
 intro rest
 induction rest with
 | nil =>
  intro pre out g he ho h1;have he:its=pre:=by simpa using he
  subst he;have e:out++cd []=out:=by simp[cd]
  rw[e]at h1;refine aH fun R hR=>?_;simp only[vX,VV,seval];exact⟨fun h=>by simp at h,fun _=>h1 g ..⟩
 | cons x rest ih =>
  intro pre out g he ho h1;subst he
  have hw:IntKind.i64.wrap ((pre.length:Int)+1)=(((pre++[x]).length:Nat):Int):=by
   rw[br (by simp at hlen;omega)];simp
  have xM:bP (x::rest)=x.aer.length+bP rest:=rfl;have htt:=vt pre (x::rest);have hlen':pre.length+1+rest.length<2^38:=by simp at hlen;omega
  have e:out++cd (x::rest)=(out++om x)++cd rest:=by simp[cd]
  rw[e]at h1;have fK:∀ g o,bG (J++[.row 150 3 32 g false o]):=fun g o=>ck bz (by simp)
  have back:∀ {fr:List V} {R:St→Prop} (g:Nat),(∀ st',gw J.length prog vX K (rest.length+1) st'→R st')→qJ fr (.sl 3 ((pre++x::rest).map It.aen)::uu 2 (.own J.length g::uu 5 (.sl 3 ((pre++x::rest).map It.aen)::.i .i64 (pre++x::rest).length::.i .i64 (pre++[x]).length::uu 38 []))) →
    R ⟨fr,J++[.row 150 3 32 g false ((out++om x).map It.aen),.box 61 x.aen]⟩:=fun g hR hc=>by
   have hk:=yA x;refine hR _ (bR [_] [_] (fK _ _) hc ?_ (ih (pre++[x]) (out++om x) g (by simp) (by simp;omega) h1));simp only[LW,ai,aK,bj];omega
  have CM:(out.length+1)*32≤140737488355328∧out.length+1≤maxLen:=by simp only[maxLen];omega
  obtain⟨k,t,d⟩:=x;have bT:out.map It.aen++[[.i .i64 k,.s t,.i .i64 d]]=(out++[(⟨k,t,d⟩:It)]).map It.aen:=by simp[It.aen]
  refine aH fun R hR=>?_;have one:(k=2∨k=3∨k=4∨k=5)→om ⟨k,t,d⟩=[⟨k,t,d⟩]:=fun h=>by simp only[om,h,aR]
  rcases IV (k=2∨k=3∨k=4∨k=5)with hk | hk
  ·rw[one hk]at back;rcases hk with rfl | rfl | rfl | rfl
   all_goals
    simp only[vX,It.aen,↓IT,VV,seval];simp only[hw,aj,bT,It.aen];refine⟨fun _=>⟨by simp;omega,CM,back _ hR ?_⟩,fun h=>by simp at h;omega⟩
    repeat' constructor
  ·have e2:(k==2)=false:=by simp;omega
   have e3:(k==3)=false:=by simp;omega
   have e4:(k==4)=false:=by simp;omega
   have e5:(k==5)=false:=by simp;omega
   rcases IV (k=1)with EH | EH
   ·subst EH;have e1:om ⟨1,t,d⟩=nT t:=by simp[om]
    simp only[vX,It.aen,↓IT,VV,seval];refine⟨fun _=>⟨by simp;omega,?_⟩,fun h=>by simp at h;omega⟩;simp only[bP]at xM htt;refine cE.bk (fr':=(.sl 3 ((pre++⟨1,t,d⟩::rest).map It.aen)::uu 2 (.own J.length g::uu 2 (.s t::uu 2 (.sl 3 ((pre++⟨1,t,d⟩::rest).map It.aen)::.i .i64 (pre++⟨1,t,d⟩::rest).length::.i .i64 pre.length::uu 38 []))))) (by repeat' constructor) (t.length+1) (Kc (J:=J) _ _ _ _ _ t.length t _ g (aq _) (by omega) (by simp;omega) ?_);intro g2;simp only[JE];intros;simp only[VV,seval];simp only[hw];rw[← List.map_append,← e1];refine back _ hR ?_
    repeat' constructor
   ·have e1:om ⟨k,t,d⟩=[]:=by simp[om,hk,EH]
    have e0:(k==1)=false:=by simpa using EH
    rw[e1,bF]at back;simp only[vX,It.aen,e2,e3,e4,e5,e0,↓IT,VV,seval];simp only[hw];refine⟨fun _=>⟨by simp;omega,back _ hR ?_⟩,fun h=>by simp at h;omega⟩
    repeat' constructor
theorem DT(its:List It)(hlen:its.length<2^38)(ht:bP its<2^38)(J:ae):PC prog 51 [.sl 3 (its.map It.aen)] J (fun r J'=>r=.own J.length 0∧J'=J++[.row 150 3 32 0 false ((cd its).map It.aen)]):=by
 refine PC.intro func51 c51 fun bz er=>aB ?_;simp only[p51,SS,seval];simp only[aj,VV,seval];refine cE.wk ((Wk.pA (J:=J) (k:=3) Jo rfl).trans (Wk.kP ?_)) (cE.BX (its.length+1) (Kb its bz hlen ht its [] [] 0 rfl (by simp) ?_))
 ·simp only[VV,seval]
  repeat' constructor
 ·intro g;simp only[JE];intros;simp only[VV,seval];exact zU 0 bz (.inr rfl) rfl rfl rfl (by simp[Ck,Ob.gen]) (by simp[one,Ql,Ob.fresh])
theorem mR(its:List It)(hlen:its.length<2^38)(ht:bP its<2^38)(J:ae):PC prog 51 [.sl 3 (its.map It.aen)] J (fun r J'=>r=.sl 3 ((cd its).map It.aen)∧J'=J) :=
 PC.closed fun bz=>PC.fz bz (DT its hlen ht J)
theorem jv(x:It)(J:ae):PC prog 184 [.agg x.aen] J (fun r J'=>r=.i .i64 (weight x)∧J'=J):=by
 refine PC.intro func184 ZB fun bz er=>aB ?_;obtain⟨k,t,d⟩:=x;simp only[TJ,It.aen,SS,seval]
 have fin:∀ (w:Int) {fr:List V} {loc:ae},weight ⟨k,t,d⟩=w→fr.getD 2 .u=.i .i64 w→sI prog J.length [.t 2] (fun r J'=>r=.i .i64 (weight ⟨k,t,d⟩)∧J'=J) .ret ⟨fr,J++loc⟩:=fun w _ _ hw hf =>
  bu (xs:=[.i .i64 w]) bz (.inr rfl) (by simp only[kS,xZ,hf]) (by simp only[LW]) ⟨by rw[hw];rfl,rfl⟩
 rcases IV (k=6∨k=5∨k=7∨k=2∨k=3∨k=4∨k=9∨k=8)with hk | hk
 ·rcases hk with rfl | rfl | rfl | rfl | rfl | rfl | rfl | rfl
  all_goals
   simp only[↓IT,VV,seval];exact fin _ rfl rfl
 ·have e:∀ n:Int,(n=6∨n=5∨n=7∨n=2∨n=3∨n=4∨n=9∨n=8)→(k==n)=false:=fun n h=>by
   simp only[dv];rintro rfl;exact hk h
  simp only[e 6 (by simp),e 5 (by simp),e 7 (by simp),e 2 (by simp),e 3 (by simp),e 4 (by simp),e 9 (by simp),e 8 (by simp),↓IT,VV,seval];exact fin 0 (by simp only[weight];rw[aC (by omega),aC (by omega),aC (by omega),aC (by omega)]) rfl
theorem Ni{J:ae}{K:Exit→St→Prop}(l:List It)(bz:bG J)(hlen:l.length<2^40):∀ (rest pre:List It),l=pre++rest →
  ((fj 3 (fh (.i .i64 (fV l)) (fj 14 fo))) fun ZZ=>K (.exit 0) ⟨ZZ,J⟩) →
  gw J.length prog Af K (rest.length+1) ⟨(uu 3 (.i .i64 (fV pre)::uu 2 (.sl 3 (l.map It.aen)::.i .i64 l.length::.i .i64 pre.length::uu 9 []))),J⟩:=by
 intro rest
 induction rest with
 | nil =>
  intro pre he h1;have he:l=pre:=by simpa using he
  subst he;refine aH fun R hR=>?_;simp only[Af,VV,seval];exact⟨fun h=>by simp at h,fun _=>h1 ..⟩
 | cons x rest ih =>
  intro pre he h1;subst he;have hlen':pre.length+1+rest.length<2^40:=by simp at hlen;omega
  have ht:=uV pre;have hx:=lK x
  have hw:IntKind.i64.wrap ((pre.length:Int)+1)=(((pre++[x]).length:Nat):Int):=by
   rw[br (by omega)];simp
  have Pu:IntKind.i64.wrap (fV pre+weight x)=fV (pre++[x]):=by
   rw[IntWalk.i64_in _ (by omega)];simp[fV]
  refine aH fun R hR=>?_;simp only[Af,It.aen,VV,seval];refine⟨fun _=>⟨by simp;omega,?_⟩,fun h=>by simp at h;omega⟩;refine aA (jv x _) rfl ?_;simp only[VV,seval];simp only[hw,Pu];refine hR _ (vR (aq _) bz ?_ ?_ (ih (pre++[x]) (by simp) h1))
  ·repeat' constructor
  ·simp only[LW]
theorem vq(l:List It)(hlen:l.length<2^40)(J:ae):PC prog 181 [.sl 3 (l.map It.aen)] J (fun r J'=>r=.i .i64 (fV l)∧J'=J):=by
 refine PC.intro func181 ZE fun bz er=>aB ?_;simp only[TN,SS,seval];simp only[aj,VV,seval];refine cE.bk (fr':=(uu 3 (.i .i64 (fV [])::uu 2 (.sl 3 (l.map It.aen)::.i .i64 l.length::.i .i64 ([]:List It).length::uu 9 [])))) (by repeat' constructor) (l.length+1) (Ni l bz hlen l [] rfl ?_);simp only[JE];intros;simp only[VV,seval];exact a6 (.inr rfl) rfl ⟨rfl,rfl⟩
theorem lS(a b:It)(J:ae):PC prog 251 [.agg a.aen,.agg b.aen] J (fun r J'=>r=.b (kI a b)∧J'=J):=by
 refine PC.intro func251 Za fun bz er=>aB ?_;simp only[Th,It.aen,SS,seval];simp only[VV,seval];exact ou bz (by simp only[RS,seval];rfl) (by simp only[LW])
theorem pr(x:It)(J:ae):PC prog 224 [.agg x.aen] J (fun r J'=>r=.s (dE x)∧J'=J):=by
 refine PC.intro func224 Zj fun bz er=>aB ?_;simp only[Tr,It.aen,SS,seval];simp only[VV,seval];refine⟨fun h=>?_,fun h=>?_⟩
 ·refine aA (J4 x.aer _) rfl ?_;simp only[VV,seval];simp only[bN]at h;exact bu bz (.inr rfl) (by simp only[RS,seval];rfl) (by simp only[LW]) ⟨by simp only[one,dE,h,aR],rfl⟩
 ·simp only[dv,gC]at h;exact bu bz (.inr rfl) (by simp only[RS,seval];rfl) (by simp only[LW]) ⟨by simp only[one,dE,h,aO],rfl⟩
theorem tk(x:It)(J:ae):PC prog 250 [.agg x.aen] J (fun r J'=>r=.b (b5 x)∧J'=J):=by
 refine PC.intro func250 Zb fun bz er=>aB ?_;simp only[Tj,It.aen,SS,seval];simp only[VV,seval];exact ou bz (by simp only[RS,seval];rfl) (by simp only[LW])
theorem py(x:It)(J:ae):PC prog 213 [.agg x.aen] J (fun r J'=>r=.i .i64 (single x)∧J'=J):=by
 refine PC.intro func213 Zo fun bz er=>aB ?_;simp only[Tw,It.aen,SS,seval];simp only[VV,seval];refine aA (tk x _) rfl ?_;simp only[VV,seval];refine⟨fun h=>?_,fun h=>?_⟩
 ·exact bu bz (.inr rfl) (by simp only[RS,seval];rfl) (by simp only[LW]) ⟨by simp only[one,single,h,aR],rfl⟩
 ·refine aA (jv x _) rfl ?_;simp only[VV,seval];exact bu bz (.inr rfl) (by simp only[RS,seval];rfl) (by simp only[LW]) ⟨by simp only[one,single,h,aO,aG],rfl⟩
theorem OR(a b:It)(J:ae):PC prog 214 [.agg a.aen,.agg b.aen] J (fun r J'=>r=.fa [.i .i64 ((ei a b).getD 0),.b (ei a b).isSome]∧J'=J):=by
 refine PC.intro func214 Zn fun bz er=>aB ?_
 have fin:∀ (w:Int) (q:Bool) {fr:List V} {loc:ae},(ei a b).getD 0=w→(ei a b).isSome=q→fr.getD 4 .u=.i .i64 w→fr.getD 5 .u=.b q→sI prog J.length [.t 4,.t 5] (fun r J'=>r=.fa [.i .i64 ((ei a b).getD 0),.b (ei a b).isSome]∧J'=J) .ret ⟨fr,J++loc⟩:=fun w q _ _ hw hq hf hg =>
  bu (xs:=[.i .i64 w,.b q]) bz (.inr rfl) (by simp only[kS,xZ,hf,hg]) (by simp only[LW]) ⟨by rw[hw,hq];rfl,rfl⟩
 clear er;simp only[Tv,It.aen,SS,seval];cases hs:kI a b with
 | true =>
  simp only[↓IT,VV,seval];refine aA (lS a b _) rfl ?_;simp only[hs,↓IT,VV,seval];exact fin 0 true (by simp[ei,hs]) (by simp[ei,hs]) rfl rfl
 | false =>
  by_cases hk:a.aep=b.aep
  ·have hn:(a.aep != b.aep)=false:=by simpa using hk
   by_cases h6:a.aep=6
   ·have e6:(a.aep==6)=true:=by simpa using h6
    simp only[↓IT,VV,seval];refine aA (lS a b _) rfl ?_;simp only[hs,hn,e6,↓IT,VV,seval];refine aA (pr a _) rfl ?_;simp only[↓IT,VV,seval];refine aA (pr b _) rfl ?_;simp only[VV,seval];refine⟨fun h=>?_,fun h=>?_⟩
    ·exact fin 1 true (by simp[ei,hs,← hk,h6,h]) (by simp[ei,hs,← hk,h6,h]) rfl rfl
    ·refine aA (jv a _) rfl ?_;simp only[VV,seval];exact fin (weight a) true (by simp[ei,hs,← hk,h6,h]) (by simp[ei,hs,← hk,h6,h]) rfl rfl
   ·have e6:(a.aep==6)=false:=by simpa using h6
    by_cases h7:a.aep=7∨a.aep=8∨a.aep=9∨a.aep=5
    ·have ew:ei a b=some (weight a):=by simp[ei,hs,← hk,h6,h7]
     have e7:(a.aep==7)=false∨(a.aep==7)=true:=by cases(a.aep==7)<;>simp
     have e8:(a.aep==8)=false∨(a.aep==8)=true:=by cases(a.aep==8)<;>simp
     have e9:(a.aep==9)=false∨(a.aep==9)=true:=by cases(a.aep==9)<;>simp
     have e5:(a.aep==5)=false∨(a.aep==5)=true:=by cases(a.aep==5)<;>simp
     simp only[↓IT,VV,seval];refine aA (lS a b _) rfl ?_;rcases e7 with e7 | e7<;>rcases e8 with e8 | e8<;>rcases e9 with e9 | e9<;>rcases e5 with e5 | e5<;>first | (exfalso;simp at e7 e8 e9 e5;omega) | skip
     all_goals
      simp only[hs,hn,e6,e7,e8,e9,e5,↓IT,VV,seval];refine aA (jv a _) rfl ?_;simp only[VV,seval];exact fin (weight a) true (by rw[ew];rfl) (by rw[ew];rfl) rfl rfl
    ·have ew:ei a b=none:=by simp[ei,hs,← hk,h6,h7]
     have e7:(a.aep==7)=false:=by simp;omega
     have e8:(a.aep==8)=false:=by simp;omega
     have e9:(a.aep==9)=false:=by simp;omega
     have e5:(a.aep==5)=false:=by simp;omega
     simp only[↓IT,VV,seval];refine aA (lS a b _) rfl ?_;simp only[hs,hn,e6,e7,e8,e9,e5,↓IT,VV,seval];exact fin 0 false (by rw[ew];rfl) (by rw[ew];rfl) rfl rfl
  ·have hn:(a.aep != b.aep)=true:=by simpa using hk
   simp only[↓IT,VV,seval];refine aA (lS a b _) rfl ?_;simp only[hs,hn,↓IT,VV,seval];exact fin 0 false (by simp[ei,hs,hk]) (by simp[ei,hs,hk]) rfl rfl
theorem jC{α:Type}{ke:α→V}(n:Nat)(C:List (α×Int)):eF n ((emap ke dq C).map (·.2)):=l9 fun x hx=>by
 obtain⟨k,_,rfl⟩:=aT.1 hx;exact .i _ _
theorem lY{α β:Type}{ke:α→V}{ve:β→V}(C:List (α×β)):(emap ke ve C).length=C.length:=by simp[emap]
theorem HM{J:ae}{K:Exit→St→Prop}(lb l:List It)(bz:bG J)(hlen:l.length<2^38):∀ (rest pre:List It) (C:List (TK×Int)) (n:Nat),l=pre++rest→CB n C→n+rest.length<2^39 →
  ((fj 1 (fh (.sl 3 (lb.map It.aen)) (fj 3 (fh (.mp J.length) (fj 60 fo))))) fun ZZ=>K (.exit 0) ⟨ZZ,J++[.map 150 3 (emap fw dq (dZ 1 C rest))]⟩) →
  gw J.length prog Ab K (rest.length+1) ⟨(uu 1 (.sl 3 (lb.map It.aen)::uu 3 (.mp J.length::uu 8 (.sl 3 (l.map It.aen)::.i .i64 l.length::.i .i64 pre.length::uu 49 [])))),J++[.map 150 3 (emap fw dq C)]⟩:=by
 intro rest
 induction rest with
 | nil =>
  intro pre C n he hC hn h1;have he:l=pre:=by simpa using he
  subst he;refine aH fun R hR=>?_;simp only[Ab,VV,seval];exact⟨fun h=>by simp at h,fun _=>h1 ..⟩
 | cons x rest ih =>
  intro pre C n he hC hn h1;subst he;have hlen':pre.length+1+rest.length<2^38:=by simp at hlen;omega
  have hw:IntKind.i64.wrap ((pre.length:Int)+1)=(((pre++[x]).length:Nat):Int):=by
   rw[br (by omega)];simp
  simp only[ai]at hn;have hg:=hC.getD (cY x);have hv:∀ b,(bo (cY x) C).getD 0=b→IntKind.i64.wrap (b+1)=b+1:=fun b hb=>IntWalk.i64_in _ (by rw[hb]at hg;have:=hg.1;have:=hg.2;omega);have fK:∀ C,bG (J++[.map 150 3 (emap fw dq C)]):=fun C=>ck bz (by simp[jC]);refine aH fun R hR=>?_;simp only[Ab,It.aen,VV,seval];refine⟨fun _=>⟨by simp;omega,?_⟩,fun h=>by simp at h;omega⟩;refine aA (tk x _) rfl ?_;simp only[hw,VV,seval];refine⟨fun ht=>?_,fun ht=>?_⟩
  ·have e:dZ 1 C (x::rest)=dZ 1 (bump C (cY x) 1) rest:=by simp only[dZ,ht,aR]
   rw[e]at h1;have hB:=hC.bump (cY x) 1 (by omega);rcases o8 qo C (cY x)with⟨g1,g2,g3,g4,g5⟩ | ⟨i,b,g1,g2,g3,g4⟩
   ·have hz:IntKind.i64.wrap 1=1:=by decide
    have tc:bump C (cY x) 1=ee C (cY x) 1:=by simp[bump,g1]
    rw[tc]at hB h1;simp only[fw,cY]at g2 g3 g4 g5;simp only[bX,g2,g3,g4,g5,hz,cz,V.gx,V.cell,VV,seval];simp only[hw,hz];refine hR _ (bR [_] [_,_] (fK _) ?_ ?_ (ih (pre++[x]) _ (n+1) (by simp) hB (by omega) h1))
    ·repeat' constructor
    ·simp only[LW,ai,aK,bj];omega
   ·have hz:=hv b (by rw[g1];rfl);have tc:bump C (cY x) 1=ee C (cY x) (b+1):=by simp[bump,g1]
    rw[tc]at hB h1;simp only[fw,cY]at g2 g3 g4;simp only[bX,g2,g3,g4,hz,cz,V.gx,V.cell,VV,seval];simp only[hw,hz];refine hR _ (bR [_] [_,_] (fK _) ?_ ?_ (ih (pre++[x]) _ (n+1) (by simp) hB (by omega) h1))
    ·repeat' constructor
    ·simp only[LW,ai,aK,bj];omega
  ·have e:dZ 1 C (x::rest)=dZ 1 C rest:=by simp only[dZ,ht,aO,aG]
   rw[e]at h1;refine hR _ (bR [_] [_] (fK _) ?_ ?_ (ih (pre++[x]) C n (by simp) hC (by omega) h1))
   ·repeat' constructor
   ·simp only[LW,ai,aK,bj];omega
theorem HL{J:ae}{K:Exit→St→Prop}(l:List It)(bz:bG J)(hlen:l.length<2^38):∀ (rest pre:List It) (C:List (TK×Int)) (n:Nat),l=pre++rest→CB n C→n+rest.length<2^39 →
  ((fj 5 (fh (.mp J.length) (fj 60 fo))) fun ZZ=>K (.exit 2) ⟨ZZ,J++[.map 150 3 (emap fw dq (dZ (-1) C rest))]⟩) →
  gw J.length prog Aa K (rest.length+1) ⟨(uu 5 (.mp J.length::uu 27 (.sl 3 (l.map It.aen)::.i .i64 l.length::.i .i64 pre.length::uu 30 []))),J++[.map 150 3 (emap fw dq C)]⟩:=by
 intro rest
 induction rest with
 | nil =>
  intro pre C n he hC hn h1;have he:l=pre:=by simpa using he
  subst he;refine aH fun R hR=>?_;simp only[Aa,VV,seval];exact⟨fun h=>by simp at h,fun _=>h1 ..⟩
 | cons x rest ih =>
  intro pre C n he hC hn h1;subst he;have hlen':pre.length+1+rest.length<2^38:=by simp at hlen;omega
  have hw:IntKind.i64.wrap ((pre.length:Int)+1)=(((pre++[x]).length:Nat):Int):=by
   rw[br (by omega)];simp
  simp only[ai]at hn;have hg:=hC.getD (cY x);have hv:∀ b,(bo (cY x) C).getD 0=b→IntKind.i64.wrap (b - 1)=b - 1:=fun b hb=>IntWalk.i64_in _ (by rw[hb]at hg;have:=hg.1;have:=hg.2;omega);have fK:∀ C,bG (J++[.map 150 3 (emap fw dq C)]):=fun C=>ck bz (by simp[jC]);refine aH fun R hR=>?_;simp only[Aa,It.aen,VV,seval];refine⟨fun _=>⟨by simp;omega,?_⟩,fun h=>by simp at h;omega⟩;refine aA (tk x _) rfl ?_;simp only[hw,VV,seval];refine⟨fun ht=>?_,fun ht=>?_⟩
  ·have e:dZ (-1) C (x::rest)=dZ (-1) (bump C (cY x) (-1)) rest:=by simp only[dZ,ht,aR]
   rw[e]at h1;have hB:=hC.bump (cY x) (-1) (by omega);rcases o8 qo C (cY x)with⟨g1,g2,g3,g4,g5⟩ | ⟨i,b,g1,g2,g3,g4⟩
   ·have hz:IntKind.i64.wrap (-1) = -1:=by decide
    have tc:bump C (cY x) (-1)=ee C (cY x) (-1):=by simp[bump,g1]
    rw[tc]at hB h1;simp only[fw,cY]at g2 g3 g4 g5;simp only[bX,g2,g3,g4,g5,hz,cz,V.gx,V.cell,VV,seval];simp only[hw,hz];refine hR _ (bR [_] [_,_] (fK _) ?_ ?_ (ih (pre++[x]) _ (n+1) (by simp) hB (by omega) h1))
    ·repeat' constructor
    ·simp only[LW,ai,aK,bj];omega
   ·have hz:=hv b (by rw[g1];rfl);have tc:bump C (cY x) (-1)=ee C (cY x) (b - 1):=by simp[bump,g1];rfl
    rw[tc]at hB h1;simp only[fw,cY]at g2 g3 g4;simp only[bX,g2,g3,g4,hz,cz,V.gx,V.cell,VV,seval];simp only[hw,hz];refine hR _ (bR [_] [_,_] (fK _) ?_ ?_ (ih (pre++[x]) _ (n+1) (by simp) hB (by omega) h1))
    ·repeat' constructor
    ·simp only[LW,ai,aK,bj];omega
  ·have e:dZ (-1) C (x::rest)=dZ (-1) C rest:=by simp only[dZ,ht,aO,aG]
   rw[e]at h1;refine hR _ (bR [_] [_] (fK _) ?_ ?_ (ih (pre++[x]) C n (by simp) hC (by omega) h1))
   ·repeat' constructor
   ·simp only[LW,ai,aK,bj];omega
theorem HK{J:ae}{K:Exit→St→Prop}(C:List (TK×Int))(m:Nat)(hC:CB m C)(hK:gH C)(hm:m<2^39)(S:Int)(h60:S≤2^60):∀ (N:Nat) (ps:List Nat) (cur:Option Nat) (acc:Int),ps.length≤N→ps.Nodup→(∀ p∈ps,p<C.length)→0≤acc →
  acc+oq (fun i=>2*max (C.getD i ((0,[]),0)).2 (-(C.getD i ((0,[]),0)).2)) ps=S →
  (∀ ps cur,((fj 10 (fh (.i .i64 S) (fj 55 fo))) fun ZZ=>K (.exit 4) ⟨ZZ,J++[.map 150 3 (emap fw dq C),.iter false J.length 3 (emap fw dq C).length ps cur]⟩)) →
  gw J.length prog z8 K (N+1) ⟨(uu 5 (.mp J.length::uu 4 (.i .i64 acc::uu 42 (.it (J.length+1)::uu 12 [])))),J++[.map 150 3 (emap fw dq C),.iter false J.length 3 (emap fw dq C).length ps cur]⟩:=by
 intro N
 induction N with
 | zero =>
  intro ps cur acc hl lM hp ha hs h1;have jV:ps=[]:=aD (by omega);subst jV;have:acc=S:=by simpa[oq]using hs
  subst this;refine aH fun R hR=>?_;simp only[z8,VV,seval];exact h1 _ _ ..
 | succ N ih =>
  intro ps cur acc hl lM hp ha hs h1;refine aH fun R hR=>?_;simp only[z8,VV,seval];refine⟨fun jV=>?_,fun q hq=>?_⟩
  ·subst jV;have:acc=S:=by simpa[oq]using hs
   subst this;exact h1 _ _ ..
  ·have u4:=hp q hq;rw[zO _ lM hq]at hs;have Mf:=zN (fun i=>2*max (C.getD i ((0,[]),0)).2 (-(C.getD i ((0,[]),0)).2)) (fun i=>by omega) (ps.filter fun i=>i != q);have eJ:=pJ (ke:=fw) (ve:=dq) C ((0,[]),0) u4;have hb:=hC.2 _ _ (jy hK (rP (d:=((0,[]),0)) u4));generalize hv:(C.getD q ((0,[]),0)).2=v at hs eJ hb;have e1:IntKind.i64.wrap (0 - v) = -v:=by rw[IntWalk.i64_in _ (by omega)];omega
   have e2:(if v < -v then -v else v)=max v (-v):=by split<;>omega
   have e3:IntKind.i64.wrap (2*max v (-v))=2*max v (-v):=IntWalk.i64_in _ (by omega);have e4:IntKind.i64.wrap (acc+2*max v (-v))=acc+2*max v (-v):=IntWalk.i64_in _ (by omega);simp only[eJ,dq,e1,e2,e3,e4,VV,seval];refine hR _ (bk ?_ (ih (ps.filter fun i=>i != q) (some q) (acc+2*max v (-v)) (by have:=kr hq;omega) (lM.filter _) (fun p h=>hp p (cc.1 h).1) (by omega) (by omega) h1))
   repeat' constructor
theorem DZ(a b:List It)(ha:a.length<2^27)(hb:b.length<2^27)(J:ae):PC prog 215 [.sl 3 (a.map It.aen),.sl 3 (b.map It.aen)] J (fun r J'=>r=.i .i64 (gM a b)∧J'=J):=by
 refine PC.intro func215 Zm fun bz er=>aB ?_;simp only[Tu,SS,seval];simp only[aj,VV,seval];have WK:=CB.nil.count 1 (by omega) a;have hC:=WK.count (-1) (by omega) b;have hK:gH (nE a b):=gH.count (-1) b (gH.count 1 a (by simp[gH]));have hS:=zB (C:=nE a b) hC hK
 have hle:((0+a.length+b.length:Nat):Int)*((nE a b).length:Int)≤2^28*2^28:=by
  have h1:((nE a b).length:Int)≤2^28:=by have:=hC.1;unfold nE;omega
  exact Sf (by omega) h1 (by omega) (by omega)
 refine cE.bk (fr':=(uu 1 (.sl 3 (b.map It.aen)::uu 3 (.mp J.length::uu 8 (.sl 3 (a.map It.aen)::.i .i64 a.length::.i .i64 ([]:List It).length::uu 49 []))))) (by repeat' constructor) (a.length+1) (HM b a bz (by omega) a [] [] 0 rfl CB.nil (by omega) ?_);simp only[JE];intros;simp only[aj,VV,seval];refine cE.bk (fr':=(uu 5 (.mp J.length::uu 27 (.sl 3 (b.map It.aen)::.i .i64 b.length::.i .i64 ([]:List It).length::uu 30 [])))) (by repeat' constructor) (b.length+1) (HL b bz (by omega) b [] _ _ rfl WK (by omega) ?_);simp only[JE];intros;simp only[aj,VV,seval];refine cE.bk (fr':=(uu 5 (.mp J.length::uu 4 (.i .i64 0::uu 42 (.it (J.length+1)::uu 12 []))))) (by repeat' constructor) ((emap fw dq (nE a b)).length+1) (HK (nE a b) _ hC hK (by omega) (gM a b) (by have:=dw hS.2 hle;unfold gM;omega) _ (List.range (emap fw dq (nE a b)).length) none 0 (by simp) lf (by simp[emap]) (bY _) ?_ ?_)
 ·rw[lY,BM (fun p:TK×Int=>2*max p.2 (-p.2)),BG,dU];rfl
 ·intro ps cur;simp only[JE];intros;simp only[VV,seval];exact ou bz (by simp only[RS,seval]) (by simp only[LW])
end Go.Proofs.Tryz
set_option maxRecDepth 4000
namespace Go.Proofs.Tryz
open Go Go.Pm Go.Bt
theorem HQ{J:ae}{K:Exit→St→Prop}(a b:List It)(t:It)(i:Nat)(M:Int)(hM:M<2^50)(bz:bG J)(hlen:b.length<2^38):∀ (rest pre:List It) (ns old:List Int) (diag left:Int),b=pre++rest→ns.length=pre.length→old.length=rest.length→BR M old→0≤diag∧diag≤M→0≤left∧left≤M+4 →
  ((fh (.sl 3 (a.map It.aen)) (fh (.sl 3 (b.map It.aen)) (fj 3 (fh (.own J.length 0) (fj 33 (fh (.sl 3 (a.map It.aen)) (fh (.i .i64 a.length) (fh (.i .i64 i) (fj 69 fo))))))))) fun ZZ=>K (.exit 4) ⟨ZZ,J++[.row 3 1 8 0 false ((ns++left::gv t diag left rest old).map cq),.box 150 t.aen]⟩) →
  gw J.length prog Aj K (rest.length+1) ⟨(.sl 3 (a.map It.aen)::.sl 3 (b.map It.aen)::uu 3 (.own J.length 0::uu 3 (.ptr (J.length+1) 0::.i .i64 diag::uu 28 (.sl 3 (a.map It.aen)::.i .i64 a.length::.i .i64 i::uu 13 (.sl 3 (b.map It.aen)::.i .i64 b.length::.i .i64 pre.length::uu 53 []))))),J++[.row 3 1 8 0 false ((ns++left::old).map cq),.box 150 t.aen]⟩:=by
 intro rest
 induction rest with
 | nil =>
  intro pre ns old diag left he I2 CM hB hd hl h1;have he:b=pre:=by simpa using he
  subst he;have ho:old=[]:=aD (by simpa using CM);subst ho;have e:gv t diag left [] []=[]:=rfl;rw[e]at h1;refine aH fun R hR=>?_;simp only[Aj,VV,seval];exact⟨fun h=>by simp at h,fun _=>h1 ..⟩
 | cons u rest ih =>
  intro pre ns old diag left he I2 CM hB hd hl h1;subst he;cases old with
  | nil=>simp at CM
  | cons up old =>
   have hlen':pre.length+1+rest.length<2^38:=by simp at hlen;omega
   have hw:IntKind.i64.wrap ((pre.length:Int)+1)=(((pre++[u]).length:Nat):Int):=by
    rw[br (by omega)];simp
   have mh:=hB up (by simp);have st:=dJ t;have su:=dJ u;have e1:IntKind.i64.wrap (up+single t)=up+single t:=IntWalk.i64_in _ (by omega);have e2:IntKind.i64.wrap (left+single u)=left+single u:=IntWalk.i64_in _ (by omega);have hx:ns++left::up::old=(ns++[left])++up::old:=by simp
   have NS:(((pre++[u]).length:Nat):Int)=(((ns++[left]).length:Nat):Int):=by simp[I2]
   have ab6:((pre.length:Nat):Int)=((ns.length:Nat):Int):=by rw[I2]
   have r1:eV ((ns++left::up::old).map cq) (ns++[left]).length 0=some (.i .i64 up):=by rw[hx];exact u0 _ _ _
   have r2:eV ((ns++left::up::old).map cq) pre.length 0=some (.i .i64 left):=by rw[← I2];exact u0 _ _ _
   have r3:∀ v,((ns++left::up::old).map cq).set (ns++[left]).length [.i .i64 v]=(ns++left::v::old).map cq:=fun v=>by rw[hx,wD];simp
   have r4:((ns++left::up::old).map cq).getD (ns++[left]).length []=[.i .i64 up]:=by rw[hx];exact s7 _ _ _
   refine aH fun R hR=>?_;simp only[Aj,It.aen,VV,seval];refine⟨fun _=>⟨by simp;omega,?_⟩,fun h=>by simp at h;omega⟩;simp only[hw,NS,aX,r1,VV,seval];refine⟨by simp[CM];omega,?_⟩;refine⟨by simp[I2];omega,?_⟩;simp only[aX,r2,VV,seval];refine aA (py t _) rfl ?_;simp only[e1,VV,seval];have b1:(0:Int)≤((ns++[left]).length:Nat)∧(((ns++[left]).length:Nat):Int)<(((ns++left::up::old).map cq).length:Nat):=⟨by omega,by simp;omega⟩;have b2:(0:Int)≤(pre.length:Nat)∧((pre.length:Nat):Int)<(((ns++left::up::old).map cq).length:Nat):=⟨by omega,by simp[I2];omega⟩;simp only[r1,r2];refine⟨⟨b1,⟨True,rfl,trivial⟩,b2,⟨True,rfl,trivial⟩⟩,?_⟩;refine aA (py u _) rfl ?_;simp only[e2,r1,r2,VV,seval];refine⟨⟨b1,b2⟩,?_⟩;have N2:=um (t:=t) (u:=u) hd hl mh;have fK:∀ l,bG (J++[.row 3 1 8 0 false (List.map cq l),.box 150 t.aen]):=fun l=>ck bz (by simp[It.aen,LW]);have k:=ih (pre++[u]) (ns++[left]) old up (l6 t u diag left up) (by simp) (by simp[I2]) (by simpa using CM) (fun x hx=>hB x (by simp[hx])) mh N2 (by simpa only[aM,bq,bh,gv,It.aen]using h1);simp only[aM,bq,bh,It.aen,NS]at k;have Vu:∀ c,ei t u=some c→IntKind.i64.wrap (diag+c)=diag+c:=fun c hc=>IntWalk.i64_in _ (by have:=o7 hc;omega);refine aA (OR t u _) rfl ?_;cases hc:ei t u with
   | none =>
    simp only[hw,NS,aX,r1,r3,r4,Option.isSome,Option.getD,VV,seval];have tc:l6 t u diag left up=if left+single u<up+single t then left+single u else up+single t:=by unfold l6;rw[hc];rfl
    refine⟨b1,b1,by have:=b1.2;omega,?_⟩;rw[← tc];exact hR _ (bR [_,_] [_] (fK _) (by repeat' constructor) (by simp[LW]) k)
   | some c =>
    simp only[hw,NS,aX,Vu c hc,r1,r3,r4,Option.isSome,Option.getD,VV,seval];have tc:l6 t u diag left up=(if diag+c<(if left+single u<up+single t then left+single u else up+single t)then diag+c else(if left+single u<up+single t then left+single u else up+single t)):=by unfold l6;rw[hc];rfl
    refine⟨b1,b1,by have:=b1.2;omega,?_⟩;rw[← tc];exact hR _ (bR [_,_] [_] (fK _) (by repeat' constructor) (by simp[LW]) k)
theorem HP{J:ae}{K:Exit→St→Prop}(a b:List It)(bz:bG J)(hlen:b.length<2^38)(hla:a.length<2^38):∀ (rest pre:List It) (row:List Int) (M:Int),a=pre++rest→row.length=b.length+1→BR M row→M+4*rest.length<2^50 →
  ((fh (.sl 3 (a.map It.aen)) (fh (.sl 3 (b.map It.aen)) (fj 3 (fh (.own J.length 0) (fj 105 fo))))) fun ZZ=>K (.exit 2) ⟨ZZ,J++[.row 3 1 8 0 false ((rest.foldl (fun row t=>fy t b row) row).map cq)]⟩) →
  gw J.length prog Ai K (rest.length+1) ⟨(.sl 3 (a.map It.aen)::.sl 3 (b.map It.aen)::uu 3 (.own J.length 0::uu 33 (.sl 3 (a.map It.aen)::.i .i64 a.length::.i .i64 pre.length::uu 69 []))),J++[.row 3 1 8 0 false (row.map cq)]⟩:=by
 intro rest
 induction rest with
 | nil =>
  intro pre row M he hr hB hM h1;have he:a=pre:=by simpa using he
  subst he;refine aH fun R hR=>?_;simp only[Ai,VV,seval];exact⟨fun h=>by simp at h,fun _=>h1 ..⟩
 | cons x rest ih =>
  intro pre row M he hr hB hM h1;subst he
  obtain⟨r0,old,rfl⟩:∃ r0 old,row=r0::old:=by cases row with
   | nil=>simp at hr
   | cons r0 old=>exact⟨_,_,rfl⟩
  have hlen':pre.length+1+rest.length<2^38:=by simp at hla;omega
  have hw:IntKind.i64.wrap ((pre.length:Int)+1)=(((pre++[x]).length:Nat):Int):=by
   rw[br (by omega)];simp
  have h0:=hB r0 (by simp);have sx:=dJ x;have e1:IntKind.i64.wrap (r0+single x)=r0+single x:=IntWalk.i64_in _ (by omega);have r1:eV (cq r0::old.map cq) 0 0=some (.i .i64 r0):=u0 [] _ _;have r3:∀ v,(cq r0::old.map cq).set 0 [.i .i64 v]=cq v::old.map cq:=fun v=>wD [] _ _ _;have r4:(cq r0::old.map cq).getD 0 []=[.i .i64 r0]:=s7 [] _ _;refine aH fun R hR=>?_;simp only[Ai,It.aen,VV,seval];refine⟨fun _=>⟨by simp;omega,?_⟩,fun h=>by simp at h;omega⟩;refine⟨by omega,?_⟩;simp only[r1,VV,seval];refine⟨by omega,?_⟩;refine aA (py x _) rfl ?_;simp only[e1,r1,r3,r4,aj,VV,seval];have hB':BR (M+4) (fy x b (r0::old)):=hB.new b;have hl:(fy x b (r0::old)).length=b.length+1:=by rw[tV,hr]
  simp only[ai]at hM;have fK:∀ l,bG (J++[.row 3 1 8 0 false (List.map cq l)]):=fun l=>ck bz (by simp);refine⟨by omega,by omega,by omega,?_⟩;refine cE.bk (fr':=(.sl 3 ((pre++x::rest).map It.aen)::.sl 3 (b.map It.aen)::uu 3 (.own J.length 0::uu 3 (.ptr (J.length+1) 0::.i .i64 r0::uu 28 (.sl 3 ((pre++x::rest).map It.aen)::.i .i64 (pre++x::rest).length::.i .i64 pre.length::uu 13 (.sl 3 (b.map It.aen)::.i .i64 b.length::.i .i64 (([]:List It).length:Nat)::uu 53 [])))))) (by repeat' constructor) (b.length+1) (HQ (pre++x::rest) b x pre.length M (by omega) bz hlen b [] [] old r0 (r0+single x) rfl rfl (by simpa using hr) (fun y hy=>hB y (by simp[hy])) h0 (by omega) ?_);simp only[JE];intros;simp only[VV,seval];simp only[hw];refine hR _ (bR [_] [_] (fK (fy x b (r0::old))) (by repeat' constructor) (by simp[LW]) (ih (pre++[x]) _ (M+4) (by simp) hl hB' (by omega) h1))
theorem HR{J:ae}{K:Exit→St→Prop}(a b:List It)(bz:bG J)(hlen:b.length<2^38):∀ (rest pre:List It) (xs:List Int) (s:Int) (old:List Int),b=pre++rest→xs.length=pre.length→old.length=rest.length→0≤s∧s≤4*(pre.length:Int) →
  ((fh (.sl 3 (a.map It.aen)) (fh (.sl 3 (b.map It.aen)) (fj 3 (fh (.own J.length 0) (fj 105 fo))))) fun ZZ=>K (.exit 0) ⟨ZZ,J++[.row 3 1 8 0 false ((xs++s::jf s rest).map cq)]⟩) →
  gw J.length prog Ak K (rest.length+1) ⟨(.sl 3 (a.map It.aen)::.sl 3 (b.map It.aen)::uu 3 (.own J.length 0::uu 14 (.sl 3 (b.map It.aen)::.i .i64 b.length::.i .i64 pre.length::uu 88 []))),J++[.row 3 1 8 0 false ((xs++s::old).map cq)]⟩:=by
 intro rest
 induction rest with
 | nil =>
  intro pre xs s old he hx CM hs h1;have he:b=pre:=by simpa using he
  subst he;have ho:old=[]:=aD (by simpa using CM);subst ho;refine aH fun R hR=>?_;simp only[Ak,VV,seval];exact⟨fun h=>by simp at h,fun _=>h1 ..⟩
 | cons u rest ih =>
  intro pre xs s old he hx CM hs h1;subst he;cases old with
  | nil=>simp at CM
  | cons w old =>
   have hlen':pre.length+1+rest.length<2^38:=by simp at hlen;omega
   have hw:IntKind.i64.wrap ((pre.length:Int)+1)=(((pre++[u]).length:Nat):Int):=by
    rw[br (by omega)];simp
   have su:=dJ u;have e1:IntKind.i64.wrap (s+single u)=s+single u:=IntWalk.i64_in _ (by omega);have r2:eV ((xs++s::w::old).map cq) pre.length 0=some (.i .i64 s):=by rw[← hx];exact u0 _ _ _
   have hx':xs++s::w::old=(xs++[s])++w::old:=by simp
   have r3:∀ v,((xs++s::w::old).map cq).set (pre++[u]).length [.i .i64 v]=(xs++s::v::old).map cq:=fun v=>by
    have:(pre++[u]).length=(xs++[s]).length:=by simp[hx]
    rw[this,hx',wD];simp
   have r4:((xs++s::w::old).map cq).getD (pre++[u]).length []=[.i .i64 w]:=by
    have:(pre++[u]).length=(xs++[s]).length:=by simp[hx]
    rw[this,hx'];exact s7 _ _ _
   have b1:(0:Int)≤((pre++[u]).length:Nat)∧(((pre++[u]).length:Nat):Int)<(((xs++s::w::old).map cq).length:Nat):=⟨by omega,by simp[hx];omega⟩;have k:=ih (pre++[u]) (xs++[s]) (s+single u) old (by simp) (by simp[hx]) (by simpa using CM) (by simp;omega) (by simpa only[aM,bq,bh,jf]using h1);simp only[aM,bq,bh]at k;refine aH fun R hR=>?_;simp only[Ak,It.aen,VV,seval];refine⟨fun _=>⟨by simp;omega,?_⟩,fun h=>by simp at h;omega⟩;simp only[aX,r2,VV,seval];have b2:(0:Int)≤(pre.length:Nat)∧((pre.length:Nat):Int)<(((xs++s::w::old).map cq).length:Nat):=⟨by omega,by simp[hx];omega⟩;refine⟨b2,?_⟩;refine aA (py u _) rfl ?_;simp only[e1,hw,aX,r2,r3,r4,VV,seval];have fK:bG (J++[.row 3 1 8 0 false (List.map cq (xs++s::(s+single u)::old))]):=ck bz (by simp);exact⟨b2,b1,by have:=b1.2;omega,hR _ (bR [_] [_] fK (by repeat' constructor) (by simp[LW]) k)⟩
theorem vA(a b:List It)(ha:a.length<2^27)(hb:b.length<2^27):0≤gM a b∧gM a b≤2^60:=by
 have WK:=CB.nil.count 1 (by omega) a;have hC:=WK.count (-1) (by omega) b;have hK:gH (nE a b):=gH.count (-1) b (gH.count 1 a (by simp[gH]));have hS:=zB (C:=nE a b) hC hK
 have hle:((0+a.length+b.length:Nat):Int)*((nE a b).length:Int)≤2^28*2^28:=by
  have h1:((nE a b).length:Int)≤2^28:=by have:=hC.1;unfold nE;omega
  exact Sf (by omega) h1 (by omega) (by omega)
 have:=dw hS.2 hle;have:=hS.1;unfold gM;omega
theorem Db(a b:List It)(ha:a.length<2^27)(hb:b.length<2^27)(J:ae):PC prog 166 [.sl 3 (a.map It.aen),.sl 3 (b.map It.aen)] J (fun r J'=>r=.i .i64 (ib a b)∧J'=J):=by
 refine PC.intro func166 ZM fun bz er=>aB ?_;simp only[TV,SS,seval];have hw:IntKind.i64.wrap ((b.length:Int)+1)=((b.length+1:Nat):Int):=br (by omega);have Sr:((b.length+1:Nat):Int)≤maxLen:=dw (show _≤(2^62:Int)by omega) (by decide);have X1:List.replicate (b.length+1) [V.i .i64 0]=(([]:List Int)++0::List.replicate b.length 0).map cq:=by simp[pN,cq]
 simp only[aj,hw,aX,X1,VV,seval];have hR:=BU a b;refine⟨⟨by omega,Or.inl trivial,by omega,by omega,Sr⟩,?_⟩;refine cE.bk (fr':=(.sl 3 (a.map It.aen)::.sl 3 (b.map It.aen)::uu 3 (.own J.length 0::uu 14 (.sl 3 (b.map It.aen)::.i .i64 b.length::.i .i64 (([]:List It).length:Nat)::uu 88 [])))) (by repeat' constructor) (b.length+1) (HR a b bz (by omega) b [] [] 0 _ rfl rfl (by simp) (by simp) ?_);simp only[JE];intros;simp only[aj,VV,seval];refine cE.bk (fr':=(.sl 3 (a.map It.aen)::.sl 3 (b.map It.aen)::uu 3 (.own J.length 0::uu 33 (.sl 3 (a.map It.aen)::.i .i64 a.length::.i .i64 (([]:List It).length:Nat)::uu 69 [])))) (by repeat' constructor) (a.length+1) (HP a b bz (by omega) (by omega) a [] (rq b) (4*b.length) rfl (BV b) (BR.rq b) (by omega) ?_);simp only[JE];intros;simp only[aj,VV,seval];have hlen:(List.foldl (fun row t=>fy t b row) (rq b) a).length=b.length+1:=hR.2;obtain⟨x,hx⟩:∃ x,(vQ a b)[b.length]?=some x:=⟨_,an (by rw[hR.2];omega)⟩;have iX:=hR.1 x (aL hx);have Gg:=vA a b ha hb;have hd:ib a b=x+gM a b:=by simp only[ib,ar,hx,Option.getD]
 have Bn:IntKind.i64.wrap (x+gM a b)=x+gM a b:=IntWalk.i64_in _ (by omega)
 have eJ:eV (List.map cq (List.foldl (fun row t=>fy t b row) (rq b) a)) b.length 0=some (.i .i64 x):=by
  have:(List.foldl (fun row t=>fy t b row) (rq b) a)[b.length]?=some x:=hx;simp[eV,this,cq]
 refine⟨by omega,?_⟩;simp only[aX,eJ,VV,seval];refine aA (DZ a b ha hb _) rfl ?_;simp only[Bn,eJ,hlen,aX,VV,seval];refine⟨⟨by rw[aj],by omega,by rw[aj];omega⟩,?_⟩;exact ou bz (by rw[hd];simp only[RS,seval]) (by simp only[LW])
end Go.Proofs.Tryz
namespace Go.Pm
theorem Hl{P:Program}{c:bE}{K:Exit→St→Prop}{N:Nat}{fr fr':List V}{J:ae}(loc:ae)(bz:bG J)(hc:qJ fr fr')(hl:eF J.length fr')(k:gw J.length P c K N ⟨fr',J⟩):gw J.length P c K N ⟨fr,J++loc⟩ :=
 zT ((Wk.kP hc).trans (Wk.xc (aq _) bz (dN.1 hl))) k
end Go.Pm
namespace Go.Proofs.Tryz
open Go Go.Pm Go.Bt
theorem Dd(a b:List It)(ha:a.length<2^27)(hb:b.length<2^27):0≤ib a b∧ib a b≤2^61:=by
 have hR:=BU a b;obtain⟨x,hx⟩:∃ x,(vQ a b)[b.length]?=some x:=⟨_,an (by rw[hR.2];omega)⟩;have iX:=hR.1 x (aL hx);have Gg:=vA a b ha hb;have hd:ib a b=x+gM a b:=by simp only[ib,ar,hx,Option.getD]
 omega
theorem OX(a b:List It)(ha:a.length<2^27)(hb:b.length<2^27)(J:ae):PC prog 165 [.sl 3 (a.map It.aen),.sl 3 (b.map It.aen)] J (fun r J'=>r=.i .i64 (iC a b)∧J'=J):=by
 refine PC.intro func165 ZN fun bz er=>aB ?_;simp only[TW,SS,seval];simp only[VV,seval];refine aA (vq a (by omega) _) rfl ?_;simp only[VV,seval];refine aA (vq b (by omega) _) rfl ?_;simp only[VV,seval];exact a6 (.inr rfl) rfl ⟨rfl,rfl⟩
theorem D8(a b:List It)(ha:a.length<2^27)(hb:b.length<2^27)(J:ae):PC prog 106 [.sl 3 (a.map It.aen),.sl 3 (b.map It.aen)] J (fun r J'=>r=.i .i64 (cS a b)∧J'=J):=by
 refine PC.intro func106 aaf fun bz er=>aB ?_;simp only[Ut,SS,seval];simp only[VV,seval];refine aA (OX a b ha hb _) rfl ?_;simp only[VV,seval];have Br:=xt a b;have hd:=Dd a b ha hb;refine⟨fun h=>?_,fun h=>?_⟩
 ·have h0:iC a b=0:=by simpa using h
  exact a6 (.inr rfl) rfl ⟨by simp[cS,h0,one],rfl⟩
 ·have h0:iC a b≠0:=by simpa using h
  have e1:IntKind.i64.wrap (iC a b - ib a b)=iC a b - ib a b:=IntWalk.i64_in _ (by omega);have e2:IntKind.i64.wrap (100*if iC a b - ib a b<0 then 0 else iC a b - ib a b)=100*if iC a b - ib a b<0 then 0 else iC a b - ib a b:=IntWalk.i64_in _ (by split<;>omega)
  refine aA (Db a b ha hb _) rfl ?_;simp only[e1,e2,VV,seval];have hp:=tQ a b hd.1;have U2:cS a b=(100*if iC a b - ib a b<0 then 0 else iC a b - ib a b).tdiv (iC a b):=by simp only[cS,h0,aO,mx]
  refine⟨h0,?_⟩;rw[← U2,IntWalk.i64_in _ (by omega)];exact a6 (.inr rfl) rfl ⟨rfl,rfl⟩
theorem E8(e:En)(q:Qr)(J:ae):PC prog 108 [.agg e.aen,.agg q.aen] J (fun r J'=>r=.i .i64 (je e q)∧J'=J):=by
 refine PC.intro func108 aad fun bz er=>aB ?_;simp only[Ur,SS,seval];simp only[En.aen,Qr.aen,VV,seval];have w1:IntKind.i64.wrap 1=1:=by decide
 have w2:IntKind.i64.wrap (1+1)=2:=by decide
 simp only[w1,w2]
 refine⟨fun h1=>⟨fun h2=>?_,fun h2=>?_⟩,fun h1=>⟨fun h2=>?_,fun h2=>?_⟩⟩ <;>
  exact bu bz (.inr rfl) (by simp only[RS,seval];rfl) (by simp only[LW]) ⟨by have h1:=(show Gx _ _=_ from h1);have h2:=(show Gx _ _=_ from h2);simp[je,h1,h2,one],rfl⟩
theorem zd(a:List UInt8)(J:ae):PC prog 200 [.s a] J (fun r J'=>r=.b false∧J'=J):=by
 refine PC.intro func200 Zw fun bz er=>aB ?_;simp only[TE,SS,seval];simp only[VV,seval];exact a6 (.inr rfl) rfl ⟨by simp[one],rfl⟩
theorem A5(a b:List UInt8)(J:ae):PC prog 133 [.s a,.s b] J (fun r J'=>r=.i .i64 (eB a b)∧J'=J):=by
 refine PC.intro func133 Z0 fun bz er=>aB ?_;simp only[Uc,SS,seval];simp only[VV,seval];refine aA (zd a _) rfl ?_;simp only[VV,seval];refine aA (zd b _) rfl ?_;simp only[VV,seval];have hv:=GB a b;rw[l4];refine⟨fun h=>?_,fun h=>⟨fun h2=>?_,fun h2=>?_⟩⟩
 ·have e:eB a b = -1:=by simp only[a8]at h;omega
  exact a6 (.inr rfl) rfl ⟨by rw[e];rfl,rfl⟩
 ·have e:eB a b=1:=by
   simp only[dx]at h;have h3:¬ eB a b=0:=fun h0=>by rw[lN]at h0;subst h0;simp at h2
   omega
  exact a6 (.inr rfl) rfl ⟨by rw[e];rfl,rfl⟩
 ·have e:eB a b=0:=by
   rw[h,jE]at h2;rw[lN];simpa using h2
  exact a6 (.inr rfl) rfl ⟨by rw[e];rfl,rfl⟩
theorem Nj{J:ae}{K:Exit→St→Prop}(l:List It)(bz:bG J)(hlen:l.length<2^40):∀ (rest pre:List It) (g:Nat),l=pre++rest →
  (∀ g,((fj 3 (fh (.own J.length g) (fj 18 fo))) fun ZZ=>K (.exit 0) ⟨ZZ,J++[.row 9 1 16 g false ((aI l).map xU)]⟩)) →
  gw J.length prog Ag K (rest.length+1) ⟨(uu 3 (.own J.length g::uu 2 (.sl 3 (l.map It.aen)::.i .i64 l.length::.i .i64 pre.length::uu 13 []))),J++[.row 9 1 16 g false ((aI pre).map xU)]⟩:=by
 intro rest
 induction rest with
 | nil =>
  intro pre g he h1;have he:l=pre:=by simpa using he
  subst he;refine aH fun R hR=>?_;simp only[Ag,VV,seval];exact⟨fun h=>by simp at h,fun _=>h1 g ..⟩
 | cons x rest ih =>
  intro pre g he h1;subst he;have hlen':pre.length+1+rest.length<2^40:=by simp at hlen;omega
  have hw:IntKind.i64.wrap ((pre.length:Int)+1)=(((pre++[x]).length:Nat):Int):=by
   rw[br (by omega)];simp
  have fK:∀ g o,bG (J++[.row 9 1 16 g false o]):=fun g o=>ck bz (by simp);have UM:(aI pre).length≤pre.length:=by unfold aI;rw[aj];exact dQ _ _
  refine aH fun R hR=>?_;simp only[Ag,It.aen,VV,seval];refine⟨fun _=>⟨by simp;omega,?_⟩,fun h=>by simp at h;omega⟩;refine⟨fun h=>?_,fun h=>?_⟩
  ·refine aA (pr x _) rfl ?_;simp only[hw,VV,seval];have e:(aI pre).map xU++[[.s (dE x)]]=(aI (pre++[x])).map xU:=by simp[aI,gT,h,xU]
   rw[e];refine⟨by simp only[aj,maxLen];omega,hR _ (bR [_] [_] (fK _ _) (by repeat' constructor) (by simp[LW]) (ih (pre++[x]) (g+1) (by simp) h1))⟩
  ·have e:aI (pre++[x])=aI pre:=by simp[aI,gT,h]
   simp only[hw];have k:=ih (pre++[x]) g (by simp) h1;rw[e]at k;exact hR _ (bR [_] [_] (fK _ _) (by repeat' constructor) (by simp[LW]) k)
theorem P8:Ti prog 9 1 16:=nD (by kernel_rfl)
theorem Jf(l:List It)(hlen:l.length<2^38)(J:ae):PC prog 180 [.sl 3 (l.map It.aen)] J (fun r J'=>r=.sl 1 ((aI l).map xU)∧J'=J):=by
 refine PC.closed fun bz=>PC.fz bz (g:=0) (E:=9) (by':=16) (sh:=false) ?_;refine PC.intro func180 ZF fun bz er=>aB ?_;simp only[TO,SS,seval];simp only[aj,VV,seval];refine cE.wk ((Wk.pA (J:=J) (k:=3) P8 rfl).trans (Wk.kP ?_)) (cE.BX (l.length+1) (Nj l bz (by omega) l [] 0 rfl ?_))
 ·simp only[VV,seval]
  repeat' constructor
 ·intro g;simp only[JE];intros;simp only[VV,seval];exact zU 0 bz (.inr rfl) rfl rfl rfl (by simp[Ck,Ob.gen]) (by simp[one,Ql,Ob.fresh])
end Go.Proofs.Tryz
set_option maxRecDepth 4000
set_option maxHeartbeats 1000000
namespace Go.Proofs.Tryz
open Go Go.Pm Go.Bt
theorem PJ(n:Nat)(hn:n<2^60):IntKind.i64.wrap ((IntKind.u64.wrap (n:Int)).fdiv (2^min 1 IntKind.u64.bits))=((n / 2:Nat):Int):=by
 have h1:IntKind.u64.wrap (n:Int)=n:=by
  simp only[IntKind.wrap,IntKind.bits,IntKind.signed];simp only[gU,aG,aO];omega
 have h2:(2:Int)^min 1 IntKind.u64.bits=2:=by decide
 rw[h1,h2,Sg _ (by decide)];rw[show(n:Int) / 2=((n / 2:Nat):Int)by omega,vl (by omega)]
def ff(g:Nat)(M:List dP):Ob:=.row 108 11 176 g false (M.map dP.aen)
theorem C6(s:dP)(k:List UInt8)(J:ae):PC prog 132 [.agg s.aen,.s k] J (fun r J'=>r=.i .i64 (eB s.key k)∧J'=J):=by
 refine PC.intro func132 Z1 fun bz er=>aB ?_;simp only[Ud,SS,seval];simp only[dP.aen,VV,seval];refine aA (A5 s.key k _) rfl ?_;simp only[VV,seval];exact bu bz (.inr rfl) rfl (by simp[LW]) ⟨rfl,rfl⟩
theorem No{J:ae}{K:Exit→St→Prop}(l:List dP)(hs:kg l)(p:List UInt8)(c g:Nat)(hl:l.length<2^30)(hq:J[c]?=some (ff g l)):∀ (N i j:Nat),j - i≤N→i≤fG l p→fG l p≤j→j≤l.length →
  ((fh (.own c g) (fh (.s p) (fh (.fn 132 []) (fj 5 (fh (.i .i64 l.length) (fh (.i .i64 (fG l p)) (fj 39 fo))))))) fun ZZ=>K (.exit 0) ⟨ZZ,J⟩) →
  gw J.length prog we K (N+1) ⟨(.own c g::.s p::.fn 132 []::uu 5 (.i .i64 l.length::.i .i64 i::.i .i64 j::uu 38 [])),J⟩:=by
 intro N
 induction N with
 | zero =>
  intro i j h1 h2 h3 h4 h5;obtain rfl:i=fG l p:=by omega
  have hd:decide ((fG l p:Int)<(j:Int))=false:=by simp;omega
  refine aH fun R hR=>?_;simp only[we,hd,VV,seval];exact h5 ..
 | succ N ih =>
  intro i j h1 h2 h3 h4 h5
  by_cases DI:i<j
  ·have hd:decide ((i:Int)<(j:Int))=true:=by simp;omega
   have e1:IntKind.i64.wrap ((i:Int)+(j:Int))=((i+j:Nat):Int):=by
    rw[show(i:Int)+(j:Int)=((i+j:Nat):Int)by omega,vl (by omega)]
   have e2:=PJ (i+j) (by omega);have hm:(i+j) / 2<l.length:=by omega
   have hx:l[(i+j) / 2]?=some l[(i+j) / 2]:=an hm;generalize UK:l[(i+j) / 2]=x at hx;have eJ:(l.map dP.aen).getD ((i+j) / 2) []=x.aen:=by simp[ar,hx]
   have Gg:=s4 hs p _ x hx;clear UK;generalize Yn:(i+j) / 2=m at *;have h0:(0:Int)≤(m:Int):=by omega
   have cM:(m:Int)<(l.length:Int):=by omega
   have e3:IntKind.i64.wrap ((m:Int)+1)=((m+1:Nat):Int):=by rw[br (by omega)]
   simp only[dP.aen]at eJ;simp only[ff]at hq;refine aH fun R hR=>?_;simp only[we,hq,hd,e1,e2,e3,eJ,h0,cM,aj,VV,Int.reduceBEq,Int.reduceBNe,Nat.reduceAdd,Nat.reduceSub,Nat.reduceLeDiff,Nat.reduceEqDiff,Int.reduceToNat,reduceIte,reduceCtorEq];refine⟨by decide,?_⟩;refine rX rfl (by kernel_rfl) (C6 x p _) (by simp only[dP.aen,VV,seval]) ?_;simp only[e3,VV,seval];refine⟨fun h=>?_,fun h=>?_⟩
   ·have h:eB x.key p<0:=by simpa using h
    have:=Gg.1 h;refine hR _ (bk ?_ (ih (m+1) j (by omega) (by omega) h3 h4 h5))
    repeat' constructor
   ·have h:¬ eB x.key p<0:=by simp at h;omega
    have:¬ m<fG l p:=fun hc=>h (Gg.2 hc);refine hR _ (bk ?_ (ih i m (by omega) h2 (by omega) (by omega) h5))
    repeat' constructor
  ·obtain rfl:i=fG l p:=by omega
   have hd:decide ((fG l p:Int)<(j:Int))=false:=by simp;omega
   refine aH fun R hR=>?_;simp only[we,hd,VV,seval];exact h5 ..
theorem R5(l:List dP)(hs:kg l)(p:List UInt8)(c g:Nat)(hl:l.length<2^30)(J:ae)(hq:J[c]?=some (ff g l)):PC prog 131 [.own c g,.s p,.fn 132 []] J (fun r J'=>r=.fa [.i .i64 (fG l p),.b (decide (p∈l.map dP.key))]∧J'=J):=by
 refine PC.intro func131 Z2 fun bz er=>aB ?_;have hle:=AJ l p;have pE:=fun K=>No (K:=K) l hs p c g hl hq l.length 0 l.length (by omega) (eX _) hle (aq _);have eJ:=uY hs p;simp only[Ue,SS,seval];simp only[ff]at hq;simp only[hq,aj,VV,seval];refine cE.wk (Wk.kP ?_) (cE.BX (l.length+1) (pE _ ?_))
 ·repeat' constructor
 simp only[JE];intros;generalize fG l p=m at *;have k1:(true==true)=true:=rfl;have k4:(false==true)=false:=rfl
 by_cases hm:m<l.length
 ·have hx:l[m]?=some l[m]:=an hm;generalize l[m]=x at hx;have bT:(l.map dP.aen).getD m []=x.aen:=by simp[ar,hx]
  have hd:decide ((m:Int)<(l.length:Int))=true:=by simp;omega
  have h0:(0:Int)≤(m:Int):=by omega
  have cM:(m:Int)<(l.length:Int):=by omega
  simp only[dP.aen]at bT;simp only[hq,hd,h0,cM,bT,k1,k4,Mq,aj,VV,seval];refine⟨_,rfl,?_⟩;refine pK (c:=true) (by simp only[k1,VV,seval]<;>rfl) (fun _=>⟨_,_,rfl,by kernel_rfl,C6 x p _⟩) ?_;simp only[k1,k4,VV,seval];refine a6 (.inr rfl) rfl ⟨?_,rfl⟩
  have e:(eB x.key p==0)=decide (p∈l.map dP.key):=by
   rw[ir,bN,lN,decide_eq_true_iff,eJ,hx];simp
  rw[e];rfl
 ·have hd:decide ((m:Int)<(l.length:Int))=false:=by simp;omega
  have hp:decide (p∈l.map dP.key)=false:=pj (by rw[eJ,a7 (by omega)];simp);simp only[hq,hd,hp,k1,k4,xF,aj,VV,seval];refine⟨.u,pK (c:=false) (v:=.i .i64 0) (by simp only[k4,VV,seval]<;>rfl) (fun h=>by cases h) ?_⟩;simp only[k4,VV,seval];exact a6 (.inr rfl) rfl ⟨rfl,rfl⟩
end Go.Proofs.Tryz
set_option maxRecDepth 4000
set_option maxHeartbeats 1000000
namespace Go.Proofs.Tryz
open Go Go.Pm Go.Bt
theorem ML(a:Int)(J:ae):PC prog 124 [.i .i64 a] J (fun r J'=>r=.b false∧J'=J):=by
 refine PC.intro func124 Z7 fun bz er=>aB ?_;simp only[Uj,SS,seval];simp only[VV,seval];exact a6 (.inr rfl) rfl ⟨by simp[one],rfl⟩
theorem Nu(a b:Int)(J:ae):PC prog 123 [.i .i64 a,.i .i64 b] J (fun r J'=>r=.b (decide (a<b))∧J'=J):=by
 refine PC.intro func123 ml fun bz er=>aB ?_;simp only[Uk,SS,seval];simp only[VV,seval];refine aA (Kv a _) rfl ?_;simp only[VV,seval];refine cL (c:=false) (by simp only[VV,seval]<;>rfl) (nofun) rfl (v:=.b false) ?_;simp only[VV,seval];exact a6 (.inr rfl) rfl ⟨rfl,rfl⟩
theorem QA{J:ae}{K:Exit→St→Prop}(l:List Int)(hs:l.Pairwise fun a b=>a<b)(t:Int)(hl:l.length<2^30):∀ (N i j:Nat),j - i≤N→i≤rJ l t→rJ l t≤j→j≤l.length →
  ((fh (.sl 1 (l.map cq)) (fh (.i .i64 t) (fj 4 (fh (.i .i64 l.length) (fh (.i .i64 (rJ l t)) (fj 46 fo)))))) fun ZZ=>K (.exit 0) ⟨ZZ,J⟩) →
  gw J.length prog Ce K (N+1) ⟨(.sl 1 (l.map cq)::.i .i64 t::uu 4 (.i .i64 l.length::.i .i64 i::.i .i64 j::uu 45 [])),J⟩:=by
 intro N
 induction N with
 | zero =>
  intro i j h1 h2 h3 h4 h5;obtain rfl:i=rJ l t:=by omega
  have hd:decide ((rJ l t:Int)<(j:Int))=false:=by simp;omega
  refine aH fun R hR=>?_;simp only[Ce,hd,VV,seval];exact h5 ..
 | succ N ih =>
  intro i j h1 h2 h3 h4 h5
  by_cases DI:i<j
  ·have hd:decide ((i:Int)<(j:Int))=true:=by simp;omega
   have e1:IntKind.i64.wrap ((i:Int)+(j:Int))=((i+j:Nat):Int):=by
    rw[show(i:Int)+(j:Int)=((i+j:Nat):Int)by omega,vl (by omega)]
   have e2:=PJ (i+j) (by omega);have hm:(i+j) / 2<l.length:=by omega
   have hx:l[(i+j) / 2]?=some l[(i+j) / 2]:=an hm;generalize UK:l[(i+j) / 2]=x at hx;have eJ:eV (l.map cq) ((i+j) / 2) 0=some (.i .i64 x):=by simp[eV,hx,cq]
   have Gg:=Ib hs t _ x hx;clear UK;generalize Yn:(i+j) / 2=m at *;have h0:(0:Int)≤(m:Int):=by omega
   have cM:(m:Int)<(l.length:Int):=by omega
   have e3:IntKind.i64.wrap ((m:Int)+1)=((m+1:Nat):Int):=by rw[br (by omega)]
   refine aH fun R hR=>?_;simp only[Ce,hd,e1,e2,e3,eJ,h0,cM,aj,aX,VV,Int.reduceBEq,Int.reduceBNe,Nat.reduceAdd,Nat.reduceSub,Nat.reduceLeDiff,Nat.reduceEqDiff,Int.reduceToNat,reduceIte,reduceCtorEq];refine⟨by decide,?_⟩;refine aA (Nu x t _) rfl ?_;simp only[e3,VV,seval];refine⟨fun h=>?_,fun h=>?_⟩
   ·have h:x<t:=by simpa using h
    have:=Gg.1 h;refine hR _ (bk ?_ (ih (m+1) j (by omega) (by omega) h3 h4 h5))
    repeat' constructor
   ·have h:¬ x<t:=by simpa using h
    have:¬ m<rJ l t:=fun hc=>h (Gg.2 hc);refine hR _ (bk ?_ (ih i m (by omega) h2 (by omega) (by omega) h5))
    repeat' constructor
  ·obtain rfl:i=rJ l t:=by omega
   have hd:decide ((rJ l t:Int)<(j:Int))=false:=by simp;omega
   refine aH fun R hR=>?_;simp only[Ce,hd,VV,seval];exact h5 ..
theorem R6(l:List Int)(hs:l.Pairwise fun a b=>a<b)(t:Int)(hl:l.length<2^30)(J:ae):PC prog 59 [.sl 1 (l.map cq),.i .i64 t] J (fun r J'=>r=.fa [.i .i64 (rJ l t),.b (decide (t∈l))]∧J'=J):=by
 refine PC.intro func59 c59 fun bz er=>aB ?_;have hle:rJ l t≤l.length:=FK _ _;have pE:=fun K=>QA (J:=J) (K:=K) l hs t hl l.length 0 l.length (by omega) (eX _) hle (aq _);have eJ:=NK hs t;simp only[p59,SS,seval];simp only[aj,VV,seval];refine cE.wk (Wk.kP ?_) (cE.BX (l.length+1) (pE _ ?_))
 ·repeat' constructor
 simp only[JE];intros;generalize rJ l t=m at *;have k1:(true==true)=true:=rfl;have k4:(false==true)=false:=rfl
 by_cases hm:m<l.length
 ·have hx:l[m]?=some l[m]:=an hm;generalize l[m]=x at hx;have bT:eV (l.map cq) m 0=some (.i .i64 x):=by simp[eV,hx,cq]
  have hd:decide ((m:Int)<(l.length:Int))=true:=by simp;omega
  have h0:(0:Int)≤(m:Int):=by omega
  have cM:(m:Int)<(l.length:Int):=by omega
  by_cases Mb:x=t
  ·subst Mb;have e:decide (x∈l)=true:=Bf (eJ.2 hx);simp only[hd,h0,cM,bT,e,k1,k4,Mq,uM,aj,aX,VV,seval];refine⟨_,rfl,?_⟩;simp only[e,k1,k4,uM,VV,seval];refine⟨nofun,.i .i64 0,nofun,?_⟩;refine cL (c:=false) (by simp only[k1,VV,seval]<;>rfl) (nofun) rfl (v:=.b false) ?_;simp only[k1,k4,VV,seval];refine cL (c:=false) (by simp only[k1,VV,seval]<;>rfl) (nofun) rfl (v:=.b false) ?_;simp only[k1,k4,VV,seval];exact a6 (.inr rfl) rfl ⟨rfl,rfl⟩
  ·have e:decide (t∈l)=false:=pj (by rw[eJ,hx];simpa using Mb);have e2:(x==t)=false:=by simpa using Mb
   simp only[hd,h0,cM,bT,e,e2,k1,k4,Mq,aj,aX,VV,seval];refine⟨_,rfl,?_⟩;simp only[e,e2,k1,k4,VV,seval];refine⟨⟨by omega,by rw[aj];omega⟩,.i .i64 x,⟨True,by rw[bT],trivial⟩,?_⟩;refine cL (c:=true) (by simp only[k1,VV,seval]<;>rfl) (fun _=>ML x _) rfl ?_;simp only[k1,k4,VV,seval];refine cL (c:=false) (by simp only[k1,VV,seval]<;>rfl) (nofun) rfl (v:=.b false) ?_;simp only[k1,k4,VV,seval];exact a6 (.inr rfl) rfl ⟨rfl,rfl⟩
 ·have hd:decide ((m:Int)<(l.length:Int))=false:=by simp;omega
  have hp:decide (t∈l)=false:=pj (by rw[eJ,a7 (by omega)];simp);simp only[hd,hp,k1,k4,xF,aj,VV,seval];refine⟨.i .i64 0,?_⟩;simp only[k1,k4,VV,seval];refine⟨.i .i64 0,?_⟩;refine cL (c:=false) (by simp only[k1,k4,VV,seval]<;>rfl) (nofun) rfl (v:=.b false) ?_;simp only[k1,k4,VV,seval];refine cL (c:=false) (by simp only[k1,k4,VV,seval]<;>rfl) (nofun) rfl (v:=.b false) ?_;simp only[k1,k4,VV,seval];exact a6 (.inr rfl) rfl ⟨rfl,rfl⟩
end Go.Proofs.Tryz
namespace Go.Proofs.Tryz
open Go Go.Pm Go.Bt Go.RowKit
end Go.Proofs.Tryz
namespace Go.Proofs.Tryz
open Go Go.Pm Go.Bt
end Go.Proofs.Tryz
set_option maxRecDepth 4000
set_option maxHeartbeats 0
namespace Go.Proofs.Tryz
open Go Go.Pm Go.Bt
abbrev Ta(xs:List Int):Ob:=.row 3 1 8 0 false (xs.map cq)
structure Tb (J S:ae) (a b:List It) (i ri:Nat) (cs:List V):Prop where
 len:J.length≤S.length
 hri:J.length<ri∧ri<S.length
 box:S[J.length]?=some (.box 25 cs)
 own:cs[i]?=some (.own ri 0)
 below:i<a.length→cs[i+1]?=some (.own (ri - 1) 0)∧ri - 1≠J.length∧S[ri - 1]?=some (Ta (Tf a b (i+1) 0))
end Go.Proofs.Tryz
set_option maxRecDepth 4000
set_option maxHeartbeats 0
namespace Go.Proofs.Tryz
open Go Go.Pm Go.Bt
end Go.Proofs.Tryz
set_option maxRecDepth 4000
namespace Go.Proofs.Tryz
open Go Go.Pm Go.Bt
theorem vo(n:Int)(hn : -9223372036854775808≤n∧n≤9223372036854775807)(J:ae):PC prog 252 [.i .i64 n] J (fun r J'=>r=.agg [.i .i64 (if n<0 then -1 else 0),.i .u64 (if n<0 then n+18446744073709551616 else n)]∧J'=J):=by
 refine PC.intro func252 Y9 fun bz er=>aB ?_;simp only[Tg,SS,seval];simp only[VV,seval]
 have e1:n.fdiv (2^min 63 IntKind.i64.bits)=if n<0 then -1 else 0:=by
  have:(2:Int)^min 63 IntKind.i64.bits=9223372036854775808:=by decide
  rw[this,Sg _ (by omega)];split<;>omega
 have e2:IntKind.u64.wrap n=if n<0 then n+18446744073709551616 else n:=by
  rw[IntKind.wrap_u64];split<;>omega
 simp only[e1,e2];exact ou bz (by simp only[RS,seval]) (by simp only[LW])
theorem O0(now aey gq:Int)(hn : -9223372036854775808≤now∧now≤9223372036854775807)(hc : -9223372036854775808≤aey∧aey≤9223372036854775807)(ho : -9223372036854775808≤gq∧gq≤9223372036854775807)(J:ae):
  PC prog 216 [.i .i64 now,.i .i64 aey,.i .i64 gq] J (fun r J'=>r=.b (decide (gq≤now - aey))∧J'=J):=by
 refine PC.intro func216 Zl fun bz er=>aB ?_;simp only[Tt,SS,seval];simp only[VV,seval];refine aA (vo now hn _) rfl ?_;simp only[VV,seval];refine aA (vo aey hc _) rfl ?_;simp only[VV,seval];refine aA (vo gq ho _) rfl ?_;simp only[VV,seval];refine⟨⟨by split<;>omega,by split<;>omega,by split<;>omega⟩,?_⟩;refine bu bz (.inr rfl) (by simp only[RS,seval];rfl) (by simp only[LW]) ⟨?_,rfl⟩;simp only[one,V.b.injEq];rw[ir];simp only[da,aP,a8,bN,IntKind.wrap_i64]
 by_cases h1:now<0<;>by_cases h2:aey<0<;>by_cases h3:gq<0<;>simp only[h1,h2,h3,aR,aO]<;>split<;>omega
theorem zZ(p:Pn)(e:En)(now:Int)(hn : -9223372036854775808≤now∧now≤9223372036854775807)(hc : -9223372036854775808≤e.aey∧e.aey≤9223372036854775807)(hp : -9223372036854775808≤p.gq∧p.gq≤9223372036854775807)(J:ae):PC prog 167 [.agg p.aen,.agg e.aen,.i .i64 now] J (fun r J'=>r=.b (pg p e now)∧J'=J):=by
 refine PC.intro func167 ZL fun bz er=>aB ?_;simp only[TU,SS,seval];simp only[Pn.aen,En.aen,VV,seval];refine⟨fun h1=>?_,fun h1=>⟨fun h2=>?_,fun h2=>?_⟩⟩
 ·exact bu bz (.inr rfl) (by simp only[RS,seval];rfl) (by simp only[LW]) ⟨by simp only[pg,h1,one,aR],rfl⟩
 ·have h2:=(show((p.cC != []&&p.cC != e.cC)||(p.bU != []&&p.bU != e.bU))=true from h2);exact bu bz (.inr rfl) (by simp only[RS,seval];rfl) (by simp only[LW]) ⟨by simp only[pg,h1,h2,one];rfl,rfl⟩
 ·have h2:=(show((p.cC != []&&p.cC != e.cC)||(p.bU != []&&p.bU != e.bU))=false from h2);refine cL (by simp only[VV,seval]<;>rfl) (fun _=>O0 now e.aey p.gq hn hc hp _) rfl ?_;simp only[VV,seval];exact bu bz (.inr rfl) (by simp only[RS,seval];rfl) (by simp only[LW]) ⟨by simp only[pg,h1,h2,one];rfl,rfl⟩
theorem Ns{J:ae}{K:Exit→St→Prop}(e:En)(now:Int)(bz:bG J)(hn : -9223372036854775808≤now∧now≤9223372036854775807)(hc : -9223372036854775808≤e.aey∧e.aey≤9223372036854775807)
  (l:List Pn) (hlen:l.length<2^40) (hl:∀ p∈l,-9223372036854775808≤p.gq∧p.gq≤9223372036854775807):∀ (rest pre:List Pn) (s:Int),l=pre++rest→0≤s∧s≤100 →
  ((fj 7 (fh (.i .i64 (lz e now s rest)) (fj 25 fo))) fun ZZ=>K (.exit 0) ⟨ZZ,J++[.box 37 e.aen]⟩) →
  gw J.length prog Aw K (rest.length+1) ⟨(uu 2 (.i .i64 now::uu 1 (.ptr J.length 0::uu 2 (.i .i64 s::uu 2 (.sl 5 (l.map Pn.aen)::.i .i64 l.length::.i .i64 pre.length::uu 20 []))))),J++[.box 37 e.aen]⟩:=by
 intro rest
 induction rest with
 | nil =>
  intro pre s he hs h1;have he:l=pre:=by simpa using he
  subst he;refine aH fun R hR=>?_;simp only[Aw,VV,seval];exact⟨fun h=>by simp at h,fun _=>h1 ..⟩
 | cons p rest ih =>
  intro pre s he hs h1;subst he;have hlen':pre.length+1+rest.length<2^40:=by simp at hlen;omega
  have hw:IntKind.i64.wrap ((pre.length:Int)+1)=(((pre++[p]).length:Nat):Int):=by
   rw[br (by omega)];simp
  have fK:bG (J++[.box 37 e.aen]):=ck bz (by simp[En.aen,LW]);refine aH fun R hR=>?_;simp only[Aw,Pn.aen,En.aen,VV,seval];refine⟨fun _=>⟨by simp;omega,?_⟩,fun h=>by simp at h;omega⟩;refine cL (by simp only[VV,seval]<;>rfl) (fun _=>zZ p e now hn hc (hl p (by simp)) _) rfl ?_;simp only[hw,VV,seval];refine⟨fun h2=>?_,fun h2=>?_⟩
  ·have KG:0<p.points:=by simp only[aP,a8]at h2;exact h2.1
   have e1:IntKind.i64.wrap (s+if 100<p.points then 100 else p.points)=s+mn p.points 100:=IntWalk.i64_in _ (by split<;>omega);have DF:0≤mn (s+mn p.points 100) 100∧mn (s+mn p.points 100) 100≤100:=by unfold mn;(repeat' split)<;>omega
   rw[e1];exact hR _ (bR [_] [_] fK (by repeat' constructor) (by simp[LW]) (ih (pre++[p]) (mn (s+mn p.points 100) 100) (by simp) DF (by simpa only[lz,h2,aR]using h1)))
  ·exact hR _ (bR [_] [_] fK (by repeat' constructor) (by simp[LW]) (ih (pre++[p]) s (by simp) hs (by simpa only[lz,h2,aG,aO]using h1)))
theorem Hy(l:List Pn)(e:En)(now:Int)(hn : -9223372036854775808≤now∧now≤9223372036854775807)(hc : -9223372036854775808≤e.aey∧e.aey≤9223372036854775807)
  (hlen:l.length<2^40) (hl:∀ p∈l,-9223372036854775808≤p.gq∧p.gq≤9223372036854775807) (J:ae):PC prog 107 [.sl 5 (l.map Pn.aen),.agg e.aen,.i .i64 now] J (fun r J'=>r=.i .i64 (jH l e now)∧J'=J):=by
 refine PC.intro func107 aae fun bz er=>aB ?_;simp only[Us,SS,seval];simp only[En.aen,aj,VV,seval];refine cE.bk (fr':=(uu 2 (.i .i64 now::uu 1 (.ptr J.length 0::uu 2 (.i .i64 0::uu 2 (.sl 5 (l.map Pn.aen)::.i .i64 l.length::.i .i64 ([]:List Pn).length::uu 20 [])))))) (by repeat' constructor) (l.length+1) (Ns e now bz hn hc l hlen hl l [] 0 rfl (by omega) ?_);simp only[JE];intros;simp only[VV,seval];exact ou bz (by simp only[RS,seval];rfl) (by simp only[LW])
theorem QC{J:ae}{K:Exit→St→Prop}(bz:bG J)(l:List Pn)(hlen:l.length<2^40):∀ (rest pre:List Pn),l=pre++rest →
  (lj rest≠0→∀ loc,((fj 2 (fh (.i .i64 (lj rest)) (fj 60 fo))) fun ZZ=>K .ret ⟨ZZ,J++loc⟩))→(lj rest=0→((fj 63 fo) fun ZZ=>K (.exit 0) ⟨ZZ,J⟩)) →
  gw J.length prog FV K (rest.length+1) ⟨(uu 8 (.sl 5 (l.map Pn.aen)::.i .i64 l.length::.i .i64 pre.length::uu 52 [])),J⟩:=by
 intro rest
 induction rest with
 | nil =>
  intro pre he hx h1;have he:l=pre:=by simpa using he
  subst he;refine aH fun R hR=>?_;simp only[FV,VV,seval];exact⟨fun h=>by simp at h,fun _=>h1 rfl ..⟩
 | cons p rest ih =>
  intro pre he hx h1;subst he;have hlen':pre.length+1+rest.length<2^40:=by simp at hlen;omega
  have hw:IntKind.i64.wrap ((pre.length:Int)+1)=(((pre++[p]).length:Nat):Int):=by
   rw[br (by omega)];simp
  refine aH fun R hR=>?_;simp only[FV,Pn.aen,VV,seval];refine⟨fun _=>⟨by simp;omega,?_⟩,fun h=>by simp at h;omega⟩;refine⟨fun h2=>?_,fun h2=>?_⟩
  ·have he:nK p=1:=by
    simp only[da,a8]at h2;unfold nK;rw[aQ (by omega)]
   have hp:lj (p::rest)=1:=by simp[lj,he]
   rw[hp]at hx;exact hx (by decide) _ ..
  ·have Yk:¬ (p.aeA<0∨3<p.aeA∨p.gq<0∨1073741824<p.gq∨p.points<0∨100<p.points):=by
    simp only[kG,dx]at h2;omega
   refine cL (by simp only[VV,seval]<;>rfl) (fun _=>iK p.cC _) rfl ?_;simp only[VV,seval];refine cL (by simp only[VV,seval]<;>rfl) (fun _=>iK p.bU _) rfl ?_;simp only[hw,VV,seval]
   have hb:((!p.cC==[]&&!aeC p.cC)||(!p.bU==[]&&!aeC p.bU))=!(named p.cC&&named p.bU):=by
    simp only[named];cases p.cC==[]<;>cases aeC p.cC<;>cases p.bU==[]<;>cases aeC p.bU<;>rfl
   rw[hb];refine⟨fun h3=>?_,fun h3=>?_⟩
   ·have hp:lj (p::rest)=4:=by
     have:nK p=4:=by
      unfold nK;rw[aC Yk,aQ (by cases hq:named p.cC&&named p.bU<;>simp[hq]at h3 ⊢)]
     simp[lj,this]
    rw[hp]at hx;exact hx (by decide) _ ..
   ·have hp:lj (p::rest)=lj rest:=by
     have:nK p=0:=by
      unfold nK;rw[aC Yk,aC (by cases hq:named p.cC&&named p.bU<;>simp[hq]at h3 ⊢)]
     simp[lj,this]
    rw[hp]at hx h1;exact hR _ (Hl [_] bz (by repeat' constructor) (by simp[LW]) (ih (pre++[p]) (by simp) hx h1))
theorem x9(l:List Pn)(hlen:l.length<2^40)(J:ae):PC prog 57 [.sl 5 (l.map Pn.aen)] J (fun r J'=>r=.i .i64 (oP l)∧J'=J):=by
 refine PC.intro func57 c57 fun bz er=>aB ?_;simp only[p57,SS,seval];simp only[aj,VV,seval];refine⟨fun h=>?_,fun h=>?_⟩
 ·exact a6 (.inr rfl) rfl ⟨by simp only[a8]at h;simp[oP,h,one],rfl⟩
 ·have hh:¬ ((16:Int)<l.length):=by simpa using h
  refine cE.bk (fr':=(uu 8 (.sl 5 (l.map Pn.aen)::.i .i64 l.length::.i .i64 ([]:List Pn).length::uu 52 []))) (by repeat' constructor) (l.length+1) (QC bz l hlen l [] rfl (fun gr loc=>?_) (fun h0=>?_))
  ·simp only[JE];intros;simp only[VV,seval];exact ou bz (by simp only[RS,seval,oP,hh,aO]) (by simp only[LW])
  ·simp only[JE];intros;simp only[VV,seval];exact a6 (.inr rfl) (by simp only[RS,seval];rfl) ⟨by simp only[oP,hh,aO,h0,one],rfl⟩
theorem B1(q:Qr)(h1:q.bV.length<2^39)(h2:q.next.length<2^39)(J:ae):PC prog 15 [.agg q.aen] J (fun r J'=>r=.i .i64 (dV q)∧J'=J):=by
 refine PC.intro func15 c15 fun bz er=>aB ?_;simp only[p15,SS,seval];simp only[Qr.aen,VV,seval];refine aA (jh q.aeq _) rfl ?_;simp only[VV,seval];refine⟨fun h=>?_,fun h=>?_⟩
 ·have h0:b6 q.aeq≠0:=by simpa using h
  exact bu bz (.inr rfl) (by simp only[RS,seval];rfl) (by simp only[LW]) ⟨by simp[dV,h0,one],rfl⟩
 have h0:b6 q.aeq=0:=by simpa using h
 refine⟨fun h=>?_,fun h=>?_⟩
 ·have h3:q.aeq=[]:=by simpa using h
  exact bu bz (.inr rfl) (by simp only[RS,seval];rfl) (by simp only[LW]) ⟨by rw[h3]at h0;simp[dV,h0,h3,one],rfl⟩
 have h3:¬ q.aeq.length=0:=by simpa using h
 refine aA (iJ q.bV h1 _) rfl ?_;simp only[VV,seval];refine⟨fun h=>?_,fun h=>?_⟩
 ·have h4:(parse q.bV).2.2≠0:=by simpa using h
  exact bu bz (.inr rfl) (by simp only[RS,seval];rfl) (by simp only[LW]) ⟨by simp only[dV,h0,h3,h4,one,gC,kz,dS,aR,aO],rfl⟩
 have h4:(parse q.bV).2.2=0:=by simpa using h
 refine aA (iJ q.next h2 _) rfl ?_;simp only[VV,seval];refine⟨fun h=>?_,fun h=>?_⟩
 ·have h5:(parse q.next).2.2≠0:=by simpa using h
  exact bu bz (.inr rfl) (by simp only[RS,seval];rfl) (by simp only[LW]) ⟨by simp only[dV,h0,h3,h4,h5,one,gC,kz,dS,aR,aO],rfl⟩
 have h5:(parse q.next).2.2=0:=by simpa using h
 refine⟨fun h=>?_,fun h=>?_⟩
 ·have h6:q.now<0∨1073741824<q.now∨q.threshold<1∨102<q.threshold∨q.jo<1∨100<q.jo:=by
   simp only[da,a8]at h;omega
  exact bu bz (.inr rfl) (by simp only[RS,seval];rfl) (by simp only[LW]) ⟨by simp only[dV,h0,h3,h4,h5,h6,one,gC,kz,dS,aR,aO],rfl⟩
 ·have h6:¬ (q.now<0∨1073741824<q.now∨q.threshold<1∨102<q.threshold∨q.jo<1∨100<q.jo):=by
   simp only[kG,dx]at h;omega
  exact bu bz (.inr rfl) (by simp only[RS,seval];rfl) (by simp only[LW]) ⟨by simp only[dV,h0,h3,h4,h5,h6,one,gC,kz,dS,aR,aO],rfl⟩
structure IL (e:En) (l:List Pn) (q:Qr):Prop where
 now : -9223372036854775808≤q.now∧q.now≤9223372036854775807
 aey : -9223372036854775808≤e.aey∧e.aey≤9223372036854775807
 len:l.length<2^40
 gq:∀ p∈l,-9223372036854775808≤p.gq∧p.gq≤9223372036854775807
theorem xh(e:En)(a b:List It)(l:List Pn)(q:Qr)(ha:a.length<2^27)(hb:b.length<2^27)(h:IL e l q)(J:ae):
  PC prog 50 [.agg e.aen,.sl 3 (a.map It.aen),.sl 3 (b.map It.aen),.sl 5 (l.map Pn.aen),.agg q.aen] J (fun r J'=>r=.agg (fb e a b l q).aen∧J'=J):=by
 refine PC.intro func50 c50 fun bz er=>aB ?_;simp only[p50,SS,seval];simp only[Qr.aen,En.aen,VV,seval];intro X;refine aA (D8 a b ha hb _) rfl ?_;simp only[VV,seval];intro Y;refine aA (Hy l e q.now h.now h.aey h.len h.gq _) rfl ?_;have hp:=tQ a b (Dd a b ha hb).1;have hs:=qt e q.now l 0 (by omega);have hs:0≤jH l e q.now∧jH l e q.now≤100:=hs;have hc:=Dg e q;simp only[VV,seval];refine⟨fun Rg=>?_,fun Rg=>?_⟩
 ·have h1:cS a b=100:=by simpa using Rg
  refine aA (E8 e q _) (by simp only[En.aen,Qr.aen,VV,seval]) ?_;have w1:IntKind.i64.wrap (cS a b+je e q)=cS a b+je e q:=IntWalk.i64_in _ (by omega);have w2:IntKind.i64.wrap (cS a b+je e q - jH l e q.now)=cS a b+je e q - jH l e q.now:=IntWalk.i64_in _ (by omega);simp only[w1,w2,VV,seval];exact bu bz (.inr rfl) (by simp only[RS,seval];rfl) (by simp only[LW]) ⟨by simp only[fb,Mt.aen,h1,one,mx,aR],rfl⟩
 ·have h1:¬ cS a b=100:=by simpa using Rg
  have w1:IntKind.i64.wrap (cS a b+0)=cS a b+0:=IntWalk.i64_in _ (by omega);have w2:IntKind.i64.wrap (cS a b+0 - jH l e q.now)=cS a b+0 - jH l e q.now:=IntWalk.i64_in _ (by omega);simp only[w1,w2,VV,seval];exact bu bz (.inr rfl) (by simp only[RS,seval];rfl) (by simp only[LW]) ⟨by simp only[fb,Mt.aen,h1,one,mx,aO],rfl⟩
theorem JG(e:En)(l:List Pn)(q:Qr)(h:IL e l q)(h1:e.aeq.length<2^38)(h2:bP e.aeq<2^38)(h3:q.aeq.length<2^38)(h4:bP q.aeq<2^38)(ha:(cd e.aeq).length<2^27)(hb:(cd q.aeq).length<2^27)(J:ae):
  PC prog 20 [.agg e.aen,.sl 5 (l.map Pn.aen),.agg q.aen] J (fun r J'=>r=.agg (JH e l q).aen∧J'=J):=by
 refine PC.intro func20 c20 fun bz er=>aB ?_;simp only[p20,SS,seval];simp only[Qr.aen,En.aen,VV,seval];refine aA (mR e.aeq h1 h2 _) rfl ?_;simp only[VV,seval];refine aA (mR q.aeq h3 h4 _) rfl ?_;simp only[VV,seval];refine aA (xh e _ _ l q ha hb h _) rfl ?_;simp only[Mt.aen,VV,seval];exact ou bz (by simp only[RS,seval];rfl) (by simp only[LW])
end Go.Proofs.Tryz
set_option maxHeartbeats 1000000
namespace Go.Proofs.Tryz
open Go Go.Pm Go.Bt
def YV(m:List En)(e:En):Prop:=∃ x,m[below m (aV e)]?=some x∧gN x=aV e
instance (m:List En) (e:En):Decidable (YV m e) :=
 match h:m[below m (aV e)]? with
 | some x=>if hk:gN x=aV e then .isTrue ⟨x,h,hk⟩else .isFalse (fun⟨y,h1,h2⟩=>by rw[h]at h1;cases h1;exact hk h2)
 | none=>.isFalse (fun⟨y,h1,_⟩=>by rw[h]at h1;cases h1)
end Go.Proofs.Tryz

/- A part of a proof; the claim's last text says of what. -/
import Derived.WalkKit
import Derived.Laws.IdiomStrings
import Derived.Test.YtlakkaamfadipaaGreatDoorV22
import Derived.Test.YtlakkaamfadipaaGreatDoorV25
import Derived.Test.YtlakkaamfadipaaGreatDoorV28
import Derived.Test.YtlakkaamfadipaaGreatDoorV32
set_option linter.all false

namespace Go.Proofs.Tryz
open Go Go.Pm Go.Bt Go.RowKit
def Hg(w wr:World)(l:List UInt8)(k:Nat):Prop :=
 w.grownBy wr none∧wr.heap.size=w.heap.size+1∧∀ j x,l[j]?=some x→wr.cell? ⟨w.heap.size,j,none⟩=some (.int .u8 (if j<k then nj x else x).toNat)∧wr.frozen? ⟨w.heap.size,j,none⟩=false
theorem Gh(w:World)(l:List UInt8)(c:Nat):
  Hg w (w.alloc (.cells (bytesRow ⟨l.toArray⟩ c) 5 ((bytesRow ⟨l.toArray⟩ c).size,(bytesRow ⟨l.toArray⟩ c).size+1))).drew l 0:=by
 refine⟨?_,?_,fun j x hj=>?_⟩
 ·have h:=World.grownBy_alloc w (.cells (bytesRow ⟨l.toArray⟩ c) 5 ((bytesRow ⟨l.toArray⟩ c).size,(bytesRow ⟨l.toArray⟩ c).size+1)) none;exact⟨h.os,h.tape,h.output,h.size,h.block⟩
 ·simp
 ·have kH:j<l.length:=(ab.1 hj).1;have hx:l[j]=x:=(ab.1 hj).2;have fE:j<(bytesRow ⟨l.toArray⟩ c).size:=by simp[bytesRow];omega
  rw[aw (by omega)];constructor
  ·show(w.alloc _).cell? _=_;rw[World.cell?_alloc_mark,bytesRow_at ⟨l.toArray⟩ c j (by simpa using kH)];simp[hx]
  ·show(w.alloc _).frozen? _=_;rw[World.frozen?_alloc_mark];simp only[Ah,dn];exact .inl (by omega)
theorem JP{w wr:World}{l:List UInt8}{k:Nat}(h:Hg w wr l k){x:UInt8}(hk:l[k]?=some x){v:Int}(hv:v=(nj x).toNat):Hg w (wr.setCell ⟨w.heap.size,k,none⟩ (.int .u8 v)) l (k+1):=by
 obtain⟨h1,h2,h3⟩:=h;refine⟨⟨h1.os,h1.tape,h1.output,by simpa using h1.size,fun i hi ig=>?_⟩,by simpa using h2,fun j y hj=>?_⟩
 ·rw[← h1.block i hi ig];simp only[World.setCell,cz];rw[aw (by omega)]
 ·have h4:=h3 j y hj;have h5:=h3 k x hk
  by_cases Iu:j=k
  ·subst Iu;rw[hk]at hj;simp only[aa]at hj;subst hj;refine⟨?_,?_⟩
   ·rw[World.cell?_setCell_same _ _ _ h5.1,aI (by omega),hv]
   ·simpa using h5.2
  ·refine⟨?_,?_⟩
   ·rw[World.cell?_setCell_other _ _ _ _ (by intro e;injection e;omega),h4.1];congr 3
    by_cases h:j<k
    ·rw[aI h,aI (by omega)]
    ·rw[aw h,aw (by omega)]
   ·simpa using h4.2
theorem AS{w wr:World}{l:List UInt8}{k:Nat}(h:Hg w wr l k){x:UInt8}(hk:l[k]?=some x)(hv:nj x=x):Hg w wr l (k+1):=by
 obtain⟨h1,h2,h3⟩:=h;refine⟨h1,h2,fun j y hj=>⟨?_,(h3 j y hj).2⟩⟩;rw[(h3 j y hj).1];congr 3
 by_cases Iu:j=k
 ·subst Iu;rw[hk]at hj;simp only[aa]at hj;subst hj;rw[aw (by omega),aI (by omega),hv]
 ·by_cases h:j<k
  ·rw[aI h,aI (by omega)]
  ·rw[aw h,aw (by omega)]
theorem JQ{w wr:World}{l:List UInt8}(h:Hg w wr l l.length)(cap:Nat):(convert 58 9 (.slice (some ⟨w.heap.size,0,none⟩) l.length cap)).run prog wr=.ok (.string ⟨(lower l).toArray⟩) wr:=by
 have:=run_convert_bytes_back (P:=prog) wr 58 9 5 ⟨w.heap.size,0,none⟩ cap (lower l) underlying58 underlying5 underlying9 (fun j hj=>by
  have kH:j<l.length:=by simpa[lower]using hj
  have:=(h.2.2 j l[j] (al kH)).1;rw[aI kH]at this;rw[Addr.add_lit,bo,this];simp[lower])
 simpa[lower]using this
set_option maxRecDepth 100000 in
set_option maxHeartbeats 4000000 in
theorem D5(l:List UInt8)(hl:l.length≤maxLen)(w:World):
  Calls prog 257 #[.string ⟨l.toArray⟩] w fun e w'=>e=.returned (.string ⟨(lower l).toArray⟩)∧w.grownBy w' none:=by
 have hc:=run_bytes_of_string (P:=prog) w 9 58 5 ⟨l.toArray⟩ underlying9 underlying58 underlying5
 go_enter func257,Tryz.ntmps257
 go_wp2
 go_loopw [10] (fun i wr=>∃ k:Nat,k≤l.length∧i=.int .i64 k∧Hg w wr l k) (fun i _=>l.length - (intOf i).toNat)
 case atStart=>exact⟨0,eY _,rfl,Gh w l _⟩
 case round =>
  obtain⟨k,hk,rfl,hL⟩:=hrel;have hg:=hL.1
  have hcx:k<l.length→wr.cell? ⟨w.heap.size,k,none⟩=some (.int .u8 (l.getD k 0).toNat):=fun h=>by
   have:=(hL.2.2 k l[k] (al h)).1;rw[aw (by omega)]at this;rw[this];simp[ar,h]
  have hfx:k<l.length→wr.frozen? ⟨w.heap.size,k,none⟩=false:=fun h=>(hL.2.2 k l[k] (al h)).2;have Yw:=fun(h:k=l.length) (cap:Nat)=>JQ (h▸hL) cap;unfold maxLen at hl
  go_wp2
  ·rename_i dp h1 h2;refine⟨⟨k+1,dp,rfl,JP hL (al dp) ?_⟩,by simp[intOf];omega⟩;rw[D6 (by simpa using h1) (by simpa using h2)];omega
  ·rename_i dp h1 h2;exact⟨⟨k+1,dp,rfl,AS hL (al dp) (x6 (by simp at h1 h2 ⊢;omega))⟩,by simp[intOf];omega⟩
  ·rename_i dp h1;exact⟨⟨k+1,dp,rfl,AS hL (al dp) (x6 (by simp at h1 ⊢;omega))⟩,by simp[intOf];omega⟩
  ·rename_i Ly;rw[Yw (by omega)]
   go_wp2
   go_ret
   exact⟨rfl,hg⟩
theorem ML(l:List UInt8)(J:ae):PC prog 257 [.s l] J (fun r J'=>r=.s (lower l)∧J'=J):=by
 refine PC.MA fun B w0 w μ vs hB hv=>?_;obtain⟨s,hs,hl,hm⟩:=(hv.2 0 _ rfl).kG
 have AY:vs=#[.string ⟨l.toArray⟩]:=by
  have h1:=hv.1;have e:s=⟨l.toArray⟩:=by rw[← hl]
  rw[← e,← hs];apply Array.ext
  ·simpa using h1
  ·intro i h2 h3;have:i=0:=by simp at h3;omega
   subst this;simp[h2]
 rw[AY];exact⟨_,D5 l hm w,fun w'=>.s _ _ (by simp) (by rw[Cm];exact hm)⟩
end Go.Proofs.Tryz
namespace Go.Proofs.Tryz
open Go Go.Pm Go.Bt
theorem LY:Ti prog 150 3 32:=nA (by kernel_rfl)
theorem MS{J:ae}{K:Exit→St→Prop}(F0 F9 F10 F11:V)(bx:Ob):∀ (N:Nat) (s:List UInt8) (rs:List (List V)) (g:Nat),s.length≤N→s.length<2^61→rs.length+s.length<2^40 →
  (∀ g,((fh (F0) (fj 2 (fh (.own J.length g) (fj 5 (fh (F9) (fh (F10) (fh (F11) (fj 38 fo)))))))) fun ZZ=>K (.exit 3) ⟨ZZ,J++[.row 150 3 32 g false (rs++(oQ s).map It.ahq),bx]⟩)) →
  fJ J.length prog DU K (N+1) ⟨(F0::uu 2 (.own J.length g::uu 2 (.s s::uu 2 (F9::F10::F11::uu 38 [])))),J++[.row 150 3 32 g false rs,bx]⟩:=by
 intro N
 induction N with
 | zero =>
  intro s rs g hs hl hb h1;have hs:s=[]:=aL (by omega);subst hs;have e:(oQ []).map It.ahq=[]:=rfl;rw[e,bV]at h1;refine aD fun R hR=>?_;simp only[DU,VV,seval];exact h1 g ..
 | succ N ih =>
  intro s rs g hs hl hb h1;cases s with
  | nil =>
   have e:(oQ []).map It.ahq=[]:=rfl;rw[e,bV]at h1;refine aD fun R hR=>?_;simp only[DU,VV,seval];exact h1 g ..
  | cons c r =>
   have ig:c::r≠[]:=by simp
   have hp:=nf (c::r);have hle:=Gb ig;rw[EO ig]at h1;refine aD fun R hR=>?_;simp only[DU,VV,seval];refine⟨fun _=>?_,fun h=>by simp at h⟩;refine aC (Fw c r (by simp at hl;omega) _) rfl ?_;simp only[VV,seval];simp only[ag]at hle hb hl hs;have hd:List.take (r.length+1 - (eS (c::r)).2) (List.drop (eS (c::r)).2 (c::r))=(c::r).drop (eS (c::r)).2:=dz (by simp);rw[hd];refine⟨⟨by omega,by omega⟩,⟨by omega,by simp only[maxLen];omega⟩,⟨by omega,by omega,by omega⟩,?_⟩;refine hR _ (bd ?_ (ih ((c::r).drop (eS (c::r)).2) (rs++[[V.i .i64 (eS (c::r)).1,V.s (List.take (eS (c::r)).2 (c::r)),V.i .i64 0]]) (g+1) (by simp;omega) (by simp;omega) (by simp;omega) (by simpa[It.ahq]using h1)))
   repeat' constructor
theorem MR{J:ae}{K:Exit→St→Prop}(its:List It)(bz:bK J)(hlen:its.length<2^38)(ht:aN its<2^38):∀ (rest pre:List It) (out:List It) (g:Nat),its=pre++rest→out.length≤pre.length+(aN its - aN rest) →
  (∀ g,((fj 3 (fh (.own J.length g) (fj 46 fo))) fun ZZ=>K (.exit 0) ⟨ZZ,J++[.row 150 3 32 g false ((out++dR rest).map It.ahq)]⟩)) →
  fJ J.length prog xH K (rest.length+1) ⟨(.sl 3 (its.map It.ahq)::uu 2 (.own J.length g::uu 5 (.sl 3 (its.map It.ahq)::.i .i64 its.length::.i .i64 pre.length::uu 38 []))),J++[.row 150 3 32 g false (out.map It.ahq)]⟩:=by
 intro rest
 induction rest with
 | nil =>
  intro pre out g he ho h1;have he:its=pre:=by simpa using he
  subst he;have e:out++dR []=out:=by simp[dR]
  rw[e]at h1;refine aD fun R hR=>?_;simp only[xH,VV,seval];exact⟨fun h=>by simp at h,fun _=>h1 g ..⟩
 | cons x rest ih =>
  intro pre out g he ho h1;subst he
  have hw:IntKind.i64.wrap ((pre.length:Int)+1)=(((pre++[x]).length:Nat):Int):=by
   rw[bu (by simp at hlen;omega)];simp
  have wH:aN (x::rest)=x.aht.length+aN rest:=rfl;have htt:=wZ pre (x::rest);have hlen':pre.length+1+rest.length<2^38:=by simp at hlen;omega
  have e:out++dR (x::rest)=(out++pd x)++dR rest:=by simp[dR]
  rw[e]at h1;have gB:∀ g o,bK (J++[.row 150 3 32 g false o]):=fun g o=>cv bz (by simp)
  have back:∀ {fr:List V} {R:St→Prop} (g:Nat),(∀ st',fJ J.length prog xH K (rest.length+1) st'→R st')→oY fr (.sl 3 ((pre++x::rest).map It.ahq)::uu 2 (.own J.length g::uu 5 (.sl 3 ((pre++x::rest).map It.ahq)::.i .i64 (pre++x::rest).length::.i .i64 (pre++[x]).length::uu 38 []))) →
    R ⟨fr,J++[.row 150 3 32 g false ((out++pd x).map It.ahq),.box 61 x.ahq]⟩:=fun g hR hc=>by
   have hk:=I1 x;refine hR _ (b7 [_] [_] (gB _ _) hc ?_ (ih (pre++[x]) (out++pd x) g (by simp) (by simp;omega) h1));simp only[LW,ag,ay,bo];omega
  have wI:(out.length+1)*32≤140737488355328∧out.length+1≤maxLen:=by simp only[maxLen];omega
  obtain⟨k,t,d⟩:=x;have ck:out.map It.ahq++[[.i .i64 k,.s t,.i .i64 d]]=(out++[(⟨k,t,d⟩:It)]).map It.ahq:=by simp[It.ahq]
  refine aD fun R hR=>?_;have one:(k=2∨k=3∨k=4∨k=5)→pd ⟨k,t,d⟩=[⟨k,t,d⟩]:=fun h=>by simp only[pd,h,aO]
  rcases Lg (k=2∨k=3∨k=4∨k=5)with hk | hk
  ·rw[one hk]at back;rcases hk with rfl | rfl | rfl | rfl
   all_goals
    simp only[xH,It.ahq,↓IT,VV,seval];simp only[hw,ah,ck,It.ahq];refine⟨fun _=>⟨by simp;omega,wI,back _ hR ?_⟩,fun h=>by simp at h;omega⟩
    repeat' constructor
  ·have e2:(k==2)=false:=by simp;omega
   have e3:(k==3)=false:=by simp;omega
   have e4:(k==4)=false:=by simp;omega
   have e5:(k==5)=false:=by simp;omega
   rcases Lg (k=1)with rV | rV
   ·subst rV;have e1:pd ⟨1,t,d⟩=oQ t:=by simp[pd]
    simp only[xH,It.ahq,↓IT,VV,seval];refine⟨fun _=>⟨by simp;omega,?_⟩,fun h=>by simp at h;omega⟩;simp only[aN]at wH htt;refine cc.bd (fr':=(.sl 3 ((pre++⟨1,t,d⟩::rest).map It.ahq)::uu 2 (.own J.length g::uu 2 (.s t::uu 2 (.sl 3 ((pre++⟨1,t,d⟩::rest).map It.ahq)::.i .i64 (pre++⟨1,t,d⟩::rest).length::.i .i64 pre.length::uu 38 []))))) (by repeat' constructor) (t.length+1) (MS (J:=J) _ _ _ _ _ t.length t _ g (au _) (by omega) (by simp;omega) ?_);intro g2;simp only[JE];intros;simp only[VV,seval];simp only[hw];rw[← List.map_append,← e1];refine back _ hR ?_
    repeat' constructor
   ·have e1:pd ⟨k,t,d⟩=[]:=by simp[pd,hk,rV]
    have e0:(k==1)=false:=by simpa using rV
    rw[e1,bV]at back;simp only[xH,It.ahq,e2,e3,e4,e5,e0,↓IT,VV,seval];simp only[hw];refine⟨fun _=>⟨by simp;omega,back _ hR ?_⟩,fun h=>by simp at h;omega⟩
    repeat' constructor
theorem Fv(its:List It)(hlen:its.length<2^38)(ht:aN its<2^38)(J:ae):PC prog 51 [.sl 3 (its.map It.ahq)] J (fun r J'=>r=.own J.length 0∧J'=J++[.row 150 3 32 0 false ((dR its).map It.ahq)]):=by
 refine PC.intro func51 c51 fun bz dH=>aB ?_;simp only[p51,SS,seval];simp only[ah,VV,seval];refine cc.wk ((Wk.ko (J:=J) (k:=3) LY rfl).trans (Wk.iS ?_)) (cc.wy (its.length+1) (MR its bz hlen ht its [] [] 0 rfl (by simp) ?_))
 ·simp only[VV,seval]
  repeat' constructor
 ·intro g;simp only[JE];intros;simp only[VV,seval];exact sM 0 bz (.inr rfl) rfl rfl rfl (by simp[zP,Ob.gen]) (by simp[one,PU,Ob.fresh])
theorem qA(its:List It)(hlen:its.length<2^38)(ht:aN its<2^38)(J:ae):PC prog 51 [.sl 3 (its.map It.ahq)] J (fun r J'=>r=.sl 3 ((dR its).map It.ahq)∧J'=J) :=
 PC.closed fun bz=>PC.fz bz (Fv its hlen ht J)
end Go.Proofs.Tryz
set_option maxRecDepth 4000
set_option maxHeartbeats 0
namespace Go.Proofs.Tryz
open Go Go.Pm Go.Bt
abbrev V8(xs:List Int):Ob:=.row 3 1 8 0 false (xs.map b5)
structure Tb (J S:ae) (a b:List It) (i ri:Nat) (cs:List V):Prop where
 len:J.length≤S.length
 hri:J.length<ri∧ri<S.length
 box:S[J.length]?=some (.box 25 cs)
 own:cs[i]?=some (.own ri 0)
 below:i<a.length→cs[i+1]?=some (.own (ri - 1) 0)∧ri - 1≠J.length∧S[ri - 1]?=some (V8 (Wc a b (i+1) 0))
end Go.Proofs.Tryz
set_option maxRecDepth 4000
set_option maxHeartbeats 0
namespace Go.Proofs.Tryz
open Go Go.Pm Go.Bt
theorem kb(x:It)(J:ae):PC prog 184 [.agg x.ahq] J (fun r J'=>r=.i .i64 (weight x)∧J'=J):=by
 refine PC.intro func184 ab8 fun bz dH=>aB ?_;obtain⟨k,t,d⟩:=x;simp only[WG,It.ahq,SS,seval]
 have fin:∀ (w:Int) {fr:List V} {loc:ae},weight ⟨k,t,d⟩=w→fr.getD 2 .u=.i .i64 w→rM prog J.length [.t 2] (fun r J'=>r=.i .i64 (weight ⟨k,t,d⟩)∧J'=J) .ret ⟨fr,J++loc⟩:=fun w _ _ hw hf =>
  bk (xs:=[.i .i64 w]) bz (.inr rfl) (by simp only[kn,vQ,hf]) (by simp only[LW]) ⟨by rw[hw];rfl,rfl⟩
 rcases Lg (k=6∨k=5∨k=7∨k=2∨k=3∨k=4∨k=9∨k=8)with hk | hk
 ·rcases hk with rfl | rfl | rfl | rfl | rfl | rfl | rfl | rfl
  all_goals
   simp only[↓IT,VV,seval];exact fin _ rfl rfl
 ·have e:∀ n:Int,(n=6∨n=5∨n=7∨n=2∨n=3∨n=4∨n=9∨n=8)→(k==n)=false:=fun n h=>by
   simp only[cT];rintro rfl;exact hk h
  simp only[e 6 (by simp),e 5 (by simp),e 7 (by simp),e 2 (by simp),e 3 (by simp),e 4 (by simp),e 9 (by simp),e 8 (by simp),↓IT,VV,seval];exact fin 0 (by simp only[weight];rw[aw (by omega),aw (by omega),aw (by omega),aw (by omega)]) rfl
theorem P3{J:ae}{K:Exit→St→Prop}(l:List It)(bz:bK J)(hlen:l.length<2^40):∀ (rest pre:List It),l=pre++rest →
  ((fj 3 (fh (.i .i64 (gH l)) (fj 14 fo))) fun ZZ=>K (.exit 0) ⟨ZZ,J⟩) →
  fJ J.length prog BU K (rest.length+1) ⟨(uu 3 (.i .i64 (gH pre)::uu 2 (.sl 3 (l.map It.ahq)::.i .i64 l.length::.i .i64 pre.length::uu 9 []))),J⟩:=by
 intro rest
 induction rest with
 | nil =>
  intro pre he h1;have he:l=pre:=by simpa using he
  subst he;refine aD fun R hR=>?_;simp only[BU,VV,seval];exact⟨fun h=>by simp at h,fun _=>h1 ..⟩
 | cons x rest ih =>
  intro pre he h1;subst he;have hlen':pre.length+1+rest.length<2^40:=by simp at hlen;omega
  have ht:=wv pre;have hx:=me x
  have hw:IntKind.i64.wrap ((pre.length:Int)+1)=(((pre++[x]).length:Nat):Int):=by
   rw[bu (by omega)];simp
  have Sl:IntKind.i64.wrap (gH pre+weight x)=gH (pre++[x]):=by
   rw[IntWalk.i64_in _ (by omega)];simp[gH]
  refine aD fun R hR=>?_;simp only[BU,It.ahq,VV,seval];refine⟨fun _=>⟨by simp;omega,?_⟩,fun h=>by simp at h;omega⟩;refine aC (kb x _) rfl ?_;simp only[VV,seval];simp only[hw,Sl];refine hR _ (mw (au _) bz ?_ ?_ (ih (pre++[x]) (by simp) h1))
  ·repeat' constructor
  ·simp only[LW]
theorem wX(l:List It)(hlen:l.length<2^40)(J:ae):PC prog 181 [.sl 3 (l.map It.ahq)] J (fun r J'=>r=.i .i64 (gH l)∧J'=J):=by
 refine PC.intro func181 acb fun bz dH=>aB ?_;simp only[WJ,SS,seval];simp only[ah,VV,seval];refine cc.bd (fr':=(uu 3 (.i .i64 (gH [])::uu 2 (.sl 3 (l.map It.ahq)::.i .i64 l.length::.i .i64 ([]:List It).length::uu 9 [])))) (by repeat' constructor) (l.length+1) (P3 l bz hlen l [] rfl ?_);simp only[JE];intros;simp only[VV,seval];exact aR (.inr rfl) rfl ⟨rfl,rfl⟩
theorem mu(a b:It)(J:ae):PC prog 251 [.agg a.ahq,.agg b.ahq] J (fun r J'=>r=.b (lk a b)∧J'=J):=by
 refine PC.intro func251 abJ fun bz dH=>aB ?_;simp only[We,It.ahq,SS,seval];simp only[VV,seval];exact lA bz (by simp only[RS,seval];rfl) (by simp only[LW])
theorem qB(x:It)(J:ae):PC prog 224 [.agg x.ahq] J (fun r J'=>r=.s (dW x)∧J'=J):=by
 refine PC.intro func224 abR fun bz dH=>aB ?_;simp only[Wo,It.ahq,SS,seval];simp only[VV,seval];refine⟨fun h=>?_,fun h=>?_⟩
 ·refine aC (ML x.aht _) rfl ?_;simp only[VV,seval];simp only[bR]at h;exact bk bz (.inr rfl) (by simp only[RS,seval];rfl) (by simp only[LW]) ⟨by simp only[one,dW,h,aO],rfl⟩
 ·simp only[cT,eX]at h;exact bk bz (.inr rfl) (by simp only[RS,seval];rfl) (by simp only[LW]) ⟨by simp only[one,dW,h,aJ],rfl⟩
theorem uL(x:It)(J:ae):PC prog 250 [.agg x.ahq] J (fun r J'=>r=.b (bG x)∧J'=J):=by
 refine PC.intro func250 abK fun bz dH=>aB ?_;simp only[Wg,It.ahq,SS,seval];simp only[VV,seval];exact lA bz (by simp only[RS,seval];rfl) (by simp only[LW])
theorem qG(x:It)(J:ae):PC prog 213 [.agg x.ahq] J (fun r J'=>r=.i .i64 (single x)∧J'=J):=by
 refine PC.intro func213 abW fun bz dH=>aB ?_;simp only[Wt,It.ahq,SS,seval];simp only[VV,seval];refine aC (uL x _) rfl ?_;simp only[VV,seval];refine⟨fun h=>?_,fun h=>?_⟩
 ·exact bk bz (.inr rfl) (by simp only[RS,seval];rfl) (by simp only[LW]) ⟨by simp only[one,single,h,aO],rfl⟩
 ·refine aC (kb x _) rfl ?_;simp only[VV,seval];exact bk bz (.inr rfl) (by simp only[RS,seval];rfl) (by simp only[LW]) ⟨by simp only[one,single,h,aJ,aA],rfl⟩
theorem RH(a b:It)(J:ae):PC prog 214 [.agg a.ahq,.agg b.ahq] J (fun r J'=>r=.fu [.i .i64 ((eP a b).getD 0),.b (eP a b).isSome]∧J'=J):=by
 refine PC.intro func214 abV fun bz dH=>aB ?_
 have fin:∀ (w:Int) (q:Bool) {fr:List V} {loc:ae},(eP a b).getD 0=w→(eP a b).isSome=q→fr.getD 4 .u=.i .i64 w→fr.getD 5 .u=.b q→rM prog J.length [.t 4,.t 5] (fun r J'=>r=.fu [.i .i64 ((eP a b).getD 0),.b (eP a b).isSome]∧J'=J) .ret ⟨fr,J++loc⟩:=fun w q _ _ hw hq hf hg =>
  bk (xs:=[.i .i64 w,.b q]) bz (.inr rfl) (by simp only[kn,vQ,hf,hg]) (by simp only[LW]) ⟨by rw[hw,hq];rfl,rfl⟩
 clear dH;simp only[Ws,It.ahq,SS,seval];cases hs:lk a b with
 | true =>
  simp only[↓IT,VV,seval];refine aC (mu a b _) rfl ?_;simp only[hs,↓IT,VV,seval];exact fin 0 true (by simp[eP,hs]) (by simp[eP,hs]) rfl rfl
 | false =>
  by_cases hk:a.ahr=b.ahr
  ·have hn:(a.ahr != b.ahr)=false:=by simpa using hk
   by_cases h6:a.ahr=6
   ·have e6:(a.ahr==6)=true:=by simpa using h6
    simp only[↓IT,VV,seval];refine aC (mu a b _) rfl ?_;simp only[hs,hn,e6,↓IT,VV,seval];refine aC (qB a _) rfl ?_;simp only[↓IT,VV,seval];refine aC (qB b _) rfl ?_;simp only[VV,seval];refine⟨fun h=>?_,fun h=>?_⟩
    ·exact fin 1 true (by simp[eP,hs,← hk,h6,h]) (by simp[eP,hs,← hk,h6,h]) rfl rfl
    ·refine aC (kb a _) rfl ?_;simp only[VV,seval];exact fin (weight a) true (by simp[eP,hs,← hk,h6,h]) (by simp[eP,hs,← hk,h6,h]) rfl rfl
   ·have e6:(a.ahr==6)=false:=by simpa using h6
    by_cases h7:a.ahr=7∨a.ahr=8∨a.ahr=9∨a.ahr=5
    ·have ew:eP a b=some (weight a):=by simp[eP,hs,← hk,h6,h7]
     have e7:(a.ahr==7)=false∨(a.ahr==7)=true:=by cases(a.ahr==7)<;>simp
     have e8:(a.ahr==8)=false∨(a.ahr==8)=true:=by cases(a.ahr==8)<;>simp
     have e9:(a.ahr==9)=false∨(a.ahr==9)=true:=by cases(a.ahr==9)<;>simp
     have e5:(a.ahr==5)=false∨(a.ahr==5)=true:=by cases(a.ahr==5)<;>simp
     simp only[↓IT,VV,seval];refine aC (mu a b _) rfl ?_;rcases e7 with e7 | e7<;>rcases e8 with e8 | e8<;>rcases e9 with e9 | e9<;>rcases e5 with e5 | e5<;>first | (exfalso;simp at e7 e8 e9 e5;omega) | skip
     all_goals
      simp only[hs,hn,e6,e7,e8,e9,e5,↓IT,VV,seval];refine aC (kb a _) rfl ?_;simp only[VV,seval];exact fin (weight a) true (by rw[ew];rfl) (by rw[ew];rfl) rfl rfl
    ·have ew:eP a b=none:=by simp[eP,hs,← hk,h6,h7]
     have e7:(a.ahr==7)=false:=by simp;omega
     have e8:(a.ahr==8)=false:=by simp;omega
     have e9:(a.ahr==9)=false:=by simp;omega
     have e5:(a.ahr==5)=false:=by simp;omega
     simp only[↓IT,VV,seval];refine aC (mu a b _) rfl ?_;simp only[hs,hn,e6,e7,e8,e9,e5,↓IT,VV,seval];exact fin 0 false (by rw[ew];rfl) (by rw[ew];rfl) rfl rfl
  ·have hn:(a.ahr != b.ahr)=true:=by simpa using hk
   simp only[↓IT,VV,seval];refine aC (mu a b _) rfl ?_;simp only[hs,hn,↓IT,VV,seval];exact fin 0 false (by simp[eP,hs,hk]) (by simp[eP,hs,hk]) rfl rfl
theorem ki{α:Type}{ke:α→V}(n:Nat)(C:List (α×Int)):eQ n ((emap ke ee C).map (·.2)):=mN fun x hx=>by
 obtain⟨k,_,rfl⟩:=bI.1 hx;exact .i _ _
theorem oo{α β:Type}{ke:α→V}{ve:β→V}(C:List (α×β)):(emap ke ve C).length=C.length:=by simp[emap]
theorem JU{J:ae}{K:Exit→St→Prop}(lb l:List It)(bz:bK J)(hlen:l.length<2^38):∀ (rest pre:List It) (C:List (TK×Int)) (n:Nat),l=pre++rest→CB n C→n+rest.length<2^39 →
  ((fj 1 (fh (.sl 3 (lb.map It.ahq)) (fj 3 (fh (.mp J.length) (fj 60 fo))))) fun ZZ=>K (.exit 0) ⟨ZZ,J++[.map 150 3 (emap ie ee (eL 1 C rest))]⟩) →
  fJ J.length prog BP K (rest.length+1) ⟨(uu 1 (.sl 3 (lb.map It.ahq)::uu 3 (.mp J.length::uu 8 (.sl 3 (l.map It.ahq)::.i .i64 l.length::.i .i64 pre.length::uu 49 [])))),J++[.map 150 3 (emap ie ee C)]⟩:=by
 intro rest
 induction rest with
 | nil =>
  intro pre C n he hC hn h1;have he:l=pre:=by simpa using he
  subst he;refine aD fun R hR=>?_;simp only[BP,VV,seval];exact⟨fun h=>by simp at h,fun _=>h1 ..⟩
 | cons x rest ih =>
  intro pre C n he hC hn h1;subst he;have hlen':pre.length+1+rest.length<2^38:=by simp at hlen;omega
  have hw:IntKind.i64.wrap ((pre.length:Int)+1)=(((pre++[x]).length:Nat):Int):=by
   rw[bu (by omega)];simp
  simp only[ag]at hn;have hg:=hC.getD (dq x);have hv:∀ b,(bS (dq x) C).getD 0=b→IntKind.i64.wrap (b+1)=b+1:=fun b hb=>IntWalk.i64_in _ (by rw[hb]at hg;have:=hg.1;have:=hg.2;omega);have gB:∀ C,bK (J++[.map 150 3 (emap ie ee C)]):=fun C=>cv bz (by simp[ki]);refine aD fun R hR=>?_;simp only[BP,It.ahq,VV,seval];refine⟨fun _=>⟨by simp;omega,?_⟩,fun h=>by simp at h;omega⟩;refine aC (uL x _) rfl ?_;simp only[hw,VV,seval];refine⟨fun ht=>?_,fun ht=>?_⟩
  ·have e:eL 1 C (x::rest)=eL 1 (bump C (dq x) 1) rest:=by simp only[eL,ht,aO]
   rw[e]at h1;have hB:=hC.bump (dq x) 1 (by omega);rcases qm wY C (dq x)with⟨g1,g2,g3,g4,g5⟩ | ⟨i,b,g1,g2,g3,g4⟩
   ·have hz:IntKind.i64.wrap 1=1:=by decide
    have uH:bump C (dq x) 1=eW C (dq x) 1:=by simp[bump,g1]
    rw[uH]at hB h1;simp only[ie,dq]at g2 g3 g4 g5;simp only[cJ,g2,g3,g4,g5,hz,cW,V.iR,V.cell,VV,seval];simp only[hw,hz];refine hR _ (b7 [_] [_,_] (gB _) ?_ ?_ (ih (pre++[x]) _ (n+1) (by simp) hB (by omega) h1))
    ·repeat' constructor
    ·simp only[LW,ag,ay,bo];omega
   ·have hz:=hv b (by rw[g1];rfl);have uH:bump C (dq x) 1=eW C (dq x) (b+1):=by simp[bump,g1]
    rw[uH]at hB h1;simp only[ie,dq]at g2 g3 g4;simp only[cJ,g2,g3,g4,hz,cW,V.iR,V.cell,VV,seval];simp only[hw,hz];refine hR _ (b7 [_] [_,_] (gB _) ?_ ?_ (ih (pre++[x]) _ (n+1) (by simp) hB (by omega) h1))
    ·repeat' constructor
    ·simp only[LW,ag,ay,bo];omega
  ·have e:eL 1 C (x::rest)=eL 1 C rest:=by simp only[eL,ht,aJ,aA]
   rw[e]at h1;refine hR _ (b7 [_] [_] (gB _) ?_ ?_ (ih (pre++[x]) C n (by simp) hC (by omega) h1))
   ·repeat' constructor
   ·simp only[LW,ag,ay,bo];omega
theorem JT{J:ae}{K:Exit→St→Prop}(l:List It)(bz:bK J)(hlen:l.length<2^38):∀ (rest pre:List It) (C:List (TK×Int)) (n:Nat),l=pre++rest→CB n C→n+rest.length<2^39 →
  ((fj 5 (fh (.mp J.length) (fj 60 fo))) fun ZZ=>K (.exit 2) ⟨ZZ,J++[.map 150 3 (emap ie ee (eL (-1) C rest))]⟩) →
  fJ J.length prog BO K (rest.length+1) ⟨(uu 5 (.mp J.length::uu 27 (.sl 3 (l.map It.ahq)::.i .i64 l.length::.i .i64 pre.length::uu 30 []))),J++[.map 150 3 (emap ie ee C)]⟩:=by
 intro rest
 induction rest with
 | nil =>
  intro pre C n he hC hn h1;have he:l=pre:=by simpa using he
  subst he;refine aD fun R hR=>?_;simp only[BO,VV,seval];exact⟨fun h=>by simp at h,fun _=>h1 ..⟩
 | cons x rest ih =>
  intro pre C n he hC hn h1;subst he;have hlen':pre.length+1+rest.length<2^38:=by simp at hlen;omega
  have hw:IntKind.i64.wrap ((pre.length:Int)+1)=(((pre++[x]).length:Nat):Int):=by
   rw[bu (by omega)];simp
  simp only[ag]at hn;have hg:=hC.getD (dq x);have hv:∀ b,(bS (dq x) C).getD 0=b→IntKind.i64.wrap (b - 1)=b - 1:=fun b hb=>IntWalk.i64_in _ (by rw[hb]at hg;have:=hg.1;have:=hg.2;omega);have gB:∀ C,bK (J++[.map 150 3 (emap ie ee C)]):=fun C=>cv bz (by simp[ki]);refine aD fun R hR=>?_;simp only[BO,It.ahq,VV,seval];refine⟨fun _=>⟨by simp;omega,?_⟩,fun h=>by simp at h;omega⟩;refine aC (uL x _) rfl ?_;simp only[hw,VV,seval];refine⟨fun ht=>?_,fun ht=>?_⟩
  ·have e:eL (-1) C (x::rest)=eL (-1) (bump C (dq x) (-1)) rest:=by simp only[eL,ht,aO]
   rw[e]at h1;have hB:=hC.bump (dq x) (-1) (by omega);rcases qm wY C (dq x)with⟨g1,g2,g3,g4,g5⟩ | ⟨i,b,g1,g2,g3,g4⟩
   ·have hz:IntKind.i64.wrap (-1) = -1:=by decide
    have uH:bump C (dq x) (-1)=eW C (dq x) (-1):=by simp[bump,g1]
    rw[uH]at hB h1;simp only[ie,dq]at g2 g3 g4 g5;simp only[cJ,g2,g3,g4,g5,hz,cW,V.iR,V.cell,VV,seval];simp only[hw,hz];refine hR _ (b7 [_] [_,_] (gB _) ?_ ?_ (ih (pre++[x]) _ (n+1) (by simp) hB (by omega) h1))
    ·repeat' constructor
    ·simp only[LW,ag,ay,bo];omega
   ·have hz:=hv b (by rw[g1];rfl);have uH:bump C (dq x) (-1)=eW C (dq x) (b - 1):=by simp[bump,g1];rfl
    rw[uH]at hB h1;simp only[ie,dq]at g2 g3 g4;simp only[cJ,g2,g3,g4,hz,cW,V.iR,V.cell,VV,seval];simp only[hw,hz];refine hR _ (b7 [_] [_,_] (gB _) ?_ ?_ (ih (pre++[x]) _ (n+1) (by simp) hB (by omega) h1))
    ·repeat' constructor
    ·simp only[LW,ag,ay,bo];omega
  ·have e:eL (-1) C (x::rest)=eL (-1) C rest:=by simp only[eL,ht,aJ,aA]
   rw[e]at h1;refine hR _ (b7 [_] [_] (gB _) ?_ ?_ (ih (pre++[x]) C n (by simp) hC (by omega) h1))
   ·repeat' constructor
   ·simp only[LW,ag,ay,bo];omega
theorem JS{J:ae}{K:Exit→St→Prop}(C:List (TK×Int))(m:Nat)(hC:CB m C)(hK:iU C)(hm:m<2^39)(S:Int)(SC:S≤2^60):∀ (N:Nat) (ps:List Nat) (cur:Option Nat) (acc:Int),ps.length≤N→ps.Nodup→(∀ p∈ps,p<C.length)→0≤acc →
  acc+pe (fun i=>2*max (C.getD i ((0,[]),0)).2 (-(C.getD i ((0,[]),0)).2)) ps=S →
  (∀ ps cur,((fj 10 (fh (.i .i64 S) (fj 55 fo))) fun ZZ=>K (.exit 4) ⟨ZZ,J++[.map 150 3 (emap ie ee C),.iter false J.length 3 (emap ie ee C).length ps cur]⟩)) →
  fJ J.length prog BN K (N+1) ⟨(uu 5 (.mp J.length::uu 4 (.i .i64 acc::uu 42 (.it (J.length+1)::uu 12 [])))),J++[.map 150 3 (emap ie ee C),.iter false J.length 3 (emap ie ee C).length ps cur]⟩:=by
 intro N
 induction N with
 | zero =>
  intro ps cur acc hl nq hp ha hs h1;have lx:ps=[]:=aL (by omega);subst lx;have:acc=S:=by simpa[pe]using hs
  subst this;refine aD fun R hR=>?_;simp only[BN,VV,seval];exact h1 _ _ ..
 | succ N ih =>
  intro ps cur acc hl nq hp ha hs h1;refine aD fun R hR=>?_;simp only[BN,VV,seval];refine⟨fun lx=>?_,fun q hq=>?_⟩
  ·subst lx;have:acc=S:=by simpa[pe]using hs
   subst this;exact h1 _ _ ..
  ·have A0:=hp q hq;rw[Bs _ nq hq]at hs;have O6:=Br (fun i=>2*max (C.getD i ((0,[]),0)).2 (-(C.getD i ((0,[]),0)).2)) (fun i=>by omega) (ps.filter fun i=>i != q);have eH:=tz (ke:=ie) (ve:=ee) C ((0,[]),0) A0;have hb:=hC.2 _ _ (kh hK (tm (d:=((0,[]),0)) A0));generalize hv:(C.getD q ((0,[]),0)).2=v at hs eH hb;have e1:IntKind.i64.wrap (0 - v) = -v:=by rw[IntWalk.i64_in _ (by omega)];omega
   have e2:(if v < -v then -v else v)=max v (-v):=by split<;>omega
   have e3:IntKind.i64.wrap (2*max v (-v))=2*max v (-v):=IntWalk.i64_in _ (by omega);have e4:IntKind.i64.wrap (acc+2*max v (-v))=acc+2*max v (-v):=IntWalk.i64_in _ (by omega);simp only[eH,ee,e1,e2,e3,e4,VV,seval];refine hR _ (bd ?_ (ih (ps.filter fun i=>i != q) (some q) (acc+2*max v (-v)) (by have:=mI hq;omega) (nq.filter _) (fun p h=>hp p (cU.1 h).1) (by omega) (by omega) h1))
   repeat' constructor
theorem FC(a b:List It)(ha:a.length<2^27)(hb:b.length<2^27)(J:ae):PC prog 215 [.sl 3 (a.map It.ahq),.sl 3 (b.map It.ahq)] J (fun r J'=>r=.i .i64 (iA a b)∧J'=J):=by
 refine PC.intro func215 abU fun bz dH=>aB ?_;simp only[Wr,SS,seval];simp only[ah,VV,seval];have Zw:=CB.nil.count 1 (by omega) a;have hC:=Zw.count (-1) (by omega) b;have hK:iU (oC a b):=iU.count (-1) b (iU.count 1 a (by simp[iU]));have hS:=Bj (C:=oC a b) hC hK
 have hle:((0+a.length+b.length:Nat):Int)*((oC a b).length:Int)≤2^28*2^28:=by
  have h1:((oC a b).length:Int)≤2^28:=by have:=hC.1;unfold oC;omega
  exact Vh (by omega) h1 (by omega) (by omega)
 refine cc.bd (fr':=(uu 1 (.sl 3 (b.map It.ahq)::uu 3 (.mp J.length::uu 8 (.sl 3 (a.map It.ahq)::.i .i64 a.length::.i .i64 ([]:List It).length::uu 49 []))))) (by repeat' constructor) (a.length+1) (JU b a bz (by omega) a [] [] 0 rfl CB.nil (by omega) ?_);simp only[JE];intros;simp only[ah,VV,seval];refine cc.bd (fr':=(uu 5 (.mp J.length::uu 27 (.sl 3 (b.map It.ahq)::.i .i64 b.length::.i .i64 ([]:List It).length::uu 30 [])))) (by repeat' constructor) (b.length+1) (JT b bz (by omega) b [] _ _ rfl Zw (by omega) ?_);simp only[JE];intros;simp only[ah,VV,seval];refine cc.bd (fr':=(uu 5 (.mp J.length::uu 4 (.i .i64 0::uu 42 (.it (J.length+1)::uu 12 []))))) (by repeat' constructor) ((emap ie ee (oC a b)).length+1) (JS (oC a b) _ hC hK (by omega) (iA a b) (by have:=dL hS.2 hle;unfold iA;omega) _ (List.range (emap ie ee (oC a b)).length) none 0 (by simp) lK (by simp[emap]) (cj _) ?_ ?_)
 ·rw[oo,Dp (fun p:TK×Int=>2*max p.2 (-p.2)),Di,eE];rfl
 ·intro ps cur;simp only[JE];intros;simp only[VV,seval];exact lA bz (by simp only[RS,seval]) (by simp only[LW])
end Go.Proofs.Tryz
set_option maxRecDepth 4000
namespace Go.Proofs.Tryz
open Go Go.Pm Go.Bt
theorem JY{J:ae}{K:Exit→St→Prop}(a b:List It)(t:It)(i:Nat)(M:Int)(hM:M<2^50)(bz:bK J)(hlen:b.length<2^38):∀ (rest pre:List It) (ns old:List Int) (diag left:Int),b=pre++rest→ns.length=pre.length→old.length=rest.length→BR M old→0≤diag∧diag≤M→0≤left∧left≤M+4 →
  ((fh (.sl 3 (a.map It.ahq)) (fh (.sl 3 (b.map It.ahq)) (fj 3 (fh (.own J.length 0) (fj 33 (fh (.sl 3 (a.map It.ahq)) (fh (.i .i64 a.length) (fh (.i .i64 i) (fj 69 fo))))))))) fun ZZ=>K (.exit 4) ⟨ZZ,J++[.row 3 1 8 0 false ((ns++left::gT t diag left rest old).map b5),.box 150 t.ahq]⟩) →
  fJ J.length prog BY K (rest.length+1) ⟨(.sl 3 (a.map It.ahq)::.sl 3 (b.map It.ahq)::uu 3 (.own J.length 0::uu 3 (.ptr (J.length+1) 0::.i .i64 diag::uu 28 (.sl 3 (a.map It.ahq)::.i .i64 a.length::.i .i64 i::uu 13 (.sl 3 (b.map It.ahq)::.i .i64 b.length::.i .i64 pre.length::uu 53 []))))),J++[.row 3 1 8 0 false ((ns++left::old).map b5),.box 150 t.ahq]⟩:=by
 intro rest
 induction rest with
 | nil =>
  intro pre ns old diag left he Lu wI hB hd hl h1;have he:b=pre:=by simpa using he
  subst he;have ho:old=[]:=aL (by simpa using wI);subst ho;have e:gT t diag left [] []=[]:=rfl;rw[e]at h1;refine aD fun R hR=>?_;simp only[BY,VV,seval];exact⟨fun h=>by simp at h,fun _=>h1 ..⟩
 | cons u rest ih =>
  intro pre ns old diag left he Lu wI hB hd hl h1;subst he;cases old with
  | nil=>simp at wI
  | cons up old =>
   have hlen':pre.length+1+rest.length<2^38:=by simp at hlen;omega
   have hw:IntKind.i64.wrap ((pre.length:Int)+1)=(((pre++[u]).length:Nat):Int):=by
    rw[bu (by omega)];simp
   have oe:=hB up (by simp);have st:=ef t;have su:=ef u;have e1:IntKind.i64.wrap (up+single t)=up+single t:=IntWalk.i64_in _ (by omega);have e2:IntKind.i64.wrap (left+single u)=left+single u:=IntWalk.i64_in _ (by omega);have hx:ns++left::up::old=(ns++[left])++up::old:=by simp
   have QL:(((pre++[u]).length:Nat):Int)=(((ns++[left]).length:Nat):Int):=by simp[Lu]
   have afl:((pre.length:Nat):Int)=((ns.length:Nat):Int):=by rw[Lu]
   have r1:fw ((ns++left::up::old).map b5) (ns++[left]).length 0=some (.i .i64 up):=by rw[hx];exact wF _ _ _
   have r2:fw ((ns++left::up::old).map b5) pre.length 0=some (.i .i64 left):=by rw[← Lu];exact wF _ _ _
   have r3:∀ v,((ns++left::up::old).map b5).set (ns++[left]).length [.i .i64 v]=(ns++left::v::old).map b5:=fun v=>by rw[hx,x9];simp
   have r4:((ns++left::up::old).map b5).getD (ns++[left]).length []=[.i .i64 up]:=by rw[hx];exact uF _ _ _
   refine aD fun R hR=>?_;simp only[BY,It.ahq,VV,seval];refine⟨fun _=>⟨by simp;omega,?_⟩,fun h=>by simp at h;omega⟩;simp only[hw,QL,aM,r1,VV,seval];refine⟨by simp[wI];omega,?_⟩;refine⟨by simp[Lu];omega,?_⟩;simp only[aM,r2,VV,seval];refine aC (qG t _) rfl ?_;simp only[e1,VV,seval];have b1:(0:Int)≤((ns++[left]).length:Nat)∧(((ns++[left]).length:Nat):Int)<(((ns++left::up::old).map b5).length:Nat):=⟨by omega,by simp;omega⟩;have b2:(0:Int)≤(pre.length:Nat)∧((pre.length:Nat):Int)<(((ns++left::up::old).map b5).length:Nat):=⟨by omega,by simp[Lu];omega⟩;simp only[r1,r2];refine⟨⟨b1,⟨True,rfl,trivial⟩,b2,⟨True,rfl,trivial⟩⟩,?_⟩;refine aC (qG u _) rfl ?_;simp only[e2,r1,r2,VV,seval];refine⟨⟨b1,b2⟩,?_⟩;have NO:=vJ (t:=t) (u:=u) hd hl oe;have gB:∀ l,bK (J++[.row 3 1 8 0 false (List.map b5 l),.box 150 t.ahq]):=fun l=>cv bz (by simp[It.ahq,LW]);have k:=ih (pre++[u]) (ns++[left]) old up (mM t u diag left up) (by simp) (by simp[Lu]) (by simpa using wI) (fun x hx=>hB x (by simp[hx])) oe NO (by simpa only[aY,bg,aW,gT,It.ahq]using h1);simp only[aY,bg,aW,It.ahq,QL]at k;have Yq:∀ c,eP t u=some c→IntKind.i64.wrap (diag+c)=diag+c:=fun c hc=>IntWalk.i64_in _ (by have:=ql hc;omega);refine aC (RH t u _) rfl ?_;cases hc:eP t u with
   | none =>
    simp only[hw,QL,aM,r1,r3,r4,Option.isSome,Option.getD,VV,seval];have uH:mM t u diag left up=if left+single u<up+single t then left+single u else up+single t:=by unfold mM;rw[hc];rfl
    refine⟨b1,b1,by have:=b1.2;omega,?_⟩;rw[← uH];exact hR _ (b7 [_,_] [_] (gB _) (by repeat' constructor) (by simp[LW]) k)
   | some c =>
    simp only[hw,QL,aM,Yq c hc,r1,r3,r4,Option.isSome,Option.getD,VV,seval];have uH:mM t u diag left up=(if diag+c<(if left+single u<up+single t then left+single u else up+single t)then diag+c else(if left+single u<up+single t then left+single u else up+single t)):=by unfold mM;rw[hc];rfl
    refine⟨b1,b1,by have:=b1.2;omega,?_⟩;rw[← uH];exact hR _ (b7 [_,_] [_] (gB _) (by repeat' constructor) (by simp[LW]) k)
theorem JX{J:ae}{K:Exit→St→Prop}(a b:List It)(bz:bK J)(hlen:b.length<2^38)(Zc:a.length<2^38):∀ (rest pre:List It) (row:List Int) (M:Int),a=pre++rest→row.length=b.length+1→BR M row→M+4*rest.length<2^50 →
  ((fh (.sl 3 (a.map It.ahq)) (fh (.sl 3 (b.map It.ahq)) (fj 3 (fh (.own J.length 0) (fj 105 fo))))) fun ZZ=>K (.exit 2) ⟨ZZ,J++[.row 3 1 8 0 false ((rest.foldl (fun row t=>gd t b row) row).map b5)]⟩) →
  fJ J.length prog BX K (rest.length+1) ⟨(.sl 3 (a.map It.ahq)::.sl 3 (b.map It.ahq)::uu 3 (.own J.length 0::uu 33 (.sl 3 (a.map It.ahq)::.i .i64 a.length::.i .i64 pre.length::uu 69 []))),J++[.row 3 1 8 0 false (row.map b5)]⟩:=by
 intro rest
 induction rest with
 | nil =>
  intro pre row M he hr hB hM h1;have he:a=pre:=by simpa using he
  subst he;refine aD fun R hR=>?_;simp only[BX,VV,seval];exact⟨fun h=>by simp at h,fun _=>h1 ..⟩
 | cons x rest ih =>
  intro pre row M he hr hB hM h1;subst he
  obtain⟨r0,old,rfl⟩:∃ r0 old,row=r0::old:=by cases row with
   | nil=>simp at hr
   | cons r0 old=>exact⟨_,_,rfl⟩
  have hlen':pre.length+1+rest.length<2^38:=by simp at Zc;omega
  have hw:IntKind.i64.wrap ((pre.length:Int)+1)=(((pre++[x]).length:Nat):Int):=by
   rw[bu (by omega)];simp
  have h0:=hB r0 (by simp);have sx:=ef x;have e1:IntKind.i64.wrap (r0+single x)=r0+single x:=IntWalk.i64_in _ (by omega);have r1:fw (b5 r0::old.map b5) 0 0=some (.i .i64 r0):=wF [] _ _;have r3:∀ v,(b5 r0::old.map b5).set 0 [.i .i64 v]=b5 v::old.map b5:=fun v=>x9 [] _ _ _;have r4:(b5 r0::old.map b5).getD 0 []=[.i .i64 r0]:=uF [] _ _;refine aD fun R hR=>?_;simp only[BX,It.ahq,VV,seval];refine⟨fun _=>⟨by simp;omega,?_⟩,fun h=>by simp at h;omega⟩;refine⟨by omega,?_⟩;simp only[r1,VV,seval];refine⟨by omega,?_⟩;refine aC (qG x _) rfl ?_;simp only[e1,r1,r3,r4,ah,VV,seval];have hB':BR (M+4) (gd x b (r0::old)):=hB.new b;have hl:(gd x b (r0::old)).length=b.length+1:=by rw[vl,hr]
  simp only[ag]at hM;have gB:∀ l,bK (J++[.row 3 1 8 0 false (List.map b5 l)]):=fun l=>cv bz (by simp);refine⟨by omega,by omega,by omega,?_⟩;refine cc.bd (fr':=(.sl 3 ((pre++x::rest).map It.ahq)::.sl 3 (b.map It.ahq)::uu 3 (.own J.length 0::uu 3 (.ptr (J.length+1) 0::.i .i64 r0::uu 28 (.sl 3 ((pre++x::rest).map It.ahq)::.i .i64 (pre++x::rest).length::.i .i64 pre.length::uu 13 (.sl 3 (b.map It.ahq)::.i .i64 b.length::.i .i64 (([]:List It).length:Nat)::uu 53 [])))))) (by repeat' constructor) (b.length+1) (JY (pre++x::rest) b x pre.length M (by omega) bz hlen b [] [] old r0 (r0+single x) rfl rfl (by simpa using hr) (fun y hy=>hB y (by simp[hy])) h0 (by omega) ?_);simp only[JE];intros;simp only[VV,seval];simp only[hw];refine hR _ (b7 [_] [_] (gB (gd x b (r0::old))) (by repeat' constructor) (by simp[LW]) (ih (pre++[x]) _ (M+4) (by simp) hl hB' (by omega) h1))
theorem JZ{J:ae}{K:Exit→St→Prop}(a b:List It)(bz:bK J)(hlen:b.length<2^38):∀ (rest pre:List It) (xs:List Int) (s:Int) (old:List Int),b=pre++rest→xs.length=pre.length→old.length=rest.length→0≤s∧s≤4*(pre.length:Int) →
  ((fh (.sl 3 (a.map It.ahq)) (fh (.sl 3 (b.map It.ahq)) (fj 3 (fh (.own J.length 0) (fj 105 fo))))) fun ZZ=>K (.exit 0) ⟨ZZ,J++[.row 3 1 8 0 false ((xs++s::jQ s rest).map b5)]⟩) →
  fJ J.length prog BZ K (rest.length+1) ⟨(.sl 3 (a.map It.ahq)::.sl 3 (b.map It.ahq)::uu 3 (.own J.length 0::uu 14 (.sl 3 (b.map It.ahq)::.i .i64 b.length::.i .i64 pre.length::uu 88 []))),J++[.row 3 1 8 0 false ((xs++s::old).map b5)]⟩:=by
 intro rest
 induction rest with
 | nil =>
  intro pre xs s old he hx wI hs h1;have he:b=pre:=by simpa using he
  subst he;have ho:old=[]:=aL (by simpa using wI);subst ho;refine aD fun R hR=>?_;simp only[BZ,VV,seval];exact⟨fun h=>by simp at h,fun _=>h1 ..⟩
 | cons u rest ih =>
  intro pre xs s old he hx wI hs h1;subst he;cases old with
  | nil=>simp at wI
  | cons w old =>
   have hlen':pre.length+1+rest.length<2^38:=by simp at hlen;omega
   have hw:IntKind.i64.wrap ((pre.length:Int)+1)=(((pre++[u]).length:Nat):Int):=by
    rw[bu (by omega)];simp
   have su:=ef u;have e1:IntKind.i64.wrap (s+single u)=s+single u:=IntWalk.i64_in _ (by omega);have r2:fw ((xs++s::w::old).map b5) pre.length 0=some (.i .i64 s):=by rw[← hx];exact wF _ _ _
   have hx':xs++s::w::old=(xs++[s])++w::old:=by simp
   have r3:∀ v,((xs++s::w::old).map b5).set (pre++[u]).length [.i .i64 v]=(xs++s::v::old).map b5:=fun v=>by
    have:(pre++[u]).length=(xs++[s]).length:=by simp[hx]
    rw[this,hx',x9];simp
   have r4:((xs++s::w::old).map b5).getD (pre++[u]).length []=[.i .i64 w]:=by
    have:(pre++[u]).length=(xs++[s]).length:=by simp[hx]
    rw[this,hx'];exact uF _ _ _
   have b1:(0:Int)≤((pre++[u]).length:Nat)∧(((pre++[u]).length:Nat):Int)<(((xs++s::w::old).map b5).length:Nat):=⟨by omega,by simp[hx];omega⟩;have k:=ih (pre++[u]) (xs++[s]) (s+single u) old (by simp) (by simp[hx]) (by simpa using wI) (by simp;omega) (by simpa only[aY,bg,aW,jQ]using h1);simp only[aY,bg,aW]at k;refine aD fun R hR=>?_;simp only[BZ,It.ahq,VV,seval];refine⟨fun _=>⟨by simp;omega,?_⟩,fun h=>by simp at h;omega⟩;simp only[aM,r2,VV,seval];have b2:(0:Int)≤(pre.length:Nat)∧((pre.length:Nat):Int)<(((xs++s::w::old).map b5).length:Nat):=⟨by omega,by simp[hx];omega⟩;refine⟨b2,?_⟩;refine aC (qG u _) rfl ?_;simp only[e1,hw,aM,r2,r3,r4,VV,seval];have gB:bK (J++[.row 3 1 8 0 false (List.map b5 (xs++s::(s+single u)::old))]):=cv bz (by simp);exact⟨b2,b1,by have:=b1.2;omega,hR _ (b7 [_] [_] gB (by repeat' constructor) (by simp[LW]) k)⟩
theorem xe(a b:List It)(ha:a.length<2^27)(hb:b.length<2^27):0≤iA a b∧iA a b≤2^60:=by
 have Zw:=CB.nil.count 1 (by omega) a;have hC:=Zw.count (-1) (by omega) b;have hK:iU (oC a b):=iU.count (-1) b (iU.count 1 a (by simp[iU]));have hS:=Bj (C:=oC a b) hC hK
 have hle:((0+a.length+b.length:Nat):Int)*((oC a b).length:Int)≤2^28*2^28:=by
  have h1:((oC a b).length:Int)≤2^28:=by have:=hC.1;unfold oC;omega
  exact Vh (by omega) h1 (by omega) (by omega)
 have:=dL hS.2 hle;have:=hS.1;unfold iA;omega
theorem EK(a b:List It)(ha:a.length<2^27)(hb:b.length<2^27)(J:ae):PC prog 166 [.sl 3 (a.map It.ahq),.sl 3 (b.map It.ahq)] J (fun r J'=>r=.i .i64 (iN a b)∧J'=J):=by
 refine PC.intro func166 ack fun bz dH=>aB ?_;simp only[WS,SS,seval];have hw:IntKind.i64.wrap ((b.length:Int)+1)=((b.length+1:Nat):Int):=bu (by omega);have Vs:((b.length+1:Nat):Int)≤maxLen:=dL (show _≤(2^62:Int)by omega) (by decide);have aaL:List.replicate (b.length+1) [V.i .i64 0]=(([]:List Int)++0::List.replicate b.length 0).map b5:=by simp[qX,b5]
 simp only[ah,hw,aM,aaL,VV,seval];have hR:=Dz a b;refine⟨⟨by omega,Or.inl trivial,by omega,by omega,Vs⟩,?_⟩;refine cc.bd (fr':=(.sl 3 (a.map It.ahq)::.sl 3 (b.map It.ahq)::uu 3 (.own J.length 0::uu 14 (.sl 3 (b.map It.ahq)::.i .i64 b.length::.i .i64 (([]:List It).length:Nat)::uu 88 [])))) (by repeat' constructor) (b.length+1) (JZ a b bz (by omega) b [] [] 0 _ rfl rfl (by simp) (by simp) ?_);simp only[JE];intros;simp only[ah,VV,seval];refine cc.bd (fr':=(.sl 3 (a.map It.ahq)::.sl 3 (b.map It.ahq)::uu 3 (.own J.length 0::uu 33 (.sl 3 (a.map It.ahq)::.i .i64 a.length::.i .i64 (([]:List It).length:Nat)::uu 69 [])))) (by repeat' constructor) (a.length+1) (JX a b bz (by omega) (by omega) a [] (sL b) (4*b.length) rfl (DA b) (BR.sL b) (by omega) ?_);simp only[JE];intros;simp only[ah,VV,seval];have hlen:(List.foldl (fun row t=>gd t b row) (sL b) a).length=b.length+1:=hR.2;obtain⟨x,hx⟩:∃ x,(xw a b)[b.length]?=some x:=⟨_,al (by rw[hR.2];omega)⟩;have jA:=hR.1 x (aV hx);have AZ:=xe a b ha hb;have hd:iN a b=x+iA a b:=by simp only[iN,ar,hx,Option.getD]
 have AX:IntKind.i64.wrap (x+iA a b)=x+iA a b:=IntWalk.i64_in _ (by omega)
 have eH:fw (List.map b5 (List.foldl (fun row t=>gd t b row) (sL b) a)) b.length 0=some (.i .i64 x):=by
  have:(List.foldl (fun row t=>gd t b row) (sL b) a)[b.length]?=some x:=hx;simp[fw,this,b5]
 refine⟨by omega,?_⟩;simp only[aM,eH,VV,seval];refine aC (FC a b ha hb _) rfl ?_;simp only[AX,eH,hlen,aM,VV,seval];refine⟨⟨by rw[ah],by omega,by rw[ah];omega⟩,?_⟩;exact lA bz (by rw[hd];simp only[RS,seval]) (by simp only[LW])
end Go.Proofs.Tryz
namespace Go.Pm
theorem Jr{P:Program}{c:bH}{K:Exit→St→Prop}{N:Nat}{fr fr':List V}{J:ae}(loc:ae)(bz:bK J)(hc:oY fr fr')(hl:eQ J.length fr')(k:fJ J.length P c K N ⟨fr',J⟩):fJ J.length P c K N ⟨fr,J++loc⟩ :=
 xy ((Wk.iS hc).trans (Wk.Bc (au _) bz (eG.1 hl))) k
end Go.Pm
namespace Go.Proofs.Tryz
open Go Go.Pm Go.Bt
theorem EM(a b:List It)(ha:a.length<2^27)(hb:b.length<2^27):0≤iN a b∧iN a b≤2^61:=by
 have hR:=Dz a b;obtain⟨x,hx⟩:∃ x,(xw a b)[b.length]?=some x:=⟨_,al (by rw[hR.2];omega)⟩;have jA:=hR.1 x (aV hx);have AZ:=xe a b ha hb;have hd:iN a b=x+iA a b:=by simp only[iN,ar,hx,Option.getD]
 omega
theorem RO(a b:List It)(ha:a.length<2^27)(hb:b.length<2^27)(J:ae):PC prog 165 [.sl 3 (a.map It.ahq),.sl 3 (b.map It.ahq)] J (fun r J'=>r=.i .i64 (jn a b)∧J'=J):=by
 refine PC.intro func165 acm fun bz dH=>aB ?_;simp only[WT,SS,seval];simp only[VV,seval];refine aC (wX a (by omega) _) rfl ?_;simp only[VV,seval];refine aC (wX b (by omega) _) rfl ?_;simp only[VV,seval];exact aR (.inr rfl) rfl ⟨rfl,rfl⟩
theorem FZ(a b:List It)(ha:a.length<2^27)(hb:b.length<2^27)(J:ae):PC prog 106 [.sl 3 (a.map It.ahq),.sl 3 (b.map It.ahq)] J (fun r J'=>r=.i .i64 (dF a b)∧J'=J):=by
 refine PC.intro func106 acS fun bz dH=>aB ?_;simp only[Xq,SS,seval];simp only[VV,seval];refine aC (RO a b ha hb _) rfl ?_;simp only[VV,seval];have Fj:=yR a b;have hd:=EM a b ha hb;refine⟨fun h=>?_,fun h=>?_⟩
 ·have h0:jn a b=0:=by simpa using h
  exact aR (.inr rfl) rfl ⟨by simp[dF,h0,one],rfl⟩
 ·have h0:jn a b≠0:=by simpa using h
  have e1:IntKind.i64.wrap (jn a b - iN a b)=jn a b - iN a b:=IntWalk.i64_in _ (by omega);have e2:IntKind.i64.wrap (100*if jn a b - iN a b<0 then 0 else jn a b - iN a b)=100*if jn a b - iN a b<0 then 0 else jn a b - iN a b:=IntWalk.i64_in _ (by split<;>omega)
  refine aC (EK a b ha hb _) rfl ?_;simp only[e1,e2,VV,seval];have hp:=vj a b hd.1;have X4:dF a b=(100*if jn a b - iN a b<0 then 0 else jn a b - iN a b).tdiv (jn a b):=by simp only[dF,h0,aJ,mx]
  refine⟨h0,?_⟩;rw[← X4,IntWalk.i64_in _ (by omega)];exact aR (.inr rfl) rfl ⟨rfl,rfl⟩
theorem G5(e:En)(q:Qr)(J:ae):PC prog 108 [.agg e.ahq,.agg q.ahq] J (fun r J'=>r=.i .i64 (jJ e q)∧J'=J):=by
 refine PC.intro func108 acQ fun bz dH=>aB ?_;simp only[Xo,SS,seval];simp only[En.ahq,Qr.ahq,VV,seval];have w1:IntKind.i64.wrap 1=1:=by decide
 have w2:IntKind.i64.wrap (1+1)=2:=by decide
 simp only[w1,w2]
 refine⟨fun h1=>⟨fun h2=>?_,fun h2=>?_⟩,fun h1=>⟨fun h2=>?_,fun h2=>?_⟩⟩ <;>
  exact bk bz (.inr rfl) (by simp only[RS,seval];rfl) (by simp only[LW]) ⟨by have h1:=(show IE _ _=_ from h1);have h2:=(show IE _ _=_ from h2);simp[jJ,h1,h2,one],rfl⟩
end Go.Proofs.Tryz
set_option maxRecDepth 4000
namespace Go.Proofs.Tryz
open Go Go.Pm Go.Bt
theorem wU(n:Int)(hn : -9223372036854775808≤n∧n≤9223372036854775807)(J:ae):PC prog 252 [.i .i64 n] J (fun r J'=>r=.agg [.i .i64 (if n<0 then -1 else 0),.i .u64 (if n<0 then n+18446744073709551616 else n)]∧J'=J):=by
 refine PC.intro func252 abI fun bz dH=>aB ?_;simp only[Wd,SS,seval];simp only[VV,seval]
 have e1:n.fdiv (2^min 63 IntKind.i64.bits)=if n<0 then -1 else 0:=by
  have:(2:Int)^min 63 IntKind.i64.bits=9223372036854775808:=by decide
  rw[this,Vi _ (by omega)];split<;>omega
 have e2:IntKind.u64.wrap n=if n<0 then n+18446744073709551616 else n:=by
  rw[IntKind.wrap_u64];split<;>omega
 simp only[e1,e2];exact lA bz (by simp only[RS,seval]) (by simp only[LW])
theorem RQ(now ahD iK:Int)(hn : -9223372036854775808≤now∧now≤9223372036854775807)(hc : -9223372036854775808≤ahD∧ahD≤9223372036854775807)(ho : -9223372036854775808≤iK∧iK≤9223372036854775807)(J:ae):
  PC prog 216 [.i .i64 now,.i .i64 ahD,.i .i64 iK] J (fun r J'=>r=.b (decide (iK≤now - ahD))∧J'=J):=by
 refine PC.intro func216 abT fun bz dH=>aB ?_;simp only[Wq,SS,seval];simp only[VV,seval];refine aC (wU now hn _) rfl ?_;simp only[VV,seval];refine aC (wU ahD hc _) rfl ?_;simp only[VV,seval];refine aC (wU iK ho _) rfl ?_;simp only[VV,seval];refine⟨⟨by split<;>omega,by split<;>omega,by split<;>omega⟩,?_⟩;refine bk bz (.inr rfl) (by simp only[RS,seval];rfl) (by simp only[LW]) ⟨?_,rfl⟩;simp only[one,V.b.injEq];rw[df];simp only[c8,aG,aU,bR,IntKind.wrap_i64]
 by_cases h1:now<0<;>by_cases h2:ahD<0<;>by_cases h3:iK<0<;>simp only[h1,h2,h3,aO,aJ]<;>split<;>omega
theorem BL(p:Pn)(e:En)(now:Int)(hn : -9223372036854775808≤now∧now≤9223372036854775807)(hc : -9223372036854775808≤e.ahD∧e.ahD≤9223372036854775807)(hp : -9223372036854775808≤p.iK∧p.iK≤9223372036854775807)(J:ae):PC prog 167 [.agg p.ahq,.agg e.ahq,.i .i64 now] J (fun r J'=>r=.b (qv p e now)∧J'=J):=by
 refine PC.intro func167 acj fun bz dH=>aB ?_;simp only[WR,SS,seval];simp only[Pn.ahq,En.ahq,VV,seval];refine⟨fun h1=>?_,fun h1=>⟨fun h2=>?_,fun h2=>?_⟩⟩
 ·exact bk bz (.inr rfl) (by simp only[RS,seval];rfl) (by simp only[LW]) ⟨by simp only[qv,h1,one,aO],rfl⟩
 ·have h2:=(show((p.cY != []&&p.cY != e.cY)||(p.cE != []&&p.cE != e.cE))=true from h2);exact bk bz (.inr rfl) (by simp only[RS,seval];rfl) (by simp only[LW]) ⟨by simp only[qv,h1,h2,one];rfl,rfl⟩
 ·have h2:=(show((p.cY != []&&p.cY != e.cY)||(p.cE != []&&p.cE != e.cE))=false from h2);refine cn (by simp only[VV,seval]<;>rfl) (fun _=>RQ now e.ahD p.iK hn hc hp _) rfl ?_;simp only[VV,seval];exact bk bz (.inr rfl) (by simp only[RS,seval];rfl) (by simp only[LW]) ⟨by simp only[qv,h1,h2,one];rfl,rfl⟩
theorem Qe{J:ae}{K:Exit→St→Prop}(e:En)(now:Int)(bz:bK J)(hn : -9223372036854775808≤now∧now≤9223372036854775807)(hc : -9223372036854775808≤e.ahD∧e.ahD≤9223372036854775807)
  (l:List Pn) (hlen:l.length<2^40) (hl:∀ p∈l,-9223372036854775808≤p.iK∧p.iK≤9223372036854775807):∀ (rest pre:List Pn) (s:Int),l=pre++rest→0≤s∧s≤100 →
  ((fj 7 (fh (.i .i64 (mZ e now s rest)) (fj 25 fo))) fun ZZ=>K (.exit 0) ⟨ZZ,J++[.box 37 e.ahq]⟩) →
  fJ J.length prog Cd K (rest.length+1) ⟨(uu 2 (.i .i64 now::uu 1 (.ptr J.length 0::uu 2 (.i .i64 s::uu 2 (.sl 5 (l.map Pn.ahq)::.i .i64 l.length::.i .i64 pre.length::uu 20 []))))),J++[.box 37 e.ahq]⟩:=by
 intro rest
 induction rest with
 | nil =>
  intro pre s he hs h1;have he:l=pre:=by simpa using he
  subst he;refine aD fun R hR=>?_;simp only[Cd,VV,seval];exact⟨fun h=>by simp at h,fun _=>h1 ..⟩
 | cons p rest ih =>
  intro pre s he hs h1;subst he;have hlen':pre.length+1+rest.length<2^40:=by simp at hlen;omega
  have hw:IntKind.i64.wrap ((pre.length:Int)+1)=(((pre++[p]).length:Nat):Int):=by
   rw[bu (by omega)];simp
  have gB:bK (J++[.box 37 e.ahq]):=cv bz (by simp[En.ahq,LW]);refine aD fun R hR=>?_;simp only[Cd,Pn.ahq,En.ahq,VV,seval];refine⟨fun _=>⟨by simp;omega,?_⟩,fun h=>by simp at h;omega⟩;refine cn (by simp only[VV,seval]<;>rfl) (fun _=>BL p e now hn hc (hl p (by simp)) _) rfl ?_;simp only[hw,VV,seval];refine⟨fun h2=>?_,fun h2=>?_⟩
  ·have zU:0<p.points:=by simp only[aG,aU]at h2;exact h2.1
   have e1:IntKind.i64.wrap (s+if 100<p.points then 100 else p.points)=s+mn p.points 100:=IntWalk.i64_in _ (by split<;>omega);have Lp:0≤mn (s+mn p.points 100) 100∧mn (s+mn p.points 100) 100≤100:=by unfold mn;(repeat' split)<;>omega
   rw[e1];exact hR _ (b7 [_] [_] gB (by repeat' constructor) (by simp[LW]) (ih (pre++[p]) (mn (s+mn p.points 100) 100) (by simp) Lp (by simpa only[mZ,h2,aO]using h1)))
  ·exact hR _ (b7 [_] [_] gB (by repeat' constructor) (by simp[LW]) (ih (pre++[p]) s (by simp) hs (by simpa only[mZ,h2,aA,aJ]using h1)))
theorem JF(l:List Pn)(e:En)(now:Int)(hn : -9223372036854775808≤now∧now≤9223372036854775807)(hc : -9223372036854775808≤e.ahD∧e.ahD≤9223372036854775807)
  (hlen:l.length<2^40) (hl:∀ p∈l,-9223372036854775808≤p.iK∧p.iK≤9223372036854775807) (J:ae):PC prog 107 [.sl 5 (l.map Pn.ahq),.agg e.ahq,.i .i64 now] J (fun r J'=>r=.i .i64 (ll l e now)∧J'=J):=by
 refine PC.intro func107 acR fun bz dH=>aB ?_;simp only[Xp,SS,seval];simp only[En.ahq,ah,VV,seval];refine cc.bd (fr':=(uu 2 (.i .i64 now::uu 1 (.ptr J.length 0::uu 2 (.i .i64 0::uu 2 (.sl 5 (l.map Pn.ahq)::.i .i64 l.length::.i .i64 ([]:List Pn).length::uu 20 [])))))) (by repeat' constructor) (l.length+1) (Qe e now bz hn hc l hlen hl l [] 0 rfl (by omega) ?_);simp only[JE];intros;simp only[VV,seval];exact lA bz (by simp only[RS,seval];rfl) (by simp only[LW])
theorem TB{J:ae}{K:Exit→St→Prop}(bz:bK J)(l:List Pn)(hlen:l.length<2^40):∀ (rest pre:List Pn),l=pre++rest →
  (lM rest≠0→∀ loc,((fj 2 (fh (.i .i64 (lM rest)) (fj 60 fo))) fun ZZ=>K .ret ⟨ZZ,J++loc⟩))→(lM rest=0→((fj 63 fo) fun ZZ=>K (.exit 0) ⟨ZZ,J⟩)) →
  fJ J.length prog HP K (rest.length+1) ⟨(uu 8 (.sl 5 (l.map Pn.ahq)::.i .i64 l.length::.i .i64 pre.length::uu 52 [])),J⟩:=by
 intro rest
 induction rest with
 | nil =>
  intro pre he hx h1;have he:l=pre:=by simpa using he
  subst he;refine aD fun R hR=>?_;simp only[HP,VV,seval];exact⟨fun h=>by simp at h,fun _=>h1 rfl ..⟩
 | cons p rest ih =>
  intro pre he hx h1;subst he;have hlen':pre.length+1+rest.length<2^40:=by simp at hlen;omega
  have hw:IntKind.i64.wrap ((pre.length:Int)+1)=(((pre++[p]).length:Nat):Int):=by
   rw[bu (by omega)];simp
  refine aD fun R hR=>?_;simp only[HP,Pn.ahq,VV,seval];refine⟨fun _=>⟨by simp;omega,?_⟩,fun h=>by simp at h;omega⟩;refine⟨fun h2=>?_,fun h2=>?_⟩
  ·have he:pX p=1:=by
    simp only[c8,aU]at h2;unfold pX;rw[aI (by omega)]
   have hp:lM (p::rest)=1:=by simp[lM,he]
   rw[hp]at hx;exact hx (by decide) _ ..
  ·have hn1:¬ (p.ahI<0∨3<p.ahI∨p.iK<0∨1073741824<p.iK∨p.points<0∨100<p.points):=by
    simp only[ja,dn]at h2;omega
   refine cn (by simp only[VV,seval]<;>rfl) (fun _=>jv p.cY _) rfl ?_;simp only[VV,seval];refine cn (by simp only[VV,seval]<;>rfl) (fun _=>jv p.cE _) rfl ?_;simp only[hw,VV,seval]
   have hb:((!p.cY==[]&&!ahz p.cY)||(!p.cE==[]&&!ahz p.cE))=!(named p.cY&&named p.cE):=by
    simp only[named];cases p.cY==[]<;>cases ahz p.cY<;>cases p.cE==[]<;>cases ahz p.cE<;>rfl
   rw[hb];refine⟨fun h3=>?_,fun h3=>?_⟩
   ·have hp:lM (p::rest)=4:=by
     have:pX p=4:=by
      unfold pX;rw[aw hn1,aI (by cases hq:named p.cY&&named p.cE<;>simp[hq]at h3 ⊢)]
     simp[lM,this]
    rw[hp]at hx;exact hx (by decide) _ ..
   ·have hp:lM (p::rest)=lM rest:=by
     have:pX p=0:=by
      unfold pX;rw[aw hn1,aw (by cases hq:named p.cY&&named p.cE<;>simp[hq]at h3 ⊢)]
     simp[lM,this]
    rw[hp]at hx h1;exact hR _ (Jr [_] bz (by repeat' constructor) (by simp[LW]) (ih (pre++[p]) (by simp) hx h1))
theorem zM(l:List Pn)(hlen:l.length<2^40)(J:ae):PC prog 57 [.sl 5 (l.map Pn.ahq)] J (fun r J'=>r=.i .i64 (pY l)∧J'=J):=by
 refine PC.intro func57 c57 fun bz dH=>aB ?_;simp only[p57,SS,seval];simp only[ah,VV,seval];refine⟨fun h=>?_,fun h=>?_⟩
 ·exact aR (.inr rfl) rfl ⟨by simp only[aU]at h;simp[pY,h,one],rfl⟩
 ·have hh:¬ ((16:Int)<l.length):=by simpa using h
  refine cc.bd (fr':=(uu 8 (.sl 5 (l.map Pn.ahq)::.i .i64 l.length::.i .i64 ([]:List Pn).length::uu 52 []))) (by repeat' constructor) (l.length+1) (TB bz l hlen l [] rfl (fun ig loc=>?_) (fun h0=>?_))
  ·simp only[JE];intros;simp only[VV,seval];exact lA bz (by simp only[RS,seval,pY,hh,aJ]) (by simp only[LW])
  ·simp only[JE];intros;simp only[VV,seval];exact aR (.inr rfl) (by simp only[RS,seval];rfl) ⟨by simp only[pY,hh,aJ,h0,one],rfl⟩
theorem pV(q:Qr)(h1:q.bM.length<2^39)(h2:q.next.length<2^39)(J:ae):PC prog 15 [.agg q.ahq] J (fun r J'=>r=.i .i64 (dE q)∧J'=J):=by
 refine PC.intro func15 c15 fun bz dH=>aB ?_;simp only[p15,SS,seval];simp only[Qr.ahq,VV,seval];refine aC (jR q.ahu _) rfl ?_;simp only[VV,seval];refine⟨fun h=>?_,fun h=>?_⟩
 ·have h0:bW q.ahu≠0:=by simpa using h
  exact bk bz (.inr rfl) (by simp only[RS,seval];rfl) (by simp only[LW]) ⟨by simp[dE,h0,one],rfl⟩
 have h0:bW q.ahu=0:=by simpa using h
 refine⟨fun h=>?_,fun h=>?_⟩
 ·have h3:q.ahu=[]:=by simpa using h
  exact bk bz (.inr rfl) (by simp only[RS,seval];rfl) (by simp only[LW]) ⟨by rw[h3]at h0;simp[dE,h0,h3,one],rfl⟩
 have h3:¬ q.ahu.length=0:=by simpa using h
 refine aC (ju q.bM h1 _) rfl ?_;simp only[VV,seval];refine⟨fun h=>?_,fun h=>?_⟩
 ·have h4:(parse q.bM).2.2≠0:=by simpa using h
  exact bk bz (.inr rfl) (by simp only[RS,seval];rfl) (by simp only[LW]) ⟨by simp only[dE,h0,h3,h4,one,eX,fg,cL,aO,aJ],rfl⟩
 have h4:(parse q.bM).2.2=0:=by simpa using h
 refine aC (ju q.next h2 _) rfl ?_;simp only[VV,seval];refine⟨fun h=>?_,fun h=>?_⟩
 ·have h5:(parse q.next).2.2≠0:=by simpa using h
  exact bk bz (.inr rfl) (by simp only[RS,seval];rfl) (by simp only[LW]) ⟨by simp only[dE,h0,h3,h4,h5,one,eX,fg,cL,aO,aJ],rfl⟩
 have h5:(parse q.next).2.2=0:=by simpa using h
 refine⟨fun h=>?_,fun h=>?_⟩
 ·have h6:q.now<0∨1073741824<q.now∨q.threshold<1∨102<q.threshold∨q.jX<1∨100<q.jX:=by
   simp only[c8,aU]at h;omega
  exact bk bz (.inr rfl) (by simp only[RS,seval];rfl) (by simp only[LW]) ⟨by simp only[dE,h0,h3,h4,h5,h6,one,eX,fg,cL,aO,aJ],rfl⟩
 ·have h6:¬ (q.now<0∨1073741824<q.now∨q.threshold<1∨102<q.threshold∨q.jX<1∨100<q.jX):=by
   simp only[ja,dn]at h;omega
  exact bk bz (.inr rfl) (by simp only[RS,seval];rfl) (by simp only[LW]) ⟨by simp only[dE,h0,h3,h4,h5,h6,one,eX,fg,cL,aO,aJ],rfl⟩
structure RU (e:En) (l:List Pn) (q:Qr):Prop where
 now : -9223372036854775808≤q.now∧q.now≤9223372036854775807
 ahD : -9223372036854775808≤e.ahD∧e.ahD≤9223372036854775807
 len:l.length<2^40
 iK:∀ p∈l,-9223372036854775808≤p.iK∧p.iK≤9223372036854775807
theorem yF(e:En)(a b:List It)(l:List Pn)(q:Qr)(ha:a.length<2^27)(hb:b.length<2^27)(h:RU e l q)(J:ae):
  PC prog 50 [.agg e.ahq,.sl 3 (a.map It.ahq),.sl 3 (b.map It.ahq),.sl 5 (l.map Pn.ahq),.agg q.ahq] J (fun r J'=>r=.agg (iB e a b l q).ahq∧J'=J):=by
 refine PC.intro func50 c50 fun bz dH=>aB ?_;simp only[p50,SS,seval];simp only[Qr.ahq,En.ahq,VV,seval];intro X;refine aC (FZ a b ha hb _) rfl ?_;simp only[VV,seval];intro Y;refine aC (JF l e q.now h.now h.ahD h.len h.iK _) rfl ?_;have hp:=vj a b (EM a b ha hb).1;have hs:=rO e q.now l 0 (by omega);have hs:0≤ll l e q.now∧ll l e q.now≤100:=hs;have hc:=ER e q;simp only[VV,seval];refine⟨fun Ul=>?_,fun Ul=>?_⟩
 ·have h1:dF a b=100:=by simpa using Ul
  refine aC (G5 e q _) (by simp only[En.ahq,Qr.ahq,VV,seval]) ?_;have w1:IntKind.i64.wrap (dF a b+jJ e q)=dF a b+jJ e q:=IntWalk.i64_in _ (by omega);have w2:IntKind.i64.wrap (dF a b+jJ e q - ll l e q.now)=dF a b+jJ e q - ll l e q.now:=IntWalk.i64_in _ (by omega);simp only[w1,w2,VV,seval];exact bk bz (.inr rfl) (by simp only[RS,seval];rfl) (by simp only[LW]) ⟨by simp only[iB,Mt.ahq,h1,one,mx,aO],rfl⟩
 ·have h1:¬ dF a b=100:=by simpa using Ul
  have w1:IntKind.i64.wrap (dF a b+0)=dF a b+0:=IntWalk.i64_in _ (by omega);have w2:IntKind.i64.wrap (dF a b+0 - ll l e q.now)=dF a b+0 - ll l e q.now:=IntWalk.i64_in _ (by omega);simp only[w1,w2,VV,seval];exact bk bz (.inr rfl) (by simp only[RS,seval];rfl) (by simp only[LW]) ⟨by simp only[iB,Mt.ahq,h1,one,mx,aJ],rfl⟩
theorem Mf(e:En)(l:List Pn)(q:Qr)(h:RU e l q)(h1:e.ahu.length<2^38)(h2:aN e.ahu<2^38)(h3:q.ahu.length<2^38)(h4:aN q.ahu<2^38)(ha:(dR e.ahu).length<2^27)(hb:(dR q.ahu).length<2^27)(J:ae):
  PC prog 20 [.agg e.ahq,.sl 5 (l.map Pn.ahq),.agg q.ahq] J (fun r J'=>r=.agg (Mg e l q).ahq∧J'=J):=by
 refine PC.intro func20 c20 fun bz dH=>aB ?_;simp only[p20,SS,seval];simp only[Qr.ahq,En.ahq,VV,seval];refine aC (qA e.ahu h1 h2 _) rfl ?_;simp only[VV,seval];refine aC (qA q.ahu h3 h4 _) rfl ?_;simp only[VV,seval];refine aC (yF e _ _ l q ha hb h _) rfl ?_;simp only[Mt.ahq,VV,seval];exact lA bz (by simp only[RS,seval];rfl) (by simp only[LW])
theorem lP(q:Qr)(h1:q.bM.length<2^30)(h2:q.next.length<2^30)(J:ae):PC prog 16 [.agg q.ahq] J (fun r J'=>r=.i .i64 (dE q)∧J'=J):=by
 refine PC.intro func16 c16 fun bz dH=>aB ?_;simp only[p16,SS,seval];simp only[Qr.ahq,VV,seval];refine aC (zI q.ahu _) rfl ?_;simp only[VV,seval];refine⟨fun h=>?_,fun h=>?_⟩
 ·have h0:bW q.ahu≠0:=by simpa using h
  exact bk bz (.inr rfl) (by simp only[RS,seval];rfl) (by simp only[LW]) ⟨by simp[dE,h0,one],rfl⟩
 have h0:bW q.ahu=0:=by simpa using h
 refine⟨fun h=>?_,fun h=>?_⟩
 ·have h3:q.ahu=[]:=by simpa using h
  exact bk bz (.inr rfl) (by simp only[RS,seval];rfl) (by simp only[LW]) ⟨by rw[h3]at h0;simp[dE,h0,h3,one],rfl⟩
 have h3:¬ q.ahu.length=0:=by simpa using h
 refine aC (xB q.bM h1 _) rfl ?_;simp only[VV,seval];refine⟨fun h=>?_,fun h=>?_⟩
 ·have h4:(parse q.bM).2.2≠0:=by simpa using h
  exact bk bz (.inr rfl) (by simp only[RS,seval];rfl) (by simp only[LW]) ⟨by simp only[dE,h0,h3,h4,one,eX,fg,cL,aO,aJ],rfl⟩
 have h4:(parse q.bM).2.2=0:=by simpa using h
 refine aC (xB q.next h2 _) rfl ?_;simp only[VV,seval];refine⟨fun h=>?_,fun h=>?_⟩
 ·have h5:(parse q.next).2.2≠0:=by simpa using h
  exact bk bz (.inr rfl) (by simp only[RS,seval];rfl) (by simp only[LW]) ⟨by simp only[dE,h0,h3,h4,h5,one,eX,fg,cL,aO,aJ],rfl⟩
 have h5:(parse q.next).2.2=0:=by simpa using h
 refine⟨fun h=>?_,fun h=>?_⟩
 ·have h6:q.now<0∨1073741824<q.now∨q.threshold<1∨102<q.threshold∨q.jX<1∨100<q.jX:=by
   simp only[c8,aU]at h;omega
  exact bk bz (.inr rfl) (by simp only[RS,seval];rfl) (by simp only[LW]) ⟨by simp only[dE,h0,h3,h4,h5,h6,one,eX,fg,cL,aO,aJ],rfl⟩
 ·have h6:¬ (q.now<0∨1073741824<q.now∨q.threshold<1∨102<q.threshold∨q.jX<1∨100<q.jX):=by
   simp only[ja,dn]at h;omega
  exact bk bz (.inr rfl) (by simp only[RS,seval];rfl) (by simp only[LW]) ⟨by simp only[dE,h0,h3,h4,h5,h6,one,eX,fg,cL,aO,aJ],rfl⟩
theorem AV(a:List UInt8)(J:ae):PC prog 200 [.s a] J (fun r J'=>r=.b false∧J'=J):=by
 refine PC.intro func200 ab3 fun bz dH=>aB ?_;simp only[WA,SS,seval];simp only[VV,seval];exact aR (.inr rfl) rfl ⟨by simp[one],rfl⟩
theorem CL(a b:List UInt8)(J:ae):PC prog 133 [.s a,.s b] J (fun r J'=>r=.i .i64 (fZ a b)∧J'=J):=by
 refine PC.intro func133 acD fun bz dH=>aB ?_;simp only[W9,SS,seval];simp only[VV,seval];refine aC (AV a _) rfl ?_;simp only[VV,seval];refine aC (AV b _) rfl ?_;simp only[VV,seval];have hv:=IH a b;rw[qq];refine⟨fun h=>?_,fun h=>⟨fun h2=>?_,fun h2=>?_⟩⟩
 ·have e:fZ a b = -1:=by simp only[aU]at h;omega
  exact aR (.inr rfl) rfl ⟨by rw[e];rfl,rfl⟩
 ·have e:fZ a b=1:=by
   simp only[dn]at h;have h3:¬ fZ a b=0:=fun h0=>by rw[ot]at h0;subst h0;simp at h2
   omega
  exact aR (.inr rfl) rfl ⟨by rw[e];rfl,rfl⟩
 ·have e:fZ a b=0:=by
   rw[h,im]at h2;rw[ot];simpa using h2
  exact aR (.inr rfl) rfl ⟨by rw[e];rfl,rfl⟩
theorem P4{J:ae}{K:Exit→St→Prop}(l:List It)(bz:bK J)(hlen:l.length<2^40):∀ (rest pre:List It) (g:Nat),l=pre++rest →
  (∀ g,((fj 3 (fh (.own J.length g) (fj 18 fo))) fun ZZ=>K (.exit 0) ⟨ZZ,J++[.row 9 1 16 g false ((aS l).map zA)]⟩)) →
  fJ J.length prog BV K (rest.length+1) ⟨(uu 3 (.own J.length g::uu 2 (.sl 3 (l.map It.ahq)::.i .i64 l.length::.i .i64 pre.length::uu 13 []))),J++[.row 9 1 16 g false ((aS pre).map zA)]⟩:=by
 intro rest
 induction rest with
 | nil =>
  intro pre g he h1;have he:l=pre:=by simpa using he
  subst he;refine aD fun R hR=>?_;simp only[BV,VV,seval];exact⟨fun h=>by simp at h,fun _=>h1 g ..⟩
 | cons x rest ih =>
  intro pre g he h1;subst he;have hlen':pre.length+1+rest.length<2^40:=by simp at hlen;omega
  have hw:IntKind.i64.wrap ((pre.length:Int)+1)=(((pre++[x]).length:Nat):Int):=by
   rw[bu (by omega)];simp
  have gB:∀ g o,bK (J++[.row 9 1 16 g false o]):=fun g o=>cv bz (by simp);have QF:(aS pre).length≤pre.length:=by unfold aS;rw[ah];exact fa _ _
  refine aD fun R hR=>?_;simp only[BV,It.ahq,VV,seval];refine⟨fun _=>⟨by simp;omega,?_⟩,fun h=>by simp at h;omega⟩;refine⟨fun h=>?_,fun h=>?_⟩
  ·refine aC (qB x _) rfl ?_;simp only[hw,VV,seval];have e:(aS pre).map zA++[[.s (dW x)]]=(aS (pre++[x])).map zA:=by simp[aS,jZ,h,zA]
   rw[e];refine⟨by simp only[ah,maxLen];omega,hR _ (b7 [_] [_] (gB _ _) (by repeat' constructor) (by simp[LW]) (ih (pre++[x]) (g+1) (by simp) h1))⟩
  ·have e:aS (pre++[x])=aS pre:=by simp[aS,jZ,h]
   simp only[hw];have k:=ih (pre++[x]) g (by simp) h1;rw[e]at k;exact hR _ (b7 [_] [_] (gB _ _) (by repeat' constructor) (by simp[LW]) k)
theorem S4:Ti prog 9 1 16:=nA (by kernel_rfl)
theorem LM(l:List It)(hlen:l.length<2^38)(J:ae):PC prog 180 [.sl 3 (l.map It.ahq)] J (fun r J'=>r=.sl 1 ((aS l).map zA)∧J'=J):=by
 refine PC.closed fun bz=>PC.fz bz (g:=0) (E:=9) (by':=16) (sh:=false) ?_;refine PC.intro func180 acd fun bz dH=>aB ?_;simp only[WK,SS,seval];simp only[ah,VV,seval];refine cc.wk ((Wk.ko (J:=J) (k:=3) S4 rfl).trans (Wk.iS ?_)) (cc.wy (l.length+1) (P4 l bz (by omega) l [] 0 rfl ?_))
 ·simp only[VV,seval]
  repeat' constructor
 ·intro g;simp only[JE];intros;simp only[VV,seval];exact sM 0 bz (.inr rfl) rfl rfl rfl (by simp[zP,Ob.gen]) (by simp[one,PU,Ob.fresh])
end Go.Proofs.Tryz
set_option maxRecDepth 4000
set_option maxHeartbeats 1000000
namespace Go.Proofs.Tryz
open Go Go.Pm Go.Bt
theorem Sx(n:Nat)(hn:n<2^60):IntKind.i64.wrap ((IntKind.u64.wrap (n:Int)).fdiv (2^min 1 IntKind.u64.bits))=((n / 2:Nat):Int):=by
 have h1:IntKind.u64.wrap (n:Int)=n:=by
  simp only[IntKind.wrap,IntKind.bits,IntKind.signed];simp only[dN,aA,aJ];omega
 have h2:(2:Int)^min 1 IntKind.u64.bits=2:=by decide
 rw[h1,h2,Vi _ (by decide)];rw[show(n:Int) / 2=((n / 2:Nat):Int)by omega,wS (by omega)]
def js(g:Nat)(M:List kj):Ob:=.row 108 11 176 g false (M.map kj.ahq)
theorem EF(s:kj)(k:List UInt8)(J:ae):PC prog 132 [.agg s.ahq,.s k] J (fun r J'=>r=.i .i64 (fZ s.key k)∧J'=J):=by
 refine PC.intro func132 acE fun bz dH=>aB ?_;simp only[Xa,SS,seval];simp only[kj.ahq,VV,seval];refine aC (CL s.key k _) rfl ?_;simp only[VV,seval];exact bk bz (.inr rfl) rfl (by simp[LW]) ⟨rfl,rfl⟩
theorem Qa{J:ae}{K:Exit→St→Prop}(l:List kj)(hs:y9 l)(p:List UInt8)(c g:Nat)(hl:l.length<2^30)(hq:J[c]?=some (js g l)):∀ (N i j:Nat),j - i≤N→i≤lW l p→lW l p≤j→j≤l.length →
  ((fh (.own c g) (fh (.s p) (fh (.fn 132 []) (fj 5 (fh (.i .i64 l.length) (fh (.i .i64 (lW l p)) (fj 39 fo))))))) fun ZZ=>K (.exit 0) ⟨ZZ,J⟩) →
  fJ J.length prog xQ K (N+1) ⟨(.own c g::.s p::.fn 132 []::uu 5 (.i .i64 l.length::.i .i64 i::.i .i64 j::uu 38 [])),J⟩:=by
 intro N
 induction N with
 | zero =>
  intro i j h1 h2 h3 h4 h5;obtain rfl:i=lW l p:=by omega
  have hd:decide ((lW l p:Int)<(j:Int))=false:=by simp;omega
  refine aD fun R hR=>?_;simp only[xQ,hd,VV,seval];exact h5 ..
 | succ N ih =>
  intro i j h1 h2 h3 h4 h5
  by_cases GC:i<j
  ·have hd:decide ((i:Int)<(j:Int))=true:=by simp;omega
   have e1:IntKind.i64.wrap ((i:Int)+(j:Int))=((i+j:Nat):Int):=by
    rw[show(i:Int)+(j:Int)=((i+j:Nat):Int)by omega,wS (by omega)]
   have e2:=Sx (i+j) (by omega);have hm:(i+j) / 2<l.length:=by omega
   have hx:l[(i+j) / 2]?=some l[(i+j) / 2]:=al hm;generalize TR:l[(i+j) / 2]=x at hx;have eH:(l.map kj.ahq).getD ((i+j) / 2) []=x.ahq:=by simp[ar,hx]
   have AZ:=Ke hs p _ x hx;clear TR;generalize aaZ:(i+j) / 2=m at *;have h0:(0:Int)≤(m:Int):=by omega
   have dp:(m:Int)<(l.length:Int):=by omega
   have e3:IntKind.i64.wrap ((m:Int)+1)=((m+1:Nat):Int):=by rw[bu (by omega)]
   simp only[kj.ahq]at eH;simp only[js]at hq;refine aD fun R hR=>?_;simp only[xQ,hq,hd,e1,e2,e3,eH,h0,dp,ah,VV,Int.reduceBEq,Int.reduceBNe,Nat.reduceAdd,Nat.reduceSub,Nat.reduceLeDiff,Nat.reduceEqDiff,Int.reduceToNat,reduceIte,reduceCtorEq];refine⟨by decide,?_⟩;refine EY rfl (by kernel_rfl) (EF x p _) (by simp only[kj.ahq,VV,seval]) ?_;simp only[e3,VV,seval];refine⟨fun h=>?_,fun h=>?_⟩
   ·have h:fZ x.key p<0:=by simpa using h
    have:=AZ.1 h;refine hR _ (bd ?_ (ih (m+1) j (by omega) (by omega) h3 h4 h5))
    repeat' constructor
   ·have h:¬ fZ x.key p<0:=by simp at h;omega
    have:¬ m<lW l p:=fun hc=>h (AZ.2 hc);refine hR _ (bd ?_ (ih i m (by omega) h2 (by omega) (by omega) h5))
    repeat' constructor
  ·obtain rfl:i=lW l p:=by omega
   have hd:decide ((lW l p:Int)<(j:Int))=false:=by simp;omega
   refine aD fun R hR=>?_;simp only[xQ,hd,VV,seval];exact h5 ..
theorem U7(l:List kj)(hs:y9 l)(p:List UInt8)(c g:Nat)(hl:l.length<2^30)(J:ae)(hq:J[c]?=some (js g l)):PC prog 131 [.own c g,.s p,.fn 132 []] J (fun r J'=>r=.fu [.i .i64 (lW l p),.b (decide (p∈l.map kj.key))]∧J'=J):=by
 refine PC.intro func131 acF fun bz dH=>aB ?_;have hle:=Qq l p;have rT:=fun K=>Qa (K:=K) l hs p c g hl hq l.length 0 l.length (by omega) (eY _) hle (au _);have eH:=Qs hs p;simp only[Xb,SS,seval];simp only[js]at hq;simp only[hq,ah,VV,seval];refine cc.wk (Wk.iS ?_) (cc.wy (l.length+1) (rT _ ?_))
 ·repeat' constructor
 simp only[JE];intros;generalize lW l p=m at *;have k1:(true==true)=true:=rfl;have k4:(false==true)=false:=rfl
 by_cases hm:m<l.length
 ·have hx:l[m]?=some l[m]:=al hm;generalize l[m]=x at hx;have ck:(l.map kj.ahq).getD m []=x.ahq:=by simp[ar,hx]
  have hd:decide ((m:Int)<(l.length:Int))=true:=by simp;omega
  have h0:(0:Int)≤(m:Int):=by omega
  have dp:(m:Int)<(l.length:Int):=by omega
  simp only[kj.ahq]at ck;simp only[hq,hd,h0,dp,ck,k1,k4,kX,ah,VV,seval];refine⟨_,rfl,?_⟩;refine qV (c:=true) (by simp only[k1,VV,seval]<;>rfl) (fun _=>⟨_,_,rfl,by kernel_rfl,EF x p _⟩) ?_;simp only[k1,k4,VV,seval];refine aR (.inr rfl) rfl ⟨?_,rfl⟩
  have e:(fZ x.key p==0)=decide (p∈l.map kj.key):=by
   rw[df,bR,ot,decide_eq_true_iff,eH,hx];simp
  rw[e];rfl
 ·have hd:decide ((m:Int)<(l.length:Int))=false:=by simp;omega
  have hp:decide (p∈l.map kj.key)=false:=zp (by rw[eH,bn (by omega)];simp);simp only[hq,hd,hp,k1,k4,zd,ah,VV,seval];refine⟨.u,qV (c:=false) (v:=.i .i64 0) (by simp only[k4,VV,seval]<;>rfl) (fun h=>by cases h) ?_⟩;simp only[k4,VV,seval];exact aR (.inr rfl) rfl ⟨rfl,rfl⟩
end Go.Proofs.Tryz
set_option maxRecDepth 4000
set_option maxHeartbeats 1000000
namespace Go.Proofs.Tryz
open Go Go.Pm Go.Bt
theorem PE(a:Int)(J:ae):PC prog 124 [.i .i64 a] J (fun r J'=>r=.b false∧J'=J):=by
 refine PC.intro func124 acK fun bz dH=>aB ?_;simp only[Xg,SS,seval];simp only[VV,seval];exact aR (.inr rfl) rfl ⟨by simp[one],rfl⟩
theorem Qj(a b:Int)(J:ae):PC prog 123 [.i .i64 a,.i .i64 b] J (fun r J'=>r=.b (decide (a<b))∧J'=J):=by
 refine PC.intro func123 kC fun bz dH=>aB ?_;simp only[Xh,SS,seval];simp only[VV,seval];refine aC (Nd a _) rfl ?_;simp only[VV,seval];refine cn (c:=false) (by simp only[VV,seval]<;>rfl) (nofun) rfl (v:=.b false) ?_;simp only[VV,seval];exact aR (.inr rfl) rfl ⟨rfl,rfl⟩
theorem Tz{J:ae}{K:Exit→St→Prop}(l:List Int)(hs:l.Pairwise fun a b=>a<b)(t:Int)(hl:l.length<2^30):∀ (N i j:Nat),j - i≤N→i≤s9 l t→s9 l t≤j→j≤l.length →
  ((fh (.sl 1 (l.map b5)) (fh (.i .i64 t) (fj 4 (fh (.i .i64 l.length) (fh (.i .i64 (s9 l t)) (fj 46 fo)))))) fun ZZ=>K (.exit 0) ⟨ZZ,J⟩) →
  fJ J.length prog DS K (N+1) ⟨(.sl 1 (l.map b5)::.i .i64 t::uu 4 (.i .i64 l.length::.i .i64 i::.i .i64 j::uu 45 [])),J⟩:=by
 intro N
 induction N with
 | zero =>
  intro i j h1 h2 h3 h4 h5;obtain rfl:i=s9 l t:=by omega
  have hd:decide ((s9 l t:Int)<(j:Int))=false:=by simp;omega
  refine aD fun R hR=>?_;simp only[DS,hd,VV,seval];exact h5 ..
 | succ N ih =>
  intro i j h1 h2 h3 h4 h5
  by_cases GC:i<j
  ·have hd:decide ((i:Int)<(j:Int))=true:=by simp;omega
   have e1:IntKind.i64.wrap ((i:Int)+(j:Int))=((i+j:Nat):Int):=by
    rw[show(i:Int)+(j:Int)=((i+j:Nat):Int)by omega,wS (by omega)]
   have e2:=Sx (i+j) (by omega);have hm:(i+j) / 2<l.length:=by omega
   have hx:l[(i+j) / 2]?=some l[(i+j) / 2]:=al hm;generalize TR:l[(i+j) / 2]=x at hx;have eH:fw (l.map b5) ((i+j) / 2) 0=some (.i .i64 x):=by simp[fw,hx,b5]
   have AZ:=Kn hs t _ x hx;clear TR;generalize aaZ:(i+j) / 2=m at *;have h0:(0:Int)≤(m:Int):=by omega
   have dp:(m:Int)<(l.length:Int):=by omega
   have e3:IntKind.i64.wrap ((m:Int)+1)=((m+1:Nat):Int):=by rw[bu (by omega)]
   refine aD fun R hR=>?_;simp only[DS,hd,e1,e2,e3,eH,h0,dp,ah,aM,VV,Int.reduceBEq,Int.reduceBNe,Nat.reduceAdd,Nat.reduceSub,Nat.reduceLeDiff,Nat.reduceEqDiff,Int.reduceToNat,reduceIte,reduceCtorEq];refine⟨by decide,?_⟩;refine aC (Qj x t _) rfl ?_;simp only[e3,VV,seval];refine⟨fun h=>?_,fun h=>?_⟩
   ·have h:x<t:=by simpa using h
    have:=AZ.1 h;refine hR _ (bd ?_ (ih (m+1) j (by omega) (by omega) h3 h4 h5))
    repeat' constructor
   ·have h:¬ x<t:=by simpa using h
    have:¬ m<s9 l t:=fun hc=>h (AZ.2 hc);refine hR _ (bd ?_ (ih i m (by omega) h2 (by omega) (by omega) h5))
    repeat' constructor
  ·obtain rfl:i=s9 l t:=by omega
   have hd:decide ((s9 l t:Int)<(j:Int))=false:=by simp;omega
   refine aD fun R hR=>?_;simp only[DS,hd,VV,seval];exact h5 ..
theorem U8(l:List Int)(hs:l.Pairwise fun a b=>a<b)(t:Int)(hl:l.length<2^30)(J:ae):PC prog 59 [.sl 1 (l.map b5),.i .i64 t] J (fun r J'=>r=.fu [.i .i64 (s9 l t),.b (decide (t∈l))]∧J'=J):=by
 refine PC.intro func59 c59 fun bz dH=>aB ?_;have hle:s9 l t≤l.length:=HF _ _;have rT:=fun K=>Tz (J:=J) (K:=K) l hs t hl l.length 0 l.length (by omega) (eY _) hle (au _);have eH:=QB hs t;simp only[p59,SS,seval];simp only[ah,VV,seval];refine cc.wk (Wk.iS ?_) (cc.wy (l.length+1) (rT _ ?_))
 ·repeat' constructor
 simp only[JE];intros;generalize s9 l t=m at *;have k1:(true==true)=true:=rfl;have k4:(false==true)=false:=rfl
 by_cases hm:m<l.length
 ·have hx:l[m]?=some l[m]:=al hm;generalize l[m]=x at hx;have ck:fw (l.map b5) m 0=some (.i .i64 x):=by simp[fw,hx,b5]
  have hd:decide ((m:Int)<(l.length:Int))=true:=by simp;omega
  have h0:(0:Int)≤(m:Int):=by omega
  have dp:(m:Int)<(l.length:Int):=by omega
  by_cases Ln:x=t
  ·subst Ln;have e:decide (x∈l)=true:=decide_eq_true (eH.2 hx);simp only[hd,h0,dp,ck,e,k1,k4,kX,OX,ah,aM,VV,seval];refine⟨_,rfl,?_⟩;simp only[e,k1,k4,OX,VV,seval];refine⟨nofun,.i .i64 0,nofun,?_⟩;refine cn (c:=false) (by simp only[k1,VV,seval]<;>rfl) (nofun) rfl (v:=.b false) ?_;simp only[k1,k4,VV,seval];refine cn (c:=false) (by simp only[k1,VV,seval]<;>rfl) (nofun) rfl (v:=.b false) ?_;simp only[k1,k4,VV,seval];exact aR (.inr rfl) rfl ⟨rfl,rfl⟩
  ·have e:decide (t∈l)=false:=zp (by rw[eH,hx];simpa using Ln);have e2:(x==t)=false:=by simpa using Ln
   simp only[hd,h0,dp,ck,e,e2,k1,k4,kX,ah,aM,VV,seval];refine⟨_,rfl,?_⟩;simp only[e,e2,k1,k4,VV,seval];refine⟨⟨by omega,by rw[ah];omega⟩,.i .i64 x,⟨True,by rw[ck],trivial⟩,?_⟩;refine cn (c:=true) (by simp only[k1,VV,seval]<;>rfl) (fun _=>PE x _) rfl ?_;simp only[k1,k4,VV,seval];refine cn (c:=false) (by simp only[k1,VV,seval]<;>rfl) (nofun) rfl (v:=.b false) ?_;simp only[k1,k4,VV,seval];exact aR (.inr rfl) rfl ⟨rfl,rfl⟩
 ·have hd:decide ((m:Int)<(l.length:Int))=false:=by simp;omega
  have hp:decide (t∈l)=false:=zp (by rw[eH,bn (by omega)];simp);simp only[hd,hp,k1,k4,zd,ah,VV,seval];refine⟨.i .i64 0,?_⟩;simp only[k1,k4,VV,seval];refine⟨.i .i64 0,?_⟩;refine cn (c:=false) (by simp only[k1,k4,VV,seval]<;>rfl) (nofun) rfl (v:=.b false) ?_;simp only[k1,k4,VV,seval];refine cn (c:=false) (by simp only[k1,k4,VV,seval]<;>rfl) (nofun) rfl (v:=.b false) ?_;simp only[k1,k4,VV,seval];exact aR (.inr rfl) rfl ⟨rfl,rfl⟩
end Go.Proofs.Tryz

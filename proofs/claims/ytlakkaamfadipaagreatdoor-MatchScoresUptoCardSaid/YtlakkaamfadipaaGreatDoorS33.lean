/- A part of a proof; the claim's last text says of what. -/
import Derived.WalkKit
import Derived.Laws.IdiomStrings
import Derived.Test.YtlakkaamfadipaaGreatDoorS23
import Derived.Test.YtlakkaamfadipaaGreatDoorS31
set_option linter.all false

namespace Go.Proofs.Tryz
open Go Go.Pm Go.Bt Go.RowKit
def Gi(w wr:World)(l:List UInt8)(k:Nat):Prop :=
 w.grownBy wr none∧wr.heap.size=w.heap.size+1∧∀ j x,l[j]?=some x→wr.cell? ⟨w.heap.size,j,none⟩=some (.int .u8 (if j<k then nv x else x).toNat)∧wr.frozen? ⟨w.heap.size,j,none⟩=false
theorem yP(w:World)(l:List UInt8)(c:Nat):
  Gi w (w.alloc (.cells (bytesRow ⟨l.toArray⟩ c) 5 ((bytesRow ⟨l.toArray⟩ c).size,(bytesRow ⟨l.toArray⟩ c).size+1))).drew l 0:=by
 refine⟨?_,?_,fun j x hj=>?_⟩
 ·have h:=World.grownBy_alloc w (.cells (bytesRow ⟨l.toArray⟩ c) 5 ((bytesRow ⟨l.toArray⟩ c).size,(bytesRow ⟨l.toArray⟩ c).size+1)) none;exact⟨h.os,h.tape,h.output,h.size,h.block⟩
 ·simp
 ·have kI:j<l.length:=(ab.1 hj).1;have hx:l[j]=x:=(ab.1 hj).2;have fw:j<(bytesRow ⟨l.toArray⟩ c).size:=by simp[bytesRow];omega
  rw[aI (by omega)];constructor
  ·show(w.alloc _).cell? _=_;rw[World.cell?_alloc_mark,bytesRow_at ⟨l.toArray⟩ c j (by simpa using kI)];simp[hx]
  ·show(w.alloc _).frozen? _=_;rw[World.frozen?_alloc_mark];simp only[AZ,b7];exact .inl (by omega)
theorem Bx{w wr:World}{l:List UInt8}{k:Nat}(h:Gi w wr l k){x:UInt8}(hk:l[k]?=some x){v:Int}(hv:v=(nv x).toNat):Gi w (wr.setCell ⟨w.heap.size,k,none⟩ (.int .u8 v)) l (k+1):=by
 obtain⟨h1,h2,h3⟩:=h;refine⟨⟨h1.os,h1.tape,h1.output,by simpa using h1.size,fun i hi gv=>?_⟩,by simpa using h2,fun j y hj=>?_⟩
 ·rw[← h1.block i hi gv];simp only[World.setCell,cB];rw[aI (by omega)]
 ·have h4:=h3 j y hj;have h5:=h3 k x hk
  by_cases Jm:j=k
  ·subst Jm;rw[hk]at hj;simp only[aa]at hj;subst hj;refine⟨?_,?_⟩
   ·rw[World.cell?_setCell_same _ _ _ h5.1,bf (by omega),hv]
   ·simpa using h5.2
  ·refine⟨?_,?_⟩
   ·rw[World.cell?_setCell_other _ _ _ _ (by intro e;injection e;omega),h4.1];congr 3
    by_cases h:j<k
    ·rw[bf h,bf (by omega)]
    ·rw[aI h,aI (by omega)]
   ·simpa using h4.2
theorem rj{w wr:World}{l:List UInt8}{k:Nat}(h:Gi w wr l k){x:UInt8}(hk:l[k]?=some x)(hv:nv x=x):Gi w wr l (k+1):=by
 obtain⟨h1,h2,h3⟩:=h;refine⟨h1,h2,fun j y hj=>⟨?_,(h3 j y hj).2⟩⟩;rw[(h3 j y hj).1];congr 3
 by_cases Jm:j=k
 ·subst Jm;rw[hk]at hj;simp only[aa]at hj;subst hj;rw[aI (by omega),bf (by omega),hv]
 ·by_cases h:j<k
  ·rw[bf h,bf (by omega)]
  ·rw[aI h,aI (by omega)]
theorem By{w wr:World}{l:List UInt8}(h:Gi w wr l l.length)(cap:Nat):(convert 58 9 (.slice (some ⟨w.heap.size,0,none⟩) l.length cap)).run prog wr=.ok (.string ⟨(lower l).toArray⟩) wr:=by
 have:=run_convert_bytes_back (P:=prog) wr 58 9 5 ⟨w.heap.size,0,none⟩ cap (lower l) underlying58 underlying5 underlying9 (fun j hj=>by
  have kI:j<l.length:=by simpa[lower]using hj
  have:=(h.2.2 j l[j] (ak kI)).1;rw[bf kI]at this;rw[Addr.add_lit,bz,this];simp[lower])
 simpa[lower]using this
set_option maxRecDepth 100000 in
set_option maxHeartbeats 4000000 in
theorem EY(l:List UInt8)(hl:l.length≤maxLen)(w:World):
  Calls prog 257 #[.string ⟨l.toArray⟩] w fun e w'=>e=.returned (.string ⟨(lower l).toArray⟩)∧w.grownBy w' none:=by
 have hc:=run_bytes_of_string (P:=prog) w 9 58 5 ⟨l.toArray⟩ underlying9 underlying58 underlying5
 go_enter func257,Tryz.ntmps257
 go_wp2
 go_loopw [10] (fun i wr=>∃ k:Nat,k≤l.length∧i=.int .i64 k∧Gi w wr l k) (fun i _=>l.length - (intOf i).toNat)
 case atStart=>exact⟨0,dT _,rfl,yP w l _⟩
 case round =>
  obtain⟨k,hk,rfl,hL⟩:=hrel;have hg:=hL.1
  have hcx:k<l.length→wr.cell? ⟨w.heap.size,k,none⟩=some (.int .u8 (l.getD k 0).toNat):=fun h=>by
   have:=(hL.2.2 k l[k] (ak h)).1;rw[aI (by omega)]at this;rw[this];simp[an,h]
  have Z5:k<l.length→wr.frozen? ⟨w.heap.size,k,none⟩=false:=fun h=>(hL.2.2 k l[k] (ak h)).2;have Ov:=fun(h:k=l.length) (cap:Nat)=>By (h▸hL) cap;unfold maxLen at hl
  go_wp2
  ·rename_i dc h1 h2;refine⟨⟨k+1,dc,rfl,Bx hL (ak dc) ?_⟩,by simp[intOf];omega⟩;rw[wo (by simpa using h1) (by simpa using h2)];omega
  ·rename_i dc h1 h2;exact⟨⟨k+1,dc,rfl,rj hL (ak dc) (o8 (by simp at h1 h2 ⊢;omega))⟩,by simp[intOf];omega⟩
  ·rename_i dc h1;exact⟨⟨k+1,dc,rfl,rj hL (ak dc) (o8 (by simp at h1 ⊢;omega))⟩,by simp[intOf];omega⟩
  ·rename_i Lo;rw[Ov (by omega)]
   go_wp2
   go_ret
   exact⟨rfl,hg⟩
theorem Nu(l:List UInt8)(J:ae):PC prog 257 [.s l] J (fun r J'=>r=.s (lower l)∧J'=J):=by
 refine PC.G6 fun B w0 w μ vs hB hv=>?_;obtain⟨s,hs,hl,hm⟩:=(hv.2 0 _ rfl).kr
 have Af:vs=#[.string ⟨l.toArray⟩]:=by
  have h1:=hv.1;have e:s=⟨l.toArray⟩:=by rw[← hl]
  rw[← e,← hs];apply Array.ext
  ·simpa using h1
  ·intro i h2 h3;have:i=0:=by simp at h3;omega
   subst this;simp[h2]
 rw[Af];exact⟨_,EY l hm w,fun w'=>.s _ _ (by simp) (by rw[tJ];exact hm)⟩
set_option maxRecDepth 100000 in
set_option maxHeartbeats 4000000 in
theorem Aw(l:List UInt8)(hl:l.length≤maxLen)(w:World):
  Calls prog 273 #[.string ⟨l.toArray⟩] w fun e w'=>e=.returned (.string ⟨(lower l).toArray⟩)∧w.grownBy w' none:=by
 have hc:=run_bytes_of_string (P:=prog) w 9 58 5 ⟨l.toArray⟩ underlying9 underlying58 underlying5
 go_enter func273,Tryz.ntmps273
 go_wp2
 go_loopw [9] (fun i wr=>∃ k:Nat,k≤l.length∧i=.int .i64 k∧Gi w wr l k) (fun i _=>l.length - (intOf i).toNat)
 case atStart=>exact⟨0,dT _,rfl,yP w l _⟩
 case round =>
  obtain⟨k,hk,rfl,hL⟩:=hrel;have hg:=hL.1
  have hcx:k<l.length→wr.cell? ⟨w.heap.size,k,none⟩=some (.int .u8 (l.getD k 0).toNat):=fun h=>by
   have:=(hL.2.2 k l[k] (ak h)).1;rw[aI (by omega)]at this;rw[this];simp[an,h]
  have Z5:k<l.length→wr.frozen? ⟨w.heap.size,k,none⟩=false:=fun h=>(hL.2.2 k l[k] (ak h)).2;have Ov:=fun(h:k=l.length) (cap:Nat)=>By (h▸hL) cap;unfold maxLen at hl
  go_wp2
  ·rename_i dc h1 h2;refine⟨⟨k+1,dc,rfl,Bx hL (ak dc) ?_⟩,by simp[intOf];omega⟩;rw[wo (by simpa using h1) (by simpa using h2)]
  ·rename_i dc h1 h2;exact⟨⟨k+1,dc,rfl,rj hL (ak dc) (o8 (by simp at h1 h2 ⊢;omega))⟩,by simp[intOf];omega⟩
  ·rename_i dc h1;exact⟨⟨k+1,dc,rfl,rj hL (ak dc) (o8 (by simp at h1 ⊢;omega))⟩,by simp[intOf];omega⟩
  ·rename_i Lo;rw[Ov (by omega)]
   go_wp2
   go_ret
   exact⟨rfl,hg⟩
theorem GU(l:List UInt8)(J:ae):PC prog 273 [.s l] J (fun r J'=>r=.s (lower l)∧J'=J):=by
 refine PC.G6 fun B w0 w μ vs hB hv=>?_;obtain⟨s,hs,hl,hm⟩:=(hv.2 0 _ rfl).kr
 have Af:vs=#[.string ⟨l.toArray⟩]:=by
  have h1:=hv.1;have e:s=⟨l.toArray⟩:=by rw[← hl]
  rw[← e,← hs];apply Array.ext
  ·simpa using h1
  ·intro i h2 h3;have:i=0:=by simp at h3;omega
   subst this;simp[h2]
 rw[Af];exact⟨_,Aw l hm w,fun w'=>.s _ _ (by simp) (by rw[tJ];exact hm)⟩
end Go.Proofs.Tryz
namespace Go.Proofs.Tryz
open Go Go.Pm Go.Bt
theorem QC{J:ae}{K:Exit→St→Prop}(l:List UInt8)(hlen:l.length<2^62):∀ (rest pre:List UInt8),l=pre++rest →
  ((fj 3 (fh (.i .i64 ((pre.length+fv rest:Nat):Int)) (fj 14 fo))) fun ZZ=>K (.exit 0) ⟨ZZ,J⟩) →
  fp J.length prog CE K (rest.length+1) ⟨(.s l::uu 2 (.i .i64 pre.length::uu 14 [])),J⟩:=by
 intro rest
 induction rest with
 | nil =>
  intro pre he h1;have he:l=pre:=by simpa using he
  subst he;refine aB fun R hR=>?_;simp only[CE,VV,seval];refine⟨fun h=>by simp at h,?_⟩;refine cu (by simp only[VV,seval]<;>rfl) (fun _=>iX _ _) rfl ?_;simp only[VV,seval];exact⟨fun h=>by simp at h,fun _=>h1 ..⟩
 | cons b rest ih =>
  intro pre he h1;subst he;have hlen':pre.length+1+rest.length<2^62:=by simp at hlen;omega
  have hw:IntKind.i64.wrap ((pre.length:Int)+1)=(((pre++[b]).length:Nat):Int):=by
   rw[bd (by omega)];simp
  refine aB fun R hR=>?_;simp only[CE,VV,seval];refine⟨fun _=>by simp;omega,?_⟩;refine cu (by simp only[VV,seval]<;>rfl) (fun _=>iX b _) rfl ?_;simp only[hw,VV,seval];have hd:decide ((pre.length:Int)<((pre++b::rest).length:Nat))=true:=by simp;omega
  refine⟨fun h=>?_,fun h=>?_⟩
  ·have h2:nH b=true:=by rw[hd]at h;simpa[nH]using h
   exact hR _ (aZ (by repeat' constructor) (ih (pre++[b]) (by simp) (by simpa[fv,h2,fF]using h1)))
  ·have h2:nH b=false:=by rw[hd]at h;simpa[nH]using h
   have e:fv (b::rest)=0:=by simp[fv,h2]
   rw[e]at h1;exact h1 ..
theorem Ev(l:List UInt8)(hlen:l.length<2^62)(J:ae):PC prog 177 [.s l] J (fun r J'=>r=.i .i64 (fv l:Nat)∧J'=J):=by
 refine PC.intro func177 ac7 fun bj dx=>ax ?_;simp only[Xn,SS,seval];simp only[VV,seval];refine b6.aZ (fr':=(.s l::uu 2 (.i .i64 ([]:List UInt8).length::uu 14 []))) (by repeat' constructor) (l.length+1) (QC l hlen l [] rfl ?_);simp only[JE];intros;simp only[VV,seval];exact aU (.inr rfl) (by simp only[RS,seval];rfl) ⟨by simp[one],rfl⟩
theorem QE{J:ae}{K:Exit→St→Prop}(l:List UInt8)(hlen:l.length<2^62):∀ (n:Nat) (rest pre:List UInt8),rest.length≤n→l=pre++rest →
  ((fj 3 (fh (.i .i64 ((pre.length+fU kL 39 45 rest:Nat):Int)) (fj 57 fo))) fun ZZ=>K (.exit 0) ⟨ZZ,J⟩) →
  fp J.length prog yA K (n+1) ⟨(.s l::uu 2 (.i .i64 pre.length::uu 57 [])),J⟩:=by
 intro n
 induction n with
 | zero =>
  intro rest pre hn he h1;have hr:rest=[]:=aG (by omega);subst hr;have he:l=pre:=by simpa using he
  subst he;refine aB fun R hR=>?_;simp only[yA,VV,seval];exact⟨fun h=>by simp at h,fun _=>h1 ..⟩
 | succ n ih =>
  intro rest pre hn he h1;subst he;cases rest with
  | nil =>
   refine aB fun R hR=>?_;simp only[yA,VV,seval];exact⟨fun h=>by simp at h,fun _=>h1 ..⟩
  | cons b rest =>
   have hlen':pre.length+1+rest.length<2^62:=by simp at hlen;omega
   have hw:IntKind.i64.wrap ((pre.length:Int)+1)=(((pre++[b]).length:Nat):Int):=by
    rw[bd (by omega)];simp
   refine aB fun R hR=>?_;simp only[yA,VV,seval];refine⟨fun _=>⟨by simp;omega,?_⟩,fun h=>by simp at h;omega⟩;refine az (iX b _) rfl ?_;simp only[hw,VV,seval];refine⟨fun h=>?_,fun h=>?_⟩
   ·have h2:kL b=true:=h;rw[u4 h2]at h1;exact hR _ (aZ (by repeat' constructor) (ih rest (pre++[b]) (by simp at hn;omega) (by simp) (by simpa[fF]using h1)))
   ·have h2:kL b=false:=h;have zd:((b.toNat:Int)==39)=(b==39):=DU b 39;have jr:((b.toNat:Int)==45)=(b==45):=DU b 45;simp only[zd,jr];refine⟨by simp;omega,fun _=>by simp;omega,fun h3=>?_,fun h3=>?_⟩
    ·cases rest with
     | nil=>simp at h3
     | cons d rest =>
      have hd:(pre++b::d::rest).getD (pre++[b]).length 0=d:=by
       have:pre++b::d::rest=(pre++[b])++d::rest:=by simp
       rw[this];simp[an]
      have s5:IntKind.i64.wrap ((pre.length:Int)+2)=(((pre++[b,d]).length:Nat):Int):=by
       rw[IntWalk.i64_in _ (by omega)];simp
      simp only[ai]at hlen';refine⟨by simp;omega,?_⟩;simp only[hd,aD];refine az (iX d _) rfl ?_;simp only[s5,VV,seval]
      have hj:((b==39||b==45)&&true)=true:=by
       rw[fH];exact(Bool.and_eq_true_iff.1 h3).1
      refine⟨fun h4=>?_,fun h4=>?_⟩
      ·have h5:kL d=true:=h4;rw[u5 h2 (by rw[h5];exact hj)]at h1;exact hR _ (aZ (by repeat' constructor) (ih rest (pre++[b,d]) (by simp at hn;omega) (by simp) (by simpa[fF]using h1)))
      ·have h5:kL d=false:=h4;rw[tK h2 (by rw[h5,iG])]at h1;exact h1 ..
    ·have e:fU kL 39 45 (b::rest)=0:=by
      cases rest with
      | nil=>exact u6 h2
      | cons d rest =>
       have hd:decide ((((pre++[b]).length:Nat):Int)<((pre++b::d::rest).length:Nat))=true:=by simp;omega
       rw[hd,fH]at h3;exact tK h2 (by rw[h3,eY]) _
     rw[e]at h1;exact h1 ..
theorem GV(c:UInt8)(l:List UInt8)(hlen:l.length<2^61)(J:ae):PC prog 175 [.s (c::l)] J (fun r J'=>r=.i .i64 ((if dd c=4 then 1+fU kL 39 45 l else 0:Nat):Int)∧J'=J):=by
 refine PC.intro func175 ac9 fun bj dx=>ax ?_;simp only[Xp,SS,seval];have gv:(c::l==[])=false:=rfl;simp only[gv,VV,seval];refine⟨by omega,?_⟩;refine cu (by simp only[VV,seval]<;>rfl) (fun _=>iX c _) rfl ?_;simp only[VV,seval];refine⟨fun h=>?_,fun h=>?_⟩
 ·have h2:¬ dd c=4:=by simpa using h
  exact aU (.inr rfl) (by simp only[RS,seval];rfl) ⟨by simp[one,h2],rfl⟩
 ·have h2:dd c=4:=by simpa using h
  refine b6.aZ (fr':=(.s (c::l)::uu 2 (.i .i64 ([c]:List UInt8).length::uu 57 []))) (by repeat' constructor) (l.length+1) (QE (c::l) (by simp;omega) l.length l [c] (aq _) rfl ?_);simp only[JE];intros;simp only[VV,seval];exact aU (.inr rfl) (by simp only[RS,seval];rfl) ⟨by simp[one,h2],rfl⟩
theorem QD{J:ae}{K:Exit→St→Prop}(l:List UInt8)(hlen:l.length<2^62):∀ (n:Nat) (rest pre:List UInt8),rest.length≤n→l=pre++rest →
  ((fj 3 (fh (.i .i64 ((pre.length+fU AQ 46 44 rest:Nat):Int)) (fj 47 fo))) fun ZZ=>K (.exit 0) ⟨ZZ,J⟩) →
  fp J.length prog yz K (n+1) ⟨(.s l::uu 2 (.i .i64 pre.length::uu 47 [])),J⟩:=by
 intro n
 induction n with
 | zero =>
  intro rest pre hn he h1;have hr:rest=[]:=aG (by omega);subst hr;have he:l=pre:=by simpa using he
  subst he;refine aB fun R hR=>?_;simp only[yz,VV,seval];exact⟨fun h=>by simp at h,fun _=>h1 ..⟩
 | succ n ih =>
  intro rest pre hn he h1;subst he;cases rest with
  | nil =>
   refine aB fun R hR=>?_;simp only[yz,VV,seval];exact⟨fun h=>by simp at h,fun _=>h1 ..⟩
  | cons b rest =>
   have hlen':pre.length+1+rest.length<2^62:=by simp at hlen;omega
   have hw:IntKind.i64.wrap ((pre.length:Int)+1)=(((pre++[b]).length:Nat):Int):=by
    rw[bd (by omega)];simp
   refine aB fun R hR=>?_;simp only[yz,VV,seval];refine⟨fun _=>⟨by simp;omega,?_⟩,fun h=>by simp at h;omega⟩;refine az (iX b _) rfl ?_;simp only[hw,VV,seval];refine⟨fun h=>?_,fun h=>?_⟩
   ·have h2:AQ b=true:=h;rw[u4 h2]at h1;exact hR _ (aZ (by repeat' constructor) (ih rest (pre++[b]) (by simp at hn;omega) (by simp) (by simpa[fF]using h1)))
   ·have h2:AQ b=false:=h;have zd:((b.toNat:Int)==46)=(b==46):=DU b 46;have jr:((b.toNat:Int)==44)=(b==44):=DU b 44;simp only[zd,jr];refine⟨by simp;omega,fun _=>by simp;omega,?_⟩;refine⟨fun h3=>?_,?_⟩
    ·have h4:=(Bool.and_eq_true_iff.1 (by simpa only[beq_true]using h3)).2;exact⟨by omega,by simpa using h4⟩
    refine cu (by simp only[VV,seval]<;>rfl) (fun _=>iX _ _) rfl ?_;simp only[VV,seval];cases rest with
    | nil =>
     have hf:decide ((((pre++[b]).length:Nat):Int)<((pre++[b]).length:Nat))=false:=by simp
     rw[u6 h2]at h1;simp only[hf,iG,eY];exact⟨fun h=>by simp at h,fun _=>h1 ..⟩
    | cons d rest =>
     have ht:decide ((((pre++[b]).length:Nat):Int)<((pre++b::d::rest).length:Nat))=true:=by simp;omega
     have hd:(pre++b::d::rest).getD (pre++[b]).length 0=d:=by
      have:pre++b::d::rest=(pre++[b])++d::rest:=by simp
      rw[this];simp[an]
     have s5:IntKind.i64.wrap ((pre.length:Int)+2)=(((pre++[b,d]).length:Nat):Int):=by
      rw[IntWalk.i64_in _ (by omega)];simp
     simp only[ht,hd,s5,fH];refine⟨fun h3=>?_,fun h3=>?_⟩
     ·rw[u5 h2 h3]at h1;exact hR _ (aZ (by repeat' constructor) (ih rest (pre++[b,d]) (by simp at hn;omega) (by simp) (by simpa[fF]using h1)))
     ·rw[tK h2 h3]at h1;exact h1 ..
theorem Ck(c:UInt8)(l:List UInt8)(hlen:l.length<2^61)(J:ae):PC prog 176 [.s (c::l)] J (fun r J'=>r=.i .i64 ((if dd c=3 then 1+fU AQ 46 44 l else 0:Nat):Int)∧J'=J):=by
 refine PC.intro func176 ac8 fun bj dx=>ax ?_;simp only[Xo,SS,seval];have gv:(c::l==[])=false:=rfl;simp only[gv,VV,seval];refine⟨by omega,?_⟩;refine cu (by simp only[VV,seval]<;>rfl) (fun _=>iX c _) rfl ?_;simp only[VV,seval];refine⟨fun h=>?_,fun h=>?_⟩
 ·have h2:¬ dd c=3:=by simpa using h
  exact aU (.inr rfl) (by simp only[RS,seval];rfl) ⟨by simp[one,h2],rfl⟩
 ·have h2:dd c=3:=by simpa using h
  refine b6.aZ (fr':=(.s (c::l)::uu 2 (.i .i64 ([c]:List UInt8).length::uu 47 []))) (by repeat' constructor) (l.length+1) (QD (c::l) (by simp;omega) l.length l [c] (aq _) rfl ?_);simp only[JE];intros;simp only[VV,seval];exact aU (.inr rfl) (by simp only[RS,seval];rfl) ⟨by simp[one,h2],rfl⟩
theorem xX:Ti prog 150 3 32:=lN (by kernel_rfl)
theorem NB{J:ae}{K:Exit→St→Prop}(F0 F9 F10 F11:V)(bx:Ob):∀ (N:Nat) (s:List UInt8) (rs:List (List V)) (g:Nat),s.length≤N→s.length<2^61→rs.length+s.length<2^40 →
  (∀ g,((fh (F0) (fj 2 (fh (.own J.length g) (fj 5 (fh (F9) (fh (F10) (fh (F11) (fj 38 fo)))))))) fun ZZ=>K (.exit 3) ⟨ZZ,J++[.row 150 3 32 g false (rs++(gZ s).map It.ah7),bx]⟩)) →
  fp J.length prog EN K (N+1) ⟨(F0::uu 2 (.own J.length g::uu 2 (.s s::uu 2 (F9::F10::F11::uu 38 [])))),J++[.row 150 3 32 g false rs,bx]⟩:=by
 intro N
 induction N with
 | zero =>
  intro s rs g hs hl hb h1;have hs:s=[]:=aG (by omega);subst hs;have e:(gZ []).map It.ah7=[]:=rfl;rw[e,bV]at h1;refine aB fun R hR=>?_;simp only[EN,VV,seval];exact h1 g ..
 | succ N ih =>
  intro s rs g hs hl hb h1;cases s with
  | nil =>
   have e:(gZ []).map It.ah7=[]:=rfl;rw[e,bV]at h1;refine aB fun R hR=>?_;simp only[EN,VV,seval];exact h1 g ..
  | cons c r =>
   have gv:c::r≠[]:=by simp
   have hp:=lC (c::r);have hle:=yK gv;rw[wG gv]at h1;refine aB fun R hR=>?_;simp only[EN,VV,seval];refine⟨fun _=>?_,fun h=>by simp at h⟩;refine az (Gy c r (by simp at hl;omega) _) rfl ?_;simp only[VV,seval];simp only[ai]at hle hb hl hs;have hd:List.take (r.length+1 - (du (c::r)).2) (List.drop (du (c::r)).2 (c::r))=(c::r).drop (du (c::r)).2:=eK (by simp);rw[hd];refine⟨⟨by omega,by omega⟩,⟨by omega,by simp only[maxLen];omega⟩,⟨by omega,by omega,by omega⟩,?_⟩;refine hR _ (aZ ?_ (ih ((c::r).drop (du (c::r)).2) (rs++[[V.i .i64 (du (c::r)).1,V.s (List.take (du (c::r)).2 (c::r)),V.i .i64 0]]) (g+1) (by simp;omega) (by simp;omega) (by simp;omega) (by simpa[It.ah7]using h1)))
   repeat' constructor
theorem NA{J:ae}{K:Exit→St→Prop}(its:List It)(bj:bG J)(hlen:its.length<2^38)(ht:aH its<2^38):∀ (rest pre:List It) (out:List It) (g:Nat),its=pre++rest→out.length≤pre.length+(aH its - aH rest) →
  (∀ g,((fj 3 (fh (.own J.length g) (fj 46 fo))) fun ZZ=>K (.exit 0) ⟨ZZ,J++[.row 150 3 32 g false ((out++cR rest).map It.ah7)]⟩)) →
  fp J.length prog yv K (rest.length+1) ⟨(.sl 3 (its.map It.ah7)::uu 2 (.own J.length g::uu 5 (.sl 3 (its.map It.ah7)::.i .i64 its.length::.i .i64 pre.length::uu 38 []))),J++[.row 150 3 32 g false (out.map It.ah7)]⟩:=by
 intro rest
 induction rest with
 | nil =>
  intro pre out g he ho h1;have he:its=pre:=by simpa using he
  subst he;have e:out++cR []=out:=by simp[cR]
  rw[e]at h1;refine aB fun R hR=>?_;simp only[yv,VV,seval];exact⟨fun h=>by simp at h,fun _=>h1 g ..⟩
 | cons x rest ih =>
  intro pre out g he ho h1;subst he
  have hw:IntKind.i64.wrap ((pre.length:Int)+1)=(((pre++[x]).length:Nat):Int):=by
   rw[bd (by simp at hlen;omega)];simp
  have wx:aH (x::rest)=x.aib.length+aH rest:=rfl;have YA:=pX pre (x::rest);have hlen':pre.length+1+rest.length<2^38:=by simp at hlen;omega
  have e:out++cR (x::rest)=(out++jy x)++cR rest:=by simp[cR]
  rw[e]at h1;have fM:∀ g o,bG (J++[.row 150 3 32 g false o]):=fun g o=>cj bj (by simp)
  have back:∀ {fr:List V} {R:St→Prop} (g:Nat),(∀ st',fp J.length prog yv K (rest.length+1) st'→R st')→nU fr (.sl 3 ((pre++x::rest).map It.ah7)::uu 2 (.own J.length g::uu 5 (.sl 3 ((pre++x::rest).map It.ah7)::.i .i64 (pre++x::rest).length::.i .i64 (pre++[x]).length::uu 38 []))) →
    R ⟨fr,J++[.row 150 3 32 g false ((out++jy x).map It.ah7),.box 61 x.ah7]⟩:=fun g hR hc=>by
   have hk:=uF x;refine hR _ (b5 [_] [_] (fM _ _) hc ?_ (ih (pre++[x]) (out++jy x) g (by simp) (by simp;omega) h1));simp only[LW,ai,aC,bz];omega
  have s7:(out.length+1)*32≤140737488355328∧out.length+1≤maxLen:=by simp only[maxLen];omega
  obtain⟨k,t,d⟩:=x;have cq:out.map It.ah7++[[.i .i64 k,.s t,.i .i64 d]]=(out++[(⟨k,t,d⟩:It)]).map It.ah7:=by simp[It.ah7]
  refine aB fun R hR=>?_;have one:(k=2∨k=3∨k=4∨k=5)→jy ⟨k,t,d⟩=[⟨k,t,d⟩]:=fun h=>by simp only[jy,h,aL]
  rcases nV (k=2∨k=3∨k=4∨k=5)with hk | hk
  ·rw[one hk]at back;rcases hk with rfl | rfl | rfl | rfl
   all_goals
    simp only[yv,It.ah7,↓IT,VV,seval];simp only[hw,ag,cq,It.ah7];refine⟨fun _=>⟨by simp;omega,s7,back _ hR ?_⟩,fun h=>by simp at h;omega⟩
    repeat' constructor
  ·have e2:(k==2)=false:=by simp;omega
   have e3:(k==3)=false:=by simp;omega
   have e4:(k==4)=false:=by simp;omega
   have e5:(k==5)=false:=by simp;omega
   rcases nV (k=1)with rZ | rZ
   ·subst rZ;have e1:jy ⟨1,t,d⟩=gZ t:=by simp[jy]
    simp only[yv,It.ah7,↓IT,VV,seval];refine⟨fun _=>⟨by simp;omega,?_⟩,fun h=>by simp at h;omega⟩;simp only[aH]at wx YA;refine b6.aZ (fr':=(.sl 3 ((pre++⟨1,t,d⟩::rest).map It.ah7)::uu 2 (.own J.length g::uu 2 (.s t::uu 2 (.sl 3 ((pre++⟨1,t,d⟩::rest).map It.ah7)::.i .i64 (pre++⟨1,t,d⟩::rest).length::.i .i64 pre.length::uu 38 []))))) (by repeat' constructor) (t.length+1) (NB (J:=J) _ _ _ _ _ t.length t _ g (aq _) (by omega) (by simp;omega) ?_);intro g2;simp only[JE];intros;simp only[VV,seval];simp only[hw];rw[← List.map_append,← e1];refine back _ hR ?_
    repeat' constructor
   ·have e1:jy ⟨k,t,d⟩=[]:=by simp[jy,hk,rZ]
    have e0:(k==1)=false:=by simpa using rZ
    rw[e1,bV]at back;simp only[yv,It.ah7,e2,e3,e4,e5,e0,↓IT,VV,seval];simp only[hw];refine⟨fun _=>⟨by simp;omega,back _ hR ?_⟩,fun h=>by simp at h;omega⟩
    repeat' constructor
theorem Gx(its:List It)(hlen:its.length<2^38)(ht:aH its<2^38)(J:ae):PC prog 51 [.sl 3 (its.map It.ah7)] J (fun r J'=>r=.own J.length 0∧J'=J++[.row 150 3 32 0 false ((cR its).map It.ah7)]):=by
 refine PC.intro func51 c51 fun bj dx=>ax ?_;simp only[p51,SS,seval];simp only[ag,VV,seval];refine b6.wk ((Wk.iy (J:=J) (k:=3) xX rfl).trans (Wk.gA ?_)) (b6.vP (its.length+1) (NA its bj hlen ht its [] [] 0 rfl (by simp) ?_))
 ·simp only[VV,seval]
  repeat' constructor
 ·intro g;simp only[JE];intros;simp only[VV,seval];exact oX 0 bj (.inr rfl) rfl rfl rfl (by simp[wY,Ob.gen]) (by simp[one,Nr,Ob.fresh])
theorem qV(its:List It)(hlen:its.length<2^38)(ht:aH its<2^38)(J:ae):PC prog 51 [.sl 3 (its.map It.ah7)] J (fun r J'=>r=.sl 3 ((cR its).map It.ah7)∧J'=J) :=
 PC.closed fun bj=>PC.fz bj (Gx its hlen ht J)
theorem QM{J:ae}{K:Exit→St→Prop}(bj:bG J):∀ (N:Nat) (s:List UInt8) (out:List It) (g:Nat),s.length≤N→s.length<2^61→out.length+s.length<2^40 →
  (∀ g,((fj 3 (fh (.own J.length g) (fj 35 fo))) fun ZZ=>K (.exit 0) ⟨ZZ,J++[.row 150 3 32 g false ((out++gZ s).map It.ah7)]⟩)) →
  fp J.length prog yF K (N+1) ⟨(.s s::uu 2 (.own J.length g::uu 35 [])),J++[.row 150 3 32 g false (out.map It.ah7)]⟩:=by
 intro N
 induction N with
 | zero =>
  intro s out g hs hl hb h1;have hs:s=[]:=aG (by omega);subst hs;have e:out++gZ []=out:=by simp[gZ,xi]
  rw[e]at h1;refine aB fun R hR=>?_;simp only[yF,VV,seval];exact⟨fun h=>by simp at h,fun _=>h1 g ..⟩
 | succ N ih =>
  intro s out g hs hl hb h1;cases s with
  | nil =>
   have e:out++gZ []=out:=by simp[gZ,xi]
   rw[e]at h1;refine aB fun R hR=>?_;simp only[yF,VV,seval];exact⟨fun h=>by simp at h,fun _=>h1 g ..⟩
  | cons c r =>
   have gv:c::r≠[]:=by simp
   have hp:=lC (c::r);have hle:=yK gv;simp only[ai]at hle hb hl hs;rw[wG gv]at h1;refine aB fun R hR=>?_;simp only[yF,VV,seval];refine⟨fun _=>?_,fun h=>by simp at h⟩;have xb:∀ n:Nat,decide ((0:Int)<((1+n:Nat):Int))=true:=fun n=>by simp;omega
   have hzero:decide ((0:Int)<((0:Nat):Int))=false:=by decide
   have NU:decide False=false:=rfl;have hdr:∀ n,List.take (r.length+1 - n) (List.drop n (c::r))=(c::r).drop n:=fun n=>eK (by simp)
   have key:∀ {fr:List V} (n:Nat) (kd:Int),du (c::r)=(kd,n)→nU fr (.s ((c::r).drop n)::uu 2 (.own J.length (g+1)::uu 35 []))→R ⟨fr,J++[.row 150 3 32 (g+1) false (out.map It.ah7++[[.i .i64 kd,.s ((c::r).take n),.i .i64 0]])]⟩:=fun n kd hn hc=>by
    rw[hn]at h1 hp hle;simp only at h1 hp hle;refine hR _ (aZ hc ?_);have cq:out.map It.ah7++[[.i .i64 kd,.s ((c::r).take n),.i .i64 0]]=(out++[(⟨kd,(c::r).take n,0⟩:It)]).map It.ah7:=by simp[It.ah7]
    rw[cq];exact ih ((c::r).drop n) (out++[⟨kd,(c::r).take n,0⟩]) (g+1) (by simp;omega) (by simp;omega) (by simp;omega) (by simpa using h1)
   have W:=GV c r (by omega) (J++[.row 150 3 32 g false (out.map It.ah7)]);have D:=Ck c r (by omega) (J++[.row 150 3 32 g false (out.map It.ah7)]);have B:=Ev (c::r) (by simp;omega) (J++[.row 150 3 32 g false (out.map It.ah7)]);have m1:((out.map It.ah7).length+1)*32≤140737488355328∧(out.map It.ah7).length+1≤maxLen:=by simp only[maxLen,ag];omega
   rcases(show dd c=4∨dd c=3∨dd c=2∨(dd c≠4∧dd c≠3∧dd c≠2)by omega)with h | h | h | ⟨h4,h3,h2⟩
   ·have e:du (c::r)=(6,1+fU kL 39 45 r):=by simp[du,h]
    have e2:fv (c::r)=0:=by simp[fv,nH,h]
    rw[e]at hle;simp only at hle;rw[bf h]at W;rw[aI (by omega)]at D;rw[e2]at B;refine az W rfl ?_;simp only[xb,VV,seval];refine az D rfl ?_;simp only[hzero,NU,VV,seval];refine az B rfl ?_;simp only[hzero,NU,hdr,VV,seval];exact⟨⟨by omega,by omega⟩,m1,⟨by omega,by omega,by omega⟩,key _ _ e (by repeat' constructor)⟩
   ·have e:du (c::r)=(7,1+fU AQ 46 44 r):=by simp[du,h]
    have e2:fv (c::r)=0:=by simp[fv,nH,h]
    rw[e]at hle;simp only at hle;rw[aI (by omega)]at W;rw[bf h]at D;rw[e2]at B;refine az W rfl ?_;simp only[hzero,NU,VV,seval];refine az D rfl ?_;simp only[xb,VV,seval];refine az B rfl ?_;simp only[hzero,NU,hdr,VV,seval];exact⟨⟨by omega,by omega⟩,m1,⟨by omega,by omega,by omega⟩,key _ _ e (by repeat' constructor)⟩
   ·have e:du (c::r)=(8,1+fv r):=by simp[du,h]
    have e2:fv (c::r)=1+fv r:=by simp[fv,nH,h]
    rw[e]at hle;simp only at hle;rw[aI (by omega)]at W;rw[aI (by omega)]at D;rw[e2]at B;refine az W rfl ?_;simp only[hzero,NU,VV,seval];refine az D rfl ?_;simp only[hzero,NU,VV,seval];refine az B rfl ?_;simp only[xb,hdr,VV,seval];exact⟨⟨by omega,by omega⟩,m1,⟨by omega,by omega,by omega⟩,key _ _ e (by repeat' constructor)⟩
   ·have e:du (c::r)=(9,1):=by simp[du,h4,h3,h2]
    have e2:fv (c::r)=0:=by simp[fv,nH,h2]
    rw[e]at hle;simp only at hle;rw[aI (by omega)]at W;rw[aI (by omega)]at D;rw[e2]at B;refine az W rfl ?_;simp only[hzero,NU,VV,seval];refine az D rfl ?_;simp only[hzero,NU,VV,seval];refine az B rfl ?_;simp only[hzero,NU,hdr,VV,seval];have htr:List.take r.length r=r:=List.take_length ..;simp only[htr];refine⟨by omega,m1,⟨by omega,by omega⟩,key 1 9 e ?_⟩;simp only[lR,lk]
    repeat' constructor
theorem GW(s:List UInt8)(hlen:s.length<2^39)(J:ae):PC prog 112 [.s s] J (fun r J'=>r=.own J.length 0∧J'=J++[.row 150 3 32 0 false ((gZ s).map It.ah7)]):=by
 refine PC.intro func112 adK fun bj dx=>ax ?_;simp only[X5,SS,seval];simp only[VV,seval];refine b6.wk ((Wk.iy (J:=J) (k:=3) xX rfl).trans (Wk.gA ?_)) (b6.vP (s.length+1) (QM bj s.length s [] 0 (aq _) (by omega) (by simp;omega) ?_))
 ·simp only[VV,seval]
  repeat' constructor
 ·intro g;simp only[JE];intros;simp only[VV,seval];exact oX 0 bj (.inr rfl) rfl rfl rfl (by simp[wY,Ob.gen]) (by simp[one,Nr,Ob.fresh])
theorem Kq(s:List UInt8)(hlen:s.length<2^39)(J:ae):PC prog 112 [.s s] J (fun r J'=>r=.sl 3 ((gZ s).map It.ah7)∧J'=J) :=
 PC.closed fun bj=>PC.fz bj (GW s hlen J)
theorem Uo{J:ae}{K:Exit→St→Prop}(its:List It)(bj:bG J)(hlen:its.length<2^38)(ht:aH its<2^38):∀ (rest pre:List It) (out:List It) (g:Nat),its=pre++rest→out.length≤pre.length+(aH its - aH rest) →
  (∀ g,((fj 3 (fh (.own J.length g) (fj 34 fo))) fun ZZ=>K (.exit 0) ⟨ZZ,J++[.row 150 3 32 g false ((out++cR rest).map It.ah7)]⟩)) →
  fp J.length prog yu K (rest.length+1) ⟨(uu 3 (.own J.length g::uu 2 (.sl 3 (its.map It.ah7)::.i .i64 its.length::.i .i64 pre.length::uu 29 []))),J++[.row 150 3 32 g false (out.map It.ah7)]⟩:=by
 intro rest
 induction rest with
 | nil =>
  intro pre out g he ho h1;have he:its=pre:=by simpa using he
  subst he;have e:out++cR []=out:=by simp[cR]
  rw[e]at h1;refine aB fun R hR=>?_;simp only[yu,VV,seval];exact⟨fun h=>by simp at h,fun _=>h1 g ..⟩
 | cons x rest ih =>
  intro pre out g he ho h1;subst he
  have hw:IntKind.i64.wrap ((pre.length:Int)+1)=(((pre++[x]).length:Nat):Int):=by
   rw[bd (by simp at hlen;omega)];simp
  have wx:aH (x::rest)=x.aib.length+aH rest:=rfl;have YA:=pX pre (x::rest);have hlen':pre.length+1+rest.length<2^38:=by simp at hlen;omega
  have e:out++cR (x::rest)=(out++jy x)++cR rest:=by simp[cR]
  rw[e]at h1;have fM:∀ g o,bG (J++[.row 150 3 32 g false o]):=fun g o=>cj bj (by simp)
  have back:∀ {fr:List V} {R:St→Prop} (g:Nat) (bx:Ob),(∀ st',fp J.length prog yu K (rest.length+1) st'→R st')→nU fr (uu 3 (.own J.length g::uu 2 (.sl 3 ((pre++x::rest).map It.ah7)::.i .i64 (pre++x::rest).length::.i .i64 (pre++[x]).length::uu 29 []))) →
    R ⟨fr,J++[.row 150 3 32 g false ((out++jy x).map It.ah7),bx]⟩:=fun g bx hR hc=>by
   have hk:=uF x;refine hR _ (b5 [_] [_] (fM _ _) hc ?_ (ih (pre++[x]) (out++jy x) g (by simp) (by simp;omega) h1));simp only[LW,ai,aC,bz];omega
  have s7:(out.length+1)*32≤140737488355328∧out.length+1≤maxLen:=by simp only[maxLen];omega
  obtain⟨k,t,d⟩:=x;have cq:out.map It.ah7++[[.i .i64 k,.s t,.i .i64 d]]=(out++[(⟨k,t,d⟩:It)]).map It.ah7:=by simp[It.ah7]
  refine aB fun R hR=>?_;have one:(k=2∨k=3∨k=4∨k=5)→jy ⟨k,t,d⟩=[⟨k,t,d⟩]:=fun h=>by simp only[jy,h,aL]
  rcases nV (k=2∨k=3∨k=4∨k=5)with hk | hk
  ·rw[one hk]at back;rcases hk with rfl | rfl | rfl | rfl
   all_goals
    simp only[yu,It.ah7,↓IT,VV,seval];simp only[hw,ag,cq,It.ah7];refine⟨fun _=>⟨by simp;omega,s7,back _ _ hR ?_⟩,fun h=>by simp at h;omega⟩
    repeat' constructor
  ·have e2:(k==2)=false:=by simp;omega
   have e3:(k==3)=false:=by simp;omega
   have e4:(k==4)=false:=by simp;omega
   have e5:(k==5)=false:=by simp;omega
   rcases nV (k=1)with rZ | rZ
   ·subst rZ;have e1:jy ⟨1,t,d⟩=gZ t:=by simp[jy]
    simp only[yu,It.ah7,↓IT,VV,seval];refine⟨fun _=>⟨by simp;omega,?_⟩,fun h=>by simp at h;omega⟩;simp only[aH]at wx YA;refine az (Kq t (by omega) _) rfl ?_;simp only[VV,seval];simp only[hw];have hk:=sO t.length t
    have hm:((out.map It.ah7).length+((gZ t).map It.ah7).length)*32≤140737488355328∧(out.map It.ah7).length+((gZ t).map It.ah7).length≤maxLen:=by
     simp only[ag,maxLen,gZ];omega
    refine⟨hm,?_⟩;rw[← List.map_append,← e1];refine back _ _ hR ?_
    repeat' constructor
   ·have e1:jy ⟨k,t,d⟩=[]:=by simp[jy,hk,rZ]
    have e0:(k==1)=false:=by simpa using rZ
    rw[e1,bV]at back;simp only[yu,It.ah7,e2,e3,e4,e5,e0,↓IT,VV,seval];simp only[hw];refine⟨fun _=>⟨by simp;omega,back _ _ hR ?_⟩,fun h=>by simp at h;omega⟩
    repeat' constructor
theorem Az(its:List It)(hlen:its.length<2^38)(ht:aH its<2^38)(J:ae):PC prog 53 [.sl 3 (its.map It.ah7)] J (fun r J'=>r=.own J.length 0∧J'=J++[.row 150 3 32 0 false ((cR its).map It.ah7)]):=by
 refine PC.intro func53 c53 fun bj dx=>ax ?_;simp only[p53,SS,seval];simp only[ag,VV,seval];refine b6.wk ((Wk.iy (J:=J) (k:=3) xX rfl).trans (Wk.gA ?_)) (b6.vP (its.length+1) (Uo its bj hlen ht its [] [] 0 rfl (by simp) ?_))
 ·simp only[VV,seval]
  repeat' constructor
 ·intro g;simp only[JE];intros;simp only[VV,seval];exact oX 0 bj (.inr rfl) rfl rfl rfl (by simp[wY,Ob.gen]) (by simp[one,Nr,Ob.fresh])
theorem tx(its:List It)(hlen:its.length<2^38)(ht:aH its<2^38)(J:ae):PC prog 53 [.sl 3 (its.map It.ah7)] J (fun r J'=>r=.sl 3 ((cR its).map It.ah7)∧J'=J) :=
 PC.closed fun bj=>PC.fz bj (Az its hlen ht J)
theorem oY(x:It)(J:ae):PC prog 217 [.agg x.ah7] J (fun r J'=>r=.i .i64 (weight x)∧J'=J):=by
 refine PC.intro func217 acK fun bj dx=>ax ?_;obtain⟨k,t,d⟩:=x;simp only[W0,It.ah7,SS,seval]
 have fin:∀ (w:Int) {fr:List V} {loc:ae},weight ⟨k,t,d⟩=w→fr.getD 2 .u=.i .i64 w→qd prog J.length [.t 2] (fun r J'=>r=.i .i64 (weight ⟨k,t,d⟩)∧J'=J) .ret ⟨fr,J++loc⟩:=fun w _ _ hw hf =>
  bF (xs:=[.i .i64 w]) bj (.inr rfl) (by simp only[jt,sA,hf]) (by simp only[LW]) ⟨by rw[hw];rfl,rfl⟩
 rcases nV (k=6∨k=5∨k=7∨k=2∨k=3∨k=4∨k=9∨k=8)with hk | hk
 ·rcases hk with rfl | rfl | rfl | rfl | rfl | rfl | rfl | rfl
  all_goals
   simp only[↓IT,VV,seval];exact fin _ rfl rfl
 ·have e:∀ n:Int,(n=6∨n=5∨n=7∨n=2∨n=3∨n=4∨n=9∨n=8)→(k==n)=false:=fun n h=>by
   simp only[cI];rintro rfl;exact hk h
  simp only[e 6 (by simp),e 5 (by simp),e 7 (by simp),e 2 (by simp),e 3 (by simp),e 4 (by simp),e 9 (by simp),e 8 (by simp),↓IT,VV,seval];exact fin 0 (by simp only[weight];rw[aI (by omega),aI (by omega),aI (by omega),aI (by omega)]) rfl
theorem QF{J:ae}{K:Exit→St→Prop}(l:List It)(bj:bG J)(hlen:l.length<2^40):∀ (rest pre:List It),l=pre++rest →
  ((fj 3 (fh (.i .i64 (fI l)) (fj 14 fo))) fun ZZ=>K (.exit 0) ⟨ZZ,J⟩) →
  fp J.length prog CI K (rest.length+1) ⟨(uu 3 (.i .i64 (fI pre)::uu 2 (.sl 3 (l.map It.ah7)::.i .i64 l.length::.i .i64 pre.length::uu 9 []))),J⟩:=by
 intro rest
 induction rest with
 | nil =>
  intro pre he h1;have he:l=pre:=by simpa using he
  subst he;refine aB fun R hR=>?_;simp only[CI,VV,seval];exact⟨fun h=>by simp at h,fun _=>h1 ..⟩
 | cons x rest ih =>
  intro pre he h1;subst he;have hlen':pre.length+1+rest.length<2^40:=by simp at hlen;omega
  have ht:=s9 pre;have hx:=kM x
  have hw:IntKind.i64.wrap ((pre.length:Int)+1)=(((pre++[x]).length:Nat):Int):=by
   rw[bd (by omega)];simp
  have PF:IntKind.i64.wrap (fI pre+weight x)=fI (pre++[x]):=by
   rw[IntWalk.i64_in _ (by omega)];simp[fI]
  refine aB fun R hR=>?_;simp only[CI,It.ah7,VV,seval];refine⟨fun _=>⟨by simp;omega,?_⟩,fun h=>by simp at h;omega⟩;refine az (oY x _) rfl ?_;simp only[VV,seval];simp only[hw,PF];refine hR _ (oh (aq _) bj ?_ ?_ (ih (pre++[x]) (by simp) h1))
  ·repeat' constructor
  ·simp only[LW]
theorem vW(l:List It)(hlen:l.length<2^40)(J:ae):PC prog 172 [.sl 3 (l.map It.ah7)] J (fun r J'=>r=.i .i64 (fI l)∧J'=J):=by
 refine PC.intro func172 ade fun bj dx=>ax ?_;simp only[Xt,SS,seval];simp only[ag,VV,seval];refine b6.aZ (fr':=(uu 3 (.i .i64 (fI [])::uu 2 (.sl 3 (l.map It.ah7)::.i .i64 l.length::.i .i64 ([]:List It).length::uu 9 [])))) (by repeat' constructor) (l.length+1) (QF l bj hlen l [] rfl ?_);simp only[JE];intros;simp only[VV,seval];exact aU (.inr rfl) rfl ⟨rfl,rfl⟩
theorem sC(a b:It)(J:ae):PC prog 254 [.agg a.ah7,.agg b.ah7] J (fun r J'=>r=.b (jK a b)∧J'=J):=by
 refine PC.intro func254 acu fun bj dx=>ax ?_;simp only[WJ,It.ah7,SS,seval];simp only[VV,seval];exact jz bj (by simp only[RS,seval];rfl) (by simp only[LW])
theorem Bn(x:It)(J:ae):PC prog 255 [.agg x.ah7] J (fun r J'=>r=.s (dB x)∧J'=J):=by
 refine PC.intro func255 acs fun bj dx=>ax ?_;simp only[WI,It.ah7,SS,seval];simp only[VV,seval];refine⟨fun h=>?_,fun h=>?_⟩
 ·refine az (GU x.aib _) rfl ?_;simp only[VV,seval];simp only[bT]at h;exact bF bj (.inr rfl) (by simp only[RS,seval];rfl) (by simp only[LW]) ⟨by simp only[one,dB,h,aL],rfl⟩
 ·simp only[cI,gm]at h;exact bF bj (.inr rfl) (by simp only[RS,seval];rfl) (by simp only[LW]) ⟨by simp only[one,dB,h,aK],rfl⟩
theorem qh(x:It)(J:ae):PC prog 220 [.agg x.ah7] J (fun r J'=>r=.b (bW x)∧J'=J):=by
 refine PC.intro func220 acH fun bj dx=>ax ?_;simp only[WX,It.ah7,SS,seval];simp only[VV,seval];exact jz bj (by simp only[RS,seval];rfl) (by simp only[LW])
theorem iY(x:It)(J:ae):PC prog 219 [.agg x.ah7] J (fun r J'=>r=.i .i64 (single x)∧J'=J):=by
 refine PC.intro func219 acI fun bj dx=>ax ?_;simp only[WY,It.ah7,SS,seval];simp only[VV,seval];refine az (qh x _) rfl ?_;simp only[VV,seval];refine⟨fun h=>?_,fun h=>?_⟩
 ·exact bF bj (.inr rfl) (by simp only[RS,seval];rfl) (by simp only[LW]) ⟨by simp only[one,single,h,aL],rfl⟩
 ·refine az (oY x _) rfl ?_;simp only[VV,seval];exact bF bj (.inr rfl) (by simp only[RS,seval];rfl) (by simp only[LW]) ⟨by simp only[one,single,h,aK,aF],rfl⟩
theorem GX(a b:It)(J:ae):PC prog 218 [.agg a.ah7,.agg b.ah7] J (fun r J'=>r=.fi [.i .i64 ((dj a b).getD 0),.b (dj a b).isSome]∧J'=J):=by
 refine PC.intro func218 acJ fun bj dx=>ax ?_
 have fin:∀ (w:Int) (q:Bool) {fr:List V} {loc:ae},(dj a b).getD 0=w→(dj a b).isSome=q→fr.getD 4 .u=.i .i64 w→fr.getD 5 .u=.b q→qd prog J.length [.t 4,.t 5] (fun r J'=>r=.fi [.i .i64 ((dj a b).getD 0),.b (dj a b).isSome]∧J'=J) .ret ⟨fr,J++loc⟩:=fun w q _ _ hw hq hf hg =>
  bF (xs:=[.i .i64 w,.b q]) bj (.inr rfl) (by simp only[jt,sA,hf,hg]) (by simp only[LW]) ⟨by rw[hw,hq];rfl,rfl⟩
 clear dx;simp only[WZ,It.ah7,SS,seval];cases hs:jK a b with
 | true =>
  simp only[↓IT,VV,seval];refine az (sC a b _) rfl ?_;simp only[hs,↓IT,VV,seval];exact fin 0 true (by simp[dj,hs]) (by simp[dj,hs]) rfl rfl
 | false =>
  simp only[↓IT,VV,seval];refine az (sC a b _) rfl ?_;simp only[hs,↓IT,VV,seval];refine⟨fun h=>?_,fun h=>?_⟩
  ·have h2:dj a b=none:=by
    simp only[da,lg,gm,aY]at h
    by_cases hk:a.ah9=b.ah9
    ·have h6:¬ a.ah9=6:=by omega
     have h7:¬ (a.ah9=7∨a.ah9=8∨a.ah9=9∨a.ah9=5):=by omega
     simp[dj,hs,← hk,h6,h7]
    ·simp[dj,hs,hk]
   exact fin 0 false (by rw[h2];rfl) (by rw[h2];rfl) rfl rfl
  ·simp only[ll,bne_eq_false_iff_eq,b7]at h;obtain⟨⟨hk,h5⟩,h9⟩:=h;refine cu (by simp only[VV,seval]<;>rfl) (fun _=>Bn a _) rfl ?_;simp only[VV,seval];refine cu (by simp only[VV,seval]<;>rfl) (fun _=>Bn b _) rfl ?_;simp only[VV,seval];refine⟨fun h=>?_,fun h=>?_⟩
   ·simp only[aO,bT]at h;have h2:dj a b=some 1:=by simp[dj,hs,← hk,h.1,h.2]
    exact fin 1 true (by rw[h2];rfl) (by rw[h2];rfl) rfl rfl
   ·refine az (oY a _) rfl ?_;simp only[VV,seval]
    have h2:dj a b=some (weight a):=by
     by_cases h6:a.ah9=6
     ·have hq:(dB a==dB b)=false:=by rw[h6]at h;simpa using h
      simp only[dj,hs,← hk,h6,hq,aF,aK,gm,jw,aL]
     ·have h7:a.ah9=7∨a.ah9=8∨a.ah9=9∨a.ah9=5:=by omega
      simp only[dj,hs,← hk,h6,h7,aF,aK,gm,jw,aL]
    exact fin (weight a) true (by rw[h2];rfl) (by rw[h2];rfl) rfl rfl
theorem Qx{J:ae}{K:Exit→St→Prop}(t:It)(l:List It)(bj:bG J)(hlen:l.length<2^40):∀ (rest pre:List It),l=pre++rest →
  ((fj 5 (fh (.i .i64 (cG l t)) (fj 16 fo))) fun ZZ=>K (.exit 0) ⟨ZZ,J++[.box 150 t.ah7]⟩) →
  fp J.length prog Cs K (rest.length+1) ⟨(.sl 3 (l.map It.ah7)::uu 2 (.ptr J.length 0::uu 1 (.i .i64 (cG pre t)::uu 2 (.i .i64 l.length::.i .i64 pre.length::uu 12 [])))),J++[.box 150 t.ah7]⟩:=by
 intro rest
 induction rest with
 | nil =>
  intro pre he h1;have he:l=pre:=by simpa using he
  subst he;refine aB fun R hR=>?_;simp only[Cs,VV,seval];exact⟨fun h=>by simp at h,fun _=>h1 ..⟩
 | cons x rest ih =>
  intro pre he h1;subst he;have hlen':pre.length+1+rest.length<2^40:=by simp at hlen;omega
  have ht:=kN pre t
  have hw:IntKind.i64.wrap ((pre.length:Int)+1)=(((pre++[x]).length:Nat):Int):=by
   rw[bd (by omega)];simp
  have s5:IntKind.i64.wrap (cG pre t+1)=cG pre t+1:=IntWalk.i64_in _ (by omega);refine aB fun R hR=>?_;simp only[Cs,It.ah7,VV,seval];refine⟨fun _=>⟨by simp;omega,?_⟩,fun h=>by simp at h;omega⟩;refine az (sC x t _) rfl ?_;simp only[hw,s5,VV,seval];refine⟨fun h=>?_,fun h=>?_⟩
  ·have e:cG (pre++[x]) t=cG pre t+1:=by simp[xW,cG,h]
   exact hR _ (aZ (by rw[← e];repeat' constructor) (ih (pre++[x]) (by simp) h1))
  ·have e:cG (pre++[x]) t=cG pre t:=by simp[xW,cG,h]
   exact hR _ (aZ (by rw[← e];repeat' constructor) (ih (pre++[x]) (by simp) h1))
theorem kf(l:List It)(t:It)(hlen:l.length<2^40)(J:ae):PC prog 221 [.sl 3 (l.map It.ah7),.agg t.ah7] J (fun r J'=>r=.i .i64 (cG l t)∧J'=J):=by
 refine PC.intro func221 acG fun bj dx=>ax ?_;simp only[WW,It.ah7,SS,seval];simp only[ag,VV,seval];refine b6.aZ (fr':=(.sl 3 (l.map It.ah7)::uu 2 (.ptr J.length 0::uu 1 (.i .i64 (cG [] t)::uu 2 (.i .i64 l.length::.i .i64 ([]:List It).length::uu 12 []))))) (by repeat' constructor) (l.length+1) (Qx t l bj hlen l [] rfl ?_);simp only[JE];intros;simp only[VV,seval];exact jz bj (by simp only[RS,seval]) (by simp only[LW])
end Go.Proofs.Tryz
set_option maxRecDepth 4000
set_option maxHeartbeats 0
namespace Go.Proofs.Tryz
open Go Go.Pm Go.Bt
abbrev fT(xs:List Int):Ob:=.row 3 1 8 0 false (xs.map bR)
structure Tb (J S:ae) (a b:List It) (i ri:Nat) (cs:List V):Prop where
 len:J.length≤S.length
 YH:J.length<ri∧ri<S.length
 box:S[J.length]?=some (.box 25 cs)
 own:cs[i]?=some (.own ri 0)
 below:i<a.length→cs[i+1]?=some (.own (ri - 1) 0)∧ri - 1≠J.length∧S[ri - 1]?=some (fT (fg a b (i+1) 0))
theorem KR{J S:ae}{K:Exit→St→Prop}(a b:List It)(i ri:Nat)(cs:List V)(hT:Tb J S a b i ri cs)(ha:a.length<2^30)(hb:b.length<2^30)(hi:i≤a.length):∀ (j:Nat),j≤b.length+1 →
  ((fh (.sl 3 (a.map It.ah7)) (fh (.sl 3 (b.map It.ah7)) (fj 3 (fh (.pM J.length (a.length+1)) (fh (.i .i64 i) (fj 124 fo)))))) fun ZZ=>K (.exit 2) ⟨ZZ,S.set ri (fT (fg a b i 0))⟩) →
  fp J.length prog sD K (j+1) ⟨(.sl 3 (a.map It.ah7)::.sl 3 (b.map It.ah7)::uu 3 (.pM J.length (a.length+1)::.i .i64 i::.i .i64 ((j:Int) - 1)::uu 123 [])),S.set ri (fT (fg a b i j))⟩:=by
 intro j
 induction j with
 | zero =>
  intro hj h1;refine aB fun R hR=>?_;simp only[sD,VV,seval];exact⟨fun h=>by simp at h,fun _=>h1 ..⟩
 | succ j ih =>
  intro hj h1;have e1:((j+1:Nat):Int) - 1=(j:Int):=by omega
  refine aB fun R hR=>?_;rw[e1];have Ag:((List.map It.ah7 b).length:Int)=(b.length:Int):=by simp
  have xc:((List.map It.ah7 a).length:Int)=(a.length:Int):=by simp
  have wi:IntKind.i64.wrap ((i:Int)+1)=((i+1:Nat):Int):=bd (by omega);have wj:IntKind.i64.wrap ((j:Int)+1)=((j+1:Nat):Int):=bd (by omega);have wj2:IntKind.i64.wrap ((j:Int) - 1)=(j:Int) - 1:=IntWalk.i64_in _ (by omega)
  have s0:∀ x,(S.set ri x)[J.length]?=some (.box 25 cs):=fun x=>by
   rw[aJ (by have:=hT.YH;omega)];exact hT.box
  have s1:∀ x,(S.set ri x)[ri]?=some x:=fun x=>ar hT.YH.2;have ss:∀ x y,(S.set ri x).set ri y=S.set ri y:=fun x y=>List.set_set ..;have d0:decide ((0:Int)≤j)=true:=by simp
  have b1:=ML a b (i+1) (j+1);have b2:=ML a b (i+1) j;have b3:=ML a b i (j+1);have zb:=hT.own;have L3:((fg a b i (j+1)).map bR).length=b.length+1:=by rw[ag,uQ _ _ _ _ (by omega)]
  have r3:∀ v,((fg a b i (j+1)).map bR).set j [.i .i64 v]=((fg a b i (j+1)).set j v).map bR:=fun v=>by rw[List.map_set];rfl
  have r4:((fg a b i (j+1)).map bR).getD j []=[.i .i64 0]:=G0 (by omega)
  have fin:∀ (v:Int) {fr:List V},tIJ a b i j=v→nU fr (.sl 3 (a.map It.ah7)::.sl 3 (b.map It.ah7)::uu 3 (.pM J.length (a.length+1)::.i .i64 i::.i .i64 ((j:Int) - 1)::uu 123 [])) →
    R ⟨fr,S.set ri (.row 3 1 8 0 false (((fg a b i (j+1)).set j v).map bR))⟩:=fun v fr hv hc=>by
   rw[← hv,Kz (by omega)];exact hR _ (aZ hc (ih (by omega) h1))
  by_cases sI:i<a.length
  ·obtain⟨Fx,gv,hbl⟩:=hT.below sI
   have s2:∀ x,(S.set ri x)[ri - 1]?=some (fT (fg a b (i+1) 0)):=fun x=>by
    rw[aJ (by have:=hT.YH;omega)];exact hbl
   obtain⟨x,hx⟩:∃ x,a[i]?=some x:=⟨_,ak sI⟩;have gx:(a.map It.ah7).getD i []=x.ah7:=by simp[an,hx]
   have d1:decide ((i:Int)<a.length)=true:=by simp;omega
   have L2:((fg a b (i+1) 0).map bR).length=b.length+1:=by rw[ag,uQ _ _ _ _ (by omega)]
   have q2:eS ((fg a b (i+1) 0).map bR) j 0=some (.i .i64 (tIJ a b (i+1) j)):=ql (by omega) (by omega);have sx:=dE x;have w2:IntKind.i64.wrap (single x+tIJ a b (i+1) j)=single x+tIJ a b (i+1) j:=IntWalk.i64_in _ (by omega)
   by_cases hjm:j<b.length
   ·obtain⟨u,hu⟩:∃ u,b[j]?=some u:=⟨_,ak hjm⟩;have gu:(b.map It.ah7).getD j []=u.ah7:=by simp[an,hu]
    have d2:decide ((j:Int)<b.length)=true:=by simp;omega
    have Fs:=TO hx hu;have q1:eS ((fg a b (i+1) 0).map bR) (j+1) 0=some (.i .i64 (tIJ a b (i+1) (j+1))):=ql (by omega) (by omega);have q3:eS ((fg a b i (j+1)).map bR) (j+1) 0=some (.i .i64 (tIJ a b i (j+1))):=ql (by omega) (by omega);have su:=dE u;have w3:IntKind.i64.wrap (single u+tIJ a b i (j+1))=single u+tIJ a b i (j+1):=IntWalk.i64_in _ (by omega);simp only[Ag,xc,d0,d1,d2,gx,gu,It.ah7,sD,VV,seval];refine⟨by omega,by omega,?_⟩;refine az (GX x u _) rfl ?_;cases hc:dj x u with
    | none =>
     simp only[Ag,xc,wi,wj,wj2,d0,d1,d2,It.ah7,aD,s0,s1,ss,zb,L3,r3,r4,fT,gx,s2,Fx,L2,q2,w2,Option.isSome,Option.getD,VV,seval];refine⟨by omega,by omega,by omega,?_⟩;refine az (iY x _) rfl ?_;simp only[Ag,xc,wi,wj,wj2,d0,d1,d2,It.ah7,aD,s0,s1,ss,zb,L3,r3,r4,fT,gx,s2,Fx,L2,q2,w2,gu,q3,w3,VV,seval];refine⟨by omega,by omega,by omega,by omega,?_⟩;refine az (iY u _) rfl ?_;cases jF:decide (single u+tIJ a b i (j+1)<single x+tIJ a b (i+1) j)with
     | true =>
      simp only[Ag,xc,wi,wj,wj2,d0,d1,d2,It.ah7,aD,s0,s1,ss,zb,L3,r3,r4,fT,gx,s2,Fx,L2,q2,w2,gu,q3,w3,jF,VV,seval]
      have hv:tIJ a b i j=single u+tIJ a b i (j+1):=by
       simp only[aY,b7]at jF;simp only[Fs,hc,bK,fY,kj,jF,aL,aK]
      exact⟨by omega,by omega,by omega,by omega,fin _ hv (by repeat' constructor)⟩
     | false =>
      simp only[Ag,xc,wi,wj,wj2,d0,d1,d2,It.ah7,aD,s0,s1,ss,zb,L3,r3,r4,fT,gx,s2,Fx,L2,q2,w2,gu,q3,w3,jF,VV,seval]
      have hv:tIJ a b i j=single x+tIJ a b (i+1) j:=by
       simp only[aY,b7]at jF;simp only[Fs,hc,bK,fY,kj,jF,aL,aK]
      exact⟨by omega,by omega,by omega,by omega,fin _ hv (by repeat' constructor)⟩
    | some c =>
     have hcb:=oH hc;have w1:IntKind.i64.wrap (c+tIJ a b (i+1) (j+1))=c+tIJ a b (i+1) (j+1):=IntWalk.i64_in _ (by omega);simp only[Ag,xc,wi,wj,wj2,d0,d1,d2,It.ah7,aD,s0,s1,ss,zb,L3,r3,r4,fT,gx,s2,Fx,L2,q2,w2,q1,w1,Option.isSome,Option.getD,VV,seval];refine⟨by omega,by omega,by omega,by omega,by omega,?_⟩;refine az (iY x _) rfl ?_;cases dc:decide (single x+tIJ a b (i+1) j<c+tIJ a b (i+1) (j+1))with
     | true =>
      simp only[Ag,xc,wi,wj,wj2,d0,d1,d2,It.ah7,aD,s0,s1,ss,zb,L3,r3,r4,fT,gx,s2,Fx,L2,q2,w2,gu,q3,w3,dc,VV,seval];refine⟨by omega,by omega,by omega,by omega,?_⟩;refine az (iY u _) rfl ?_;cases jF:decide (single u+tIJ a b i (j+1)<single x+tIJ a b (i+1) j)with
      | true =>
       simp only[Ag,xc,wi,wj,wj2,d0,d1,d2,It.ah7,aD,s0,s1,ss,zb,L3,r3,r4,fT,gx,s2,Fx,L2,q2,w2,gu,q3,w3,jF,VV,seval]
       have hv:tIJ a b i j=single u+tIJ a b i (j+1):=by
        simp only[aY,b7]at dc jF;simp only[Fs,hc,bK,fY,kj,dc,jF,aL,aK]
       exact⟨by omega,by omega,by omega,by omega,fin _ hv (by repeat' constructor)⟩
      | false =>
       simp only[Ag,xc,wi,wj,wj2,d0,d1,d2,It.ah7,aD,s0,s1,ss,zb,L3,r3,r4,fT,gx,s2,Fx,L2,q2,w2,gu,q3,w3,jF,VV,seval]
       have hv:tIJ a b i j=single x+tIJ a b (i+1) j:=by
        simp only[aY,b7]at dc jF;simp only[Fs,hc,bK,fY,kj,dc,jF,aL,aK]
       exact⟨by omega,by omega,by omega,by omega,fin _ hv (by repeat' constructor)⟩
     | false =>
      simp only[Ag,xc,wi,wj,wj2,d0,d1,d2,It.ah7,aD,s0,s1,ss,zb,L3,r3,r4,fT,gx,s2,Fx,L2,q2,w2,gu,q3,w3,dc,VV,seval];refine⟨by omega,by omega,by omega,by omega,?_⟩;refine az (iY u _) rfl ?_;cases jF:decide (single u+tIJ a b i (j+1)<c+tIJ a b (i+1) (j+1))with
      | true =>
       simp only[Ag,xc,wi,wj,wj2,d0,d1,d2,It.ah7,aD,s0,s1,ss,zb,L3,r3,r4,fT,gx,s2,Fx,L2,q2,w2,gu,q3,w3,jF,VV,seval]
       have hv:tIJ a b i j=single u+tIJ a b i (j+1):=by
        simp only[aY,b7]at dc jF;simp only[Fs,hc,bK,fY,kj,dc,jF,aL,aK]
       exact⟨by omega,by omega,by omega,by omega,fin _ hv (by repeat' constructor)⟩
      | false =>
       simp only[Ag,xc,wi,wj,wj2,d0,d1,d2,It.ah7,aD,s0,s1,ss,zb,L3,r3,r4,fT,gx,s2,Fx,L2,q2,w2,gu,q3,w3,jF,VV,seval]
       have hv:tIJ a b i j=c+tIJ a b (i+1) (j+1):=by
        simp only[aY,b7]at dc jF;simp only[Fs,hc,bK,fY,kj,dc,jF,aL,aK]
       exact⟨by omega,by omega,by omega,by omega,fin _ hv (by repeat' constructor)⟩
   ·have hje:j=b.length:=by omega
    have d2:decide ((j:Int)<b.length)=false:=by simp;omega
    simp only[Ag,xc,d0,d1,d2,gx,It.ah7,sD,VV,seval];have hv:tIJ a b i j=single x+tIJ a b (i+1) j:=by rw[hje];exact P7 hx
    simp only[Ag,xc,wi,wj,wj2,d0,d1,d2,It.ah7,aD,s0,s1,ss,zb,L3,r3,r4,fT,gx,s2,Fx,L2,q2,w2,VV,seval];refine⟨by omega,by omega,by omega,?_⟩;refine az (iY x _) rfl ?_;simp only[Ag,xc,wi,wj,wj2,d0,d1,d2,It.ah7,aD,s0,s1,ss,zb,L3,r3,r4,fT,gx,s2,Fx,L2,q2,w2,VV,seval];exact⟨by omega,by omega,by omega,by omega,fin _ hv (by repeat' constructor)⟩
  ·have Z0:i=a.length:=by omega
   have d1:decide ((i:Int)<a.length)=false:=by simp;omega
   by_cases hjm:j<b.length
   ·obtain⟨u,hu⟩:∃ u,b[j]?=some u:=⟨_,ak hjm⟩;have gu:(b.map It.ah7).getD j []=u.ah7:=by simp[an,hu]
    have d2:decide ((j:Int)<b.length)=true:=by simp;omega
    have q3:eS ((fg a b i (j+1)).map bR) (j+1) 0=some (.i .i64 (tIJ a b i (j+1))):=ql (by omega) (by omega);have su:=dE u;have w3:IntKind.i64.wrap (single u+tIJ a b i (j+1))=single u+tIJ a b i (j+1):=IntWalk.i64_in _ (by omega);have hv:tIJ a b i j=single u+tIJ a b i (j+1):=by rw[Z0];exact TP hu
    simp only[Ag,xc,d0,d1,d2,gu,It.ah7,sD,VV,seval];simp only[Ag,xc,wi,wj,wj2,d0,d1,d2,It.ah7,aD,s0,s1,ss,zb,L3,r3,r4,fT,gu,q3,w3,VV,seval];refine⟨by omega,by omega,by omega,?_⟩;refine az (iY u _) rfl ?_;simp only[Ag,xc,wi,wj,wj2,d0,d1,d2,It.ah7,aD,s0,s1,ss,zb,L3,r3,r4,fT,gu,q3,w3,VV,seval];exact⟨by omega,by omega,by omega,by omega,fin _ hv (by repeat' constructor)⟩
   ·have hje:j=b.length:=by omega
    have d2:decide ((j:Int)<b.length)=false:=by simp;omega
    have hv:tIJ a b i j=0:=by rw[Z0,hje];exact TQ a b
    simp only[Ag,xc,d0,d1,d2,It.ah7,sD,VV,seval];simp only[Ag,xc,wi,wj,wj2,d0,d1,d2,It.ah7,aD,s0,s1,ss,zb,L3,r3,r4,fT,VV,seval];exact⟨by omega,by omega,by omega,fin _ hv (by repeat' constructor)⟩
end Go.Proofs.Tryz
set_option maxRecDepth 4000
set_option maxHeartbeats 0
namespace Go.Proofs.Tryz
open Go Go.Pm Go.Bt
def jB(base:Nat):Nat→List V
 | 0=>[]
 | d+1=>.own (base+d) 0::jB base d
def mw(a b:List It)(d:Nat):ae:=(List.range d).map fun q=>fT (fg a b (a.length - q) 0)
theorem KB(base d:Nat):(jB base d).length=d:=by
 induction d with
 | zero=>rfl
 | succ d ih=>simp[jB,ih]
theorem ka(a b:List It)(d:Nat):(mw a b d).length=d:=by simp[mw]
theorem sv(a b:List It)(d:Nat):mw a b (d+1)=mw a b d++[fT (fg a b (a.length - d) 0)]:=by
 simp[mw,Ai]
theorem Ef{J:ae}(B:Ob)(l:ae)(y z:Ob):(J++B::(l++[z])).set (J.length+1+l.length) y=J++B::(l++[y]):=by
 rw[cd _ _ (by omega)];have:J.length+1+l.length - J.length=l.length+1:=by omega
 rw[this,iD,cd _ _ (aq _)];simp
theorem KQ{J:ae}{K:Exit→St→Prop}(a b:List It)(ha:a.length<2^30)(hb:b.length<2^30):∀ (s:Nat),s≤a.length+1 →
  ((fj 5 (fh (.pM J.length (a.length+1)) (fj 125 fo))) fun ZZ=>K (.exit 0) ⟨ZZ,J++(.box 25 (jB (J.length+1) (a.length+1))::mw a b (a.length+1))⟩) →
  fp J.length prog CH K (s+1) ⟨(.sl 3 (a.map It.ah7)::.sl 3 (b.map It.ah7)::uu 3 (.pM J.length (a.length+1)::.i .i64 ((s:Int) - 1)::uu 124 [])),J++(.box 25 (List.replicate s .nil++jB (J.length+1) (a.length+1 - s))::mw a b (a.length+1 - s))⟩:=by
 intro s
 induction s with
 | zero =>
  intro hs h1;refine aB fun R hR=>?_;simp only[CH,Gk,rN,VV,seval];exact⟨fun h=>by simp at h,fun _=>h1 ..⟩
 | succ i ih =>
  intro hs h1;have e1:((i+1:Nat):Int) - 1=(i:Int):=by omega
  have hlb:((List.map It.ah7 b).length:Int)=(b.length:Int):=by simp
  have wb:IntKind.i64.wrap ((b.length:Int)+1)=((b.length+1:Nat):Int):=bd (by omega);have wi2:IntKind.i64.wrap ((i:Int) - 1)=(i:Int) - 1:=IntWalk.i64_in _ (by omega);have d0:decide ((0:Int)≤i)=true:=by simp
  obtain⟨d,hd⟩:∃ d,d=a.length - i:=⟨_,rfl⟩;have V8:a.length+1 - (i+1)=d:=by omega
  refine aB fun R hR=>?_;rw[e1,V8];simp only[CH,hlb,wb,d0,wi2,aD,VV,seval];have Ll:((b.length+1:Nat):Int)≤maxLen:=dq (show _≤(2^62:Int)by omega) (by decide);refine⟨⟨by omega,Or.inl trivial,by omega,by omega,Ll⟩,by omega,by simp[KB],?_⟩
  have mi:List.take i (List.replicate (i+1) V.nil++jB (J.length+1) d)++V.own (J.length+((mw a b d).length+1)) 0::List.drop (i+1) (List.replicate (i+1) V.nil++jB (J.length+1) d)=List.replicate i V.nil++jB (J.length+1) (d+1):=by
   rw[List.take_append_of_le_length (by simp),List.take_replicate,List.drop_append,List.drop_replicate,ka];have e2:min i (i+1)=i:=by omega
   have e3:J.length+(d+1)=J.length+1+d:=by omega
   simp[jB,e2,e3]
  have UF:List.replicate (b.length+1) [V.i .i64 0]=(fg a b i (b.length+1)).map bR:=by rw[EG];simp[bR]
  rw[mi,UF]
  have hS:J++Ob.box 25 (List.replicate i V.nil++jB (J.length+1) (d+1))::(mw a b d++[fT (fg a b i (b.length+1))]) =
    (J++Ob.box 25 (List.replicate i V.nil++jB (J.length+1) (d+1))::(mw a b d++[fT []])).set (J.length+1+d) (fT (fg a b i (b.length+1))):=by
   have:=Ef (J:=J) (Ob.box 25 (List.replicate i V.nil++jB (J.length+1) (d+1))) (mw a b d) (fT (fg a b i (b.length+1))) (fT []);rw[ka]at this;exact this.symm
  have hT:Tb J (J++Ob.box 25 (List.replicate i V.nil++jB (J.length+1) (d+1))::(mw a b d++[fT []])) a b i (J.length+1+d) (List.replicate i V.nil++jB (J.length+1) (d+1)):=by
   refine⟨by simp,by simp[ka];omega,by simp,?_,fun hi=>⟨?_,by omega,?_⟩⟩
   ·rw[aA (by simp)];simp[jB]
   ·obtain⟨d',rfl⟩:∃ d',d=d'+1:=⟨d - 1,by omega⟩;rw[aA (by simp)];simp[jB]
   ·obtain⟨d',rfl⟩:∃ d',d=d'+1:=⟨d - 1,by omega⟩;have e4:J.length+1+(d'+1) - 1=J.length+(d'+1):=by omega
    have e5:a.length - d'=i+1:=by omega
    rw[e4,aA (by omega)];have e6:J.length+(d'+1) - J.length=d'+1:=by omega
    rw[e6,bI,ah (by simp[ka]),sv,aA (by simp[ka])];simp[ka,e5]
  have key:=KR (K:=vC 2 (vC 1 (GN (xt J.length prog (bD.au [] [{ d:=some 22,g:=[],i:=I.aS (O.t 6) },{ d:=some 23,g:=[],i:=I.bin BinOp.sub (O.t 22) (O.c (V.i IntKind.i64 1)) },{ d:=some 6,g:=[],i:=I.aS (O.t 23) }]) (Au R K)) (Au R K)))) a b i (J.length+1+d) _ hT ha hb (by omega) (b.length+1) (aq _) ?_
  ·have zd:((b.length+1:Nat):Int) - 1=(b.length:Int):=by omega
   rw[← hS,zd]at key;refine b6.aZ (by repeat' constructor) (b.length+1+1) key
  ·simp only[JE];intros;simp only[wi2,VV,seval];have UZ:=Ef (J:=J) (Ob.box 25 (List.replicate i V.nil++jB (J.length+1) (d+1))) (mw a b d) (fT (fg a b i 0)) (fT []);have e7:a.length - d=i:=by omega
   have S2:=sv a b d;rw[e7]at S2;rw[ka]at UZ;rw[UZ,← S2];have e8:a.length+1 - i=d+1:=by omega
   have k:=ih (by omega) h1;rw[e8]at k;exact hR _ (aZ (by repeat' constructor) k)
def A7(a b:List It)(n:Nat):ae:=.box 25 (jB (n+1) (a.length+1))::mw a b (a.length+1)
theorem Eu(a b:List It)(ha:a.length<2^30)(hb:b.length<2^30)(J:ae):PC prog 173 [.sl 3 (a.map It.ah7),.sl 3 (b.map It.ah7)] J (fun r J'=>r=.pM J.length (a.length+1)∧J'=J++A7 a b J.length):=by
 refine PC.intro func173 adb fun bj dx=>ax ?_;simp only[Xr,SS,seval];have wa:IntKind.i64.wrap ((a.length:Int)+1)=((a.length+1:Nat):Int):=bd (by omega);have Ll:((a.length+1:Nat):Int)≤maxLen:=dq (show _≤(2^62:Int)by omega) (by decide);simp only[ag,wa,aD,VV,seval];refine⟨⟨by omega,by omega,Ll⟩,?_⟩;have k:=KQ (J:=J) (K:=vC 0 (GN (xt J.length prog ((bD.au [] [{ d:=some 130,g:=[],i:=I.aS (O.t 5) },{ d:=some 4,g:=[],i:=I.aS (O.t 130) }]).seq bD.ret) (qd prog J.length [Rs.t 4] fun r J'=>r=V.pM J.length (a.length+1)∧J'=J++A7 a b J.length)) (qd prog J.length [Rs.t 4] fun r J'=>r=V.pM J.length (a.length+1)∧J'=J++A7 a b J.length))) a b ha hb (a.length+1) (aq _) ?_
 ·have e1:((a.length+1:Nat):Int) - 1=(a.length:Int):=by omega
  have e2:a.length+1 - (a.length+1)=0:=by omega
  rw[e1,e2]at k;simp only[jB,bV,mw,List.range_zero,bo]at k;exact b6.aZ (by repeat' constructor) (a.length+1+1) k
 ·simp only[JE];intros;simp only[VV,seval];exact eP (.inr rfl) rfl (Wk.refl _ _) rfl ⟨rfl,rfl⟩
theorem jY(x:It)(J:ae):PC prog 184 [.agg x.ah7] J (fun r J'=>r=.i .i64 (weight x)∧J'=J):=by
 refine PC.intro func184 ac0 fun bj dx=>ax ?_;obtain⟨k,t,d⟩:=x;simp only[Xg,It.ah7,SS,seval]
 have fin:∀ (w:Int) {fr:List V} {loc:ae},weight ⟨k,t,d⟩=w→fr.getD 2 .u=.i .i64 w→qd prog J.length [.t 2] (fun r J'=>r=.i .i64 (weight ⟨k,t,d⟩)∧J'=J) .ret ⟨fr,J++loc⟩:=fun w _ _ hw hf =>
  bF (xs:=[.i .i64 w]) bj (.inr rfl) (by simp only[jt,sA,hf]) (by simp only[LW]) ⟨by rw[hw];rfl,rfl⟩
 rcases nV (k=6∨k=5∨k=7∨k=2∨k=3∨k=4∨k=9∨k=8)with hk | hk
 ·rcases hk with rfl | rfl | rfl | rfl | rfl | rfl | rfl | rfl
  all_goals
   simp only[↓IT,VV,seval];exact fin _ rfl rfl
 ·have e:∀ n:Int,(n=6∨n=5∨n=7∨n=2∨n=3∨n=4∨n=9∨n=8)→(k==n)=false:=fun n h=>by
   simp only[cI];rintro rfl;exact hk h
  simp only[e 6 (by simp),e 5 (by simp),e 7 (by simp),e 2 (by simp),e 3 (by simp),e 4 (by simp),e 9 (by simp),e 8 (by simp),↓IT,VV,seval];exact fin 0 (by simp only[weight];rw[aI (by omega),aI (by omega),aI (by omega),aI (by omega)]) rfl
theorem QA{J:ae}{K:Exit→St→Prop}(l:List It)(bj:bG J)(hlen:l.length<2^40):∀ (rest pre:List It),l=pre++rest →
  ((fj 3 (fh (.i .i64 (fI l)) (fj 14 fo))) fun ZZ=>K (.exit 0) ⟨ZZ,J⟩) →
  fp J.length prog CA K (rest.length+1) ⟨(uu 3 (.i .i64 (fI pre)::uu 2 (.sl 3 (l.map It.ah7)::.i .i64 l.length::.i .i64 pre.length::uu 9 []))),J⟩:=by
 intro rest
 induction rest with
 | nil =>
  intro pre he h1;have he:l=pre:=by simpa using he
  subst he;refine aB fun R hR=>?_;simp only[CA,VV,seval];exact⟨fun h=>by simp at h,fun _=>h1 ..⟩
 | cons x rest ih =>
  intro pre he h1;subst he;have hlen':pre.length+1+rest.length<2^40:=by simp at hlen;omega
  have ht:=s9 pre;have hx:=kM x
  have hw:IntKind.i64.wrap ((pre.length:Int)+1)=(((pre++[x]).length:Nat):Int):=by
   rw[bd (by omega)];simp
  have PF:IntKind.i64.wrap (fI pre+weight x)=fI (pre++[x]):=by
   rw[IntWalk.i64_in _ (by omega)];simp[fI]
  refine aB fun R hR=>?_;simp only[CA,It.ah7,VV,seval];refine⟨fun _=>⟨by simp;omega,?_⟩,fun h=>by simp at h;omega⟩;refine az (jY x _) rfl ?_;simp only[VV,seval];simp only[hw,PF];refine hR _ (oh (aq _) bj ?_ ?_ (ih (pre++[x]) (by simp) h1))
  ·repeat' constructor
  ·simp only[LW]
theorem xT(l:List It)(hlen:l.length<2^40)(J:ae):PC prog 181 [.sl 3 (l.map It.ah7)] J (fun r J'=>r=.i .i64 (fI l)∧J'=J):=by
 refine PC.intro func181 ac3 fun bj dx=>ax ?_;simp only[Xj,SS,seval];simp only[ag,VV,seval];refine b6.aZ (fr':=(uu 3 (.i .i64 (fI [])::uu 2 (.sl 3 (l.map It.ah7)::.i .i64 l.length::.i .i64 ([]:List It).length::uu 9 [])))) (by repeat' constructor) (l.length+1) (QA l bj hlen l [] rfl ?_);simp only[JE];intros;simp only[VV,seval];exact aU (.inr rfl) rfl ⟨rfl,rfl⟩
theorem mu(a b:It)(J:ae):PC prog 251 [.agg a.ah7,.agg b.ah7] J (fun r J'=>r=.b (jK a b)∧J'=J):=by
 refine PC.intro func251 acw fun bj dx=>ax ?_;simp only[WL,It.ah7,SS,seval];simp only[VV,seval];exact jz bj (by simp only[RS,seval];rfl) (by simp only[LW])
theorem qW(x:It)(J:ae):PC prog 224 [.agg x.ah7] J (fun r J'=>r=.s (dB x)∧J'=J):=by
 refine PC.intro func224 acE fun bj dx=>ax ?_;simp only[WU,It.ah7,SS,seval];simp only[VV,seval];refine⟨fun h=>?_,fun h=>?_⟩
 ·refine az (Nu x.aib _) rfl ?_;simp only[VV,seval];simp only[bT]at h;exact bF bj (.inr rfl) (by simp only[RS,seval];rfl) (by simp only[LW]) ⟨by simp only[one,dB,h,aL],rfl⟩
 ·simp only[cI,gm]at h;exact bF bj (.inr rfl) (by simp only[RS,seval];rfl) (by simp only[LW]) ⟨by simp only[one,dB,h,aK],rfl⟩
theorem vk(x:It)(J:ae):PC prog 250 [.agg x.ah7] J (fun r J'=>r=.b (bW x)∧J'=J):=by
 refine PC.intro func250 acx fun bj dx=>ax ?_;simp only[WM,It.ah7,SS,seval];simp only[VV,seval];exact jz bj (by simp only[RS,seval];rfl) (by simp only[LW])
theorem rf(x:It)(J:ae):PC prog 213 [.agg x.ah7] J (fun r J'=>r=.i .i64 (single x)∧J'=J):=by
 refine PC.intro func213 acO fun bj dx=>ax ?_;simp only[W4,It.ah7,SS,seval];simp only[VV,seval];refine az (vk x _) rfl ?_;simp only[VV,seval];refine⟨fun h=>?_,fun h=>?_⟩
 ·exact bF bj (.inr rfl) (by simp only[RS,seval];rfl) (by simp only[LW]) ⟨by simp only[one,single,h,aL],rfl⟩
 ·refine az (jY x _) rfl ?_;simp only[VV,seval];exact bF bj (.inr rfl) (by simp only[RS,seval];rfl) (by simp only[LW]) ⟨by simp only[one,single,h,aK,aF],rfl⟩
theorem Sg(a b:It)(J:ae):PC prog 214 [.agg a.ah7,.agg b.ah7] J (fun r J'=>r=.fi [.i .i64 ((dj a b).getD 0),.b (dj a b).isSome]∧J'=J):=by
 refine PC.intro func214 acN fun bj dx=>ax ?_
 have fin:∀ (w:Int) (q:Bool) {fr:List V} {loc:ae},(dj a b).getD 0=w→(dj a b).isSome=q→fr.getD 4 .u=.i .i64 w→fr.getD 5 .u=.b q→qd prog J.length [.t 4,.t 5] (fun r J'=>r=.fi [.i .i64 ((dj a b).getD 0),.b (dj a b).isSome]∧J'=J) .ret ⟨fr,J++loc⟩:=fun w q _ _ hw hq hf hg =>
  bF (xs:=[.i .i64 w,.b q]) bj (.inr rfl) (by simp only[jt,sA,hf,hg]) (by simp only[LW]) ⟨by rw[hw,hq];rfl,rfl⟩
 clear dx;simp only[W3,It.ah7,SS,seval];cases hs:jK a b with
 | true =>
  simp only[↓IT,VV,seval];refine az (mu a b _) rfl ?_;simp only[hs,↓IT,VV,seval];exact fin 0 true (by simp[dj,hs]) (by simp[dj,hs]) rfl rfl
 | false =>
  by_cases hk:a.ah9=b.ah9
  ·have hn:(a.ah9 != b.ah9)=false:=by simpa using hk
   by_cases h6:a.ah9=6
   ·have e6:(a.ah9==6)=true:=by simpa using h6
    simp only[↓IT,VV,seval];refine az (mu a b _) rfl ?_;simp only[hs,hn,e6,↓IT,VV,seval];refine az (qW a _) rfl ?_;simp only[↓IT,VV,seval];refine az (qW b _) rfl ?_;simp only[VV,seval];refine⟨fun h=>?_,fun h=>?_⟩
    ·exact fin 1 true (by simp[dj,hs,← hk,h6,h]) (by simp[dj,hs,← hk,h6,h]) rfl rfl
    ·refine az (jY a _) rfl ?_;simp only[VV,seval];exact fin (weight a) true (by simp[dj,hs,← hk,h6,h]) (by simp[dj,hs,← hk,h6,h]) rfl rfl
   ·have e6:(a.ah9==6)=false:=by simpa using h6
    by_cases h7:a.ah9=7∨a.ah9=8∨a.ah9=9∨a.ah9=5
    ·have ew:dj a b=some (weight a):=by simp[dj,hs,← hk,h6,h7]
     have e7:(a.ah9==7)=false∨(a.ah9==7)=true:=by cases(a.ah9==7)<;>simp
     have e8:(a.ah9==8)=false∨(a.ah9==8)=true:=by cases(a.ah9==8)<;>simp
     have e9:(a.ah9==9)=false∨(a.ah9==9)=true:=by cases(a.ah9==9)<;>simp
     have e5:(a.ah9==5)=false∨(a.ah9==5)=true:=by cases(a.ah9==5)<;>simp
     simp only[↓IT,VV,seval];refine az (mu a b _) rfl ?_;rcases e7 with e7 | e7<;>rcases e8 with e8 | e8<;>rcases e9 with e9 | e9<;>rcases e5 with e5 | e5<;>first | (exfalso;simp at e7 e8 e9 e5;omega) | skip
     all_goals
      simp only[hs,hn,e6,e7,e8,e9,e5,↓IT,VV,seval];refine az (jY a _) rfl ?_;simp only[VV,seval];exact fin (weight a) true (by rw[ew];rfl) (by rw[ew];rfl) rfl rfl
    ·have ew:dj a b=none:=by simp[dj,hs,← hk,h6,h7]
     have e7:(a.ah9==7)=false:=by simp;omega
     have e8:(a.ah9==8)=false:=by simp;omega
     have e9:(a.ah9==9)=false:=by simp;omega
     have e5:(a.ah9==5)=false:=by simp;omega
     simp only[↓IT,VV,seval];refine az (mu a b _) rfl ?_;simp only[hs,hn,e6,e7,e8,e9,e5,↓IT,VV,seval];exact fin 0 false (by rw[ew];rfl) (by rw[ew];rfl) rfl rfl
  ·have hn:(a.ah9 != b.ah9)=true:=by simpa using hk
   simp only[↓IT,VV,seval];refine az (mu a b _) rfl ?_;simp only[hs,hn,↓IT,VV,seval];exact fin 0 false (by simp[dj,hs,hk]) (by simp[dj,hs,hk]) rfl rfl
theorem km{α:Type}{ke:α→V}(n:Nat)(C:List (α×Int)):eI n ((emap ke dX C).map (·.2)):=mO fun x hx=>by
 obtain⟨k,_,rfl⟩:=bH.1 hx;exact .i _ _
theorem oF{α β:Type}{ke:α→V}{ve:β→V}(C:List (α×β)):(emap ke ve C).length=C.length:=by simp[emap]
theorem KL{J:ae}{K:Exit→St→Prop}(lb l:List It)(bj:bG J)(hlen:l.length<2^38):∀ (rest pre:List It) (C:List (TK×Int)) (n:Nat),l=pre++rest→CB n C→n+rest.length<2^39 →
  ((fj 1 (fh (.sl 3 (lb.map It.ah7)) (fj 3 (fh (.mp J.length) (fj 60 fo))))) fun ZZ=>K (.exit 0) ⟨ZZ,J++[.map 150 3 (emap ij dX (eE 1 C rest))]⟩) →
  fp J.length prog Cw K (rest.length+1) ⟨(uu 1 (.sl 3 (lb.map It.ah7)::uu 3 (.mp J.length::uu 8 (.sl 3 (l.map It.ah7)::.i .i64 l.length::.i .i64 pre.length::uu 49 [])))),J++[.map 150 3 (emap ij dX C)]⟩:=by
 intro rest
 induction rest with
 | nil =>
  intro pre C n he hC hn h1;have he:l=pre:=by simpa using he
  subst he;refine aB fun R hR=>?_;simp only[Cw,VV,seval];exact⟨fun h=>by simp at h,fun _=>h1 ..⟩
 | cons x rest ih =>
  intro pre C n he hC hn h1;subst he;have hlen':pre.length+1+rest.length<2^38:=by simp at hlen;omega
  have hw:IntKind.i64.wrap ((pre.length:Int)+1)=(((pre++[x]).length:Nat):Int):=by
   rw[bd (by omega)];simp
  simp only[ai]at hn;have hg:=hC.getD (dv x);have hv:∀ b,(bS (dv x) C).getD 0=b→IntKind.i64.wrap (b+1)=b+1:=fun b hb=>IntWalk.i64_in _ (by rw[hb]at hg;have:=hg.1;have:=hg.2;omega);have fM:∀ C,bG (J++[.map 150 3 (emap ij dX C)]):=fun C=>cj bj (by simp[km]);refine aB fun R hR=>?_;simp only[Cw,It.ah7,VV,seval];refine⟨fun _=>⟨by simp;omega,?_⟩,fun h=>by simp at h;omega⟩;refine az (vk x _) rfl ?_;simp only[hw,VV,seval];refine⟨fun ht=>?_,fun ht=>?_⟩
  ·have e:eE 1 C (x::rest)=eE 1 (bump C (dv x) 1) rest:=by simp only[eE,ht,aL]
   rw[e]at h1;have hB:=hC.bump (dv x) 1 (by omega);rcases qG xU C (dv x)with⟨g1,g2,g3,g4,g5⟩ | ⟨i,b,g1,g2,g3,g4⟩
   ·have hz:IntKind.i64.wrap 1=1:=by decide
    have vg:bump C (dv x) 1=eO C (dv x) 1:=by simp[bump,g1]
    rw[vg]at hB h1;simp only[ij,dv]at g2 g3 g4 g5;simp only[cN,g2,g3,g4,g5,hz,cX,V.iL,V.cell,VV,seval];simp only[hw,hz];refine hR _ (b5 [_] [_,_] (fM _) ?_ ?_ (ih (pre++[x]) _ (n+1) (by simp) hB (by omega) h1))
    ·repeat' constructor
    ·simp only[LW,ai,aC,bz];omega
   ·have hz:=hv b (by rw[g1];rfl);have vg:bump C (dv x) 1=eO C (dv x) (b+1):=by simp[bump,g1]
    rw[vg]at hB h1;simp only[ij,dv]at g2 g3 g4;simp only[cN,g2,g3,g4,hz,cX,V.iL,V.cell,VV,seval];simp only[hw,hz];refine hR _ (b5 [_] [_,_] (fM _) ?_ ?_ (ih (pre++[x]) _ (n+1) (by simp) hB (by omega) h1))
    ·repeat' constructor
    ·simp only[LW,ai,aC,bz];omega
  ·have e:eE 1 C (x::rest)=eE 1 C rest:=by simp only[eE,ht,aK,aF]
   rw[e]at h1;refine hR _ (b5 [_] [_] (fM _) ?_ ?_ (ih (pre++[x]) C n (by simp) hC (by omega) h1))
   ·repeat' constructor
   ·simp only[LW,ai,aC,bz];omega
theorem KK{J:ae}{K:Exit→St→Prop}(l:List It)(bj:bG J)(hlen:l.length<2^38):∀ (rest pre:List It) (C:List (TK×Int)) (n:Nat),l=pre++rest→CB n C→n+rest.length<2^39 →
  ((fj 5 (fh (.mp J.length) (fj 60 fo))) fun ZZ=>K (.exit 2) ⟨ZZ,J++[.map 150 3 (emap ij dX (eE (-1) C rest))]⟩) →
  fp J.length prog Cu K (rest.length+1) ⟨(uu 5 (.mp J.length::uu 27 (.sl 3 (l.map It.ah7)::.i .i64 l.length::.i .i64 pre.length::uu 30 []))),J++[.map 150 3 (emap ij dX C)]⟩:=by
 intro rest
 induction rest with
 | nil =>
  intro pre C n he hC hn h1;have he:l=pre:=by simpa using he
  subst he;refine aB fun R hR=>?_;simp only[Cu,VV,seval];exact⟨fun h=>by simp at h,fun _=>h1 ..⟩
 | cons x rest ih =>
  intro pre C n he hC hn h1;subst he;have hlen':pre.length+1+rest.length<2^38:=by simp at hlen;omega
  have hw:IntKind.i64.wrap ((pre.length:Int)+1)=(((pre++[x]).length:Nat):Int):=by
   rw[bd (by omega)];simp
  simp only[ai]at hn;have hg:=hC.getD (dv x);have hv:∀ b,(bS (dv x) C).getD 0=b→IntKind.i64.wrap (b - 1)=b - 1:=fun b hb=>IntWalk.i64_in _ (by rw[hb]at hg;have:=hg.1;have:=hg.2;omega);have fM:∀ C,bG (J++[.map 150 3 (emap ij dX C)]):=fun C=>cj bj (by simp[km]);refine aB fun R hR=>?_;simp only[Cu,It.ah7,VV,seval];refine⟨fun _=>⟨by simp;omega,?_⟩,fun h=>by simp at h;omega⟩;refine az (vk x _) rfl ?_;simp only[hw,VV,seval];refine⟨fun ht=>?_,fun ht=>?_⟩
  ·have e:eE (-1) C (x::rest)=eE (-1) (bump C (dv x) (-1)) rest:=by simp only[eE,ht,aL]
   rw[e]at h1;have hB:=hC.bump (dv x) (-1) (by omega);rcases qG xU C (dv x)with⟨g1,g2,g3,g4,g5⟩ | ⟨i,b,g1,g2,g3,g4⟩
   ·have hz:IntKind.i64.wrap (-1) = -1:=by decide
    have vg:bump C (dv x) (-1)=eO C (dv x) (-1):=by simp[bump,g1]
    rw[vg]at hB h1;simp only[ij,dv]at g2 g3 g4 g5;simp only[cN,g2,g3,g4,g5,hz,cX,V.iL,V.cell,VV,seval];simp only[hw,hz];refine hR _ (b5 [_] [_,_] (fM _) ?_ ?_ (ih (pre++[x]) _ (n+1) (by simp) hB (by omega) h1))
    ·repeat' constructor
    ·simp only[LW,ai,aC,bz];omega
   ·have hz:=hv b (by rw[g1];rfl);have vg:bump C (dv x) (-1)=eO C (dv x) (b - 1):=by simp[bump,g1];rfl
    rw[vg]at hB h1;simp only[ij,dv]at g2 g3 g4;simp only[cN,g2,g3,g4,hz,cX,V.iL,V.cell,VV,seval];simp only[hw,hz];refine hR _ (b5 [_] [_,_] (fM _) ?_ ?_ (ih (pre++[x]) _ (n+1) (by simp) hB (by omega) h1))
    ·repeat' constructor
    ·simp only[LW,ai,aC,bz];omega
  ·have e:eE (-1) C (x::rest)=eE (-1) C rest:=by simp only[eE,ht,aK,aF]
   rw[e]at h1;refine hR _ (b5 [_] [_] (fM _) ?_ ?_ (ih (pre++[x]) C n (by simp) hC (by omega) h1))
   ·repeat' constructor
   ·simp only[LW,ai,aC,bz];omega
theorem KJ{J:ae}{K:Exit→St→Prop}(C:List (TK×Int))(m:Nat)(hC:CB m C)(hK:iN C)(hm:m<2^39)(S:Int)(h60:S≤2^60):∀ (N:Nat) (ps:List Nat) (cur:Option Nat) (acc:Int),ps.length≤N→ps.Nodup→(∀ p∈ps,p<C.length)→0≤acc →
  acc+pz (fun i=>2*max (C.getD i ((0,[]),0)).2 (-(C.getD i ((0,[]),0)).2)) ps=S →
  (∀ ps cur,((fj 10 (fh (.i .i64 S) (fj 55 fo))) fun ZZ=>K (.exit 4) ⟨ZZ,J++[.map 150 3 (emap ij dX C),.iter false J.length 3 (emap ij dX C).length ps cur]⟩)) →
  fp J.length prog Ct K (N+1) ⟨(uu 5 (.mp J.length::uu 4 (.i .i64 acc::uu 42 (.it (J.length+1)::uu 12 [])))),J++[.map 150 3 (emap ij dX C),.iter false J.length 3 (emap ij dX C).length ps cur]⟩:=by
 intro N
 induction N with
 | zero =>
  intro ps cur acc hl nz hp ha hs h1;have lq:ps=[]:=aG (by omega);subst lq;have:acc=S:=by simpa[pz]using hs
  subst this;refine aB fun R hR=>?_;simp only[Ct,VV,seval];exact h1 _ _ ..
 | succ N ih =>
  intro ps cur acc hl nz hp ha hs h1;refine aB fun R hR=>?_;simp only[Ct,VV,seval];refine⟨fun lq=>?_,fun q hq=>?_⟩
  ·subst lq;have:acc=S:=by simpa[pz]using hs
   subst this;exact h1 _ _ ..
  ·have BE:=hp q hq;rw[Ca _ nz hq]at hs;have PI:=B9 (fun i=>2*max (C.getD i ((0,[]),0)).2 (-(C.getD i ((0,[]),0)).2)) (fun i=>by omega) (ps.filter fun i=>i != q);have eA:=uc (ke:=ij) (ve:=dX) C ((0,[]),0) BE;have hb:=hC.2 _ _ (kh hK (tW (d:=((0,[]),0)) BE));generalize hv:(C.getD q ((0,[]),0)).2=v at hs eA hb;have e1:IntKind.i64.wrap (0 - v) = -v:=by rw[IntWalk.i64_in _ (by omega)];omega
   have e2:(if v < -v then -v else v)=max v (-v):=by split<;>omega
   have e3:IntKind.i64.wrap (2*max v (-v))=2*max v (-v):=IntWalk.i64_in _ (by omega);have e4:IntKind.i64.wrap (acc+2*max v (-v))=acc+2*max v (-v):=IntWalk.i64_in _ (by omega);simp only[eA,dX,e1,e2,e3,e4,VV,seval];refine hR _ (aZ ?_ (ih (ps.filter fun i=>i != q) (some q) (acc+2*max v (-v)) (by have:=mH hq;omega) (nz.filter _) (fun p h=>hp p (cW.1 h).1) (by omega) (by omega) h1))
   repeat' constructor
theorem GF(a b:List It)(ha:a.length<2^27)(hb:b.length<2^27)(J:ae):PC prog 215 [.sl 3 (a.map It.ah7),.sl 3 (b.map It.ah7)] J (fun r J'=>r=.i .i64 (iw a b)∧J'=J):=by
 refine PC.intro func215 acM fun bj dx=>ax ?_;simp only[W2,SS,seval];simp only[ag,VV,seval];have hC1:=CB.nil.count 1 (by omega) a;have hC:=hC1.count (-1) (by omega) b;have hK:iN (oS a b):=iN.count (-1) b (iN.count 1 a (by simp[iN]));have hS:=BZ (C:=oS a b) hC hK
 have hle:((0+a.length+b.length:Nat):Int)*((oS a b).length:Int)≤2^28*2^28:=by
  have h1:((oS a b).length:Int)≤2^28:=by have:=hC.1;unfold oS;omega
  exact s4 (by omega) h1 (by omega) (by omega)
 refine b6.aZ (fr':=(uu 1 (.sl 3 (b.map It.ah7)::uu 3 (.mp J.length::uu 8 (.sl 3 (a.map It.ah7)::.i .i64 a.length::.i .i64 ([]:List It).length::uu 49 []))))) (by repeat' constructor) (a.length+1) (KL b a bj (by omega) a [] [] 0 rfl CB.nil (by omega) ?_);simp only[JE];intros;simp only[ag,VV,seval];refine b6.aZ (fr':=(uu 5 (.mp J.length::uu 27 (.sl 3 (b.map It.ah7)::.i .i64 b.length::.i .i64 ([]:List It).length::uu 30 [])))) (by repeat' constructor) (b.length+1) (KK b bj (by omega) b [] _ _ rfl hC1 (by omega) ?_);simp only[JE];intros;simp only[ag,VV,seval];refine b6.aZ (fr':=(uu 5 (.mp J.length::uu 4 (.i .i64 0::uu 42 (.it (J.length+1)::uu 12 []))))) (by repeat' constructor) ((emap ij dX (oS a b)).length+1) (KJ (oS a b) _ hC hK (by omega) (iw a b) (by have:=dq hS.2 hle;unfold iw;omega) _ (List.range (emap ij dX (oS a b)).length) none 0 (by simp) lK (by simp[emap]) (cy _) ?_ ?_)
 ·rw[oF,D8 (fun p:TK×Int=>2*max p.2 (-p.2)),D4,dL];rfl
 ·intro ps cur;simp only[JE];intros;simp only[VV,seval];exact jz bj (by simp only[RS,seval]) (by simp only[LW])
end Go.Proofs.Tryz

/- A part of the proof of the statement of the last text of this claim: for every two lists of integers ReplicaCommutes returns true and leaves the memory as it was. -/
import Derived.Test.YtbfoheefppnnpaaGreatDoorV4
import Derived.Test.YtbfoheefppnnpaaGreatDoorV14
import Derived.Test.YtbfoheefppnnpaaGreatDoorV17
import Derived.Test.YtbfoheefppnnpaaGreatDoorV25
set_option linter.all false

namespace Go.Proofs.Tryz
open Go Go.Pm Go.Bt
theorem itoa_pc (n:Int) (h0 : -9223372036854775808≤n) (h1:n≤9223372036854775807) (σ:Store):PC Tryz.prog 134 [.i .i64 n] σ (fun r σ'=>r=.s (Lib.itoa n)∧σ'=σ):=by
 refine PC.ofGrow fun B w0 w μ vs hB hv=>?_
 have hv0:=(hv.2 0 _ rfl).inv_i
 have hvs:vs=#[.int .i64 n]:=by rw [vs1 hv.1,hv0]
 have hs:(Tryz.prog.globalNamed "internal/strconv.uint64pow10").isSome=true:=by kernel_rfl
 obtain ⟨g,hg⟩:=Option.isSome_iff_exists.1 hs
 have ht:=hB.tab (t:=("internal/strconv.uint64pow10",.u64,pow10s)) (by simp [tabs]) hg
 rw [pow10s_eq] at ht
 refine ⟨_,?_,fun w'=>itoa_VR n h0 h1⟩
 rw [hvs]
 refine (Tryz.strconv_Itoa n h0 h1 w ht).mono ?_
 rintro e w' ⟨he,k,os,rfl⟩
 exact ⟨he,grownBy_grow w k os⟩
theorem loop135 {n:Nat} {σ ext:Store} {K:Exit→St→Prop} (s:List UInt8) (hlen:s.length<2^40):∀ (rest pre b:List UInt8) (g:Nat),s=pre++rest→b.length+4*rest.length<2^42 →
  (∀ j1 j2 j3 j4 j5 j6 j7 j8 j9 j10 j11 j12 j13 j14 j15 j16 j17 j18 j19 j20 j21 j22 j23 j24 j25 j26 j27 j28 j29 j30 j31 j32 j33 j34 j35 j36 j37 j38 j39 j40 j41 j42 j43 j44 j45 j46 j47 j48 j49 j50 j51 j52 j53 j54 j55 j56 j57 j58 j59,K (.exit 0) ⟨[.own σ.length (g+rest.length),j1,j2,j3,j4,j5,j6,j7,j8,j9,j10,j11,j12,j13,j14,j15,j16,j17,j18,j19,j20,j21,j22,j23,j24,j25,j26,j27,j28,j29,j30,j31,j32,j33,j34,j35,j36,j37,j38,j39,j40,j41,j42,j43,j44,j45,j46,j47,j48,j49,j50,j51,j52,j53,j54,j55,j56,j57,j58,j59],σ++(.row 5 1 1 (g+rest.length) false (bytesV (b++rest.flatMap writB))::ext)⟩) →
  Rnd n Tryz.prog p135_0 K (rest.length+1) ⟨[.own σ.length g,.s s,.u,.u,.u,.i .i64 pre.length,.u,.u,.u,.u,.u,.u,.u,.u,.u,.u,.u,.u,.u,.u,.u,.u,.u,.u,.u,.u,.u,.u,.u,.u,.u,.u,.u,.u,.u,.u,.u,.u,.u,.u,.u,.u,.u,.u,.u,.u,.u,.u,.u,.u,.u,.u,.u,.u,.u,.u,.u,.u,.u,.u],σ++(.row 5 1 1 g false (bytesV b)::ext)⟩:=by
 intro rest
 induction rest with
 | nil =>
  intro pre b g he hb h1
  have he:s=pre:=by simpa using he
  subst he
  refine rnd_step fun R hR=>?_
  simp only [p135_0,W,reduceIte]
  simp only [List.flatMap_nil,List.append_nil,List.length_nil,Nat.add_zero] at h1
  exact ⟨fun h=>by simp at h,fun _=>h1 ..⟩
 | cons c rest ih =>
  intro pre b g he hb h1
  subst he
  have hw:IntKind.i64.wrap ((pre.length:Int)+1)=(((pre++[c]).length:Nat):Int):=by
   rw [wrap_succ (by simp at hlen;omega)];simp
  have hit:pre++c::rest=(pre++[c])++rest:=by simp
  simp only [List.length_cons] at hb
  have next:∀ (t:List UInt8),writB c=t→t.length≤4→∀ {R:St→Prop} {fr:List V},(∀ st',Rnd n Tryz.prog p135_0 K (rest.length+1) st'→R st') →
    Cvs fr [.own σ.length (g+1),.s (pre++c::rest),.u,.u,.u,.i .i64 (pre++[c]).length,.u,.u,.u,.u,.u,.u,.u,.u,.u,.u,.u,.u,.u,.u,.u,.u,.u,.u,.u,.u,.u,.u,.u,.u,.u,.u,.u,.u,.u,.u,.u,.u,.u,.u,.u,.u,.u,.u,.u,.u,.u,.u,.u,.u,.u,.u,.u,.u,.u,.u,.u,.u,.u,.u]→R ⟨fr,σ++(.row 5 1 1 (g+1) false (bytesV (b++t))::ext)⟩:=by
   intro t ht hl R fr hR hc
   have e1:b++(c::rest).flatMap writB=(b++t)++rest.flatMap writB:=by simp [ht]
   have e2:g+(c::rest).length=(g+1)+rest.length:=by simp;omega
   rw [e1,e2] at h1
   refine hR _ ?_
   exact rnd_cvs hc (ih (pre++[c]) (b++t) (g+1) hit (by simp;omega) h1)
  have okA:∀ n:Nat,n≤4→((bytesV b).length+n)*1≤2^47∧(bytesV b).length+n≤maxLen:=fun n hn=>by simp only [bytesV_length,maxLen];omega
  have bv:∀ (t:List UInt8),bytesV b++bytesV t=bytesV (b++t):=fun t=>bytesV_append
  refine rnd_step fun R hR=>?_
  simp only [p135_0,VV,reduceIte]
  refine ⟨fun _=>⟨by simp;omega,?_⟩,fun h=>by simp at h<;>omega⟩
  refine call_eq (plain_pc c _) rfl ?_
  cases hp:plainB c with
  | true =>
   simp only [VV,Nat.reduceAdd,Int.reduceToNat,reduceIte,reduceCtorEq]
   refine ⟨okA 1 (by omega),?_⟩
   rw [show bytesV b++[[V.i .u8 c.toNat]]=bytesV (b++[c]) from bv [c]]
   refine next [c] (by simp [writB,hp]) (by simp) hR ?_
   rw [hw];repeat first | exact .nil | refine .cons (.refl _) ?_ | refine .cons (.forget _) ?_
  | false =>
   by_cases c10:c=10
   ·simp only [u8y (k:=10) c10 rfl,VV,Nat.reduceAdd,Int.reduceToNat,reduceIte,reduceCtorEq]
    refine ⟨okA 2 (by omega),?_⟩
    rw [show bytesV b++[[V.i .u8 92],[V.i .u8 110]]=bytesV (b++[92,110]) from bv [92,110]]
    refine next [92,110] (by simp only [writB,hp,if_pos c10];rfl) (by simp) hR ?_
    rw [hw];repeat first | exact .nil | refine .cons (.refl _) ?_ | refine .cons (.forget _) ?_
   by_cases c9:c=9
   ·simp only [u8n (k:=10) c10 rfl,u8y (k:=9) c9 rfl,VV,Nat.reduceAdd,Int.reduceToNat,reduceIte,reduceCtorEq]
    refine ⟨okA 2 (by omega),?_⟩
    rw [show bytesV b++[[V.i .u8 92],[V.i .u8 116]]=bytesV (b++[92,116]) from bv [92,116]]
    refine next [92,116] (by simp only [writB,hp,if_neg c10,if_pos c9];rfl) (by simp) hR ?_
    rw [hw];repeat first | exact .nil | refine .cons (.refl _) ?_ | refine .cons (.forget _) ?_
   by_cases cs:c=92∨c=60∨c=123
   ·have hs:((((c.toNat:Int)==92)||((c.toNat:Int)==60))||((c.toNat:Int)==123))=true:=by
     rcases cs with h | h | h<;>rw [h]<;>rfl
    simp only [u8n (k:=10) c10 rfl,u8n (k:=9) c9 rfl,hs,VV,Nat.reduceAdd,Int.reduceToNat,reduceIte,reduceCtorEq]
    refine ⟨okA 2 (by omega),?_⟩
    rw [show bytesV b++[[V.i .u8 92],[V.i .u8 c.toNat]]=bytesV (b++[92,c]) from bv [92,c]]
    refine next [92,c] (by simp only [writB,hp,if_neg c10,if_neg c9,if_pos cs];rfl) (by simp) hR ?_
    rw [hw];repeat first | exact .nil | refine .cons (.refl _) ?_ | refine .cons (.forget _) ?_
   ·have hs:((((c.toNat:Int)==92)||((c.toNat:Int)==60))||((c.toNat:Int)==123))=false:=by
     rw [u8n (k:=92) (fun h=>cs (.inl h)) rfl,u8n (k:=60) (fun h=>cs (.inr (.inl h))) rfl,u8n (k:=123) (fun h=>cs (.inr (.inr h))) rfl]
     rfl
    have hi:=hexhi c
    have lo:=hexlo c
    simp only [u8n (k:=10) c10 rfl,u8n (k:=9) c9 rfl,hs,hi.2.2,lo.2.2,VV,Nat.reduceAdd,Int.reduceToNat,reduceIte,reduceCtorEq]
    refine ⟨by simp,by simpa using ⟨hi.1,hi.2.1⟩,by simpa using ⟨lo.1,lo.2.1⟩,okA 4 (by omega),?_⟩
    rw [show bytesV b++[[V.i .u8 92],[V.i .u8 120],[V.i .u8 (hexDig (c.toNat / 16)).toNat],[V.i .u8 (hexDig (c.toNat % 16)).toNat]]=bytesV (b++[92,120,hexDig (c.toNat / 16),hexDig (c.toNat % 16)]) from bv [92,120,hexDig (c.toNat / 16),hexDig (c.toNat % 16)]]
    refine next [92,120,hexDig (c.toNat / 16),hexDig (c.toNat % 16)] (by simp only [writB,hp,if_neg c10,if_neg c9,if_neg cs];rfl) (by simp) hR ?_
    rw [hw];repeat first | exact .nil | refine .cons (.refl _) ?_ | refine .cons (.forget _) ?_
theorem appendText_pc (b s:List UInt8) (g:Nat) (hlen:b.length+4*s.length<2^42) (σ ext:Store):PC Tryz.prog 135 [.own σ.length g,.s s] (σ++(.row 5 1 1 g false (bytesV b)::ext))
  (fun r σ'=>r=.own σ.length (g+s.length)∧σ'=σ++(.row 5 1 1 (g+s.length) false (bytesV (b++s.flatMap writB))::ext)):=by
 refine PC.intro Tryz.func135 c135 fun hcl hwf=>wpc_sound ?_
 simp only [p135,SS,seval]
 simp only [W,seval]
 refine PWc.rnd_cvs ?_ (s.length+1) (loop135 s (by omega) s [] b g rfl hlen ?_)
 ·repeat first | exact .nil | refine .cons (.refl _) ?_ | refine .cons (.forget _) ?_
 ·intros
  simp only [W,seval]
  exact ret_wk (.inr rfl) rfl (Wk.refl _ _) rfl ⟨rfl,rfl⟩
theorem loop89 {σ:Store} {K:Exit→St→Prop} (its:List It) (hcl:Closed σ) (hlen:its.length<2^40) (hid:∀ x∈its,-9223372036854775808≤x.id∧x.id≤9223372036854775807) (hkd:∀ x∈its,1≤x.kind∧x.kind≤5) :
  ∀ (rest pre:List It) (b:List UInt8) (g:Nat),its=pre++rest→b.length+4*textLen rest+40*rest.length<2^42 →
  (∀ g,(∀ j0 j1 j2 j3 j4 j6 j7 j8 j9 j10 j11 j12 j13 j14 j15 j16 j17 j18 j19 j20 j21 j22 j23 j24 j25 j26 j27 j28 j29 j30 j31 j32 j33 j34 j35 j36 j37 j38 j39 j40 j41 j42 j43 j44 j45 j46 j47 j48 j49 j50 j51 j52 j53 j54 j55 j56 j57 j58 j59 j60 j61 j62 j63 j64 j65 j66 j67 j68 j69 j70 j71 j72 j73 j74,K (.exit 0) ⟨[j0,j1,j2,j3,j4,.own σ.length g,j6,j7,j8,j9,j10,j11,j12,j13,j14,j15,j16,j17,j18,j19,j20,j21,j22,j23,j24,j25,j26,j27,j28,j29,j30,j31,j32,j33,j34,j35,j36,j37,j38,j39,j40,j41,j42,j43,j44,j45,j46,j47,j48,j49,j50,j51,j52,j53,j54,j55,j56,j57,j58,j59,j60,j61,j62,j63,j64,j65,j66,j67,j68,j69,j70,j71,j72,j73,j74],σ++[.row 5 1 1 g false (bytesV (b++rest.flatMap itemText))]⟩)) →
  Rnd σ.length Tryz.prog p89_0 K (rest.length+1) ⟨[.u,.u,.u,.u,.u,.own σ.length g,.u,.u,.u,.u,.u,.u,.u,.u,.sl 3 (its.map It.cells),.i .i64 its.length,.i .i64 pre.length,.u,.u,.u,.u,.u,.u,.u,.u,.u,.u,.u,.u,.u,.u,.u,.u,.u,.u,.u,.u,.u,.u,.u,.u,.u,.u,.u,.u,.u,.u,.u,.u,.u,.u,.u,.u,.u,.u,.u,.u,.u,.u,.u,.u,.u,.u,.u,.u,.u,.u,.u,.u,.u,.u,.u,.u,.u,.u],σ++[.row 5 1 1 g false (bytesV b)]⟩:=by
 intro rest
 induction rest with
 | nil =>
  intro pre b g he hb h1
  have he:its=pre:=by simpa using he
  subst he
  refine rnd_step fun R hR=>?_
  simp only [p89_0,W,seval]
  simp only [List.flatMap_nil,List.append_nil] at h1
  exact ⟨fun h=>by simp at h,fun _=>h1 g ..⟩
 | cons x rest ih =>
  intro pre b g he hb h1
  subst he
  have hw:IntKind.i64.wrap ((pre.length:Int)+1)=(((pre++[x]).length:Nat):Int):=by
   rw [wrap_succ (by simp at hlen;omega)];simp
  have hit:pre++x::rest=(pre++[x])++rest:=by simp
  simp only [textLen,List.length_cons] at hb
  have hx:=hid x (by simp)
  have hk:=hkd x (by simp)
  have hil:=Lib.itoa_length_le x.id hx.1 hx.2
  have next:∀ (t:List UInt8) (g':Nat) {o:Ob},itemText x=t→t.length≤4*x.text.length+30→∀ {R:St→Prop} {fr:List V},(∀ st',Rnd σ.length Tryz.prog p89_0 K (rest.length+1) st'→R st') →
    Cvs fr [.u,.u,.u,.u,.u,.own σ.length g',.u,.u,.u,.u,.u,.u,.u,.u,.sl 3 ((pre++x::rest).map It.cells),.i .i64 (pre++x::rest).length,.i .i64 (pre++[x]).length,.u,.u,.u,.u,.u,.u,.u,.u,.u,.u,.u,.u,.u,.u,.u,.u,.u,.u,.u,.u,.u,.u,.u,.u,.u,.u,.u,.u,.u,.u,.u,.u,.u,.u,.u,.u,.u,.u,.u,.u,.u,.u,.u,.u,.u,.u,.u,.u,.u,.u,.u,.u,.u,.u,.u,.u,.u,.u]→R ⟨fr,σ++[.row 5 1 1 g' false (bytesV (b++t)),o]⟩:=by
   intro t g' o ht hl R fr hR hc
   have e1:b++(x::rest).flatMap itemText=(b++t)++rest.flatMap itemText:=by simp [ht]
   rw [e1] at h1
   refine hR _ (rnd_drop [_] [_] (closed_add hcl (by simp)) hc ?_ (ih (pre++[x]) (b++t) g' hit (by simp;omega) h1))
   simp only [LW,List.length_cons,List.length_nil,Nat.zero_add]
   omega
  have okA:∀ n:Nat,n≤x.text.length+30→((bytesV b).length+n)*1≤2^47∧(bytesV b).length+n≤maxLen:=fun n hn=>by simp only [bytesV_length,maxLen];omega
  have small:∀ n:Nat,n≤x.text.length+30→n≤maxLen:=fun n hn=>by simp only [maxLen];omega
  refine rnd_step fun R hR=>?_
  simp only [p89_0,It.cells,VV,seval]
  refine ⟨fun _=>⟨by simp;omega,?_⟩,fun h=>by simp at h<;>omega⟩
  refine call_eq (itoa_pc x.id hx.1 hx.2 _) rfl ?_
  rcases (by omega:x.kind=1∨x.kind=2∨x.kind=3∨x.kind=4∨x.kind=5) with h | h | h | h | h
  ·simp only [h,VV,seval]
   refine call_eq (appendText_pc b x.text g (by omega) σ [_]) rfl ?_
   simp only [VV,seval]
   refine next (x.text.flatMap writB) (g+x.text.length) (by simp only [itemText,h,if_true]) (by have:=flatW_len x.text;omega) hR ?_
   rw [hw];repeat first | exact .nil | refine .cons (.refl _) ?_ | refine .cons (.forget _) ?_
  ·simp only [h,VV,seval]
   refine ⟨small _ (by omega),small _ (by omega),small _ (by simp;omega),small _ (by simp;omega),okA _ (by simp only [bytesV_length,List.length_cons,List.length_append,List.length_nil];omega),?_⟩
   rw [bytesV_append]
   refine next (60::(Lib.itoa x.id++58::(x.text++[62]))) (g+1) (by simp [itemText,h]) (by simp;omega) hR ?_
   rw [hw];repeat first | exact .nil | refine .cons (.refl _) ?_ | refine .cons (.forget _) ?_
  ·simp only [h,VV,seval]
   refine ⟨small _ (by omega),small _ (by simp;omega),small _ (by simp;omega),small _ (by simp;omega),okA _ (by simp only [bytesV_length,List.length_cons,List.length_append,List.length_nil];omega),?_⟩
   rw [bytesV_append]
   refine next (60::47::(Lib.itoa x.id++58::(x.text++[62]))) (g+1) (by simp [itemText,h]) (by simp;omega) hR ?_
   rw [hw];repeat first | exact .nil | refine .cons (.refl _) ?_ | refine .cons (.forget _) ?_
  ·simp only [h,VV,seval]
   refine ⟨small _ (by omega),small _ (by omega),small _ (by simp;omega),small _ (by simp;omega),okA _ (by simp only [bytesV_length,List.length_cons,List.length_append,List.length_nil];omega),?_⟩
   rw [bytesV_append]
   refine next (60::(Lib.itoa x.id++58::(x.text++[47,62]))) (g+1) (by simp [itemText,h]) (by simp;omega) hR ?_
   rw [hw];repeat first | exact .nil | refine .cons (.refl _) ?_ | refine .cons (.forget _) ?_
  ·simp only [h,VV,seval]
   refine ⟨small _ (by omega),small _ (by first | omega | (simp;omega)),okA _ (by simp only [bytesV_length,List.length_cons,List.length_append,List.length_nil];omega),?_⟩
   rw [bytesV_append]
   refine next (123::(x.text++[125])) (g+1) (by simp [itemText,h]) (by simp;omega) hR ?_
   rw [hw];repeat first | exact .nil | refine .cons (.refl _) ?_ | refine .cons (.forget _) ?_
theorem format_pc (its:List It) (hlen:its.length<2^30) (ht:textLen its<2^30) (hid:∀ x∈its,-9223372036854775808≤x.id∧x.id≤9223372036854775807) (σ:Store):PC Tryz.prog 89 [.sl 3 (its.map It.cells)] σ (fun r σ'=>r=.tup [.s (format its).1,.i .i64 (format its).2]∧σ'=σ):=by
 refine PC.intro Tryz.func89 c89 fun hcl hwf=>wpc_sound ?_
 simp only [p89,SS,seval]
 simp only [VV,seval]
 refine call_eq (itemValidate_pc its _) rfl ?_
 simp only [List.length_map,VV,seval]
 refine ⟨fun h=>?_,fun h=>?_⟩
 ·have h:validItems its≠0:=by simpa using h
  exact ret_end0 (.inr rfl) rfl ⟨by simp only [format,h,if_true,ne_eq,not_false_eq_true];rfl,rfl⟩
 ·have h:validItems its=0:=by simpa using h
  have e:format its=(its.flatMap itemText,0):=by simp only [format,h,ne_eq,not_true,if_false]
  rw [e]
  refine PWc.wk ((Wk.promote (k:=5) ti_u8 rfl).trans (Wk.cvs ?_)) (PWc.rnd (its.length+1) (loop89 its hcl (by omega) hid (validItems_kind h) its [] [] 0 rfl (by simp only [List.length_nil];omega) ?_))
  ·simp only [W,seval]
   repeat first | exact .nil | refine .cons (.refl _) ?_ | refine .cons (.forget _) ?_
  ·intro g
   intros
   simp only [bytesOf_bytesV,List.nil_append,W,seval]
   exact ret_end hcl (.inr rfl) rfl (by simp only [LW]) ⟨rfl,rfl⟩
theorem memValidate_pc (e:En) (hs:e.small) (σ:Store):PC Tryz.prog 33 [.agg e.cells] σ (fun r σ'=>r=.i .i64 (entryErr e)∧σ'=σ):=by
 refine PC.intro Tryz.func33 c33 fun hcl hwf=>wpc_sound ?_
 simp only [p33,SS,seval]
 simp only [En.cells,VV,seval]
 refine call_eq (itemValidate_pc e.source _) rfl ?_
 simp only [VV,seval]
 refine ⟨fun h=>?_,fun h=>?_⟩
 ·have h:validItems e.source≠0:=by simpa using h
  exact ret_end hcl (.inr rfl) rfl (by simp only [LW]) ⟨by simp only [entryErr,h,if_true,ne_eq,not_false_eq_true];rfl,rfl⟩
 have h1:validItems e.source=0:=by simpa using h
 refine call_eq (itemValidate_pc e.target _) rfl ?_
 simp only [VV,seval]
 refine ⟨fun h=>?_,fun h=>?_⟩
 ·have h:validItems e.target≠0:=by simpa using h
  refine ret_end hcl (.inr rfl) rfl (by simp only [LW]) ⟨?_,rfl⟩
  simp only [entryErr,h1,h,if_true,ne_eq,not_false_eq_true,not_true,if_false];rfl
 have h2:validItems e.target=0:=by simpa using h
 refine call_eq (canonical_pc e.source e.target (by have:=hs.source;omega) (by have:=hs.target;omega) (by have:=hs.sourceT;omega) (by have:=hs.targetT;omega) _) rfl ?_
 simp only [List.length_map,VV,seval]
 refine callg_eq (by simp only [VV,seval]<;>rfl) (fun _=>itemSame_pc (canonS e.source e.target) e.source _) rfl ?_
 simp only [VV,seval]
 refine callg_eq (by simp only [VV,seval]<;>rfl) (fun _=>itemSame_pc (canonT e.source e.target) e.target _) rfl ?_
 simp only [VV,seval]
 have hco:canonOk e=!((((e.source.length:Int)==0)||!itsEq (canonS e.source e.target) e.source)||!itsEq (canonT e.source e.target) e.target):=by
  have:((e.source.length:Int)==0)=(e.source.length==0):=by rw [Bool.eq_iff_iff];simp
  simp only [canonOk,this]
  cases (e.source.length==0)<;>cases itsEq (canonS e.source e.target) e.source<;>cases itsEq (canonT e.source e.target) e.target<;>rfl
 refine ⟨fun h=>?_,fun h=>?_⟩
 ·rw [h] at hco
  refine ret_end hcl (.inr rfl) rfl (by simp only [LW]) ⟨?_,rfl⟩
  simp only [entryErr,h1,h2,hco,ne_eq,not_true,if_false];rfl
 rw [h] at hco
 have e1:entryErr e=if (parse e.previous).2.2≠0 then (parse e.previous).2.2 else if (parse e.next).2.2≠0 then (parse e.next).2.2 else
   if (named e.author&&named e.project)=false then 4 else if e.created<0∨1073741824<e.created∨e.origin<1∨3<e.origin then 1 else 0:=by
  simp only [entryErr,h1,h2,hco,ne_eq,not_true,if_false];rfl
 refine call_eq (notationParse_pc e.previous (by have:=hs.previous;omega) _) rfl ?_
 simp only [VV,seval]
 refine ⟨fun h=>?_,fun h=>?_⟩
 ·have h:(parse e.previous).2.2≠0:=by simpa using h
  rw [e1,if_pos h]
  exact ret_end hcl (.inr rfl) rfl (by simp only [LW]) ⟨rfl,rfl⟩
 have h3:¬ (parse e.previous).2.2≠0:=by simpa using h
 refine call_eq (notationParse_pc e.next (by have:=hs.next;omega) _) rfl ?_
 simp only [VV,seval]
 refine ⟨fun h=>?_,fun h=>?_⟩
 ·have h:(parse e.next).2.2≠0:=by simpa using h
  rw [e1,if_neg h3,if_pos h]
  exact ret_end hcl (.inr rfl) rfl (by simp only [LW]) ⟨rfl,rfl⟩
 have h4:¬ (parse e.next).2.2≠0:=by simpa using h
 rw [if_neg h3,if_neg h4] at e1
 refine callg_eq (by simp only [VV,seval]<;>rfl) (fun _=>isName_pc e.author _) rfl ?_
 simp only [VV,seval]
 refine callg_eq (by simp only [VV,seval]<;>rfl) (fun _=>isName_pc e.project _) rfl ?_
 simp only [VV,seval]
 have hna:((!e.author==[]&&!isName e.author)||(!e.project==[]&&!isName e.project))=!(named e.author&&named e.project):=by
  simp only [named]
  cases e.author==[]<;>cases e.project==[]<;>cases isName e.author<;>cases isName e.project<;>rfl
 rw [hna]
 refine ⟨fun h=>?_,fun h=>⟨fun h5=>?_,fun h5=>?_⟩⟩
 ·have h:(named e.author&&named e.project)=false:=by rw [Bool.not_eq_true'] at h;exact h
  rw [e1,if_pos h]
  exact ret_end hcl (.inr rfl) rfl (by simp only [LW]) ⟨rfl,rfl⟩
 ·have h:¬ (named e.author&&named e.project)=false:=by rw [Bool.not_eq_false'] at h;rw [h];simp
  have h5:e.created<0∨1073741824<e.created∨e.origin<1∨3<e.origin:=by
   simp at h5;omega
  rw [e1,if_neg h,if_pos h5]
  exact ret_end hcl (.inr rfl) rfl (by simp only [LW]) ⟨rfl,rfl⟩
 ·have h:¬ (named e.author&&named e.project)=false:=by rw [Bool.not_eq_false'] at h;rw [h];simp
  have h5:¬ (e.created<0∨1073741824<e.created∨e.origin<1∨3<e.origin):=by
   simp at h5;omega
  rw [e1,if_neg h,if_neg h5]
  exact ret_end hcl (.inr rfl) rfl (by simp only [LW]) ⟨rfl,rfl⟩
theorem memJoin_pc (e:En) (hs:e.small) (σ:Store):PC Tryz.prog 180 [.agg e.cells] σ (fun r σ'=>r=.s (joinKey e)∧σ'=σ):=by
 refine PC.intro Tryz.func180 c180 fun hcl hwf=>wpc_sound ?_
 simp only [p180,SS,seval]
 simp only [En.cells,VV,seval]
 refine call_eq (format_pc e.source hs.source hs.sourceT (fun x hx=>hs.ids x (by simp [hx])) _) rfl ?_
 simp only [VV,seval]
 have hf:=format_len e.source hs.source hs.sourceT (fun x hx=>hs.ids x (by simp [hx]))
 have h1:=hs.previous
 have h2:=hs.next
 refine ⟨by simp [maxLen];omega,by simp [maxLen];omega,by simp [maxLen];omega,by simp [maxLen];omega,?_⟩
 refine ret_end hcl (.inr rfl) rfl (by simp only [LW]) ⟨?_,rfl⟩
 simp [Pm.one,joinKey]
theorem memKey_pc (e:En) (hs:e.small) (σ:Store):PC Tryz.prog 166 [.agg e.cells] σ (fun r σ'=>r=.s (entryKey e)∧σ'=σ):=by
 refine PC.intro Tryz.func166 c166 fun hcl hwf=>wpc_sound ?_
 simp only [p166,SS,seval]
 simp only [En.cells,VV,seval]
 refine call_eq (memValidate_pc e hs _) rfl ?_
 simp only [VV,seval]
 refine ⟨fun h=>?_,fun h=>?_⟩
 ·have h:entryErr e≠0:=by simpa using h
  exact ret_end hcl (.inr rfl) rfl (by simp only [LW]) ⟨by simp only [entryKey,h,if_true,ne_eq,not_false_eq_true];rfl,rfl⟩
 ·have h:¬ entryErr e≠0:=by simpa using h
  refine call_eq (memJoin_pc e hs _) rfl ?_
  simp only [VV,seval]
  exact ret_end hcl (.inr rfl) rfl (by simp only [LW]) ⟨by simp only [entryKey,if_neg h];rfl,rfl⟩
theorem opLooked_pc (o:Opr) (σ:Store):PC Tryz.prog 52 [.agg o.cells] σ (fun r σ'=>r=.agg (looked o).cells∧σ'=σ):=by
 refine PC.intro Tryz.func52 c52 fun hcl hwf=>wpc_sound ?_
 simp only [p52,SS,seval]
 simp only [Opr.cells,Stamp.cells,En.cells,VV,seval]
 refine ⟨fun h=>?_,fun h=>?_⟩
 ·have h:o.kind≠2:=by simpa using h
  refine ret_end hcl (.inr rfl) (by simp only [RS,seval];rfl) (by simp only [LW]) ⟨?_,rfl⟩
  simp only [looked,if_pos h];rfl
 ·have h:¬ o.kind≠2:=by simpa using h
  refine ret_end hcl (.inr rfl) (by simp only [RS,seval];rfl) (by simp only [LW]) ⟨?_,rfl⟩
  simp only [looked,if_neg h];rfl
theorem opBare_pc (e:En) (σ:Store):PC Tryz.prog 51 [.agg e.cells] σ (fun r σ'=>r=.b (bareEn e)∧σ'=σ):=by
 refine PC.intro Tryz.func51 c51 fun hcl hwf=>wpc_sound ?_
 simp only [p51,SS,seval]
 simp only [En.cells,List.length_map,VV,seval]
 have h1:((e.target.length:Int)==0)=(e.target.length==0):=by rw [Bool.eq_iff_iff];simp
 have e1:bareEn e=((e.target.length==0)&&(e.author==[]&&(e.project==[]&&(e.created==0&&e.origin==0)))):=rfl
 rw [h1,e1]
 cases e.target.length==0<;>simp only [VV,seval]
 ·exact ret_end hcl (.inr rfl) (by simp only [RS,seval];rfl) (by simp only [LW]) ⟨rfl,rfl⟩
 cases e.author==[]<;>simp only [VV,seval]
 ·exact ret_end hcl (.inr rfl) (by simp only [RS,seval];rfl) (by simp only [LW]) ⟨rfl,rfl⟩
 cases e.project==[]<;>simp only [VV,seval]
 ·exact ret_end hcl (.inr rfl) (by simp only [RS,seval];rfl) (by simp only [LW]) ⟨rfl,rfl⟩
 cases e.created==0<;>simp only [VV,seval]
 ·exact ret_end hcl (.inr rfl) (by simp only [RS,seval];rfl) (by simp only [LW]) ⟨rfl,rfl⟩
 exact ret_end hcl (.inr rfl) (by simp only [RS,seval];rfl) (by simp only [LW]) ⟨rfl,rfl⟩
theorem loop24 {n:Nat} {σ:Store} {K:Exit→St→Prop} (q:V) (l:List Int) (hlen:l.length<2^63):∀ (rest pre:List Int),l=pre++rest →
  (rest.any (fun n=>decide (128<n))=false→(∀ j0 j2 j3 j4 j5 j6 j7 j8 j9 j10 j11 j12 j13 j14 j15 j16 j17 j18 j19 j20 j21 j22 j23 j24 j25 j26 j27 j28 j29 j30 j31 j32 j33 j34 j35 j36 j37 j38 j39 j40 j41 j42 j43 j44 j45 j46 j47 j48 j49 j50 j51 j52 j53 j54 j55 j56 j57 j58 j59 j60 j61,K (.exit 0) ⟨[j0,q,j2,j3,j4,j5,j6,j7,j8,j9,j10,j11,j12,j13,j14,j15,j16,j17,j18,j19,j20,j21,j22,j23,j24,j25,j26,j27,j28,j29,j30,j31,j32,j33,j34,j35,j36,j37,j38,j39,j40,j41,j42,j43,j44,j45,j46,j47,j48,j49,j50,j51,j52,j53,j54,j55,j56,j57,j58,j59,j60,j61],σ⟩))→(rest.any (fun n=>decide (128<n))=true→(∀ j0 j3 j4 j5 j6 j7 j8 j9 j10 j11 j12 j13 j14 j15 j16 j17 j18 j19 j20 j21 j22 j23 j24 j25 j26 j27 j28 j29 j30 j31 j32 j33 j34 j35 j36 j37 j38 j39 j40 j41 j42 j43 j44 j45 j46 j47 j48 j49 j50 j51 j52 j53 j54 j55 j56 j57 j58 j59 j60 j61,K .ret ⟨[j0,q,.i .i64 1,j3,j4,j5,j6,j7,j8,j9,j10,j11,j12,j13,j14,j15,j16,j17,j18,j19,j20,j21,j22,j23,j24,j25,j26,j27,j28,j29,j30,j31,j32,j33,j34,j35,j36,j37,j38,j39,j40,j41,j42,j43,j44,j45,j46,j47,j48,j49,j50,j51,j52,j53,j54,j55,j56,j57,j58,j59,j60,j61],σ⟩)) →
  Rnd n Tryz.prog p24_0 K (rest.length+1) ⟨[.u,q,.u,.u,.u,.u,.u,.u,.u,.u,.u,.u,.u,.u,.u,.u,.u,.u,.u,.u,.u,.u,.u,.u,.u,.u,.u,.u,.u,.u,.sl 1 (l.map iRow),.i .i64 l.length,.i .i64 pre.length,.u,.u,.u,.u,.u,.u,.u,.u,.u,.u,.u,.u,.u,.u,.u,.u,.u,.u,.u,.u,.u,.u,.u,.u,.u,.u,.u,.u,.u],σ⟩:=by
 intro rest
 induction rest with
 | nil =>
  intro pre he h1 h2
  have he:l=pre:=by simpa using he
  subst he
  refine rnd_step fun R hR=>?_
  simp only [p24_0,VV,seval]
  exact ⟨fun h=>by simp at h,fun _=>h1 rfl ..⟩
 | cons c rest ih =>
  intro pre he h1 h2
  subst he
  refine rnd_step fun R hR=>?_
  simp only [p24_0,iRow,VV,seval]
  refine ⟨fun _=>⟨by simp;omega,fun h=>?_,fun h=>?_⟩,fun h=>by simp at h<;>omega⟩
  ·have h:128<c:=by simpa using h
   exact h2 (by simp [h]) ..
  ·have h:¬ 128<c:=by simpa using h
   have e:(c::rest).any (fun n=>decide (128<n))=rest.any (fun n=>decide (128<n)):=by simp [h]
   rw [e] at h1 h2
   refine hR _ (rnd_cvs ?_ (ih (pre++[c]) (by simp) h1 h2))
   rw [wrap_succ (by simp at hlen;omega)]
   simp only [List.length_append,List.length_cons,List.length_nil]
   repeat first | exact .nil | refine .cons (.refl _) ?_ | refine .cons (.forget _) ?_
theorem opValidate_pc (o:Opr) (hs:o.small) (σ:Store):PC Tryz.prog 24 [.agg o.cells] σ (fun r σ'=>r=.i .i64 (opErr o)∧σ'=σ):=by
 refine PC.intro Tryz.func24 c24 fun hcl hwf=>wpc_sound ?_
 have hsl:=hs.seen
 simp only [p24,SS,seval]
 simp only [Opr.cells,Stamp.cells,En.cells,VV,seval]
 refine call_eq (stampValidate_pc o.stamp _) rfl ?_
 simp only [VV,seval]
 refine ⟨fun h=>?_,fun h=>?_⟩
 ·have h:stampOk o.stamp=false:=by
   cases hk:stampOk o.stamp with
   | false=>rfl
   | true=>rw [hk] at h;simp at h
  refine ret_end hcl (.inr rfl) (by simp only [RS,seval];rfl) (by simp only [LW]) ⟨?_,rfl⟩
  simp only [opErr,h,if_true];rfl
 have h0:¬ stampOk o.stamp=false:=by
  intro hk;rw [hk] at h;simp at h
 have e0:opErr o=if (o.kind≠1∧o.kind≠2)∨vTrim o.seen≠o.seen then 1 else
   if o.seen.any (fun n=>decide (128<n)) then 1 else
   if vAt o.seen o.stamp.office≠o.stamp.number - 1 then 11 else
   if o.kind=2∧bareEn o.entry=false then 1 else entryErr (looked o):=by simp only [opErr,if_neg h0]
 have hnum:1≤o.stamp.number∧o.stamp.number≤128:=by
  have:stampOk o.stamp=true:=by simpa using h0
  simp only [stampOk,decide_eq_true_eq] at this;omega
 rw [e0]
 have hkind:(bif (o.kind != 1) then (o.kind != 2) else false)=decide (o.kind≠1∧o.kind≠2):=by
  rw [Bool.eq_iff_iff];by_cases h1:o.kind=1<;>by_cases h2:o.kind=2<;>simp [h1,h2]
 refine callg_eq (by simp only [VV,seval]<;>rfl) (fun _=>vTrim_pc o.seen _) rfl ?_
 simp only [VV,seval]
 refine callg_eq (by simp only [VV,seval]<;>rfl) (fun _=>equalInts_pc (vJoin o.seen []) o.seen _) rfl ?_
 simp only [VV,seval]
 have hl63:o.seen.length<2^63:=by omega
 refine ⟨fun h=>?_,fun h=>PWc.rnd_cvs ?_ (o.seen.length+1) (loop24 (.ptr σ.length 0) o.seen hl63 o.seen [] rfl (fun ha=>?_) (fun ha=>?_))⟩
 ·have h:(o.kind≠1∧o.kind≠2)∨vTrim o.seen≠o.seen:=by
   simpa [vTrim] using h
  refine ret_end hcl (.inr rfl) (by simp only [RS,seval];rfl) (by simp only [LW]) ⟨?_,rfl⟩
  rw [if_pos h];rfl
 ·simp only [List.length_map,List.length_nil,seval]
  repeat first | exact .nil | refine .cons (.refl _) ?_ | refine .cons (.forget _) ?_
 ·have h:¬ ((o.kind≠1∧o.kind≠2)∨vTrim o.seen≠o.seen):=by
   intro h2
   have:(o.kind != 1&&o.kind != 2||!vJoin o.seen []==o.seen)=true:=by simpa [vTrim] using h2
   rw [h] at this;simp at this
  rw [if_neg h,if_neg (show ¬ (o.seen.any fun n=>decide (128<n))=true by rw [ha];simp)]
  intros
  simp only [VV,seval]
  refine call_eq (stampAt_pc o.seen o.stamp.office _) rfl ?_
  simp only [VV,seval]
  have hw:IntKind.i64.wrap (o.stamp.number - 1)=o.stamp.number - 1:=IntWalk.i64_in _ (by omega)
  rw [hw]
  refine ⟨fun h=>?_,fun h=>?_⟩
  ·have h:vAt o.seen o.stamp.office≠o.stamp.number - 1:=by simpa using h
   refine ret_end hcl (.inr rfl) (by simp only [RS,seval];rfl) (by simp only [LW]) ⟨?_,rfl⟩
   rw [if_pos h];rfl
  have h:¬ vAt o.seen o.stamp.office≠o.stamp.number - 1:=by simpa using h
  rw [if_neg h]
  refine callg_eq (by simp only [VV,seval]<;>rfl) (fun _=>opBare_pc o.entry _) rfl ?_
  simp only [VV,seval]
  refine ⟨fun h=>?_,fun h=>?_⟩
  ·have h:o.kind=2∧bareEn o.entry=false:=by simpa using h
   refine ret_end hcl (.inr rfl) (by simp only [RS,seval];rfl) (by simp only [LW]) ⟨?_,rfl⟩
   rw [if_pos h];rfl
  have h:¬ (o.kind=2∧bareEn o.entry=false):=by simpa using h
  rw [if_neg h]
  refine call_eq (opLooked_pc o _) rfl ?_
  simp only [VV,seval]
  refine call_eq (memValidate_pc (looked o) (looked_small hs) _) rfl ?_
  simp only [VV,seval]
  exact ret_end hcl (.inr rfl) (by simp only [RS,seval];rfl) (by simp only [LW]) ⟨rfl,rfl⟩
 ·have h:¬ ((o.kind≠1∧o.kind≠2)∨vTrim o.seen≠o.seen):=by
   intro h2
   have:(o.kind != 1&&o.kind != 2||!vJoin o.seen []==o.seen)=true:=by simpa [vTrim] using h2
   rw [h] at this;simp at this
  rw [if_neg h,if_pos ha]
  intros
  simp only [VV,seval]
  exact ret_end hcl (.inr rfl) (by simp only [RS,seval];rfl) (by simp only [LW]) ⟨rfl,rfl⟩
theorem opKey_pc (o:Opr) (hs:o.small) (σ:Store):PC Tryz.prog 139 [.agg o.cells] σ (fun r σ'=>r=.s (opKey o)∧σ'=σ):=by
 refine PC.intro Tryz.func139 c139 fun hcl hwf=>wpc_sound ?_
 simp only [p139,SS,seval]
 simp only [Opr.cells,Stamp.cells,En.cells,VV,seval]
 refine call_eq (opValidate_pc o hs _) rfl ?_
 simp only [VV,seval]
 refine ⟨fun h=>?_,fun h=>?_⟩
 ·have h:opErr o≠0:=by simpa using h
  exact ret_end hcl (.inr rfl) (by simp only [RS,seval];rfl) (by simp only [LW]) ⟨by simp only [opKey,h,if_true,ne_eq,not_false_eq_true];rfl,rfl⟩
 ·have h:¬ opErr o≠0:=by simpa using h
  refine call_eq (opLooked_pc o _) rfl ?_
  simp only [VV,seval]
  refine call_eq (memKey_pc (looked o) (looked_small hs) _) rfl ?_
  simp only [VV,seval]
  exact ret_end hcl (.inr rfl) (by simp only [RS,seval];rfl) (by simp only [LW]) ⟨by simp only [opKey,if_neg h];rfl,rfl⟩
theorem shr8 (n:Int):n.fdiv (2^min 8 IntKind.i64.bits)=n / 256:=by
 have:(2:Int)^min 8 IntKind.i64.bits=256:=by decide
 rw [this,Int.fdiv_eq_ediv_of_nonneg _ (by decide)]
theorem shr16 (n:Int):n.fdiv (2^min 16 IntKind.i64.bits)=n / 65536:=by
 have:(2:Int)^min 16 IntKind.i64.bits=65536:=by decide
 rw [this,Int.fdiv_eq_ediv_of_nonneg _ (by decide)]
theorem u8low (n:Int):IntKind.u8.wrap n=((lowB n).toNat:Int):=by
 have h1:IntKind.u8.wrap n=n % 256:=by
  simp [IntKind.wrap,IntKind.bits,IntKind.signed]
 rw [h1]
 have h2:0≤n % 256:=Int.emod_nonneg _ (by decide)
 have h3:n % 256<256:=Int.emod_lt_of_pos _ (by decide)
 simp only [lowB,UInt8.toNat_ofNat']
 omega
theorem rows2 (b:List UInt8) (n:Int):bytesV b++[[V.i .u8 (lowB (n / 256)).toNat],[V.i .u8 (lowB n).toNat]]=bytesV (b++be2 n):=by
 simp [bytesV,be2]
theorem two_pc (b:List UInt8) (n:Int) (g:Nat) (hlen:b.length<2^46) (σ ext:Store):PC Tryz.prog 88 [.own σ.length g,.i .i64 n] (σ++(.row 5 1 1 g false (bytesV b)::ext))
  (fun r σ'=>r=.own σ.length (g+1)∧σ'=σ++(.row 5 1 1 (g+1) false (bytesV (b++be2 n))::ext)):=by
 refine PC.intro Tryz.func88 c88 fun hcl hwf=>wpc_sound ?_
 simp only [p88,SS,seval]
 simp only [shr8,u8low,bytesV_length,rows2,maxLen,VV,Nat.reduceAdd,Int.reduceToNat,reduceIte]
 refine ⟨by omega,by omega,?_⟩
 exact ret_wk (.inr rfl) rfl (Wk.refl _ _) rfl ⟨rfl,rfl⟩
theorem twoLit_pc (b:List UInt8) (n:Int) (hlen:b.length<2^46) (σ:Store):PC Tryz.prog 88 [.lit 1 (bytesV b),.i .i64 n] σ
  (fun r σ'=>r=.own σ.length 0∧σ'=σ++[.row 5 1 1 0 false (bytesV (b++be2 n))]):=by
 refine PC.intro Tryz.func88 c88 fun hcl hwf=>wpc_sound ?_
 simp only [p88,SS,seval]
 simp only [shr8,u8low,bytesV_length,rows2,maxLen,List.isEmpty_cons,Bool.false_eq_true,VV,Nat.reduceAdd,Int.reduceToNat,reduceIte]
 refine ⟨by omega,by omega,?_⟩
 exact ret_wk (.inr rfl) rfl (Wk.refl _ _) rfl ⟨rfl,rfl⟩
theorem four_pc (b:List UInt8) (n:Int) (g:Nat) (hlen:b.length<2^45) (σ ext:Store):PC Tryz.prog 87 [.own σ.length g,.i .i64 n] (σ++(.row 5 1 1 g false (bytesV b)::ext))
  (fun r σ'=>r=.own σ.length (g+2)∧σ'=σ++(.row 5 1 1 (g+2) false (bytesV (b++be4 n))::ext)):=by
 refine PC.intro Tryz.func87 c87 fun hcl hwf=>wpc_sound ?_
 simp only [p87,SS,seval]
 simp only [shr16,VV,Int.reduceToNat]
 refine ⟨by decide,?_⟩
 refine call_eq (two_pc b (n / 65536) g (by omega) σ ext) rfl ?_
 simp only [VV]
 refine call_eq (two_pc (b++be2 (n / 65536)) n (g+1) (by simp [be2];omega) σ ext) rfl ?_
 simp only [VV]
 refine ret_wk (.inr rfl) rfl (Wk.refl _ _) rfl ⟨rfl,?_⟩
 simp only [be4]
theorem fourLit_pc (b:List UInt8) (n:Int) (hlen:b.length<2^45) (σ:Store):PC Tryz.prog 87 [.lit 1 (bytesV b),.i .i64 n] σ
  (fun r σ'=>r=.own σ.length 1∧σ'=σ++[.row 5 1 1 1 false (bytesV (b++be4 n))]):=by
 refine PC.intro Tryz.func87 c87 fun hcl hwf=>wpc_sound ?_
 simp only [p87,SS,seval]
 simp only [shr16,VV,Int.reduceToNat]
 refine ⟨by decide,?_⟩
 refine call_eq (twoLit_pc b (n / 65536) (by omega) σ) rfl ?_
 simp only [VV]
 refine call_eq (two_pc (b++be2 (n / 65536)) n 0 (by simp [be2];omega) σ []) rfl ?_
 simp only [VV]
 refine ret_wk (.inr rfl) rfl (Wk.refl _ _) rfl ⟨rfl,?_⟩
 simp only [be4]
def sRow (s:List UInt8):List V:=[.s s]
theorem loop90 {n:Nat} {σ ext:Store} {K:Exit→St→Prop} (l:List (List UInt8)) (hlen:l.length<2^63) (hbig:∀ s∈l,s.length<2^40):∀ (rest pre:List (List UInt8)) (b:List UInt8) (g:Nat),l=pre++rest →
  b.length+rest.length*2^41<2^45 →
  (∀ j1 j2 j3 j4 j5 j6 j7 j8 j9 j10 j11 j12 j13 j14 j15 j16 j17 j18 j19 j20,K (.exit 0) ⟨[.own σ.length (g+3*rest.length),j1,j2,j3,j4,j5,j6,j7,j8,j9,j10,j11,j12,j13,j14,j15,j16,j17,j18,j19,j20],σ++(.row 5 1 1 (g+3*rest.length) false (bytesV (b++rest.flatMap encText))::ext)⟩) →
  Rnd n Tryz.prog p90_0 K (rest.length+1) ⟨[.own σ.length g,.u,.u,.u,.u,.u,.u,.sl 1 (l.map sRow),.i .i64 l.length,.i .i64 pre.length,.u,.u,.u,.u,.u,.u,.u,.u,.u,.u,.u],σ++(.row 5 1 1 g false (bytesV b)::ext)⟩:=by
 intro rest
 induction rest with
 | nil =>
  intro pre b g he hb h1
  have he:l=pre:=by simpa using he
  subst he
  refine rnd_step fun R hR=>?_
  simp only [p90_0,VV,seval]
  simp only [List.length_nil,Nat.mul_zero,Nat.add_zero,List.flatMap_nil,List.append_nil] at h1
  exact ⟨fun h=>by simp at h,fun _=>h1 ..⟩
 | cons c rest ih =>
  intro pre b g he hb h1
  subst he
  have hc:=hbig c (by simp)
  simp only [List.length_cons] at hb h1
  refine rnd_step fun R hR=>?_
  simp only [p90_0,sRow,VV,seval]
  refine ⟨fun _=>⟨by simp;omega,?_⟩,fun h=>by simp at h<;>omega⟩
  refine call_eq (four_pc b c.length g (by omega) σ ext) rfl ?_
  simp only [bytesV_length,maxLen,VV,seval]
  refine ⟨by simp [be4_length];omega,?_⟩
  have e0:b++be4 c.length++c=b++encText c:=by simp [encText]
  rw [bytesV_append,e0]
  refine hR _ (rnd_cvs ?_ (ih (pre++[c]) (b++encText c) (g+3) (by simp) (by simp [encText,be4_length];omega) ?_))
  ·rw [wrap_succ (by simp at hlen;omega)]
   simp only [List.length_append,List.length_cons,List.length_nil]
   repeat first | exact .nil | refine .cons (.refl _) ?_ | refine .cons (.forget _) ?_
  ·have e1:g+3+3*rest.length=g+3*(rest.length+1):=by omega
   have e2:b++encText c++rest.flatMap encText=b++(c::rest).flatMap encText:=by simp
   rw [e1,e2]
   exact h1
theorem opText_pc (b:List UInt8) (l:List (List UInt8)) (g:Nat) (hl:l.length≤3) (hbig:∀ s∈l,s.length<2^40) (hlen:b.length<2^44) (σ ext:Store):PC Tryz.prog 90 [.own σ.length g,.sl 1 (l.map sRow)] (σ++(.row 5 1 1 g false (bytesV b)::ext))
  (fun r σ'=>r=.own σ.length (g+3*l.length)∧σ'=σ++(.row 5 1 1 (g+3*l.length) false (bytesV (b++l.flatMap encText))::ext)):=by
 refine PC.intro Tryz.func90 c90 fun hcl hwf=>wpc_sound ?_
 simp only [p90,SS,seval]
 simp only [List.length_map,VV,seval]
 refine PWc.rnd_cvs ?_ (l.length+1) (loop90 l (by omega) hbig l [] b g rfl (by omega) ?_)
 ·repeat first | exact .nil | refine .cons (.refl _) ?_ | refine .cons (.forget _) ?_
 ·intros
  simp only [VV,seval]
  exact ret_wk (.inr rfl) rfl (Wk.refl _ _) rfl ⟨rfl,rfl⟩
theorem rows1 (b:List UInt8) (n:Int):bytesV b++[[V.i .u8 (lowB n).toNat]]=bytesV (b++[lowB n]):=by
 simp [bytesV]
theorem op_seen {o:Opr} (h:opErr o=0):o.seen.length≤8:=by
 have hs:vTrim o.seen=o.seen:=by
  simp only [opErr] at h
  split at h
  ·simp at h
  ·split at h
   ·simp at h
   ·rename_i h2
    by_cases hs:vTrim o.seen=o.seen
    ·exact hs
    ·exact absurd (.inr hs) h2
 have h0:vTrim o.seen=(joinList o.seen [] 8).take (joinLast o.seen [] 8):=rfl
 rw [← hs,h0];simp [joinList_length];omega
theorem be2_flat (l:List Int):(l.map fun _=>2).sum=2*l.length:=by
 induction l with
 | nil=>rfl
 | cons x l ih=>simp only [List.map_cons,List.sum_cons,ih,List.length_cons];omega
theorem encText_length (s:List UInt8):(encText s).length=s.length+4:=by simp [encText,be4_length];omega
theorem two1 (b:List UInt8) (n:Int) (g:Nat) (hlen:b.length<2^46) (σ:Store) (o1:Ob) (ext:Store):PC Tryz.prog 88 [.own (σ.length+1) g,.i .i64 n] (σ++(o1::.row 5 1 1 g false (bytesV b)::ext))
  (fun r σ'=>r=.own (σ.length+1) (g+1)∧σ'=σ++(o1::.row 5 1 1 (g+1) false (bytesV (b++be2 n))::ext)):=by
 have:=two_pc b n g hlen (σ++[o1]) ext
 simpa only [List.length_append,List.length_cons,List.length_nil,Nat.zero_add,List.append_assoc,List.cons_append,List.nil_append] using this
theorem four1 (b:List UInt8) (n:Int) (g:Nat) (hlen:b.length<2^45) (σ:Store) (o1:Ob) (ext:Store):PC Tryz.prog 87 [.own (σ.length+1) g,.i .i64 n] (σ++(o1::.row 5 1 1 g false (bytesV b)::ext))
  (fun r σ'=>r=.own (σ.length+1) (g+2)∧σ'=σ++(o1::.row 5 1 1 (g+2) false (bytesV (b++be4 n))::ext)):=by
 have:=four_pc b n g hlen (σ++[o1]) ext
 simpa only [List.length_append,List.length_cons,List.length_nil,Nat.zero_add,List.append_assoc,List.cons_append,List.nil_append] using this
theorem opText1 (b:List UInt8) (l:List (List UInt8)) (g:Nat) (hl:l.length≤3) (hbig:∀ s∈l,s.length<2^40) (hlen:b.length<2^44) (σ:Store) (o1:Ob) (ext:Store):PC Tryz.prog 90 [.own (σ.length+1) g,.sl 1 (l.map sRow)] (σ++(o1::.row 5 1 1 g false (bytesV b)::ext))
  (fun r σ'=>r=.own (σ.length+1) (g+3*l.length)∧σ'=σ++(o1::.row 5 1 1 (g+3*l.length) false (bytesV (b++l.flatMap encText))::ext)):=by
 have:=opText_pc b l g hl hbig hlen (σ++[o1]) ext
 simpa only [List.length_append,List.length_cons,List.length_nil,Nat.zero_add,List.append_assoc,List.cons_append,List.nil_append] using this
theorem loop57 {n:Nat} {σ:Store} {o1:Ob} {K:Exit→St→Prop} (q:V) (l:List Int) (hlen:l.length<2^30):∀ (rest pre:List Int) (b:List UInt8) (g:Nat),l=pre++rest →
  b.length+2*rest.length<2^45 →
  (∀ j0 j2 j4 j6 j7 j8 j9 j10 j11 j12 j13 j14 j15 j16 j17 j18 j19 j20 j21 j22 j23 j24 j25 j26 j27 j28 j29 j30 j31 j32 j33 j34 j35 j36 j37 j38 j39 j40 j41 j42 j43 j44 j45 j46 j47 j48 j49 j50 j51 j52 j53 j54 j55 j56 j57 j58 j59 j60 j61 j62 j63 j64 j65 j66 j67 j68 j69 j70 j71 j72 j73 j74 j75 j76 j77 j78 j79 j80 j81 j82 j83 j84 j85 j86 j87 j88 j89 j90 j91 j92 j93 j94 j95 j96 j97 j98,K (.exit 0) ⟨[j0,q,j2,.i .i64 0,j4,.own (σ.length+1) (g+rest.length),j6,j7,j8,j9,j10,j11,j12,j13,j14,j15,j16,j17,j18,j19,j20,j21,j22,j23,j24,j25,j26,j27,j28,j29,j30,j31,j32,j33,j34,j35,j36,j37,j38,j39,j40,j41,j42,j43,j44,j45,j46,j47,j48,j49,j50,j51,j52,j53,j54,j55,j56,j57,j58,j59,j60,j61,j62,j63,j64,j65,j66,j67,j68,j69,j70,j71,j72,j73,j74,j75,j76,j77,j78,j79,j80,j81,j82,j83,j84,j85,j86,j87,j88,j89,j90,j91,j92,j93,j94,j95,j96,j97,j98],σ++[o1,.row 5 1 1 (g+rest.length) false (bytesV (b++rest.flatMap be2))]⟩) →
  Rnd n Tryz.prog p57_0 K (rest.length+1) ⟨[.u,q,.u,.i .i64 0,.u,.own (σ.length+1) g,.u,.u,.u,.u,.u,.u,.u,.u,.u,.u,.u,.u,.u,.u,.u,.u,.u,.u,.u,.u,.u,.u,.u,.u,.u,.u,.u,.u,.u,.u,.u,.u,.u,.u,.u,.u,.u,.u,.u,.u,.sl 1 (l.map iRow),.i .i64 l.length,.i .i64 pre.length,.u,.u,.u,.u,.u,.u,.u,.u,.u,.u,.u,.u,.u,.u,.u,.u,.u,.u,.u,.u,.u,.u,.u,.u,.u,.u,.u,.u,.u,.u,.u,.u,.u,.u,.u,.u,.u,.u,.u,.u,.u,.u,.u,.u,.u,.u,.u,.u,.u,.u],σ++[o1,.row 5 1 1 g false (bytesV b)]⟩:=by
 intro rest
 induction rest with
 | nil =>
  intro pre b g he hb h1
  have he:l=pre:=by simpa using he
  subst he
  refine rnd_step fun R hR=>?_
  simp only [p57_0,VV,seval]
  simp only [List.length_nil,Nat.add_zero,List.flatMap_nil,List.append_nil] at h1
  exact ⟨fun h=>by simp at h,fun _=>h1 ..⟩
 | cons c rest ih =>
  intro pre b g he hb h1
  subst he
  simp only [List.length_cons] at hb h1
  refine rnd_step fun R hR=>?_
  simp only [p57_0,iRow,VV,seval]
  refine ⟨fun _=>⟨by simp;omega,?_⟩,fun h=>by simp at h<;>omega⟩
  have hcall:=two_pc b c g (by omega) (σ++[o1]) []
  simp only [List.length_append,List.length_cons,List.length_nil,Nat.zero_add,List.append_assoc,List.cons_append,List.nil_append] at hcall
  refine call_eq hcall rfl ?_
  simp only [VV,seval]
  refine hR _ (rnd_cvs ?_ (ih (pre++[c]) (b++be2 c) (g+1) (by simp) (by simp [be2_length];omega) ?_))
  ·rw [wrap_succ (by simp at hlen;omega)]
   simp only [List.length_append,List.length_cons,List.length_nil]
   repeat first | exact .nil | refine .cons (.refl _) ?_ | refine .cons (.forget _) ?_
  ·have e1:g+1+rest.length=g+(rest.length+1):=by omega
   have e2:b++be2 c++rest.flatMap be2=b++(c::rest).flatMap be2:=by simp
   rw [e1,e2]
   exact h1
theorem encode_pc (o:Opr) (hs:o.small) (σ:Store):PC Tryz.prog 57 [.agg o.cells] σ (fun r σ'=>r=.tup [.sl 1 (bytesV (encode o).1),.i .i64 (encode o).2]∧σ'=σ):=by
 refine PC.intro Tryz.func57 c57 fun hcl hwf=>wpc_sound ?_
 have hsl:=hs.seen
 simp only [p57,SS,seval]
 simp only [Opr.cells,Stamp.cells,En.cells,VV,seval]
 refine call_eq (opValidate_pc o hs _) rfl ?_
 simp only [VV,seval]
 refine ⟨fun h=>?_,fun h=>?_⟩
 ·have h:opErr o≠0:=by simpa using h
  have e:encode o=([],opErr o):=by simp only [encode,h,if_true,ne_eq,not_false_eq_true]
  rw [e]
  refine ret_cvs (ys:=[.sl 1 [],.i .i64 (opErr o)]) hcl (.inr rfl) (by simp only [RS,seval];rfl) ?_ (by simp only [LW]) ⟨rfl,rfl⟩
  exact .cons (.nil _) (.cons (.refl _) .nil)
 have h:opErr o=0:=by simpa using h
 have e:encode o=(encBody o,0):=by simp only [encode,h,ne_eq,not_true,if_false]
 rw [e]
 have hk:o.seen.length≤8:=(op_seen h)
 have hpl:=hs.entry.previous
 have hnl:=hs.entry.next
 have hal:=hs.author
 have hpr:=hs.project
 have hfs:=format_len o.entry.source hs.entry.source hs.entry.sourceT (fun x hx=>hs.entry.ids x (by simp [hx]))
 have hft:=format_len o.entry.target hs.entry.target hs.entry.targetT (fun x hx=>hs.entry.ids x (by simp [hx]))
 simp only [u8low]
 have hcall:=fourLit_pc [1,lowB o.kind] o.stamp.time (by simp) (σ++[Ob.box 35 (Opr.cells o)])
 simp only [List.length_append,List.length_cons,List.length_nil,Nat.zero_add,List.append_assoc,List.cons_append,List.nil_append,Opr.cells,Stamp.cells,En.cells] at hcall
 refine call_eq hcall rfl ?_
 simp only [u8low,bytesV_length,rows1,maxLen,VV,seval]
 refine ⟨by simp [be4_length],?_⟩
 refine call_eq (two1 _ o.stamp.number 2 (by simp [be4_length]) σ _ []) rfl ?_
 simp only [u8low,bytesV_length,rows1,maxLen,List.length_map,VV,seval]
 refine ⟨by simp [be4_length,be2_length],?_⟩
 refine PWc.rnd_cvs ?_ (o.seen.length+1) (loop57 (.ptr σ.length 0) o.seen (by omega) o.seen [] _ 4 rfl (by simp [be4_length,be2_length];omega) ?_)
 ·repeat first | exact .nil | refine .cons (.refl _) ?_ | refine .cons (.forget _) ?_
 intros
 simp only [VV,seval]
 refine call_eq (format_pc o.entry.source hs.entry.source hs.entry.sourceT (fun x hx=>hs.entry.ids x (by simp [hx])) _) rfl ?_
 simp only [VV,seval]
 refine call_cv (zs:=[.own (σ.length+1) (4+o.seen.length),.sl 1 ([(format o.entry.source).1,o.entry.previous,o.entry.next].map sRow)]) (.cons (.refl _) (.cons (.lit _ _) .nil))
  (opText1 _ _ _ (by simp) (by simp;omega) (by simp [be4_length,be2_length,be2_flat];omega) σ _ _) ?_
 simp only [VV,seval]
 refine ⟨fun hk1=>?_,fun hk1=>?_⟩
 ·have hk1:o.kind=1:=by simpa using hk1
  refine call_eq (format_pc o.entry.target hs.entry.target hs.entry.targetT (fun x hx=>hs.entry.ids x (by simp [hx])) _) rfl ?_
  simp only [VV,seval]
  refine call_cv (zs:=[.own (σ.length+1) _,.sl 1 ([(format o.entry.target).1,o.entry.author,o.entry.project].map sRow)]) (.cons (.refl _) (.cons (.lit _ _) .nil))
   (opText1 _ _ _ (by simp) (by simp;omega) (by simp [be4_length,be2_length,be2_flat,encText_length];omega) σ _ _) ?_
  simp only [u8low,VV,seval]
  refine call_eq (four1 _ o.entry.created _ (by simp [be4_length,be2_length,be2_flat,encText_length];omega) σ _ _) rfl ?_
  simp only [bytesV_length,rows1,maxLen,VV,seval]
  refine ⟨by simp [be4_length,be2_length,be2_flat,encText_length];omega,?_⟩
  refine ret_fz 1 hcl (.inr rfl) (by simp only [RS,seval];rfl) rfl (by simp only [List.map_cons,List.map_nil,fz,fz1,and_self,if_true,LW]) ⟨?_,rfl⟩
  simp only [Pm.one,List.map_cons,List.map_nil,fz,fz1,and_self,if_true]
  congr 3
  simp [encBody,hk1]
 ·have hk1:¬ o.kind=1:=by simpa using hk1
  refine ret_fz 1 hcl (.inr rfl) (by simp only [RS,seval];rfl) rfl (by simp only [List.map_cons,List.map_nil,fz,fz1,and_self,if_true,LW]) ⟨?_,rfl⟩
  simp only [Pm.one,List.map_cons,List.map_nil,fz,fz1,and_self,if_true]
  congr 3
  simp [encBody,hk1]
end Go.Proofs.Tryz

/- A part of the proof of the statement of the last text of this claim: for every two lists of integers ReplicaCommutes returns true and leaves the memory as it was. -/
import Derived.Test.YtbfoheefppnnpaaGreatDoorV13
import Derived.Test.YtbfoheefppnnpaaGreatDoorV15
import Derived.Test.YtbfoheefppnnpaaGreatDoorV17
import Derived.Test.YtbfoheefppnnpaaGreatDoorV20
set_option linter.all false

namespace Go.Proofs.Tryz
open Go Go.Pm Go.Bt
def putF (out:List It) (x:It) (o:Option Int):List It:=match o with
 | some b=>out++[⟨x.kind,x.text,b⟩]
 | none=>out
theorem loop129_0 {σ:Store} {K:Exit→St→Prop} (F L I:V) (fr to:List Int) (out:List It) (x:It) (g:Nat) (hfr:fr.length<2^62) (okA:(out.length+1)*32≤2^47∧out.length+1≤maxLen) :
  ∀ (m k:Nat),k+m=min fr.length to.length →
  (∀ g,(∀ j3 j4 j5 j6 j8 j9 j10 j11 j14 j15 j16 j17 j18 j19 j20 j21 j22 j23 j24 j25 j26 j27 j28 j29 j30 j31 j32 j33 j34 j35 j36 j37 j38 j39 j40 j41 j42 j43 j44 j45 j46 j47 j48 j49 j50 j51 j52 j53 j54 j55 j56 j57 j58 j59 j60,K (.exit 2) ⟨[F,.sl 1 (fr.map iRow),.sl 1 (to.map iRow),j3,j4,j5,j6,.own σ.length g,j8,j9,j10,j11,L,I,j14,j15,j16,j17,j18,j19,j20,j21,j22,j23,j24,j25,j26,j27,j28,j29,j30,j31,j32,j33,j34,j35,j36,j37,j38,j39,j40,j41,j42,j43,j44,j45,j46,j47,j48,j49,j50,j51,j52,j53,j54,j55,j56,j57,j58,j59,j60],σ++[.row 79 3 32 g false ((putF out x (toF (fr.drop k) (to.drop k) x.id)).map It.cells),.box 79 x.cells]⟩)) →
  Rnd σ.length Tryz.prog p129_0 K (m+1) ⟨[F,.sl 1 (fr.map iRow),.sl 1 (to.map iRow),.u,.u,.u,.u,.own σ.length g,.u,.ptr (σ.length+1) 0,.i .i64 k,.u,L,I,.u,.u,.u,.u,.u,.u,.u,.u,.u,.u,.u,.u,.u,.u,.u,.u,.u,.u,.u,.u,.u,.u,.u,.u,.u,.u,.u,.u,.u,.u,.u,.u,.u,.u,.u,.u,.u,.u,.u,.u,.u,.u,.u,.u,.u,.u,.u],σ++[.row 79 3 32 g false (out.map It.cells),.box 79 x.cells]⟩:=by
 intro m
 induction m with
 | zero =>
  intro k hk h1
  rw [toF_end (by omega)] at h1
  have hlt:((decide ((k:Int)<(fr.length:Int)))&&decide ((k:Int)<(to.length:Int)))=false:=by
   rw [Bool.and_eq_false_iff];simp;omega
  refine rnd_step fun R hR=>?_
  simp only [p129_0,List.length_map,hlt,VV,seval]
  exact h1 g ..
 | succ m ih =>
  intro k hk h1
  have k1:k<fr.length:=by omega
  have k2:k<to.length:=by omega
  rw [toF_drop k1 k2] at h1
  have e1:decide ((k:Int)<(fr.length:Int))=true:=by simp;omega
  have e2:decide ((k:Int)<(to.length:Int))=true:=by simp;omega
  have hw:IntKind.i64.wrap ((k:Int)+1)=((k+1:Nat):Int):=by rw [IntWalk.i64_in _ (by omega)];omega
  refine rnd_step fun R hR=>?_
  simp only [p129_0,It.cells,List.length_map,e1,e2,hw,Int.toNat_natCast,at2_iRow k1,at2_iRow k2,VV,seval]
  have hb1:(0:Int)≤(k:Int)∧(k:Int)<(fr.length:Int):=by omega
  have hb2:(0:Int)≤(k:Int)∧(k:Int)<(to.length:Int):=by omega
  refine ⟨hb1,fun h=>⟨hb2,okA,?_⟩,fun h=>?_⟩
  ·have h:x.id=fr.getD k 0:=by rw [beq_iff_eq] at h;exact h.symm
   rw [if_pos h] at h1
   have hrow:out.map It.cells++[[.i .i64 x.kind,.s x.text,.i .i64 (to.getD k 0)]]=(putF out x (some (to.getD k 0))).map It.cells:=by simp [putF,It.cells]
   rw [hrow]
   exact h1 (g+1) ..
  ·have h:¬ x.id=fr.getD k 0:=by rw [beq_eq_false_iff_ne] at h;exact fun e=>h e.symm
   rw [if_neg h] at h1
   refine hR _ (rnd_cvs ?_ (ih (k+1) (by omega) h1))
   repeat first | exact .nil | refine .cons (.refl _) ?_ | refine .cons (.forget _) ?_
theorem loop129_1 {σ:Store} {K:Exit→St→Prop} (its:List It) (fr to:List Int) (hcl:Closed σ) (hlen:its.length<2^40) (hfr:fr.length<2^62):∀ (rest pre out:List It) (g:Nat),its=pre++rest→out.length≤pre.length →
  (∀ g,(∀ j0 j1 j2 j3 j4 j5 j6 j8 j9 j10 j11 j12 j13 j14 j15 j16 j17 j18 j19 j20 j21 j22 j23 j24 j25 j26 j27 j28 j29 j30 j31 j32 j33 j34 j35 j36 j37 j38 j39 j40 j41 j42 j43 j44 j45 j46 j47 j48 j49 j50 j51 j52 j53 j54 j55 j56 j57 j58 j59 j60,K (.exit 0) ⟨[j0,j1,j2,j3,j4,j5,j6,.own σ.length g,j8,j9,j10,j11,j12,j13,j14,j15,j16,j17,j18,j19,j20,j21,j22,j23,j24,j25,j26,j27,j28,j29,j30,j31,j32,j33,j34,j35,j36,j37,j38,j39,j40,j41,j42,j43,j44,j45,j46,j47,j48,j49,j50,j51,j52,j53,j54,j55,j56,j57,j58,j59,j60],σ++[.row 79 3 32 g false ((out++renamed rest fr to).map It.cells)]⟩)) →
  Rnd σ.length Tryz.prog p129_1 K (rest.length+1) ⟨[.sl 3 (its.map It.cells),.sl 1 (fr.map iRow),.sl 1 (to.map iRow),.u,.u,.u,.u,.own σ.length g,.u,.u,.u,.u,.i .i64 its.length,.i .i64 pre.length,.u,.u,.u,.u,.u,.u,.u,.u,.u,.u,.u,.u,.u,.u,.u,.u,.u,.u,.u,.u,.u,.u,.u,.u,.u,.u,.u,.u,.u,.u,.u,.u,.u,.u,.u,.u,.u,.u,.u,.u,.u,.u,.u,.u,.u,.u,.u],σ++[.row 79 3 32 g false (out.map It.cells)]⟩:=by
 intro rest
 induction rest with
 | nil =>
  intro pre out g he ho h1
  have he:its=pre:=by simpa using he
  subst he
  have e:out++renamed [] fr to=out:=by simp [renamed]
  rw [e] at h1
  refine rnd_step fun R hR=>?_
  simp only [p129_1,VV,seval]
  exact ⟨fun h=>by simp at h,fun _=>h1 g ..⟩
 | cons x rest ih =>
  intro pre out g he ho h1
  subst he
  have next:∀ (out':List It) (g':Nat) {loc:Store},out++renamed (x::rest) fr to=out'++renamed rest fr to→out'.length≤out.length+1→∀ {R:St→Prop} {f0:List V},(∀ st',Rnd σ.length Tryz.prog p129_1 K (rest.length+1) st'→R st') →
    Cvs f0 [.sl 3 ((pre++x::rest).map It.cells),.sl 1 (fr.map iRow),.sl 1 (to.map iRow),.u,.u,.u,.u,.own σ.length g',.u,.u,.u,.u,.i .i64 (pre++x::rest).length,.i .i64 (IntKind.i64.wrap ((pre.length:Int)+1)),.u,.u,.u,.u,.u,.u,.u,.u,.u,.u,.u,.u,.u,.u,.u,.u,.u,.u,.u,.u,.u,.u,.u,.u,.u,.u,.u,.u,.u,.u,.u,.u,.u,.u,.u,.u,.u,.u,.u,.u,.u,.u,.u,.u,.u,.u,.u]→R ⟨f0,σ++(.row 79 3 32 g' false (out'.map It.cells)::loc)⟩:=by
   intro out' g' loc hw hl R f0 hR hc
   have e1:IntKind.i64.wrap ((pre.length:Int)+1)=(((pre++[x]).length:Nat):Int):=by
    rw [wrap_succ (by simp at hlen;omega)];simp
   rw [e1] at hc
   rw [hw] at h1
   refine hR _ (rnd_drop [_] loc (closed_add hcl (by simp)) hc ?_ (ih (pre++[x]) out' g' (by simp) (by simp;omega) h1))
   simp only [LW,List.length_cons,List.length_nil,Nat.zero_add]
   omega
  have okA:(out.length+1)*32≤2^47∧out.length+1≤maxLen:=by simp at hlen;simp [maxLen];omega
  refine rnd_step fun R hR=>?_
  simp only [p129_1,It.cells,VV,seval]
  refine ⟨fun _=>⟨by simp;omega,?_⟩,fun h=>by simp at h<;>omega⟩
  refine call_eq (r3IsTag_pc x _) rfl ?_
  simp only [VV,seval]
  refine ⟨fun ht=>?_,fun ht=>?_⟩
  ·have ht:isTag x=false:=by rw [Bool.not_eq_true'] at ht;exact ht
   have hrow:out.map It.cells++[[.i .i64 x.kind,.s x.text,.i .i64 x.id]]=(out++[x]).map It.cells:=by simp [It.cells]
   refine ⟨by rw [List.length_map];exact okA,?_⟩
   rw [hrow]
   refine next (out++[x]) (g+1) (by simp [renamed,ren,ht]) (by simp) hR ?_
   simp only
   repeat first | exact .nil | refine .cons (.refl _) ?_ | refine .cons (.forget _) ?_
  ·have ht:isTag x=true:=by rw [Bool.not_eq_false'] at ht;exact ht
   refine PWc.rnd_cvs ?_ (min fr.length to.length+1) (loop129_0 (.sl 3 ((pre++x::rest).map It.cells)) (.i .i64 (pre++x::rest).length) (.i .i64 pre.length) fr to out x g hfr okA (min fr.length to.length) 0 (by omega) ?_)
   ·simp only [Int.natCast_zero]
    repeat first | exact .nil | refine .cons (.refl _) ?_ | refine .cons (.forget _) ?_
   intro g'
   intros
   simp only [VV,seval]
   refine next _ g' ?_ ?_ hR ?_
   ·simp only [renamed,List.filterMap_cons,ren,ht,if_true,putF]
    cases toF fr to x.id<;>simp
   ·simp only [putF];split<;>simp
   ·repeat first | exact .nil | refine .cons (.refl _) ?_ | refine .cons (.forget _) ?_
theorem r3Rename_pc (its:List It) (fr to:List Int) (hlen:its.length<2^40) (ht:textLen its<2^40) (hfr:fr.length<2^62) (σ:Store):PC Tryz.prog 129 [.sl 3 (its.map It.cells),.sl 1 (fr.map iRow),.sl 1 (to.map iRow)] σ (fun r σ'=>r=.sl 3 ((rename its fr to).map It.cells)∧σ'=σ):=by
 refine PC.intro Tryz.func129 c129 fun hcl hwf=>wpc_sound ?_
 simp only [p129,SS,seval]
 simp only [List.length_map,VV,seval]
 refine PWc.wk ((Wk.promote (k:=7) ti_it rfl).trans (Wk.cvs ?_)) (PWc.rnd (its.length+1) (loop129_1 its fr to hcl hlen hfr its [] [] 0 rfl (Nat.le_refl _) ?_))
 ·simp only [VV,seval]
  repeat first | exact .nil | refine .cons (.refl _) ?_ | refine .cons (.forget _) ?_
 ·intro g
  intros
  simp only [List.nil_append,VV,seval]
  refine call_fz σ.length (by simp only [base_get0];rfl) (r3Normalize_pc (renamed its fr to) (Nat.lt_of_le_of_lt (renamed_len _ _ _) hlen) (Nat.lt_of_le_of_lt (renamed_text _ _ _) ht) _) (by simp [fz,fz1,ev]) ?_
  simp only [VV,seval]
  exact ret_end hcl (.inr rfl) (by simp only [RS,seval];rfl) (by simp only [LW]) ⟨rfl,rfl⟩
theorem r3Canonical_pc (s t:List It) (hs:s.length<2^38) (ht:t.length<2^38) (hst:textLen s<2^38) (htt:textLen t<2^38) (σ:Store):PC Tryz.prog 80 [.sl 3 (s.map It.cells),.sl 3 (t.map It.cells)] σ (fun r σ'=>r=.tup [.sl 3 ((canonS s t).map It.cells),.sl 3 ((canonT s t).map It.cells)]∧σ'=σ):=by
 refine PC.intro Tryz.func80 c80 fun hcl hwf=>wpc_sound ?_
 simp only [p80,SS,seval]
 simp only [List.length_map,VV,seval]
 refine ⟨by simp [maxLen];omega,by simp [maxLen];omega,?_⟩
 refine call_fz σ.length (by simp only [base_get0];rfl) (r3Numbers_pc (s++t) (by simp;omega) _) (by simp [fz,fz1,ev]) ?_
 have hc:=numbers_len (s++t)
 rw [numbers_append,List.length_append] at hc
 rw [numbers_append]
 simp only [List.length_map,VV,seval]
 refine call_eq (r3UpTo_pc (canonNumbers s t).length (by omega) _) rfl ?_
 simp only [VV,seval]
 refine call_eq (r3Rename_pc s (canonNumbers s t) (counting (canonNumbers s t).length) (by omega) (by omega) (by omega) _) rfl ?_
 simp only [VV,seval]
 refine call_eq (r3Rename_pc t (canonNumbers s t) (counting (canonNumbers s t).length) (by omega) (by omega) (by omega) _) rfl ?_
 simp only [VV,seval]
 exact ret_end hcl (.inr rfl) (by simp only [RS,seval];rfl) (by simp only [LW]) ⟨rfl,rfl⟩
def genSaves:List (List UInt8):=[[83,97,118,101],[114,101,100,32,99,97,114],[82,101,100,32,99,97,114,115]]
theorem genSaves_ok:∀ s∈genSaves,itemsErr [] [⟨1,s,0⟩]=0∧s.length≤8:=by decide +kernel
def genPrevs:List (List UInt8):=[[],[],[83,97,118,101],[114,101,100,32,99,97,114]]
def genNexts:List (List UInt8):=[[],[],[120],[83,97,118,101]]
def genAuthors:List (List UInt8):=[[],[97,110,110],[98,111,98]]
def genProjects:List (List UInt8):=[[],[112],[113]]
theorem gen_in:(∀ s∈genPrevs,s∈genCtx)∧(∀ s∈genNexts,s∈genCtx)∧(∀ s∈genAuthors,s∈genNames)∧∀ s∈genProjects,s∈genNames:=by decide +kernel
set_option maxHeartbeats 2000000 in
set_option maxRecDepth 20000 in
theorem entry_pc (S:Store) (a:Nat) (ha:a<S.length) (l:List Int) (k:Nat) (hk:k<2^48) :
  PC Tryz.prog 40 [.ptr a 0] (nst S a l k) (fun r σ'=>∃ (e:En) (k':Nat),r=.agg e.cells∧GenEn e∧k'≤k+200∧σ'=nst S a l k'):=by
 refine PC.intro Tryz.func40 c40 fun hcl hwf=>?_
 simp only [p40,SS,seval]
 refine PWc.cut fun R hR=>?_
 simp only [nst_len,VV,seval]
 refine hR _ ?_
 clear hR R
 refine PWc.cut fun R hR=>?_
 simp only [nst_len,VV,seval]
 refine call_ex (frag_at S a ha l k (by omega) 4 (by decide) _) rfl ?_
 rintro _ _ ⟨f0,k1,rfl,f1,f2,f3,f4,rfl⟩
 simp only [VV,seval]
 refine hR _ (PWc.cvs (fr':=[.ptr a 0,.u,.ptr S.length 0,.sl 3 (f0.map It.cells),.u,.u,.u,.u,.u,.u,.u,.u,.u,.u,.u,.u,.u,.u,.u,.u,.u,.u,.u,.u,.u,.u,.u,.u,.u,.u,.u,.u,.u,.u,.u,.u,.u,.u,.u,.u,.u,.u,.u,.u,.u,.u,.u,.u,.u,.u,.u,.u,.u,.u,.u,.u]) ?_ (by repeat first | exact .nil | refine .cons (.refl _) ?_ | refine .cons (.forget _) ?_))
 clear hR R
 refine PWc.cut fun R hR=>?_
 have tail:∀ (f:List It) (k2:Nat) {fr:List V},itemsErr [] f=0→f≠[]→f.length≤8→textLen f≤92→k2≤k+50→Cvs fr [.ptr a 0,.u,.ptr S.length 0,.sl 3 (f.map It.cells),.u,.u,.u,.u,.u,.u,.u,.u,.u,.u,.u,.u,.u,.u,.u,.u,.u,.u,.u,.u,.u,.u,.u,.u,.u,.u,.u,.u,.u,.u,.u,.u,.u,.u,.u,.u,.u,.u,.u,.u,.u,.u,.u,.u,.u,.u,.u,.u,.u,.u,.u,.u] →
   R ⟨fr,nst S a l k2++[.box 33 [.nil,.nil,.s [],.s [],.s [],.s [],.i .i64 0,.i .i64 0]]⟩:=by
  intro f k2 fr c1 c2 c3 c4 c5 hc
  refine hR _ (PWc.cvs ?_ hc)
  clear hR R
  refine PWc.cut fun R hR=>?_
  simp only [nst_len,VV,seval]
  refine call_ex (target_at S a ha l k2 (by omega) f c1 (by omega) (by omega) _) rfl ?_
  rintro _ _ ⟨t,k3,rfl,t1,t2,t3,t4,rfl⟩
  simp only [VV,seval]
  refine hR _ (PWc.cvs (fr':=[.ptr a 0,.u,.ptr S.length 0,.sl 3 (f.map It.cells),.sl 3 (t.map It.cells),.u,.u,.u,.u,.u,.u,.u,.u,.u,.u,.u,.u,.u,.u,.u,.u,.u,.u,.u,.u,.u,.u,.u,.u,.u,.u,.u,.u,.u,.u,.u,.u,.u,.u,.u,.u,.u,.u,.u,.u,.u,.u,.u,.u,.u,.u,.u,.u,.u,.u,.u]) ?_ (by repeat first | exact .nil | refine .cons (.refl _) ?_ | refine .cons (.forget _) ?_))
  clear hR R
  refine PWc.cut fun R hR=>?_
  simp only [nst_len,VV,seval]
  refine call_eq (r3Canonical_pc f t (by omega) (by omega) (by omega) (by omega) _) rfl ?_
  simp only [VV,seval]
  refine hR _ (PWc.cvs (fr':=[.ptr a 0,.u,.ptr S.length 0,.u,.u,.sl 3 ((canonS f t).map It.cells),.sl 3 ((canonT f t).map It.cells),.u,.u,.u,.u,.u,.u,.u,.u,.u,.u,.u,.u,.u,.u,.u,.u,.u,.u,.u,.u,.u,.u,.u,.u,.u,.u,.u,.u,.u,.u,.u,.u,.u,.u,.u,.u,.u,.u,.u,.u,.u,.u,.u,.u,.u,.u,.u,.u,.u]) (wpc_sound ?_) (by repeat first | exact .nil | refine .cons (.refl _) ?_ | refine .cons (.forget _) ?_))
  clear hR R
  simp only [nst_len,VV,seval]
  refine call_ex (next_at S a ha l k3 (by omega) 4 (by decide) (by decide) _) rfl ?_
  rintro _ _ ⟨v1,rfl,hv1,rfl⟩
  obtain ⟨w1,hw1,e1⟩:=strs_at (ws:=genPrevs) (n:=v1.toNat) (by simp [genPrevs];omega)
  simp only [genPrevs,List.map_cons,List.map_nil] at e1
  simp only [e1,VV,seval]
  refine ⟨by omega,?_⟩
  refine call_ex (next_at S a ha l (k3+1) (by omega) 4 (by decide) (by decide) _) rfl ?_
  rintro _ _ ⟨v2,rfl,hv2,rfl⟩
  obtain ⟨w2,hw2,e2⟩:=strs_at (ws:=genNexts) (n:=v2.toNat) (by simp [genNexts];omega)
  simp only [genNexts,List.map_cons,List.map_nil] at e2
  simp only [e1,e2,VV,seval]
  iterate 3 (try refine And.intro (by omega) ?_)
  refine call_ex (next_at S a ha l (k3+1+1) (by omega) 3 (by decide) (by decide) _) rfl ?_
  rintro _ _ ⟨v3,rfl,hv3,rfl⟩
  obtain ⟨w3,hw3,e3⟩:=strs_at (ws:=genAuthors) (n:=v3.toNat) (by simp [genAuthors];omega)
  simp only [genAuthors,List.map_cons,List.map_nil] at e3
  simp only [e1,e2,e3,VV,seval]
  iterate 4 (try refine And.intro (by omega) ?_)
  refine call_ex (next_at S a ha l (k3+1+1+1) (by omega) 3 (by decide) (by decide) _) rfl ?_
  rintro _ _ ⟨v4,rfl,hv4,rfl⟩
  obtain ⟨w4,hw4,e4⟩:=strs_at (ws:=genProjects) (n:=v4.toNat) (by simp [genProjects];omega)
  simp only [genProjects,List.map_cons,List.map_nil] at e4
  simp only [e1,e2,e3,e4,VV,seval]
  iterate 6 (try refine And.intro (by omega) ?_)
  refine call_ex (next_at S a ha l (k3+1+1+1+1) (by omega) 50 (by decide) (by decide) _) rfl ?_
  rintro _ _ ⟨v5,rfl,hv5,rfl⟩
  simp only [e1,e2,e3,e4,VV,seval]
  iterate 6 (try refine And.intro (by omega) ?_)
  refine call_ex (next_at S a ha l (k3+1+1+1+1+1) (by omega) 3 (by decide) (by decide) _) rfl ?_
  rintro _ _ ⟨v6,rfl,hv6,rfl⟩
  have hw6:IntKind.i64.wrap (1+v6)=1+v6:=IntWalk.i64_in _ (by omega)
  simp only [e1,e2,e3,e4,hw6,nb0,nbs0,VV,seval]
  refine ⟨by omega,?_⟩
  obtain ⟨i1,i2,i3,i4⟩:=gen_in
  have hE:GenEn ⟨canonS f t,canonT f t,w1,w2,w3,w4,v5,1+v6⟩:=gen_entry c1 t1 c2 (by omega) (by omega) (by omega) (by omega) (i1 _ hw1) (i2 _ hw2) (i3 _ hw3) (i4 _ hw4) (by omega) (by omega)
  refine ret_wk (xs:=[.agg (En.cells ⟨canonS f t,canonT f t,w1,w2,w3,w4,v5,1+v6⟩)]) (xs':=[.agg (En.cells ⟨canonS f t,canonT f t,w1,w2,w3,w4,v5,1+v6⟩)]) (.inr rfl) (by simp only [resVs,resV,nb0,VV,seval];rfl) ?_ rfl ⟨_,k3+1+1+1+1+1+1,rfl,hE,by omega,rfl⟩
  have:=Wk.end0 (P:=Tryz.prog) (xs:=[.agg (En.cells ⟨canonS f t,canonT f t,w1,w2,w3,w4,v5,1+v6⟩)]) (loc:=[Ob.box 33 (En.cells ⟨canonS f t,canonT f t,w1,w2,w3,w4,v5,1+v6⟩)]) (nst_closed (k':=k3+1+1+1+1+1+1) hcl) (by simp only [En.cells,nst_len,LW])
  rw [nst_len] at this
  exact this
 simp only [List.length_map,nst_len,VV,seval]
 refine ⟨fun h=>?_,fun h=>?_⟩
 ·refine call_ex (next_at S a ha l k1 (by omega) 3 (by decide) (by decide) _) rfl ?_
  rintro _ _ ⟨v,rfl,hv,rfl⟩
  obtain ⟨w,hw,e⟩:=strs_at (ws:=genSaves) (n:=v.toNat) (by simp [genSaves];omega)
  obtain ⟨w1,w2⟩:=genSaves_ok _ hw
  simp only [genSaves,List.map_cons,List.map_nil] at e
  simp only [e,VV,seval]
  refine ⟨by omega,?_⟩
  refine tail [⟨1,w,0⟩] (k1+1) w1 (by simp) (by simp) (by simp [textLen];omega) (by omega) ?_
  simp only [List.map_cons,List.map_nil,It.cells]
  repeat first | exact .nil | refine .cons (.refl _) ?_ | refine .cons (.lit _ _) ?_ | refine .cons (.forget _) ?_
 ·have h:f0≠[]:=by rintro rfl;simp at h
  refine tail f0 k1 f1 h (by omega) (by omega) (by omega) ?_
  repeat first | exact .nil | refine .cons (.refl _) ?_ | refine .cons (.forget _) ?_
theorem entry_at (S:Store) (a:Nat) (ha:a<S.length) (l:List Int) (k:Nat) (hk:k<2^48) (loc:Store) :
  PC Tryz.prog 40 [.ptr a 0] (nst S a l k++loc) (fun r σ'=>∃ (e:En) (k':Nat),r=.agg e.cells∧GenEn e∧k'≤k+200∧σ'=nst S a l k'++loc):=by
 rw [nst_app ha]
 refine (entry_pc (S++loc) a (by rw [List.length_append];omega) l k hk).mono ?_
 rintro r σ' ⟨e,k',h1,h2,h3,h4⟩
 exact ⟨e,k',h1,h2,h3,by rw [h4,nst_app ha]⟩
theorem r36Stamp_pc (s:Stamp) (σ:Store):PC Tryz.prog 44 [.agg s.cells] σ (fun r σ'=>r=.i .i64 (if stampOk s=false then 1 else 0)∧σ'=σ):=by
 refine PC.intro Tryz.func44 c44 fun hcl hwf=>wpc_sound ?_
 simp only [p44,SS,seval]
 simp only [Stamp.cells,VV,seval]
 have e:(decide (s.time<1)||decide (1073741824<s.time)||decide (s.office<0)||decide (8≤s.office)||decide (s.number<1)||decide (128<s.number))=!stampOk s:=by
  simp only [stampOk]
  rw [Bool.eq_iff_iff]
  simp
  omega
 rw [e]
 refine ⟨fun h=>?_,fun h=>?_⟩
 ·refine ret_end hcl (.inr rfl) (by simp only [RS,seval];rfl) (by simp only [LW]) ⟨?_,rfl⟩
  rw [Bool.not_eq_true'] at h;rw [h];rfl
 ·refine ret_end hcl (.inr rfl) (by simp only [RS,seval];rfl) (by simp only [LW]) ⟨?_,rfl⟩
  rw [Bool.not_eq_false'] at h;rw [h];rfl
theorem r36At_pc (v:List Int) (o:Int) (σ:Store):PC Tryz.prog 45 [.sl 1 (v.map iRow),.i .i64 o] σ (fun r σ'=>r=.i .i64 (vAt v o)∧σ'=σ):=by
 refine PC.intro Tryz.func45 c45 fun hcl hwf=>wpc_sound ?_
 simp only [p45,SS,seval]
 simp only [List.length_map,VV,seval]
 have e:(decide (o<0)||decide ((v.length:Int)≤o)||decide (8≤o))=decide (o<0∨(v.length:Int)≤o∨8≤o):=by
  rw [Bool.eq_iff_iff];simp [or_assoc]
 rw [e]
 refine ⟨fun h=>?_,fun h=>?_⟩
 ·have h:=of_decide_eq_true h
  exact ret_end0 (.inr rfl) (by simp only [RS,seval];rfl) ⟨by simp only [vAt,if_pos h];rfl,rfl⟩
 ·have h:=of_decide_eq_false h
  obtain ⟨n,rfl⟩:∃ n:Nat,o=n:=⟨o.toNat,by omega⟩
  have hn:n<v.length:=by omega
  simp only [Int.toNat_natCast,at2_iRow hn,VV,seval]
  refine ⟨by omega,?_⟩
  refine ret_end0 (.inr rfl) (by simp only [RS,seval];rfl) ⟨?_,rfl⟩
  simp only [vAt,if_neg h,Int.toNat_natCast];rfl
theorem r36Asked_pc (e:En) (σ:Store):PC Tryz.prog 47 [.agg e.cells] σ (fun r σ'=>r=.agg (asked e).cells∧σ'=σ):=by
 refine PC.intro Tryz.func47 c47 fun hcl hwf=>wpc_sound ?_
 simp only [p47,SS,seval]
 simp only [En.cells,VV,seval]
 exact ret_end hcl (.inr rfl) (by simp only [RS,seval];rfl) (by simp only [LW]) ⟨rfl,rfl⟩
def ats (v:List Int) (n:Nat):List Int:=(List.range n).map fun (i:Nat)=>vAt v i
def lst (v:List Int):Nat→Nat
 | 0=>0
 | n+1=>if 0<vAt v n then n+1 else lst v n
theorem vAt_nonneg (v:List Int) (o:Int):0≤vAt v o:=by
 simp only [vAt];split
 ·omega
 ·split<;>omega
theorem vAt_none (o:Int):vAt [] o=0:=by
 simp only [vAt];split
 ·rfl
 ·simp
theorem ats_succ (v:List Int) (n:Nat):ats v (n+1)=ats v n++[vAt v n]:=by simp [ats,List.range_succ]
theorem ats_join (v:List Int):∀ n,joinList v [] n=ats v n
 | 0=>rfl
 | n+1=>by
  have:=vAt_nonneg v n
  rw [joinList_succ,ats_succ,ats_join v n,vAt_none,if_neg (by omega)]
theorem lst_join (v:List Int):∀ n,joinLast v [] n=lst v n
 | 0=>rfl
 | n+1=>by
  have:=vAt_nonneg v n
  have e0:(if vAt v n<0 then (0:Int) else vAt v n)=vAt v n:=if_neg (by omega)
  simp only [joinLast,lst,vAt_none,e0,lst_join v n]
  by_cases h:0<vAt v n
  ·rw [if_pos (by omega),if_pos h]
  ·rw [if_neg (by omega),if_neg h]
theorem lst_le (v:List Int) (n:Nat):lst v n≤n:=by rw [← lst_join];exact joinLast_le v [] n
theorem vTrim_ats (v:List Int):vTrim v=ats v (lst v 8):=by
 have h:=lst_le v 8
 simp only [vTrim,vJoin,ats_join,lst_join]
 simp only [ats,← List.map_take,List.take_range]
 congr 2
 omega
theorem tIr:Ti Tryz.prog 3 1 8:=tiB_ok (by kernel_rfl)
theorem loop41_0 {σ:Store} {K:Exit→St→Prop} (v:List Int) (i:Nat) (hi:i<8):∀ (m k g:Nat),k+m=i →
  (∀ g,(∀ j1 j2 j5 j6 j7 j8 j9 j10 j11 j12 j13 j14 j15 j16 j17 j18 j19 j20 j21 j22 j23 j24 j25 j26 j27 j28 j29 j30,K (.exit 2) ⟨[.sl 1 (v.map iRow),j1,j2,.own σ.length g,.i .i64 i,j5,j6,j7,j8,j9,j10,j11,j12,j13,j14,j15,j16,j17,j18,j19,j20,j21,j22,j23,j24,j25,j26,j27,j28,j29,j30],σ++[.row 3 1 8 g false ((ats v i).map iRow)]⟩)) →
  Rnd σ.length Tryz.prog p41_0 K (m+1) ⟨[.sl 1 (v.map iRow),.u,.u,.own σ.length g,.i .i64 i,.u,.u,.u,.u,.u,.u,.u,.u,.u,.u,.u,.u,.u,.u,.u,.u,.u,.u,.u,.u,.u,.u,.u,.u,.u,.u],σ++[.row 3 1 8 g false ((ats v k).map iRow)]⟩:=by
 intro m
 induction m with
 | zero =>
  intro k g hk h1
  have hk:k=i:=by omega
  subst hk
  have e:(ats v k).length=k:=by simp [ats]
  refine rnd_step fun R hR=>?_
  simp only [p41_0,List.length_map,e,VV,seval]
  exact ⟨fun h=>by simp at h,fun _=>h1 g ..⟩
 | succ m ih =>
  intro k g hk h1
  have e:(ats v k).length=k:=by simp [ats]
  refine rnd_step fun R hR=>?_
  simp only [p41_0,List.length_map,e,VV,seval]
  refine ⟨fun _=>?_,fun h=>by simp at h;omega⟩
  refine call_eq (r36At_pc v k _) rfl ?_
  simp only [List.length_map,e,VV,seval]
  have hrow:(ats v k).map iRow++[[.i .i64 (vAt v k)]]=(ats v (k+1)).map iRow:=by rw [ats_succ];simp [iRow]
  rw [hrow]
  refine ⟨by simp [maxLen];omega,?_⟩
  refine hR _ (rnd_cvs ?_ (ih (k+1) (g+1) (by omega) h1))
  repeat first | exact .nil | refine .cons (.refl _) ?_ | refine .cons (.forget _) ?_
theorem loop41_1 {σ:Store} {K:Exit→St→Prop} (v:List Int):∀ (m i g:Nat),i+m=8 →
  (∀ g,(∀ j0 j1 j2 j4 j5 j6 j7 j8 j9 j10 j11 j12 j13 j14 j15 j16 j17 j18 j19 j20 j21 j22 j23 j24 j25 j26 j27 j28 j29 j30,K (.exit 0) ⟨[j0,j1,j2,.own σ.length g,j4,j5,j6,j7,j8,j9,j10,j11,j12,j13,j14,j15,j16,j17,j18,j19,j20,j21,j22,j23,j24,j25,j26,j27,j28,j29,j30],σ++[.row 3 1 8 g false ((ats v (lst v 8)).map iRow)]⟩)) →
  Rnd σ.length Tryz.prog p41_1 K (m+1) ⟨[.sl 1 (v.map iRow),.u,.u,.own σ.length g,.i .i64 i,.u,.u,.u,.u,.u,.u,.u,.u,.u,.u,.u,.u,.u,.u,.u,.u,.u,.u,.u,.u,.u,.u,.u,.u,.u,.u],σ++[.row 3 1 8 g false ((ats v (lst v i)).map iRow)]⟩:=by
 intro m
 induction m with
 | zero =>
  intro i g hi h1
  have hi:i=8:=by omega
  subst hi
  refine rnd_step fun R hR=>?_
  simp only [p41_1,VV,seval]
  exact ⟨fun h=>by simp at h,fun _=>h1 g ..⟩
 | succ m ih =>
  intro i g hi h1
  have hw:IntKind.i64.wrap ((i:Int)+1)=((i+1:Nat):Int):=by rw [IntWalk.i64_in _ (by omega)];omega
  have hl:=lst_le v i
  refine rnd_step fun R hR=>?_
  simp only [p41_1,VV,seval]
  refine ⟨fun _=>?_,fun h=>by simp at h;omega⟩
  refine call_eq (r36At_pc v i _) rfl ?_
  simp only [hw,VV,seval]
  refine ⟨fun h=>?_,fun h=>?_⟩
  ·have h:0<vAt v i:=by simpa using h
   have e:lst v (i+1)=i+1:=by simp only [lst,if_pos h]
   refine PWc.rnd_cvs ?_ (i - lst v i+1) (loop41_0 v i (by omega) (i - lst v i) (lst v i) g (by omega) ?_)
   ·repeat first | exact .nil | refine .cons (.refl _) ?_ | refine .cons (.forget _) ?_
   intro g'
   intros
   simp only [VV,seval]
   refine call_eq (r36At_pc v i _) rfl ?_
   have el:(ats v i).length=i:=by simp [ats]
   simp only [List.length_map,el,hw,VV,seval]
   have hrow:(ats v i).map iRow++[[.i .i64 (vAt v i)]]=(ats v (lst v (i+1))).map iRow:=by rw [e,ats_succ];simp [iRow]
   rw [hrow]
   refine ⟨by simp [maxLen];omega,?_⟩
   refine hR _ (rnd_cvs ?_ (ih (i+1) (g'+1) (by omega) h1))
   repeat first | exact .nil | refine .cons (.refl _) ?_ | refine .cons (.forget _) ?_
  ·have h:¬ 0<vAt v i:=by simpa using h
   have e:lst v (i+1)=lst v i:=by simp only [lst,if_neg h]
   rw [← e]
   refine hR _ (rnd_cvs ?_ (ih (i+1) g (by omega) h1))
   repeat first | exact .nil | refine .cons (.refl _) ?_ | refine .cons (.forget _) ?_
theorem r36Trim_pc (v:List Int) (σ:Store):PC Tryz.prog 41 [.sl 1 (v.map iRow)] σ (fun r σ'=>r=.sl 1 ((vTrim v).map iRow)∧σ'=σ):=by
 refine PC.intro Tryz.func41 c41 fun hcl hwf=>wpc_sound ?_
 rw [vTrim_ats]
 simp only [p41,SS,seval]
 simp only [VV,seval]
 refine PWc.wk ((Wk.promote (k:=3) tIr rfl).trans (Wk.cvs ?_)) (PWc.rnd 9 (loop41_1 v 8 0 0 rfl ?_))
 ·simp only [Int.natCast_zero,VV,seval]
  repeat first | exact .nil | refine .cons (.refl _) ?_ | refine .cons (.forget _) ?_
 ·intro g
  intros
  simp only [VV,seval]
  refine ret_fz 0 hcl (.inr rfl) rfl rfl ?_ ?_
  ·simp [fz,fz1,AllLt,lt_sl]
  ·simp [fz,fz1,Pm.one]
set_option maxHeartbeats 2000000 in
set_option maxRecDepth 20000 in
theorem op_pc (S:Store) (a:Nat) (ha:a<S.length) (l:List Int) (k:Nat) (hk:k<2^47) :
  PC Tryz.prog 21 [.ptr a 0] (nst S a l k) (fun r σ'=>∃ (o:Opr) (k':Nat),r=.agg o.cells∧GenOp o∧k'≤k+300∧σ'=nst S a l k'):=by
 refine PC.intro Tryz.func21 c21 fun hcl hwf=>?_
 simp only [p21,SS,seval]
 refine PWc.cut fun R hR=>?_
 simp only [nst_len,VV]
 refine hR _ ?_
 clear hR R
 refine PWc.cut fun R hR=>?_
 simp only [nst_len,VV]
 refine call_ex (next_at S a ha l k (by omega) 9 (by decide) (by decide) _) rfl ?_
 rintro _ _ ⟨v1,rfl,hv1,rfl⟩
 have w1:IntKind.i64.wrap (1+v1)=1+v1:=IntWalk.i64_in _ (by omega)
 simp only [w1,VV,reduceIte]
 refine call_ex (next_at S a ha l (k+1) (by omega) 3 (by decide) (by decide) _) rfl ?_
 rintro _ _ ⟨v2,rfl,hv2,rfl⟩
 simp only [VV]
 refine call_ex (next_at S a ha l (k+1+1) (by omega) 3 (by decide) (by decide) _) rfl ?_
 rintro _ _ ⟨v3,rfl,hv3,rfl⟩
 have w3:IntKind.i64.wrap (1+v3)=1+v3:=IntWalk.i64_in _ (by omega)
 simp only [w3,VV,Nat.reduceAdd,Nat.reduceLeDiff,reduceIte]
 refine call_ex (entry_at S a ha l (k+1+1+1) (by omega) _) rfl ?_
 rintro _ _ ⟨e,k1,rfl,hE,hk1,rfl⟩
 simp only [En.cells,nst_len,nb,nbs,VV,Nat.reduceAdd,Nat.reduceLeDiff,reduceIte]
 refine hR _ (PWc.cvs (fr':=[.ptr a 0,.u,.ptr S.length 0,.ptr (S.length+1) 0,.u,.u,.u,.u,.u,.u,.u,.u,.u,.u,.u,.u,.u,.u,.u,.u,.u,.u,.u,.u,.u,.u,.u,.u,.u,.u,.u,.u,.u,.u,.u,.u,.u,.u,.u,.u,.u,.u,.u,.u,.u,.u,.u,.u,.u,.u,.u,.u]) ?_ (by repeat first | exact .nil | refine .cons (.refl _) ?_ | refine .cons (.forget _) ?_))
 clear hR R
 refine PWc.cut fun R hR=>?_
 simp only [nst_len,VV]
 refine call_ex (next_at S a ha l k1 (by omega) 3 (by decide) (by decide) _) rfl ?_
 rintro _ _ ⟨x1,rfl,hx1,rfl⟩
 simp only [VV]
 refine call_ex (next_at S a ha l (k1+1) (by omega) 3 (by decide) (by decide) _) rfl ?_
 rintro _ _ ⟨x2,rfl,hx2,rfl⟩
 simp only [VV]
 refine call_ex (next_at S a ha l (k1+1+1) (by omega) 3 (by decide) (by decide) _) rfl ?_
 rintro _ _ ⟨x3,rfl,hx3,rfl⟩
 simp only [nst_len,V.pure,VV,Nat.reduceAdd]
 refine hR _ (PWc.cvs (fr':=[.ptr a 0,.u,.ptr S.length 0,.ptr (S.length+1) 0,.own (S.length+2) 0,.u,.u,.u,.u,.u,.u,.u,.u,.u,.u,.u,.u,.u,.u,.u,.u,.u,.u,.u,.u,.u,.u,.u,.u,.u,.u,.u,.u,.u,.u,.u,.u,.u,.u,.u,.u,.u,.u,.u,.u,.u,.u,.u,.u,.u,.u,.u]) ?_ (by repeat first | exact .nil | refine .cons (.refl _) ?_ | refine .cons (.forget _) ?_))
 clear hR R
 refine PWc.cut fun R hR=>?_
 have tail:∀ (v:List Int) {fr:List V},(∃ x y z:Int,v=[x,y,z]∧(0≤x∧x<3)∧(0≤y∧y<3)∧(0≤z∧z<3))→v.getD v2.toNat 0=v3→Cvs fr [.ptr a 0,.u,.ptr S.length 0,.ptr (S.length+1) 0,.own (S.length+2) 0,.u,.u,.u,.u,.u,.u,.u,.u,.u,.u,.u,.u,.u,.u,.u,.u,.u,.u,.u,.u,.u,.u,.u,.u,.u,.u,.u,.u,.u,.u,.u,.u,.u,.u,.u,.u,.u,.u,.u,.u,.u,.u,.u,.u,.u,.u,.u] →
   R ⟨fr,nst S a l (k1+1+1+1)++[.box 35 [.i .i64 0,.i .i64 0,.i .i64 0,.i .i64 0,.nil,.nil,.s [],.s [],.s [],.s [],.i .i64 0,.i .i64 0,.nil],
    .box 35 [.i .i64 (1+v1),.i .i64 v2,.i .i64 (1+v3),.i .i64 1,.sl 3 (e.source.map It.cells),.sl 3 (e.target.map It.cells),.s e.previous,.s e.next,.s e.author,.s e.project,.i .i64 e.created,.i .i64 e.origin,.nil],
    .row 3 1 8 0 false (v.map iRow)]⟩:=by
  intro v fr hv hvn hc
  obtain ⟨hO1,hO2⟩:=gen_op hE (t:=1+v1) (f:=v2) (n:=1+v3) (k:=0) (v:=v) (by omega) hv2 (by omega) hv (by rw [hvn];omega)
  refine hR _ (PWc.cvs ?_ hc)
  clear hR R hc
  refine PWc.cut fun R hR=>?_
  simp only [nst_len,VV]
  refine call_wk (zs:=[.sl 1 (v.map iRow)]) (σ1:=nst S a l (k1+1+1+1)++[.box 35 [.i .i64 0,.i .i64 0,.i .i64 0,.i .i64 0,.nil,.nil,.s [],.s [],.s [],.s [],.i .i64 0,.i .i64 0,.nil],
    .box 35 [.i .i64 (1+v1),.i .i64 v2,.i .i64 (1+v3),.i .i64 1,.sl 3 (e.source.map It.cells),.sl 3 (e.target.map It.cells),.s e.previous,.s e.next,.s e.author,.s e.project,.i .i64 e.created,.i .i64 e.origin,.nil],
    .row 3 1 8 0 true (v.map iRow)]) ?_ (r36Trim_pc v _) ?_
  ·refine (Wk.fz (S.length+2) (E:=3) (sz:=1) (by':=8) (g:=0) (sh:=false) (rows:=v.map iRow) (by rw [nb];rfl)).trans ?_
   rw [nbs]
   simp only [List.map_cons,List.map_nil,ev,List.getD_cons_zero,List.getD_cons_succ,List.set_cons_zero,List.set_cons_succ,fz,fz1,and_self,if_true]
   exact Wk.refl _ _
  simp only [nb,nbs,VV,Nat.reduceAdd]
  refine hR _ (PWc.cvs (fr':=[.ptr a 0,.u,.ptr S.length 0,.ptr (S.length+1) 0,.u,.u,.u,.u,.u,.u,.u,.u,.u,.u,.u,.u,.u,.u,.u,.u,.u,.u,.u,.u,.u,.u,.u,.u,.u,.u,.u,.u,.u,.u,.u,.u,.u,.u,.u,.u,.u,.u,.u,.u,.u,.u,.u,.u,.u,.u,.u,.u]) (wpc_sound ?_) (by repeat first | exact .nil | refine .cons (.refl _) ?_ | refine .cons (.forget _) ?_))
  clear hR R
  simp only [nst_len,VV]
  refine call_ex (next_at S a ha l (k1+1+1+1) (by omega) 3 (by decide) (by decide) _) rfl ?_
  rintro _ _ ⟨u,rfl,hu,rfl⟩
  simp only [nb0,nb,nbs0,nbs,VV,Nat.reduceAdd,Nat.reduceLeDiff,reduceIte]
  have fin:∀ (o:Opr) {fr:List V} {loc:Store} {cs:List V},GenOp o→resVs ⟨fr,nst S a l (k1+1+1+1+1)++loc⟩ [.c 2 (some 13)]=some [.agg cs]→Cvs cs o.cells→retK Tryz.prog S.length [.c 2 (some 13)] (fun r σ'=>∃ (o:Opr) (k':Nat),r=.agg o.cells∧GenOp o∧k'≤k+300∧σ'=nst S a l k') .ret ⟨fr,nst S a l (k1+1+1+1+1)++loc⟩:=by
   intro o fr loc cs hO hr hcs
   refine ret_wk (xs':=[.agg o.cells]) (.inr rfl) hr ?_ rfl ⟨o,k1+1+1+1+1,rfl,hO,by omega,rfl⟩
   have:=Wk.end0 (P:=Tryz.prog) (xs:=[.agg o.cells]) (loc:=loc) (nst_closed (k':=k1+1+1+1+1) hcl) (by simp only [Opr.cells,Stamp.cells,En.cells,List.cons_append,List.nil_append,nst_len,LW])
   rw [nst_len] at this
   exact (Wk.cvs (.cons (Cv.aggs hcs) .nil)).trans this
  refine ⟨fun h=>?_,fun h=>?_⟩
  ·refine fin _ hO2 (by simp only [resVs,resV,nb0,VV,Nat.reduceAdd,reduceIte];rfl) ?_
   simp only [Opr.cells,Stamp.cells,En.cells,bareOf,List.cons_append,List.nil_append,List.map_nil]
   repeat first | exact .nil | refine .cons (.refl _) ?_ | refine .cons (.nil _) ?_
  ·refine fin _ hO1 (by simp only [resVs,resV,nb0,VV,Nat.reduceAdd,reduceIte];rfl) ?_
   simp only [Opr.cells,Stamp.cells,En.cells,List.cons_append,List.nil_append]
   repeat first | exact .nil | refine .cons (.refl _) ?_ | refine .cons (.nil _) ?_
 have hw3:IntKind.i64.wrap (1+v3 - 1)=v3:=by rw [IntWalk.i64_in _ (by omega)];omega
 have hv2':v2=0∨v2=1∨v2=2:=by omega
 rcases hv2' with rfl | rfl | rfl
 ·simp only [hw3,nst_len,nb,nbs,V.pure,VV,Nat.reduceAdd,Int.reduceToNat,reduceIte]
  exact ⟨by decide,by decide,tail [v3,x2,x3] ⟨v3,x2,x3,rfl,hv3,hx2,hx3⟩ rfl (by repeat first | exact .nil | refine .cons (.refl _) ?_ | refine .cons (.forget _) ?_)⟩
 ·simp only [hw3,nst_len,nb,nbs,V.pure,VV,Nat.reduceAdd,Int.reduceToNat,reduceIte]
  exact ⟨by decide,by decide,tail [x1,v3,x3] ⟨x1,v3,x3,rfl,hx1,hv3,hx3⟩ rfl (by repeat first | exact .nil | refine .cons (.refl _) ?_ | refine .cons (.forget _) ?_)⟩
 ·simp only [hw3,nst_len,nb,nbs,V.pure,VV,Nat.reduceAdd,Int.reduceToNat,reduceIte]
  exact ⟨by decide,by decide,tail [x1,x2,v3] ⟨x1,x2,v3,rfl,hx1,hx2,hv3⟩ rfl (by repeat first | exact .nil | refine .cons (.refl _) ?_ | refine .cons (.forget _) ?_)⟩
theorem op_at (S:Store) (a:Nat) (ha:a<S.length) (l:List Int) (k:Nat) (hk:k<2^47) (loc:Store) :
  PC Tryz.prog 21 [.ptr a 0] (nst S a l k++loc) (fun r σ'=>∃ (o:Opr) (k':Nat),r=.agg o.cells∧GenOp o∧k'≤k+300∧σ'=nst S a l k'++loc):=by
 rw [nst_app ha]
 refine (op_pc (S++loc) a (by rw [List.length_append];omega) l k hk).mono ?_
 rintro r σ' ⟨o,k',h1,h2,h3,h4⟩
 exact ⟨o,k',h1,h2,h3,by rw [h4,nst_app ha]⟩
theorem loop161 {n:Nat} {σ:Store} {K:Exit→St→Prop} (s:List UInt8) (hlen:s.length<2^63):∀ (rest pre:List UInt8),s=pre++rest →
  (rest.all (fun b=>!contentBad b)=true→(∀ j1 j2 j3 j4 j5 j6 j7 j8 j9 j10 j11 j12 j13 j14 j15 j16 j17 j18 j19 j20 j21 j22 j23 j24 j25 j26 j27 j28 j29 j30 j31 j32 j33 j34 j35 j36 j37 j38 j39 j40 j41 j42 j43 j44 j45 j46 j47 j48 j49 j50 j51 j52 j53 j54 j55 j56 j57 j58 j59 j60 j61 j62 j63 j64 j65 j66,K (.exit 0) ⟨[.s s,j1,j2,j3,j4,j5,j6,j7,j8,j9,j10,j11,j12,j13,j14,j15,j16,j17,j18,j19,j20,j21,j22,j23,j24,j25,j26,j27,j28,j29,j30,j31,j32,j33,j34,j35,j36,j37,j38,j39,j40,j41,j42,j43,j44,j45,j46,j47,j48,j49,j50,j51,j52,j53,j54,j55,j56,j57,j58,j59,j60,j61,j62,j63,j64,j65,j66],σ⟩))→(rest.all (fun b=>!contentBad b)=false→(∀ j0 j1 j3 j4 j5 j6 j7 j8 j9 j10 j11 j12 j13 j14 j15 j16 j17 j18 j19 j20 j21 j22 j23 j24 j25 j26 j27 j28 j29 j30 j31 j32 j33 j34 j35 j36 j37 j38 j39 j40 j41 j42 j43 j44 j45 j46 j47 j48 j49 j50 j51 j52 j53 j54 j55 j56 j57 j58 j59 j60 j61 j62 j63 j64 j65 j66,K .ret ⟨[j0,j1,.b false,j3,j4,j5,j6,j7,j8,j9,j10,j11,j12,j13,j14,j15,j16,j17,j18,j19,j20,j21,j22,j23,j24,j25,j26,j27,j28,j29,j30,j31,j32,j33,j34,j35,j36,j37,j38,j39,j40,j41,j42,j43,j44,j45,j46,j47,j48,j49,j50,j51,j52,j53,j54,j55,j56,j57,j58,j59,j60,j61,j62,j63,j64,j65,j66],σ⟩)) →
  Rnd n Tryz.prog p161_0 K (rest.length+1) ⟨[.s s,.u,.u,.i .i64 pre.length,.u,.u,.u,.u,.u,.u,.u,.u,.u,.u,.u,.u,.u,.u,.u,.u,.u,.u,.u,.u,.u,.u,.u,.u,.u,.u,.u,.u,.u,.u,.u,.u,.u,.u,.u,.u,.u,.u,.u,.u,.u,.u,.u,.u,.u,.u,.u,.u,.u,.u,.u,.u,.u,.u,.u,.u,.u,.u,.u,.u,.u,.u,.u],σ⟩:=by
 intro rest
 induction rest with
 | nil =>
  intro pre he h1 h2
  have he:s=pre:=by simpa using he
  subst he
  refine rnd_step fun R hR=>?_
  simp only [p161_0,VV,seval]
  exact ⟨fun h=>by simp at h,fun _=>h1 rfl ..⟩
 | cons c rest ih =>
  intro pre he h1 h2
  subst he
  have hb:contentBad c=(((((decide ((c.toNat:Int)<32)||decide (126<(c.toNat:Int)))||((c.toNat:Int)==60))||((c.toNat:Int)==62))||((c.toNat:Int)==123))||((c.toNat:Int)==125)):=by
   clear h1 h2 ih hlen
   revert c
   exact u8_all (by decide +kernel)
  refine rnd_step fun R hR=>?_
  simp only [p161_0,VV,seval]
  rw [← hb]
  refine ⟨fun _=>⟨by simp;omega,fun h=>?_,fun h=>?_⟩,fun h=>by simp at h<;>omega⟩
  ·exact h2 (by simp [h]) ..
  ·have e:(c::rest).all (fun b=>!contentBad b)=rest.all (fun b=>!contentBad b):=by simp [h]
   rw [e] at h1 h2
   refine hR _ (rnd_cvs ?_ (ih (pre++[c]) (by simp) h1 h2))
   rw [wrap_succ (by simp at hlen;omega)]
   simp only [List.length_append,List.length_cons,List.length_nil]
   repeat first | exact .nil | refine .cons (.refl _) ?_ | refine .cons (.forget _) ?_
theorem cut_name (s:List UInt8):contentName s=(isName (tagName s)&&(decide ((tagName s).length=s.length)||decide ((tagName s).length+1<s.length))):=by
 have hb:=indexByte_lt s 32
 by_cases h:0≤Lib.indexByte s 32
 ·have e0:cutAt s 32=(s.take (Lib.indexByte s 32).toNat,s.drop ((Lib.indexByte s 32).toNat+1),true):=by simp only [cutAt,if_pos h]
  have e3:tagName s=s.take (Lib.indexByte s 32).toNat:=by simp only [tagName,e0]
  simp only [contentName,e0,e3]
  have e1:(s.take (Lib.indexByte s 32).toNat).length=(Lib.indexByte s 32).toNat:=by rw [List.length_take];omega
  have e2:(s.drop ((Lib.indexByte s 32).toNat+1)).length=s.length - ((Lib.indexByte s 32).toNat+1):=by simp
  simp only [e1,e2,Bool.not_true,Bool.false_or]
  congr 1
  rw [Bool.eq_iff_iff];simp;omega
 ·have e0:cutAt s 32=(s,[],false):=by simp only [cutAt,if_neg h]
  have e3:tagName s=s:=by simp only [tagName,e0]
  simp only [contentName,e0,e3];simp
theorem r3IsContent_pc (s:List UInt8) (σ:Store):PC Tryz.prog 161 [.s s] σ (fun r σ'=>r=.b (isContent s)∧σ'=σ):=by
 refine PC.intro Tryz.func161 c161 fun hcl hwf=>wpc_sound ?_
 have hlen:=wf_s (hwf 0 _ rfl).1
 simp only [p161,SS,seval]
 simp only [VV,seval]
 refine ⟨fun h=>?_,fun h=>?_⟩
 ·refine ret_end0 (.inr rfl) rfl ⟨?_,rfl⟩
  have h:¬ s.length≤64:=by simp at h;omega
  simp [Pm.one,isContent,contentEnds,h]
 have h64:s.length≤64:=by simp at h;omega
 refine PWc.rnd_cvs ?_ (s.length+1) (loop161 s hlen s [] rfl (fun ha=>?_) (fun ha=>?_))
 ·repeat first | exact .nil | refine .cons (.refl _) ?_ | refine .cons (.forget _) ?_
 ·intros
  simp only [VV,seval]
  refine call_eq (r3Name_pc s _) rfl ?_
  simp only [VV,seval]
  refine call_eq (r1IsName_pc (tagName s) _) rfl ?_
  simp only [VV,seval]
  have hle:(tagName s).length≤s.length:=(cutAt_len s 32).1
  have hw:IntKind.i64.wrap (((tagName s).length:Int)+1)=((tagName s).length:Int)+1:=IntWalk.i64_in _ (by omega)
  have hc:(((tagName s).length:Int)==(s.length:Int))=decide ((tagName s).length=s.length):=by rw [Bool.eq_iff_iff];simp;omega
  have hd:decide (((tagName s).length:Int)+1<(s.length:Int))=decide ((tagName s).length+1<s.length):=by rw [Bool.eq_iff_iff];simp;omega
  rw [hw,hc,hd,← cut_name]
  have hne:contentName s=true→0<s.length:=fun h=>by
   cases s with
   | nil=>revert h;decide
   | cons c s=>simp
  refine ⟨fun h=>?_,?_⟩
  ·have h:contentName s=true:=by simpa using h
   have:=hne h
   rw [IntWalk.i64_in _ (by omega)];omega
  ·refine ret_end0 (.inr rfl) rfl ⟨?_,rfl⟩
   cases hn:contentName s with
   | false=>simp [Pm.one,isContent,hn]
   | true =>
    have h0:=hne hn
    have e1:(IntKind.i64.wrap ((s.length:Int) - 1)).toNat=s.length - 1:=by rw [IntWalk.i64_in _ (by omega)];omega
    simp only [Pm.one,List.getD_cons_zero,List.getD_cons_succ,e1,isContent,contentEnds,hn,ha,Bool.true_and,Bool.and_true,h64,decide_true]
    have h3:s.length≠0:=by omega
    simp only [h3,ne_eq,not_false_eq_true,decide_true,Bool.true_and,V.b.injEq]
    rw [Bool.eq_iff_iff];simp;omega
 ·intros
  exact ret_end0 (.inr rfl) rfl ⟨by simp [Pm.one,isContent,ha],rfl⟩
theorem range_not (b:Bool) (n:Int):(b&&decide (1≤n)&&decide (n≤999))=!(!b||decide (n<1)||decide (999<n)):=by
 rw [Bool.eq_iff_iff];simp [Int.not_lt]
theorem loop131 {σ:Store} {K:Exit→St→Prop} (its:List It) (x:It) (hcl:Closed σ) (hlen:its.length<2^63):∀ (rest pre:List It),its=pre++rest →
  ((rest.all fun y=>!fitsBad x y)=true→(∀ j0 j1 j2 j3 j4 j5 j6 j7 j8 j9 j10 j11 j12 j13 j14 j15 j16 j17 j18 j19 j20 j21 j22 j23 j24 j25 j26 j27 j28 j29 j30 j31 j32 j33 j34 j35 j36 j37 j38 j39 j40 j41 j42 j43 j44 j45 j46 j47 j48 j49 j50 j51 j52 j53 j54 j55 j56 j57 j58 j59 j60 j61 j62 j63 j64 j65 j66 j67 j68 j69 j70 j71 j72 j73 j74 j75 j76 j77 j78 j79 j80 j81 j82 j83 j84 j85 j86 j87 j88 j89 j90 j91 j92 j93 j94 j95 j96 j97 j98 j99 j100 j101 j102 j103 j104 j105 j106 j107 j108 j109 j110 j111 j112 j113,K (.exit 1) ⟨[j0,j1,j2,j3,j4,j5,j6,j7,j8,j9,j10,j11,j12,j13,j14,j15,j16,j17,j18,j19,j20,j21,j22,j23,j24,j25,j26,j27,j28,j29,j30,j31,j32,j33,j34,j35,j36,j37,j38,j39,j40,j41,j42,j43,j44,j45,j46,j47,j48,j49,j50,j51,j52,j53,j54,j55,j56,j57,j58,j59,j60,j61,j62,j63,j64,j65,j66,j67,j68,j69,j70,j71,j72,j73,j74,j75,j76,j77,j78,j79,j80,j81,j82,j83,j84,j85,j86,j87,j88,j89,j90,j91,j92,j93,j94,j95,j96,j97,j98,j99,j100,j101,j102,j103,j104,j105,j106,j107,j108,j109,j110,j111,j112,j113],σ++[.box 79 x.cells]⟩))→((rest.all fun y=>!fitsBad x y)=false→∀ loc,(∀ j0 j1 j2 j3 j5 j6 j7 j8 j9 j10 j11 j12 j13 j14 j15 j16 j17 j18 j19 j20 j21 j22 j23 j24 j25 j26 j27 j28 j29 j30 j31 j32 j33 j34 j35 j36 j37 j38 j39 j40 j41 j42 j43 j44 j45 j46 j47 j48 j49 j50 j51 j52 j53 j54 j55 j56 j57 j58 j59 j60 j61 j62 j63 j64 j65 j66 j67 j68 j69 j70 j71 j72 j73 j74 j75 j76 j77 j78 j79 j80 j81 j82 j83 j84 j85 j86 j87 j88 j89 j90 j91 j92 j93 j94 j95 j96 j97 j98 j99 j100 j101 j102 j103 j104 j105 j106 j107 j108 j109 j110 j111 j112 j113,K .ret ⟨[j0,j1,j2,j3,.i .i64 7,j5,j6,j7,j8,j9,j10,j11,j12,j13,j14,j15,j16,j17,j18,j19,j20,j21,j22,j23,j24,j25,j26,j27,j28,j29,j30,j31,j32,j33,j34,j35,j36,j37,j38,j39,j40,j41,j42,j43,j44,j45,j46,j47,j48,j49,j50,j51,j52,j53,j54,j55,j56,j57,j58,j59,j60,j61,j62,j63,j64,j65,j66,j67,j68,j69,j70,j71,j72,j73,j74,j75,j76,j77,j78,j79,j80,j81,j82,j83,j84,j85,j86,j87,j88,j89,j90,j91,j92,j93,j94,j95,j96,j97,j98,j99,j100,j101,j102,j103,j104,j105,j106,j107,j108,j109,j110,j111,j112,j113],σ++(.box 79 x.cells::loc)⟩)) →
  Rnd σ.length Tryz.prog p131_0 K (rest.length+1) ⟨[.sl 3 (its.map It.cells),.u,.u,.ptr σ.length 0,.u,.u,.u,.u,.u,.u,.u,.u,.u,.u,.u,.u,.u,.u,.u,.u,.u,.u,.u,.u,.u,.u,.u,.u,.u,.u,.u,.u,.u,.u,.u,.u,.u,.u,.u,.u,.u,.u,.u,.u,.u,.u,.u,.u,.u,.u,.u,.u,.u,.u,.u,.u,.u,.u,.u,.u,.u,.u,.u,.u,.u,.u,.u,.u,.u,.u,.u,.u,.u,.u,.u,.u,.u,.u,.u,.i .i64 its.length,.i .i64 pre.length,.u,.u,.u,.u,.u,.u,.u,.u,.u,.u,.u,.u,.u,.u,.u,.u,.u,.u,.u,.u,.u,.u,.u,.u,.u,.u,.u,.u,.u,.u,.u,.u,.u],σ++[.box 79 x.cells]⟩:=by
 intro rest
 induction rest with
 | nil =>
  intro pre he h1 h2
  have he:its=pre:=by simpa using he
  subst he
  refine rnd_step fun R hR=>?_
  simp only [p131_0,VV,seval]
  exact ⟨fun h=>by simp at h,fun _=>h1 rfl ..⟩
 | cons y rest ih =>
  intro pre he h1 h2
  subst he
  have hw:IntKind.i64.wrap ((pre.length:Int)+1)=(((pre++[y]).length:Nat):Int):=by
   rw [wrap_succ (by simp at hlen;omega)];simp
  have next:fitsBad x y=false→∀ {loc:Store} {R:St→Prop} {fr:List V},(∀ st',Rnd σ.length Tryz.prog p131_0 K (rest.length+1) st'→R st') →
    Cvs fr [.sl 3 ((pre++y::rest).map It.cells),.u,.u,.ptr σ.length 0,.u,.u,.u,.u,.u,.u,.u,.u,.u,.u,.u,.u,.u,.u,.u,.u,.u,.u,.u,.u,.u,.u,.u,.u,.u,.u,.u,.u,.u,.u,.u,.u,.u,.u,.u,.u,.u,.u,.u,.u,.u,.u,.u,.u,.u,.u,.u,.u,.u,.u,.u,.u,.u,.u,.u,.u,.u,.u,.u,.u,.u,.u,.u,.u,.u,.u,.u,.u,.u,.u,.u,.u,.u,.u,.u,.i .i64 (pre++y::rest).length,.i .i64 (IntKind.i64.wrap ((pre.length:Int)+1)),.u,.u,.u,.u,.u,.u,.u,.u,.u,.u,.u,.u,.u,.u,.u,.u,.u,.u,.u,.u,.u,.u,.u,.u,.u,.u,.u,.u,.u,.u,.u,.u,.u]→R ⟨fr,σ++(.box 79 x.cells::loc)⟩:=by
   intro hf loc R fr hR hc
   rw [hw] at hc
   have e:((y::rest).all fun y=>!fitsBad x y)=rest.all fun y=>!fitsBad x y:=by simp [hf]
   rw [e] at h1 h2
   refine hR _ (rnd_drop [_] loc (closed_add hcl (by simp only [List.forall_mem_cons,It.cells,LW];simp)) hc ?_ (ih (pre++[y]) (by simp) h1 h2))
   simp only [LW,List.length_cons,List.length_nil,Nat.zero_add]
   omega
  refine rnd_step fun R hR=>?_
  simp only [p131_0,It.cells,VV,seval]
  refine ⟨fun _=>⟨by simp;omega,?_⟩,fun h=>by simp at h<;>omega⟩
  refine call_eq (r3IsTag_pc y _) rfl ?_
  simp only [VV,seval]
  have e1:fitsBad x y=(!(!isTag y||y.id != x.id)&&(x.kind != 3||y.kind != 2||!(tagName y.text==x.text))):=rfl
  refine ⟨fun h=>?_,fun h=>?_⟩
  ·refine next (by rw [e1,h];rfl) hR ?_
   simp only
   repeat first | exact .nil | refine .cons (.refl _) ?_ | refine .cons (.forget _) ?_
  ·refine callg_eq (by simp only [VV,seval]<;>rfl) (fun _=>r3Name_pc y.text _) rfl ?_
   simp only [VV,seval]
   refine ⟨fun h3=>?_,fun h3=>?_⟩
   ·have hb:fitsBad x y=true:=by rw [e1,h];simpa [bne] using h3
    exact h2 (by simp [hb]) _ ..
   ·have hb:fitsBad x y=false:=by rw [e1,h];simpa [bne] using h3
    refine next hb hR ?_
    simp only
    repeat first | exact .nil | refine .cons (.refl _) ?_ | refine .cons (.forget _) ?_
theorem r3Check_pc (before:List It) (x:It) (σ:Store):PC Tryz.prog 131 [.sl 3 (before.map It.cells),.agg x.cells] σ (fun r σ'=>r=.i .i64 (checkErr before x)∧σ'=σ):=by
 refine PC.intro Tryz.func131 c131 fun hcl hwf=>wpc_sound ?_
 have hlen:=wf_sl (hwf 0 _ rfl).1
 rw [List.length_map] at hlen
 simp only [p131,SS,seval]
 have loop:∀ {fr:List V},itemFine before.getLast? x=true→isTag x=true→Cvs fr [.sl 3 (before.map It.cells),.u,.u,.ptr σ.length 0,.u,.u,.u,.u,.u,.u,.u,.u,.u,.u,.u,.u,.u,.u,.u,.u,.u,.u,.u,.u,.u,.u,.u,.u,.u,.u,.u,.u,.u,.u,.u,.u,.u,.u,.u,.u,.u,.u,.u,.u,.u,.u,.u,.u,.u,.u,.u,.u,.u,.u,.u,.u,.u,.u,.u,.u,.u,.u,.u,.u,.u,.u,.u,.u,.u,.u,.u,.u,.u,.u,.u,.u,.u,.u,.u,.i .i64 before.length,.i .i64 ((0:Nat):Int),.u,.u,.u,.u,.u,.u,.u,.u,.u,.u,.u,.u,.u,.u,.u,.u,.u,.u,.u,.u,.u,.u,.u,.u,.u,.u,.u,.u,.u,.u,.u,.u,.u] →
   PWc σ.length Tryz.prog (.loop p131_0) (blkK 1 (seqK (wpc σ.length Tryz.prog (.seq (.reg [] [⟨some 4,[],.mov (.c (.i .i64 0))⟩]) .ret) (retK Tryz.prog σ.length [.t 4] fun r σ'=>r=.i .i64 (checkErr before x)∧σ'=σ)) (retK Tryz.prog σ.length [.t 4] fun r σ'=>r=.i .i64 (checkErr before x)∧σ'=σ)))
    ⟨fr,σ++[.box 79 x.cells]⟩:=by
  intro fr hf ht hc
  refine PWc.rnd_cvs hc (before.length+1) (loop131 before x hcl hlen before [] rfl (fun ha=>?_) (fun ha=>?_))
  ·intros
   simp only [VV,seval]
   refine ret_end hcl (.inr rfl) (by simp only [RS,seval];rfl) (by simp only [LW]) ⟨?_,rfl⟩
   have hfi:fits before x=true:=ha
   simp [Pm.one,checkErr,hf,ht,hfi]
  ·intros
   simp only [VV,seval]
   refine ret_end hcl (.inr rfl) (by simp only [RS,seval];rfl) (by simp only [LW]) ⟨?_,rfl⟩
   have hfi:fits before x=false:=ha
   simp [Pm.one,checkErr,hf,ht,hfi]
 have early:isTag x=false→checkErr before x=if itemFine before.getLast? x=false then 1 else 0:=by
  intro h;simp [checkErr,h]
 by_cases k1:x.kind=1
 ·have hnt:isTag x=false:=by simp [isTag,k1]
  rw [early hnt]
  rcases List.eq_nil_or_concat before with hb | ⟨b',y,hb⟩
  ·subst hb
   have e0:decide ((0:Int)<(([]:List V).length:Int))=false:=rfl
   simp only [It.cells,k1,List.map_nil,VV,seval]
   refine ⟨fun h=>by simp at h,.i .i64 0,fun h=>by simp at h,?_⟩
   simp only [VV,seval]
   refine ⟨fun h=>?_,fun h=>?_⟩ <;>
   ·refine ret_end hcl (.inr rfl) (by simp only [RS,seval];rfl) (by simp only [LW]) ⟨?_,rfl⟩
    have e2:itemFine ([]:List It).getLast? x=!(x.text==[]||x.id != 0):=by simp [itemFine,k1,bne]
    rw [e2,h];rfl
  ·rw [List.concat_eq_append] at hb
   subst hb
   have hp:IntKind.i64.wrap (((b'++[y]).length:Int) - 1)=b'.length:=by
    have:(b'++[y]).length<2^63:=hlen
    rw [IntWalk.i64_in _ (by simp at this ⊢;omega)];simp
   have hat:at2 (List.map It.cells (b'++[y])) b'.length 0=some (.i .i64 y.kind):=by
    rw [at2_at];rfl
   have e0:decide ((0:Int)<((List.map It.cells (b'++[y])).length:Int))=true:=by simp
   have e2:itemFine (b'++[y]).getLast? x=!((x.text==[]||x.id != 0)||y.kind==1):=by simp [itemFine,k1,bne]
   rw [e2]
   simp only [It.cells,k1,VV,seval]
   simp only [List.length_map,hp,Int.toNat_natCast,hat,VV,seval]
   refine ⟨fun _=>by simp;omega,.i .i64 y.kind,fun _=>?_,?_⟩
   ·rfl
   have e3:decide ((0:Int)<((b'++[y]).length:Int))=true:=by simp
   simp only [e3,VV,seval]
   refine ⟨fun h=>?_,fun h=>?_⟩ <;>
   ·refine ret_end hcl (.inr rfl) (by simp only [RS,seval];rfl) (by simp only [LW]) ⟨?_,rfl⟩
    rw [h];rfl
 by_cases k5:x.kind=5
 ·have hnt:isTag x=false:=by simp [isTag,k5]
  rw [early hnt]
  have e2:itemFine before.getLast? x=!(!isName x.text||x.id != 0):=by simp [itemFine,k5,bne]
  rw [e2]
  simp only [It.cells,k5,VV,seval]
  refine call_eq (r1IsName_pc _ _) rfl ?_
  simp only [VV,seval]
  refine ⟨fun h=>?_,fun h=>?_⟩ <;>
  ·refine ret_end hcl (.inr rfl) (by simp only [RS,seval];rfl) (by simp only [LW]) ⟨?_,rfl⟩
   rw [h];rfl
 have bad:itemFine before.getLast? x=false→checkErr before x=1:=fun h=>by simp [checkErr,h]
 have skip:itemFine before.getLast? x=true→isTag x=false→checkErr before x=0:=fun h h2=>by simp [checkErr,h,h2]
 by_cases k24:x.kind=2∨x.kind=4
 ·have ht:isTag x=true:=by simp [isTag];rcases k24 with h | h<;>simp [h]
  have e2:itemFine before.getLast? x=!(!isContent x.text||decide (x.id<1)||decide (999<x.id)):=by
   rw [← range_not];simp [itemFine,k24,k1,k5]
  rcases k24 with k | k
  ·rw [It.cells,k] at loop
   simp only [It.cells,k,VV,seval]
   refine call_eq (r3IsContent_pc _ _) rfl ?_
   simp only [VV,seval]
   refine ⟨fun h=>?_,fun h=>loop (by rw [e2,h];rfl) ht (by simp only [List.length_map,Int.natCast_zero];repeat first | exact .nil | refine .cons (.refl _) ?_ | refine .cons (.forget _) ?_)⟩
   refine ret_end hcl (.inr rfl) (by simp only [RS,seval];rfl) (by simp only [LW]) ⟨?_,rfl⟩
   rw [bad (by rw [e2,h];rfl)];rfl
  ·rw [It.cells,k] at loop
   simp only [It.cells,k,VV,seval]
   refine call_eq (r3IsContent_pc _ _) rfl ?_
   simp only [VV,seval]
   refine ⟨fun h=>?_,fun h=>loop (by rw [e2,h];rfl) ht (by simp only [List.length_map,Int.natCast_zero];repeat first | exact .nil | refine .cons (.refl _) ?_ | refine .cons (.forget _) ?_)⟩
   refine ret_end hcl (.inr rfl) (by simp only [RS,seval];rfl) (by simp only [LW]) ⟨?_,rfl⟩
   rw [bad (by rw [e2,h];rfl)];rfl
 by_cases k3:x.kind=3
 ·have ht:isTag x=true:=by simp [isTag,k3]
  have e2:itemFine before.getLast? x=!(!isName x.text||decide (x.id<1)||decide (999<x.id)):=by
   rw [← range_not];simp [itemFine,k3]
  rw [It.cells,k3] at loop
  simp only [It.cells,k3,VV,seval]
  refine call_eq (r1IsName_pc _ _) rfl ?_
  simp only [VV,seval]
  refine ⟨fun h=>?_,fun h=>loop (by rw [e2,h];rfl) ht (by simp only [List.length_map,Int.natCast_zero];repeat first | exact .nil | refine .cons (.refl _) ?_ | refine .cons (.forget _) ?_)⟩
  refine ret_end hcl (.inr rfl) (by simp only [RS,seval];rfl) (by simp only [LW]) ⟨?_,rfl⟩
  rw [bad (by rw [e2,h];rfl)];rfl
 ·have n1:(x.kind==1)=false:=by simpa using k1
  have n2:(x.kind==2)=false:=by simp;omega
  have n3:(x.kind==3)=false:=by simpa using k3
  have n4:(x.kind==4)=false:=by simp;omega
  have n5:(x.kind==5)=false:=by simpa using k5
  have e2:itemFine before.getLast? x=false:=by simp [itemFine,k1,k24,k3,k5]
  rw [bad e2]
  simp only [It.cells,n1,n2,n3,n4,n5,VV,seval]
  exact ret_end hcl (.inr rfl) (by simp only [RS,seval];rfl) (by simp only [LW]) ⟨rfl,rfl⟩
theorem loop83 {σ:Store} {K:Exit→St→Prop} (its:List It) (hcl:Closed σ) (hlen:its.length<2^63):∀ (rest pre:List It),its=pre++rest →
  (itemsErr pre rest=0→(∀ j0 j1 j2 j3 j4 j5 j6 j7 j8 j9 j10 j11 j12 j13 j14 j15 j16 j17 j18 j19 j20 j21 j22 j23 j24 j25 j26 j27 j28 j29,K (.exit 0) ⟨[j0,j1,j2,j3,j4,j5,j6,j7,j8,j9,j10,j11,j12,j13,j14,j15,j16,j17,j18,j19,j20,j21,j22,j23,j24,j25,j26,j27,j28,j29],σ⟩))→(itemsErr pre rest≠0→(∀ j0 j1 j3 j4 j5 j6 j7 j8 j9 j10 j11 j12 j13 j14 j15 j16 j17 j18 j19 j20 j21 j22 j23 j24 j25 j26 j27 j28 j29,K .ret ⟨[j0,j1,.i .i64 (itemsErr pre rest),j3,j4,j5,j6,j7,j8,j9,j10,j11,j12,j13,j14,j15,j16,j17,j18,j19,j20,j21,j22,j23,j24,j25,j26,j27,j28,j29],σ⟩)) →
  Rnd σ.length Tryz.prog p83_0 K (rest.length+1) ⟨[.sl 3 (its.map It.cells),.u,.u,.u,.u,.u,.u,.u,.u,.u,.u,.u,.u,.u,.i .i64 its.length,.i .i64 pre.length,.u,.u,.u,.u,.u,.u,.u,.u,.u,.u,.u,.u,.u,.u],σ⟩:=by
 intro rest
 induction rest with
 | nil =>
  intro pre he h1 h2
  have he:its=pre:=by simpa using he
  subst he
  refine rnd_step fun R hR=>?_
  simp only [p83_0,VV,seval]
  exact ⟨fun h=>by simp at h,fun _=>h1 rfl ..⟩
 | cons y rest ih =>
  intro pre he h1 h2
  subst he
  refine rnd_step fun R hR=>?_
  have ht:List.take pre.length (List.map It.cells (pre++y::rest))=pre.map It.cells:=by simp
  simp only [p83_0,It.cells,VV,seval]
  refine ⟨fun _=>?_,fun h=>by simp at h;omega⟩
  refine ⟨by simp;omega,by simp;omega,?_⟩
  rw [ht]
  refine call_eq (r3Check_pc pre y _) rfl ?_
  simp only [VV,seval]
  refine ⟨fun h=>?_,fun h=>?_⟩
  ·have h':checkErr pre y≠0:=by simpa using h
   have e:itemsErr pre (y::rest)=checkErr pre y:=by rw [itemsErr_check,if_pos h']
   rw [e] at h2
   exact h2 h' ..
  ·have h':checkErr pre y=0:=by simpa using h
   have e:itemsErr pre (y::rest)=itemsErr (pre++[y]) rest:=by rw [itemsErr_check,h'];simp
   rw [e] at h1 h2
   refine hR _ (rnd_cvs ?_ (ih (pre++[y]) (by simp) h1 h2))
   rw [wrap_succ (by simp at hlen;omega)]
   simp only [List.length_append,List.length_cons,List.length_nil]
   repeat first | exact .nil | refine .cons (.refl _) ?_ | refine .cons (.forget _) ?_
theorem r3Validate_pc (its:List It) (σ:Store):PC Tryz.prog 83 [.sl 3 (its.map It.cells)] σ (fun r σ'=>r=.i .i64 (validItems its)∧σ'=σ):=by
 refine PC.intro Tryz.func83 c83 fun hcl hwf=>wpc_sound ?_
 have hlen:=wf_sl (hwf 0 _ rfl).1
 rw [List.length_map] at hlen
 simp only [p83,SS,seval]
 simp only [List.length_map,VV,seval]
 refine callg_eq (by simp only [VV,seval]<;>rfl) (fun _=>r3Length_pc its _) rfl ?_
 simp only [List.length_map,VV,seval]
 refine ⟨fun h=>?_,fun h=>?_⟩
 ·refine ret_end0 (.inr rfl) (by simp only [RS,seval];rfl) ⟨?_,rfl⟩
  simp at h
  have:512<its.length∨1024<lengthFrom 0 its:=by omega
  simp only [Pm.one,validItems,this,if_true]
 ·simp at h
  have hn:¬ (512<its.length∨1024<lengthFrom 0 its):=by omega
  refine PWc.rnd_cvs ?_ (its.length+1) (loop83 its hcl hlen its [] rfl (fun h1=>?_) (fun h1=>?_))
  ·simp only [VV,seval]
   repeat first | exact .nil | refine .cons (.refl _) ?_ | refine .cons (.forget _) ?_
  ·intros
   simp only [VV,seval]
   exact ret_end0 (.inr rfl) (by simp only [RS,seval];rfl) ⟨by simp only [Pm.one,validItems,hn,h1,if_false],rfl⟩
  ·intros
   simp only [VV,seval]
   exact ret_end0 (.inr rfl) (by simp only [RS,seval];rfl) ⟨by simp only [Pm.one,validItems,hn,if_false],rfl⟩
theorem writ_cases:∀ c:UInt8,((((c.toNat:Int)==92||(c.toNat:Int)==60)||(c.toNat:Int)==123)=true→writB c=[92,c]) ∧
  ((((c.toNat:Int)==92||(c.toNat:Int)==60)||(c.toNat:Int)==123)=false→(((c.toNat:Int)==10)=true→writB c=[92,110]) ∧
  (((c.toNat:Int)==10)=false→(((c.toNat:Int)==9)=true→writB c=[92,116]) ∧
  (((c.toNat:Int)==9)=false→(((c.toNat:Int)==13||classOf c==1)=true→writB c=[92,120,hexDig (c.toNat / 16),hexDig (c.toNat % 16)]) ∧
  (((c.toNat:Int)==13||classOf c==1)=false→writB c=[c])))):=u8_all (by decide +kernel)
theorem hex_at:∀ c:UInt8,(0≤IntKind.u8.wrap ((c.toNat:Int).tdiv 16)∧IntKind.u8.wrap ((c.toNat:Int).tdiv 16)<((16:Nat):Int))∧(0≤(c.toNat:Int).tmod 16∧(c.toNat:Int).tmod 16<((16:Nat):Int)) ∧
  ([48,49,50,51,52,53,54,55,56,57,97,98,99,100,101,102]:List UInt8).getD (IntKind.u8.wrap ((c.toNat:Int).tdiv 16)).toNat 0=hexDig (c.toNat / 16) ∧
  ([48,49,50,51,52,53,54,55,56,57,97,98,99,100,101,102]:List UInt8).getD ((c.toNat:Int).tmod 16).toNat 0=hexDig (c.toNat % 16):=u8_all (by decide +kernel)
theorem r3Written_pc (c:UInt8) (σ:Store):PC Tryz.prog 163 [.i .u8 c.toNat] σ (fun r σ'=>r=.s (writB c)∧σ'=σ):=by
 refine PC.intro Tryz.func163 c163 fun hcl hwf=>wpc_sound ?_
 obtain ⟨w1,w2⟩:=writ_cases c
 simp only [p163,SS,seval]
 simp only [VV,Nat.reduceAdd,reduceIte]
 refine ⟨fun h1=>⟨by decide,?_⟩,fun h1=>⟨fun h2=>?_,fun h2=>⟨fun h3=>?_,fun h3=>?_⟩⟩⟩
 ·exact ret_end0 (.inr rfl) (by simp only [RS];rfl) ⟨by rw [w1 h1];rfl,rfl⟩
 ·exact ret_end0 (.inr rfl) (by simp only [RS];rfl) ⟨by rw [(w2 h1).1 h2];rfl,rfl⟩
 ·exact ret_end0 (.inr rfl) (by simp only [RS];rfl) ⟨by rw [((w2 h1).2 h2).1 h3];rfl,rfl⟩
 ·have w5:=((w2 h1).2 h2).2 h3
  refine callg_eq (by simp only [VV]<;>rfl) (fun _=>r1Class_pc c _) rfl ?_
  simp only [VV,Nat.reduceAdd,reduceIte]
  obtain ⟨x1,x2,x3,x4⟩:=hex_at c
  refine ⟨fun h4=>⟨by decide,x1,by decide,x2,by decide,?_⟩,fun h4=>?_⟩
  ·refine ret_end0 (.inr rfl) (by simp only [RS];rfl) ⟨?_,rfl⟩
   rw [w5.1 h4,← x3,← x4];rfl
  ·exact ret_end0 (.inr rfl) (by simp only [RS];rfl) ⟨by rw [w5.2 h4];rfl,rfl⟩
theorem ne62 (c:UInt8):((c.toNat:Int) != 62)=(c != 62):=by revert c;exact u8_all (by decide +kernel)
theorem dig_int (c:UInt8):(decide (48≤(c.toNat:Int))&&decide ((c.toNat:Int)≤57))=digitB c:=by revert c;exact u8_all (by decide +kernel)
theorem dec_step {pre:List UInt8} {c:UInt8} (hp:∀ c∈pre,digitB c=true) (hl:pre.length≤4) (hc:digitB c=true) :
  IntKind.i64.wrap (IntKind.i64.wrap (10*decFrom 0 pre)+IntKind.i64.wrap (IntKind.u8.wrap ((c.toNat:Int) - 48)))=decFrom 0 (pre++[c]):=by
 have h:=decFrom_le pre 0 pre.length rfl (List.all_eq_true.2 hp) (Int.le_refl 0)
 have h10:(10:Int)^pre.length≤10^4:=by
  have:pre.length=0∨pre.length=1∨pre.length=2∨pre.length=3∨pre.length=4:=by omega
  rcases this with h | h | h | h | h<;>rw [h]<;>decide
 simp only [digitB,Bool.and_eq_true,decide_eq_true_eq] at hc
 have e:IntKind.u8.wrap ((c.toNat:Int) - 48)=(c.toNat:Int) - 48:=IntWalk.u8_in _ (by omega)
 have h2:decFrom 0 pre<10000:=by omega
 rw [e,IntWalk.i64_in (10*decFrom 0 pre) (by omega),IntWalk.i64_in ((c.toNat:Int) - 48) (by omega),IntWalk.i64_in _ (by omega)]
 simp [decFrom]
theorem tw_pre {pre rest:List UInt8} (hp:∀ c∈pre,digitB c=true):((pre++rest).takeWhile digitB).length=pre.length+(rest.takeWhile digitB).length:=by
 rw [List.takeWhile_append_of_pos hp,List.length_append]
set_option maxRecDepth 4000 in
theorem loop162_0 {n:Nat} {σ:Store} {K:Exit→St→Prop} (A:V) (s:List UInt8) (hlen:s.length<2^62):∀ (rest pre:List UInt8),s=pre++rest →
  ((∀ j1 j3 j5 j6 j7 j8 j9 j10 j11 j12 j13 j14 j15 j16 j17 j18 j19 j20 j21 j22 j23 j24 j25 j26 j27 j28 j29 j30 j31 j32 j33 j34 j35 j36 j37 j38 j39 j40 j41 j42 j43 j44 j45 j46 j47 j48 j49 j50 j51 j52 j53 j54 j55 j56 j57 j58 j59 j60 j61 j62 j63 j64 j65 j66 j67 j68 j69 j70 j71 j72 j73 j74 j75 j76 j77 j78 j79 j80 j81 j82 j83 j84 j85 j86 j87 j88 j89 j90 j91 j92 j93 j94 j95 j96 j97 j98 j99 j100 j101 j102 j103 j104 j105 j106 j107 j108 j109 j110 j111 j112 j113 j114 j115 j116 j117 j118 j119 j120 j121 j122 j123 j124 j125 j126 j127 j128 j129 j130 j131 j132 j133 j134 j135 j136 j137 j138,K (.exit 0) ⟨[.s s,j1,A,j3,.i .i64 ((pre.length+(rest.takeWhile fun c=>c != 62).length:Nat):Int),j5,j6,j7,j8,j9,j10,j11,j12,j13,j14,j15,j16,j17,j18,j19,j20,j21,j22,j23,j24,j25,j26,j27,j28,j29,j30,j31,j32,j33,j34,j35,j36,j37,j38,j39,j40,j41,j42,j43,j44,j45,j46,j47,j48,j49,j50,j51,j52,j53,j54,j55,j56,j57,j58,j59,j60,j61,j62,j63,j64,j65,j66,j67,j68,j69,j70,j71,j72,j73,j74,j75,j76,j77,j78,j79,j80,j81,j82,j83,j84,j85,j86,j87,j88,j89,j90,j91,j92,j93,j94,j95,j96,j97,j98,j99,j100,j101,j102,j103,j104,j105,j106,j107,j108,j109,j110,j111,j112,j113,j114,j115,j116,j117,j118,j119,j120,j121,j122,j123,j124,j125,j126,j127,j128,j129,j130,j131,j132,j133,j134,j135,j136,j137,j138],σ⟩)) →
  Rnd n Tryz.prog p162_0 K (rest.length+1) ⟨[.s s,.u,A,.u,.i .i64 pre.length,.u,.u,.u,.u,.u,.u,.u,.u,.u,.u,.u,.u,.u,.u,.u,.u,.u,.u,.u,.u,.u,.u,.u,.u,.u,.u,.u,.u,.u,.u,.u,.u,.u,.u,.u,.u,.u,.u,.u,.u,.u,.u,.u,.u,.u,.u,.u,.u,.u,.u,.u,.u,.u,.u,.u,.u,.u,.u,.u,.u,.u,.u,.u,.u,.u,.u,.u,.u,.u,.u,.u,.u,.u,.u,.u,.u,.u,.u,.u,.u,.u,.u,.u,.u,.u,.u,.u,.u,.u,.u,.u,.u,.u,.u,.u,.u,.u,.u,.u,.u,.u,.u,.u,.u,.u,.u,.u,.u,.u,.u,.u,.u,.u,.u,.u,.u,.u,.u,.u,.u,.u,.u,.u,.u,.u,.u,.u,.u,.u,.u,.u,.u,.u,.u],σ⟩:=by
 intro rest
 induction rest with
 | nil =>
  intro pre he h1
  have he:s=pre:=by simpa using he
  subst he
  have e0:decide ((s.length:Int)<(s.length:Int))=false:=by simp
  simp only [List.takeWhile_nil,List.length_nil,Nat.add_zero] at h1
  refine rnd_step fun R hR=>?_
  simp only [p162_0,e0,VV,seval]
  exact ⟨fun h=>by simp at h,h1 ..⟩
 | cons c rest ih =>
  intro pre he h1
  subst he
  have e0:decide ((pre.length:Int)<((pre++c::rest).length:Int))=true:=by simp;omega
  refine rnd_step fun R hR=>?_
  simp only [p162_0,e0,VV,seval]
  refine ⟨by simp;omega,fun hc=>?_,fun hc=>?_⟩
  ·have hc2:(c != 62)=true:=by rw [← ne62];exact hc
   have e2:pre.length+((c::rest).takeWhile fun c=>c != 62).length=(pre++[c]).length+(rest.takeWhile fun c=>c != 62).length:=by
    rw [List.takeWhile_cons,if_pos hc2];simp;omega
   rw [e2] at h1
   refine hR _ (rnd_cvs ?_ (ih (pre++[c]) (by simp) h1))
   rw [wrap_succ (by simp at hlen;omega)]
   simp only [List.length_append,List.length_cons,List.length_nil]
   repeat first | exact .nil | refine .cons (.refl _) ?_ | refine .cons (.forget _) ?_
  ·have hc2:¬ (c != 62)=true:=by rw [← ne62,hc];simp
   have e2:pre.length+((c::rest).takeWhile fun c=>c != 62).length=pre.length:=by
    rw [List.takeWhile_cons,if_neg hc2];simp
   rw [e2] at h1
   exact h1 ..
set_option maxRecDepth 4000 in
theorem loop162_1 {n:Nat} {σ:Store} {K:Exit→St→Prop} (A B C:V) (t:List UInt8) (hlen:t.length<2^62):∀ (m:Nat) (pre rest:List UInt8),t=pre++rest→pre.length+m=4→(∀ c∈pre,digitB c=true) →
  (∀ k:Nat,k=min 4 (t.takeWhile digitB).length→(∀ j0 j1 j3 j9 j10 j11 j12 j13 j14 j15 j16 j17 j18 j19 j20 j21 j22 j23 j24 j25 j26 j27 j28 j29 j30 j31 j32 j33 j34 j35 j36 j37 j38 j39 j40 j41 j42 j43 j44 j45 j46 j47 j48 j49 j50 j51 j52 j53 j54 j55 j56 j57 j58 j59 j60 j61 j62 j63 j64 j65 j66 j67 j68 j69 j70 j71 j72 j73 j74 j75 j76 j77 j78 j79 j80 j81 j82 j83 j84 j85 j86 j87 j88 j89 j90 j91 j92 j93 j94 j95 j96 j97 j98 j99 j100 j101 j102 j103 j104 j105 j106 j107 j108 j109 j110 j111 j112 j113 j114 j115 j116 j117 j118 j119 j120 j121 j122 j123 j124 j125 j126 j127 j128 j129 j130 j131 j132 j133 j134 j135 j136 j137 j138,K (.exit 2) ⟨[j0,j1,A,j3,B,.s t,C,.i .i64 (decFrom 0 (t.take k)),.i .i64 k,j9,j10,j11,j12,j13,j14,j15,j16,j17,j18,j19,j20,j21,j22,j23,j24,j25,j26,j27,j28,j29,j30,j31,j32,j33,j34,j35,j36,j37,j38,j39,j40,j41,j42,j43,j44,j45,j46,j47,j48,j49,j50,j51,j52,j53,j54,j55,j56,j57,j58,j59,j60,j61,j62,j63,j64,j65,j66,j67,j68,j69,j70,j71,j72,j73,j74,j75,j76,j77,j78,j79,j80,j81,j82,j83,j84,j85,j86,j87,j88,j89,j90,j91,j92,j93,j94,j95,j96,j97,j98,j99,j100,j101,j102,j103,j104,j105,j106,j107,j108,j109,j110,j111,j112,j113,j114,j115,j116,j117,j118,j119,j120,j121,j122,j123,j124,j125,j126,j127,j128,j129,j130,j131,j132,j133,j134,j135,j136,j137,j138],σ⟩)) →
  Rnd n Tryz.prog p162_1 K (m+1) ⟨[.u,.u,A,.u,B,.s t,C,.i .i64 (decFrom 0 pre),.i .i64 pre.length,.u,.u,.u,.u,.u,.u,.u,.u,.u,.u,.u,.u,.u,.u,.u,.u,.u,.u,.u,.u,.u,.u,.u,.u,.u,.u,.u,.u,.u,.u,.u,.u,.u,.u,.u,.u,.u,.u,.u,.u,.u,.u,.u,.u,.u,.u,.u,.u,.u,.u,.u,.u,.u,.u,.u,.u,.u,.u,.u,.u,.u,.u,.u,.u,.u,.u,.u,.u,.u,.u,.u,.u,.u,.u,.u,.u,.u,.u,.u,.u,.u,.u,.u,.u,.u,.u,.u,.u,.u,.u,.u,.u,.u,.u,.u,.u,.u,.u,.u,.u,.u,.u,.u,.u,.u,.u,.u,.u,.u,.u,.u,.u,.u,.u,.u,.u,.u,.u,.u,.u,.u,.u,.u,.u,.u,.u,.u,.u,.u,.u],σ⟩:=by
 intro m
 induction m with
 | zero =>
  intro pre rest he hm hp h1
  subst he
  have e1:decide ((pre.length:Int)<4)=false:=by simp;omega
  refine rnd_step fun R hR=>?_
  simp only [p162_1,e1,VV,seval]
  have:=h1 pre.length (by rw [tw_pre hp];omega)
  rw [List.take_left] at this
  exact ⟨fun h=>by simp at h,fun h=>by simp at h,this ..⟩
 | succ m ih =>
  intro pre rest he hm hp h1
  subst he
  have e1:decide ((pre.length:Int)<4)=true:=by simp;omega
  cases rest with
  | nil =>
   have e0:decide ((pre.length:Int)<(pre.length:Int))=false:=by simp
   have h2:=h1 pre.length (by rw [tw_pre hp];simp;omega)
   rw [List.take_left] at h2
   clear h1 ih
   simp only [List.append_nil] at h2 ⊢
   refine rnd_step fun R hR=>?_
   simp only [p162_1,e0,e1,VV,seval]
   exact ⟨fun h=>by simp at h,fun h=>by simp at h,h2 ..⟩
  | cons c rest =>
   have e0:decide ((pre.length:Int)<((pre++c::rest).length:Int))=true:=by simp;omega
   refine rnd_step fun R hR=>?_
   simp only [p162_1,e0,e1,VV,seval]
   have hb:(0:Int)≤(pre.length:Int)∧(pre.length:Int)<((pre++c::rest).length:Int):=by simp;omega
   rw [dig_int]
   refine ⟨hb,fun _=>hb,fun hc=>⟨hb,?_⟩,fun hc=>?_⟩
   ·rw [dec_step hp (by omega) hc]
    refine hR _ (rnd_cvs ?_ (ih (pre++[c]) rest (by simp) (by simp;omega) (by
     intro x hx
     rcases List.mem_append.1 hx with hx | hx
     ·exact hp x hx
     ·simp only [List.mem_cons,List.not_mem_nil,or_false] at hx;subst hx;exact hc) h1))
    rw [wrap_succ (by omega)]
    simp only [List.length_append,List.length_cons,List.length_nil]
    repeat first | exact .nil | refine .cons (.refl _) ?_ | refine .cons (.forget _) ?_
   ·have:=h1 pre.length (by rw [tw_pre hp,List.takeWhile_cons,if_neg (by rw [hc];simp)];simp;omega)
    rw [List.take_left] at this
    exact this ..
theorem idx_tw (c:UInt8):∀ l:List UInt8,Lib.indexByte l c=if (l.takeWhile fun x=>x != c).length<l.length then ((l.takeWhile fun x=>x != c).length:Int) else -1
 | []=>by simp [Lib.indexByte]
 | a::l=>by
  by_cases ha:a=c
  ·subst ha;simp [Lib.indexByte]
  ·have ha2:(a==c)=false:=by simpa using ha
   have ha3:(a != c)=true:=by simpa using ha
   have ih:=idx_tw c l
   simp only [Lib.indexByte,ha2,Bool.false_eq_true,if_false,List.takeWhile_cons,ha3,if_true,List.length_cons]
   generalize (l.takeWhile fun x=>x != c).length=tw at ih
   by_cases h:tw<l.length
   ·rw [if_pos h] at ih
    have e:((tw:Int) == -1)=false:=by rw [beq_eq_false_iff_ne];omega
    rw [ih,if_pos (show tw+1<l.length+1 by omega),e];rfl
   ·rw [if_neg h] at ih
    rw [ih,if_neg (show ¬ tw+1<l.length+1 by omega)];rfl
theorem rread_rest (rest:List UInt8):rread (60::rest)=if (rest.takeWhile fun x=>x != 62).length<rest.length then
  (if (rtag (rest.take (rest.takeWhile fun x=>x != 62).length)).2=true then ((rtag (rest.take (rest.takeWhile fun x=>x != 62).length)).1,((rest.takeWhile fun x=>x != 62).length:Int)+2) else (noIt,0)) else (noIt,0):=by
 have hi:=idx_tw 62 (60::rest)
 simp only [List.takeWhile_cons,show ((60:UInt8) != 62)=true from rfl,if_true,List.length_cons] at hi
 rw [rread_tag rfl]
 by_cases h:(rest.takeWhile fun x=>x != 62).length<rest.length
 ·rw [if_pos (by omega)] at hi
  rw [hi,if_pos h,if_neg (by omega)]
  have e:((60::rest).take (((rest.takeWhile fun x=>x != 62).length+1:Nat):Int).toNat).drop 1=rest.take (rest.takeWhile fun x=>x != 62).length:=by
   rw [Int.toNat_natCast,List.take_succ_cons];rfl
  rw [e]
  congr 2
 ·rw [if_neg (by omega)] at hi
  rw [hi,if_neg h,if_pos (by decide)]
theorem u47 (a:UInt8):((a.toNat:Int)==47)=(a==47):=by revert a;exact u8_all (by decide +kernel)
theorem u48 (a:UInt8):((a.toNat:Int)==48)=(a==48):=by revert a;exact u8_all (by decide +kernel)
theorem u58 (a:UInt8):((a.toNat:Int) != 58)=(a != 58):=by revert a;exact u8_all (by decide +kernel)
theorem pre47 {t:List UInt8} (h:t≠[]):hasPrefix t [47]=(((t.getD 0 0).toNat:Int)==47):=by
 cases t with
 | nil=>exact absurd rfl h
 | cons a t=>rw [u47];simp [hasPrefix]
theorem suf47 {t:List UInt8} (h:t≠[]):hasSuffix t [47]=(((t.getD (t.length - 1) 0).toNat:Int)==47):=by
 rcases List.eq_nil_or_concat t with ht | ⟨t',a,ht⟩
 ·exact absurd ht h
 ·rw [List.concat_eq_append] at ht
  subst ht
  rw [u47,hasSuffix_snoc]
  simp [List.getD_eq_getElem?_getD]
set_option maxRecDepth 8000 in
theorem r3readTag_pc (s:List UInt8) (h0:s.getD 0 0=60) (hlen:s.length<2^62) (σ:Store):PC Tryz.prog 162 [.s s] σ (fun r σ'=>r=.tup [.agg (rread s).1.cells,.i .i64 (rread s).2]∧σ'=σ):=by
 obtain ⟨rest,rfl⟩:∃ rest,s=60::rest:=by
  cases s with
  | nil=>simp at h0
  | cons a r=>simp only [List.getD_cons_zero] at h0;exact ⟨r,by rw [h0]⟩
 refine PC.intro Tryz.func162 c162 fun hcl hwf=>?_
 simp only [p162,SS,seval]
 refine PWc.cut fun R hR=>?_
 simp only [VV,seval]
 refine hR _ (PWc.cvs (fr':=[.s (60::rest),.u,.ptr σ.length 0,.u,.u,.u,.u,.u,.u,.u,.u,.u,.u,.u,.u,.u,.u,.u,.u,.u,.u,.u,.u,.u,.u,.u,.u,.u,.u,.u,.u,.u,.u,.u,.u,.u,.u,.u,.u,.u,.u,.u,.u,.u,.u,.u,.u,.u,.u,.u,.u,.u,.u,.u,.u,.u,.u,.u,.u,.u,.u,.u,.u,.u,.u,.u,.u,.u,.u,.u,.u,.u,.u,.u,.u,.u,.u,.u,.u,.u,.u,.u,.u,.u,.u,.u,.u,.u,.u,.u,.u,.u,.u,.u,.u,.u,.u,.u,.u,.u,.u,.u,.u,.u,.u,.u,.u,.u,.u,.u,.u,.u,.u,.u,.u,.u,.u,.u,.u,.u,.u,.u,.u,.u,.u,.u,.u,.u,.u,.u,.u,.u,.u,.u,.u,.u,.u,.u,.u]) ?_ (by repeat first | exact .nil | refine .cons (.refl _) ?_ | refine .cons (.forget _) ?_))
 clear hR R
 refine PWc.cut fun R hR=>?_
 simp only [VV,seval]
 refine hR _ (PWc.cvs (fr':=[.s (60::rest),.u,.ptr σ.length 0,.u,.i .i64 ((1:Nat):Int),.u,.u,.u,.u,.u,.u,.u,.u,.u,.u,.u,.u,.u,.u,.u,.u,.u,.u,.u,.u,.u,.u,.u,.u,.u,.u,.u,.u,.u,.u,.u,.u,.u,.u,.u,.u,.u,.u,.u,.u,.u,.u,.u,.u,.u,.u,.u,.u,.u,.u,.u,.u,.u,.u,.u,.u,.u,.u,.u,.u,.u,.u,.u,.u,.u,.u,.u,.u,.u,.u,.u,.u,.u,.u,.u,.u,.u,.u,.u,.u,.u,.u,.u,.u,.u,.u,.u,.u,.u,.u,.u,.u,.u,.u,.u,.u,.u,.u,.u,.u,.u,.u,.u,.u,.u,.u,.u,.u,.u,.u,.u,.u,.u,.u,.u,.u,.u,.u,.u,.u,.u,.u,.u,.u,.u,.u,.u,.u,.u,.u,.u,.u,.u,.u]) ?_ (by repeat first | exact .nil | refine .cons (.refl _) ?_ | refine .cons (.forget _) ?_))
 clear hR R
 refine PWc.cut fun R hR=>?_
 simp only [VV,seval]
 have hr:=rread_rest rest
 refine PWc.rnd_cvs ?_ (rest.length+1) (loop162_0 (.ptr σ.length 0) (60::rest) hlen rest [60] rfl ?_)
 ·simp only [List.length_cons,List.length_nil]
  repeat first | exact .nil | refine .cons (.refl _) ?_ | refine .cons (.forget _) ?_
 generalize he:(rest.takeWhile fun x=>x != 62).length=e at hr
 have hle:e≤rest.length:=by rw [← he];exact (List.takeWhile_prefix _).length_le
 intros
 simp only [List.length_cons,List.length_nil,Nat.zero_add,VV,seval]
 refine hR _ (PWc.cvs (fr':=[.s (60::rest),.u,.ptr σ.length 0,.u,.i .i64 ((1+e:Nat):Int),.u,.u,.u,.u,.u,.u,.u,.u,.u,.u,.u,.u,.u,.u,.u,.u,.u,.u,.u,.u,.u,.u,.u,.u,.u,.u,.u,.u,.u,.u,.u,.u,.u,.u,.u,.u,.u,.u,.u,.u,.u,.u,.u,.u,.u,.u,.u,.u,.u,.u,.u,.u,.u,.u,.u,.u,.u,.u,.u,.u,.u,.u,.u,.u,.u,.u,.u,.u,.u,.u,.u,.u,.u,.u,.u,.u,.u,.u,.u,.u,.u,.u,.u,.u,.u,.u,.u,.u,.u,.u,.u,.u,.u,.u,.u,.u,.u,.u,.u,.u,.u,.u,.u,.u,.u,.u,.u,.u,.u,.u,.u,.u,.u,.u,.u,.u,.u,.u,.u,.u,.u,.u,.u,.u,.u,.u,.u,.u,.u,.u,.u,.u,.u,.u]) ?_ (by repeat first | exact .nil | refine .cons (.refl _) ?_ | refine .cons (.forget _) ?_))
 clear hR R
 refine PWc.cut fun R hR=>?_
 simp only [List.length_cons,VV,seval]
 refine ⟨fun h=>?_,fun h=>?_⟩
 ·have h:¬ e<rest.length:=by simp at h;omega
  rw [if_neg h] at hr
  refine ret_end hcl (.inr rfl) (by simp only [RS,seval];rfl) (by simp only [LW]) ⟨?_,rfl⟩
  rw [hr];rfl
 have h:e<rest.length:=by simp at h;omega
 rw [if_pos h] at hr
 refine hR _ (PWc.cvs (fr':=[.s (60::rest),.u,.ptr σ.length 0,.u,.i .i64 ((1+e:Nat):Int),.u,.u,.u,.u,.u,.u,.u,.u,.u,.u,.u,.u,.u,.u,.u,.u,.u,.u,.u,.u,.u,.u,.u,.u,.u,.u,.u,.u,.u,.u,.u,.u,.u,.u,.u,.u,.u,.u,.u,.u,.u,.u,.u,.u,.u,.u,.u,.u,.u,.u,.u,.u,.u,.u,.u,.u,.u,.u,.u,.u,.u,.u,.u,.u,.u,.u,.u,.u,.u,.u,.u,.u,.u,.u,.u,.u,.u,.u,.u,.u,.u,.u,.u,.u,.u,.u,.u,.u,.u,.u,.u,.u,.u,.u,.u,.u,.u,.u,.u,.u,.u,.u,.u,.u,.u,.u,.u,.u,.u,.u,.u,.u,.u,.u,.u,.u,.u,.u,.u,.u,.u,.u,.u,.u,.u,.u,.u,.u,.u,.u,.u,.u,.u,.u]) ?_ (by repeat first | exact .nil | refine .cons (.refl _) ?_ | refine .cons (.forget _) ?_))
 clear hR R
 generalize ht:rest.take e=t at hr
 have htl:t.length<2^62:=by rw [← ht,List.length_take];simp at hlen;omega
 refine PWc.cut fun R hR=>?_
 simp only [List.length_cons,VV,seval]
 refine ⟨by omega,?_⟩
 have e1:List.take (1+e - 1) rest=t:=by rw [← ht];congr 1;omega
 rw [e1]
 refine hR _ (PWc.cvs (fr':=[.u,.u,.ptr σ.length 0,.u,.i .i64 ((1+e:Nat):Int),.s t,.i .i64 2,.u,.u,.u,.u,.u,.u,.u,.u,.u,.u,.u,.u,.u,.u,.u,.u,.u,.u,.u,.u,.u,.u,.u,.u,.u,.u,.u,.u,.u,.u,.u,.u,.u,.u,.u,.u,.u,.u,.u,.u,.u,.u,.u,.u,.u,.u,.u,.u,.u,.u,.u,.u,.u,.u,.u,.u,.u,.u,.u,.u,.u,.u,.u,.u,.u,.u,.u,.u,.u,.u,.u,.u,.u,.u,.u,.u,.u,.u,.u,.u,.u,.u,.u,.u,.u,.u,.u,.u,.u,.u,.u,.u,.u,.u,.u,.u,.u,.u,.u,.u,.u,.u,.u,.u,.u,.u,.u,.u,.u,.u,.u,.u,.u,.u,.u,.u,.u,.u,.u,.u,.u,.u,.u,.u,.u,.u,.u,.u,.u,.u,.u,.u]) ?_ (by repeat first | exact .nil | refine .cons (.refl _) ?_ | refine .cons (.forget _) ?_))
 clear hR R
 refine PWc.cut fun R hR=>?_
 have tail:∀ (kind:Int) (u:List UInt8),u.length<2^62→rread (60::rest)=(if (rbody kind u).2=true then ((rbody kind u).1,(e:Int)+2) else (noIt,0))→(kind=2∨kind=3∨kind=4) →
   ∀ {fr:List V},Cvs fr [.u,.u,.ptr σ.length 0,.u,.i .i64 ((1+e:Nat):Int),.s u,.i .i64 kind,.u,.u,.u,.u,.u,.u,.u,.u,.u,.u,.u,.u,.u,.u,.u,.u,.u,.u,.u,.u,.u,.u,.u,.u,.u,.u,.u,.u,.u,.u,.u,.u,.u,.u,.u,.u,.u,.u,.u,.u,.u,.u,.u,.u,.u,.u,.u,.u,.u,.u,.u,.u,.u,.u,.u,.u,.u,.u,.u,.u,.u,.u,.u,.u,.u,.u,.u,.u,.u,.u,.u,.u,.u,.u,.u,.u,.u,.u,.u,.u,.u,.u,.u,.u,.u,.u,.u,.u,.u,.u,.u,.u,.u,.u,.u,.u,.u,.u,.u,.u,.u,.u,.u,.u,.u,.u,.u,.u,.u,.u,.u,.u,.u,.u,.u,.u,.u,.u,.u,.u,.u,.u,.u,.u,.u,.u,.u,.u,.u,.u,.u,.u]→R ⟨fr,σ++[.box 79 [.i .i64 0,.s [],.i .i64 0]]⟩:=by
  intro kind u hu hru hkind fr hc
  refine hR _ (PWc.cvs ?_ hc)
  clear hR R
  refine PWc.cut fun R hR=>?_
  simp only [VV,seval]
  refine hR _ (PWc.cvs (fr':=[.u,.u,.ptr σ.length 0,.u,.i .i64 ((1+e:Nat):Int),.s u,.i .i64 kind,.i .i64 (decFrom 0 []),.i .i64 (([]:List UInt8).length:Nat),.u,.u,.u,.u,.u,.u,.u,.u,.u,.u,.u,.u,.u,.u,.u,.u,.u,.u,.u,.u,.u,.u,.u,.u,.u,.u,.u,.u,.u,.u,.u,.u,.u,.u,.u,.u,.u,.u,.u,.u,.u,.u,.u,.u,.u,.u,.u,.u,.u,.u,.u,.u,.u,.u,.u,.u,.u,.u,.u,.u,.u,.u,.u,.u,.u,.u,.u,.u,.u,.u,.u,.u,.u,.u,.u,.u,.u,.u,.u,.u,.u,.u,.u,.u,.u,.u,.u,.u,.u,.u,.u,.u,.u,.u,.u,.u,.u,.u,.u,.u,.u,.u,.u,.u,.u,.u,.u,.u,.u,.u,.u,.u,.u,.u,.u,.u,.u,.u,.u,.u,.u,.u,.u,.u,.u,.u,.u,.u,.u,.u]) ?_ (by repeat first | exact .nil | refine .cons (.refl _) ?_ | refine .cons (.forget _) ?_))
  clear hR R
  refine PWc.cut fun R hR=>?_
  simp only [VV,seval]
  refine PWc.rnd_cvs ?_ 5 (loop162_1 (.ptr σ.length 0) (.i .i64 ((1+e:Nat):Int)) (.i .i64 kind) u hu 4 [] u rfl rfl (by simp) ?_)
  ·repeat first | exact .nil | refine .cons (.refl _) ?_ | refine .cons (.forget _) ?_
  intro k hk
  intros
  simp only [VV,seval]
  refine hR _ (PWc.cvs (fr':=[.u,.u,.ptr σ.length 0,.u,.i .i64 ((1+e:Nat):Int),.s u,.i .i64 kind,.i .i64 (decFrom 0 (u.take k)),.i .i64 k,.u,.u,.u,.u,.u,.u,.u,.u,.u,.u,.u,.u,.u,.u,.u,.u,.u,.u,.u,.u,.u,.u,.u,.u,.u,.u,.u,.u,.u,.u,.u,.u,.u,.u,.u,.u,.u,.u,.u,.u,.u,.u,.u,.u,.u,.u,.u,.u,.u,.u,.u,.u,.u,.u,.u,.u,.u,.u,.u,.u,.u,.u,.u,.u,.u,.u,.u,.u,.u,.u,.u,.u,.u,.u,.u,.u,.u,.u,.u,.u,.u,.u,.u,.u,.u,.u,.u,.u,.u,.u,.u,.u,.u,.u,.u,.u,.u,.u,.u,.u,.u,.u,.u,.u,.u,.u,.u,.u,.u,.u,.u,.u,.u,.u,.u,.u,.u,.u,.u,.u,.u,.u,.u,.u,.u,.u,.u,.u,.u,.u]) ?_ (by repeat first | exact .nil | refine .cons (.refl _) ?_ | refine .cons (.forget _) ?_))
  clear hR R
  have hrb:rbody kind u=if k=0∨u.length≤k∨u.getD 0 0=48∨999<decFrom 0 (u.take k)∨u.getD k 0≠58 then (noIt,false) else
    if (kind=3∧isName (u.drop (k+1))=false)∨(kind≠3∧isContent (u.drop (k+1))=false) then (noIt,false) else (⟨kind,u.drop (k+1),decFrom 0 (u.take k)⟩,true):=by rw [hk];rfl
  refine PWc.cut fun R hR=>?_
  simp only [Int.toNat_natCast,VV,seval]
  have hC:(((((k:Int)==0||decide ((u.length:Int)≤(k:Int)))||((u.getD 0 0).toNat:Int)==48)||decide (999<decFrom 0 (u.take k)))||((u.getD k 0).toNat:Int) != 58)=decide (k=0∨u.length≤k∨u.getD 0 0=48∨999<decFrom 0 (u.take k)∨u.getD k 0≠58):=by
   rw [u48,u58,Bool.eq_iff_iff];simp [or_assoc]
  rw [hC]
  refine ⟨fun h=>by simp at h;omega,fun h=>by simp at h;omega,fun h=>?_,fun h=>?_⟩
  ·rw [if_pos (by simpa using h)] at hrb
   refine ret_end hcl (.inr rfl) (by simp only [RS,seval];rfl) (by simp only [LW]) ⟨?_,rfl⟩
   rw [hru,hrb];rfl
  have h:=of_decide_eq_false h
  rw [if_neg h] at hrb
  simp only [not_or] at h
  refine hR _ (PWc.cvs (fr':=[.u,.u,.ptr σ.length 0,.u,.i .i64 ((1+e:Nat):Int),.s u,.i .i64 kind,.i .i64 (decFrom 0 (u.take k)),.i .i64 k,.u,.u,.u,.u,.u,.u,.u,.u,.u,.u,.u,.u,.u,.u,.u,.u,.u,.u,.u,.u,.u,.u,.u,.u,.u,.u,.u,.u,.u,.u,.u,.u,.u,.u,.u,.u,.u,.u,.u,.u,.u,.u,.u,.u,.u,.u,.u,.u,.u,.u,.u,.u,.u,.u,.u,.u,.u,.u,.u,.u,.u,.u,.u,.u,.u,.u,.u,.u,.u,.u,.u,.u,.u,.u,.u,.u,.u,.u,.u,.u,.u,.u,.u,.u,.u,.u,.u,.u,.u,.u,.u,.u,.u,.u,.u,.u,.u,.u,.u,.u,.u,.u,.u,.u,.u,.u,.u,.u,.u,.u,.u,.u,.u,.u,.u,.u,.u,.u,.u,.u,.u,.u,.u,.u,.u,.u,.u,.u,.u,.u]) ?_ (by repeat first | exact .nil | refine .cons (.refl _) ?_ | refine .cons (.forget _) ?_))
  clear hR R
  have hk1:IntKind.i64.wrap ((k:Int)+1)=((k+1:Nat):Int):=by rw [IntWalk.i64_in _ (by omega)];omega
  refine PWc.cut fun R hR=>?_
  simp only [hk1,Int.toNat_natCast,VV,seval]
  have htk:List.take (u.length - (k+1)) (List.drop (k+1) u)=u.drop (k+1):=List.take_of_length_le (by simp)
  rw [htk]
  refine ⟨by omega,?_⟩
  refine hR _ (PWc.cvs (fr':=[.u,.u,.ptr σ.length 0,.u,.i .i64 ((1+e:Nat):Int),.u,.i .i64 kind,.u,.u,.ptr (σ.length+1) 0,.u,.u,.u,.u,.u,.u,.u,.u,.u,.u,.u,.u,.u,.u,.u,.u,.u,.u,.u,.u,.u,.u,.u,.u,.u,.u,.u,.u,.u,.u,.u,.u,.u,.u,.u,.u,.u,.u,.u,.u,.u,.u,.u,.u,.u,.u,.u,.u,.u,.u,.u,.u,.u,.u,.u,.u,.u,.u,.u,.u,.u,.u,.u,.u,.u,.u,.u,.u,.u,.u,.u,.u,.u,.u,.u,.u,.u,.u,.u,.u,.u,.u,.u,.u,.u,.u,.u,.u,.u,.u,.u,.u,.u,.u,.u,.u,.u,.u,.u,.u,.u,.u,.u,.u,.u,.u,.u,.u,.u,.u,.u,.u,.u,.u,.u,.u,.u,.u,.u,.u,.u,.u,.u,.u,.u,.u,.u,.u,.u]) ?_ (by repeat first | exact .nil | refine .cons (.refl _) ?_ | refine .cons (.forget _) ?_))
  clear hR R
  have he2:IntKind.i64.wrap (((1+e:Nat):Int)+1)=(e:Int)+2:=by rw [IntWalk.i64_in _ (by simp at hlen;omega)];omega
  refine PWc.cut fun R hR=>?_
  have fin:∀ {fr:List V},rread (60::rest)=(⟨kind,u.drop (k+1),decFrom 0 (u.take k)⟩,(e:Int)+2)→Cvs fr [.u,.u,.ptr σ.length 0,.u,.i .i64 ((1+e:Nat):Int),.u,.u,.u,.u,.ptr (σ.length+1) 0,.u,.u,.u,.u,.u,.u,.u,.u,.u,.u,.u,.u,.u,.u,.u,.u,.u,.u,.u,.u,.u,.u,.u,.u,.u,.u,.u,.u,.u,.u,.u,.u,.u,.u,.u,.u,.u,.u,.u,.u,.u,.u,.u,.u,.u,.u,.u,.u,.u,.u,.u,.u,.u,.u,.u,.u,.u,.u,.u,.u,.u,.u,.u,.u,.u,.u,.u,.u,.u,.u,.u,.u,.u,.u,.u,.u,.u,.u,.u,.u,.u,.u,.u,.u,.u,.u,.u,.u,.u,.u,.u,.u,.u,.u,.u,.u,.u,.u,.u,.u,.u,.u,.u,.u,.u,.u,.u,.u,.u,.u,.u,.u,.u,.u,.u,.u,.u,.u,.u,.u,.u,.u,.u,.u,.u,.u,.u,.u,.u] →
    R ⟨fr,σ++[.box 79 [.i .i64 0,.s [],.i .i64 0],.box 79 [.i .i64 kind,.s (u.drop (k+1)),.i .i64 (decFrom 0 (u.take k))]]⟩:=by
   intro fr hg hc
   refine hR _ (PWc.cvs ?_ hc)
   clear hR R
   refine wpc_sound ?_
   simp only [he2,VV,seval]
   refine ret_end hcl (.inr rfl) (by simp only [RS,seval];rfl) (by simp only [LW]) ⟨?_,rfl⟩
   rw [hg];rfl
  by_cases k3:kind=3
  ·subst k3
   simp only [VV,seval]
   refine callg_eq (by simp only [VV,seval]<;>rfl) (fun _=>r1IsName_pc _ _) rfl ?_
   simp only [VV,seval]
   refine callg_eq (c:=false) (v:=.b false) (by simp only [VV,seval]<;>simp) (fun h=>by simp at h) rfl ?_
   simp only [VV,seval]
   refine ⟨fun h2=>?_,fun h2=>?_⟩
   ·have h2:isName (u.drop (k+1))=false:=by rw [Bool.not_eq_true'] at h2;exact h2
    rw [if_pos (.inl ⟨rfl,h2⟩)] at hrb
    refine ret_end hcl (.inr rfl) (by simp only [RS,seval];rfl) (by simp only [LW]) ⟨?_,rfl⟩
    rw [hru,hrb];rfl
   ·have h2:isName (u.drop (k+1))=true:=by rw [Bool.not_eq_false'] at h2;exact h2
    rw [if_neg (by simp only [h2];simp)] at hrb
    exact fin (by rw [hru,hrb];rfl) (by repeat first | exact .nil | refine .cons (.refl _) ?_ | refine .cons (.forget _) ?_)
  ·have n3:(kind==3)=false:=by simpa using k3
   have n3':(kind != 3)=true:=by simpa using k3
   simp only [n3,VV,seval]
   refine callg_eq (c:=false) (v:=.b false) (by simp only [VV,seval]<;>rfl) (fun h=>by simp at h) rfl ?_
   simp only [n3',VV,seval]
   refine callg_eq (by simp only [VV,seval]<;>rfl) (fun _=>r3IsContent_pc _ _) rfl ?_
   simp only [VV,seval]
   refine ⟨fun h2=>?_,fun h2=>?_⟩
   ·have h2:isContent (u.drop (k+1))=false:=by rw [Bool.not_eq_true'] at h2;exact h2
    rw [if_pos (.inr ⟨k3,h2⟩)] at hrb
    refine ret_end hcl (.inr rfl) (by simp only [RS,seval];rfl) (by simp only [LW]) ⟨?_,rfl⟩
    rw [hru,hrb];rfl
   ·have h2:isContent (u.drop (k+1))=true:=by rw [Bool.not_eq_false'] at h2;exact h2
    rw [if_neg (by simp only [h2,k3];simp)] at hrb
    exact fin (by rw [hru,hrb];rfl) (by repeat first | exact .nil | refine .cons (.refl _) ?_ | refine .cons (.forget _) ?_)
 simp only [VV,seval]
 have hput:t.length≤rest.length:=by rw [← ht,List.length_take];omega
 by_cases htn:t=[]
 ·subst htn
  refine ⟨fun h=>by simp at h,fun h=>by simp at h,fun _=>⟨fun h=>by simp at h,fun h=>by simp at h,fun _=>tail 2 [] (by simp) ?_ (.inl rfl) ?_⟩⟩
  ·exact hr
  ·repeat first | exact .nil | refine .cons (.refl _) ?_ | refine .cons (.forget _) ?_
 have hpos:0<t.length:=List.length_pos_iff.2 htn
 have hw:IntKind.i64.wrap ((t.length:Int) - 1)=((t.length - 1:Nat):Int):=by rw [IntWalk.i64_in _ (by omega)];omega
 have hd:decide ((0:Int)<(t.length:Int))=true:=by simp;omega
 have hdr:List.take (t.length - 1) (List.drop 1 t)=t.drop 1:=List.take_of_length_le (by simp)
 simp only [hw,hd,hdr,Int.toNat_natCast,Bool.true_and,← pre47 htn,← suf47 htn]
 refine ⟨fun _=>by omega,fun h=>⟨by omega,tail 3 (t.drop 1) (by simp;omega) ?_ (.inr (.inl rfl)) ?_⟩,fun h=>⟨fun _=>by omega,fun h2=>⟨by omega,tail 4 (t.take (t.length - 1)) (by simp;omega) ?_ (.inr (.inr rfl)) ?_⟩,fun h2=>tail 2 t htl ?_ (.inl rfl) ?_⟩⟩
 ·rw [hr];simp only [rtag,h,if_true]
 ·repeat first | exact .nil | refine .cons (.refl _) ?_ | refine .cons (.forget _) ?_
 ·rw [hr];simp only [rtag,h,h2,Bool.false_eq_true,if_false,if_true]
 ·repeat first | exact .nil | refine .cons (.refl _) ?_ | refine .cons (.forget _) ?_
 ·rw [hr];simp only [rtag,h,h2,Bool.false_eq_true,if_false]
 ·repeat first | exact .nil | refine .cons (.refl _) ?_ | refine .cons (.forget _) ?_
def slotAt (s:List UInt8) (k:Nat):Prop:=s.getD k 0=125∧isName ((s.take k).drop 1)=true
theorem u125 (a:UInt8):((a.toNat:Int)==125)=(a==125):=by revert a;exact u8_all (by decide +kernel)
theorem loop132_0 {σ:Store} {K:Exit→St→Prop} (s:List UInt8) (hlen:s.length<2^62):∀ (m k:Nat),k+m=26→1≤k→(∀ j,1≤j→j<k→j<s.length→¬ slotAt s j) →
  ((∀ j,1≤j→j<s.length→j≤25→¬ slotAt s j)→(∀ j0 j1 j3 j4 j5 j6 j7 j8 j9 j10 j11 j12 j13 j14 j15 j16 j17 j18 j19 j20 j21 j22 j23 j24 j25 j26 j27 j28 j29 j30 j31 j32 j33 j34 j35 j36 j37 j38 j39 j40 j41 j42 j43 j44 j45 j46 j47 j48 j49 j50 j51 j52 j53 j54 j55 j56 j57 j58 j59 j60 j61 j62 j63 j64 j65 j66 j67 j68 j69 j70 j71 j72 j73,K (.exit 1) ⟨[j0,j1,.ptr σ.length 0,j3,j4,j5,j6,j7,j8,j9,j10,j11,j12,j13,j14,j15,j16,j17,j18,j19,j20,j21,j22,j23,j24,j25,j26,j27,j28,j29,j30,j31,j32,j33,j34,j35,j36,j37,j38,j39,j40,j41,j42,j43,j44,j45,j46,j47,j48,j49,j50,j51,j52,j53,j54,j55,j56,j57,j58,j59,j60,j61,j62,j63,j64,j65,j66,j67,j68,j69,j70,j71,j72,j73],σ++[.box 79 [.i .i64 0,.s [],.i .i64 0]]⟩)) →
  (∀ k:Nat,1≤k→k<s.length→slotAt s k→(∀ j0 j1 j4 j5 j6 j7 j8 j9 j10 j11 j12 j13 j14 j15 j16 j17 j18 j19 j20 j21 j22 j23 j24 j25 j26 j27 j28 j29 j30 j31 j32 j33 j34 j35 j36 j37 j38 j39 j40 j41 j42 j43 j44 j45 j46 j47 j48 j49 j50 j51 j52 j53 j54 j55 j56 j57 j58 j59 j60 j61 j62 j63 j64 j65 j66 j67 j68 j69 j70 j71 j72 j73,K .ret ⟨[j0,j1,.ptr σ.length 0,.i .i64 ((k+1:Nat):Int),j4,j5,j6,j7,j8,j9,j10,j11,j12,j13,j14,j15,j16,j17,j18,j19,j20,j21,j22,j23,j24,j25,j26,j27,j28,j29,j30,j31,j32,j33,j34,j35,j36,j37,j38,j39,j40,j41,j42,j43,j44,j45,j46,j47,j48,j49,j50,j51,j52,j53,j54,j55,j56,j57,j58,j59,j60,j61,j62,j63,j64,j65,j66,j67,j68,j69,j70,j71,j72,j73],σ++[.box 79 [.i .i64 5,.s ((s.take k).drop 1),.i .i64 0]]⟩)) →
  Rnd σ.length Tryz.prog p132_0 K (m+1) ⟨[.s s,.u,.ptr σ.length 0,.u,.i .i64 k,.u,.u,.u,.u,.u,.u,.u,.u,.u,.u,.u,.u,.u,.u,.u,.u,.u,.u,.u,.u,.u,.u,.u,.u,.u,.u,.u,.u,.u,.u,.u,.u,.u,.u,.u,.u,.u,.u,.u,.u,.u,.u,.u,.u,.u,.u,.u,.u,.u,.u,.u,.u,.u,.u,.u,.u,.u,.u,.u,.u,.u,.u,.u,.u,.u,.u,.u,.u,.u],σ++[.box 79 [.i .i64 0,.s [],.i .i64 0]]⟩:=by
 intro m
 induction m with
 | zero =>
  intro k hk hk1 hno h1 h2
  have e1:decide ((k:Int)≤25)=false:=by simp;omega
  refine rnd_step fun R hR=>?_
  simp only [p132_0,e1,Bool.and_false,VV,seval]
  exact h1 (fun j j1 j2 j3=>hno j j1 (by omega) j2) ..
 | succ m ih =>
  intro k hk hk1 hno h1 h2
  have e1:decide ((k:Int)≤25)=true:=by simp;omega
  have hw:IntKind.i64.wrap ((k:Int)+1)=((k+1:Nat):Int):=by rw [IntWalk.i64_in _ (by omega)];omega
  by_cases hks:k<s.length
  ·have e0:decide ((k:Int)<(s.length:Int))=true:=by simp;omega
   refine rnd_step fun R hR=>?_
   have hdt:List.take (k - 1) (List.drop 1 s)=(s.take k).drop 1:=by rw [List.drop_take]
   simp only [p132_0,e0,e1,Int.toNat_natCast,hdt,VV,seval]
   refine ⟨by omega,fun _=>by omega,callg_eq (by simp only [VV,seval]<;>rfl) (fun _=>r1IsName_pc _ _) rfl ?_⟩
   simp only [hw,hdt,u125,Int.toNat_natCast,VV,seval]
   refine ⟨fun h=>⟨by omega,?_⟩,fun h=>?_⟩
   ·exact h2 k hk1 hks (by simpa [slotAt] using h) ..
   ·refine hR _ (rnd_cvs ?_ (ih (k+1) (by omega) (by omega) (fun j j1 j2 j3=>?_) h1 h2))
    ·repeat first | exact .nil | refine .cons (.refl _) ?_ | refine .cons (.forget _) ?_
    ·by_cases hj:j=k
     ·subst hj
      intro hs
      rw [hs.1,hs.2] at h
      simp at h
     ·exact hno j j1 (by omega) j3
  ·have e0:decide ((k:Int)<(s.length:Int))=false:=by simp;omega
   refine rnd_step fun R hR=>?_
   simp only [p132_0,e0,e1,Int.toNat_natCast,VV,seval]
   exact h1 (fun j j1 j2 j3=>hno j j1 (by omega) j2) ..
theorem loop132_1 {σ:Store} {K:Exit→St→Prop} (s:List UInt8) (hlen:s.length<2^62):∀ (m c:Nat),c+m=256→(∀ j,j<c→hasPrefix s (writB (UInt8.ofNat j))=false) →
  ((∀ j,j<256→hasPrefix s (writB (UInt8.ofNat j))=false)→(∀ j0 j1 j3 j4 j5 j6 j7 j8 j9 j10 j11 j12 j13 j14 j15 j16 j17 j18 j19 j20 j21 j22 j23 j24 j25 j26 j27 j28 j29 j30 j31 j32 j33 j34 j35 j36 j37 j38 j39 j40 j41 j42 j43 j44 j45 j46 j47 j48 j49 j50 j51 j52 j53 j54 j55 j56 j57 j58 j59 j60 j61 j62 j63 j64 j65 j66 j67 j68 j69 j70 j71 j72 j73,K (.exit 3) ⟨[j0,j1,.ptr σ.length 0,j3,j4,j5,j6,j7,j8,j9,j10,j11,j12,j13,j14,j15,j16,j17,j18,j19,j20,j21,j22,j23,j24,j25,j26,j27,j28,j29,j30,j31,j32,j33,j34,j35,j36,j37,j38,j39,j40,j41,j42,j43,j44,j45,j46,j47,j48,j49,j50,j51,j52,j53,j54,j55,j56,j57,j58,j59,j60,j61,j62,j63,j64,j65,j66,j67,j68,j69,j70,j71,j72,j73],σ++[.box 79 [.i .i64 0,.s [],.i .i64 0]]⟩)) →
  (∀ b:UInt8,hasPrefix s (writB b)=true→(∀ j0 j1 j4 j5 j6 j7 j8 j9 j10 j11 j12 j13 j14 j15 j16 j17 j18 j19 j20 j21 j22 j23 j24 j25 j26 j27 j28 j29 j30 j31 j32 j33 j34 j35 j36 j37 j38 j39 j40 j41 j42 j43 j44 j45 j46 j47 j48 j49 j50 j51 j52 j53 j54 j55 j56 j57 j58 j59 j60 j61 j62 j63 j64 j65 j66 j67 j68 j69 j70 j71 j72 j73,K .ret ⟨[j0,j1,.ptr σ.length 0,.i .i64 (writB b).length,j4,j5,j6,j7,j8,j9,j10,j11,j12,j13,j14,j15,j16,j17,j18,j19,j20,j21,j22,j23,j24,j25,j26,j27,j28,j29,j30,j31,j32,j33,j34,j35,j36,j37,j38,j39,j40,j41,j42,j43,j44,j45,j46,j47,j48,j49,j50,j51,j52,j53,j54,j55,j56,j57,j58,j59,j60,j61,j62,j63,j64,j65,j66,j67,j68,j69,j70,j71,j72,j73],σ++[.box 79 [.i .i64 1,.s [b],.i .i64 0]]⟩)) →
  Rnd σ.length Tryz.prog p132_1 K (m+1) ⟨[.s s,.u,.ptr σ.length 0,.u,.u,.i .i64 c,.u,.u,.u,.u,.u,.u,.u,.u,.u,.u,.u,.u,.u,.u,.u,.u,.u,.u,.u,.u,.u,.u,.u,.u,.u,.u,.u,.u,.u,.u,.u,.u,.u,.u,.u,.u,.u,.u,.u,.u,.u,.u,.u,.u,.u,.u,.u,.u,.u,.u,.u,.u,.u,.u,.u,.u,.u,.u,.u,.u,.u,.u,.u,.u,.u,.u,.u,.u],σ++[.box 79 [.i .i64 0,.s [],.i .i64 0]]⟩:=by
 intro m
 induction m with
 | zero =>
  intro c hc hno h1 h2
  have hc:c=256:=by omega
  subst hc
  refine rnd_step fun R hR=>?_
  simp only [p132_1,VV,seval]
  exact ⟨fun h=>by simp at h,fun _=>h1 hno ..⟩
 | succ m ih =>
  intro c hc hno h1 h2
  have hw:IntKind.i64.wrap ((c:Int)+1)=((c+1:Nat):Int):=by rw [IntWalk.i64_in _ (by omega)];omega
  have hb:IntKind.u8.wrap (c:Int)=((UInt8.ofNat c).toNat:Int):=by rw [IntWalk.u8_in _ (by omega)];simp;omega
  have e1:decide ((c:Int)<256)=true:=by simp;omega
  refine rnd_step fun R hR=>?_
  simp only [p132_1,e1,hb,VV,seval]
  refine call_eq (r3Written_pc (UInt8.ofNat c) _) rfl ?_
  simp only [hb,hw,Int.toNat_natCast,VV,seval]
  have hP:(decide (((writB (UInt8.ofNat c)).length:Int)≤(s.length:Int))&&List.take (writB (UInt8.ofNat c)).length s==writB (UInt8.ofNat c))=hasPrefix s (writB (UInt8.ofNat c)):=by
   simp only [hasPrefix,Int.ofNat_le]
  rw [hP]
  refine ⟨fun h=>by simp at h;omega,fun h=>h2 _ h ..,fun h=>?_⟩
  refine hR _ (rnd_cvs ?_ (ih (c+1) (by omega) (fun j hj=>?_) h1 h2))
  ·repeat first | exact .nil | refine .cons (.refl _) ?_ | refine .cons (.forget _) ?_
  ·by_cases hjc:j=c
   ·subst hjc;exact h
   ·exact hno j (by omega)
theorem r3read_pc (s:List UInt8) (hs:s≠[]) (hlen:s.length<2^62) (σ:Store):PC Tryz.prog 132 [.s s] σ (fun r σ'=>r=.tup [.agg (rread s).1.cells,.i .i64 (rread s).2]∧σ'=σ):=by
 refine PC.intro Tryz.func132 c132 fun hcl hwf=>wpc_sound ?_
 have hpos:0<s.length:=List.length_pos_iff.2 hs
 have u123:(((s.getD 0 0).toNat:Int)==123)=(s.getD 0 0==123):=by
  generalize s.getD 0 0=a;revert a;exact u8_all (by decide +kernel)
 have u60:(((s.getD 0 0).toNat:Int)==60)=(s.getD 0 0==60):=by
  generalize s.getD 0 0=a;revert a;exact u8_all (by decide +kernel)
 have hb:(0:Int)≤0∧(0:Int)<(s.length:Int):=by omega
 simp only [p132,SS,seval]
 by_cases h123:s.getD 0 0=123
 ·have e1:(s.getD 0 0==123)=true:=by simpa using h123
  simp only [u123,e1,VV,Int.reduceToNat,reduceIte,reduceCtorEq]
  refine ⟨hb,?_⟩
  refine PWc.rnd_cvs ?_ 26 (loop132_0 s hlen 25 1 rfl (Nat.le_refl _) (fun j j1 j2=>by omega) (fun hno=>?_) (fun k k1 k2 hk=>?_))
  ·simp only [Int.natCast_one]
   repeat first | exact .nil | refine .cons (.refl _) ?_ | refine .cons (.forget _) ?_
  ·intros
   simp only [VV,Nat.reduceAdd]
   refine ret_end hcl (.inr rfl) (by simp only [RS,Nat.reduceAdd,reduceIte];rfl) (by simp only [LW]) ⟨?_,rfl⟩
   rw [rread_noslot h123 hno];rfl
  ·intros
   simp only [VV]
   refine ret_end hcl (.inr rfl) (by simp only [RS,Nat.reduceAdd,reduceIte];rfl) (by simp only [LW]) ⟨?_,rfl⟩
   rw [rread_slot h123 k1 k2 hk.1 hk.2];rfl
 have e1:(s.getD 0 0==123)=false:=by simpa using h123
 by_cases h60:s.getD 0 0=60
 ·have e2:(s.getD 0 0==60)=true:=by simpa using h60
  simp only [u123,u60,e1,e2,VV,Int.reduceToNat,reduceIte,reduceCtorEq]
  refine ⟨hb,hb,?_⟩
  refine call_eq (r3readTag_pc s h60 hlen _) rfl ?_
  simp only [It.cells,VV,Nat.reduceAdd]
  refine ret_end hcl (.inr rfl) (by simp only [RS,Nat.reduceAdd,reduceIte];rfl) (by simp only [LW]) ⟨?_,rfl⟩
  rfl
 ·have e2:(s.getD 0 0==60)=false:=by simpa using h60
  simp only [u123,u60,e1,e2,VV,Int.reduceToNat,reduceIte,reduceCtorEq]
  refine ⟨hb,hb,?_⟩
  refine PWc.rnd_cvs ?_ 257 (loop132_1 s hlen 256 0 rfl (fun j hj=>by omega) (fun hno=>?_) (fun b hb2=>?_))
  ·simp only [Int.natCast_zero]
   repeat first | exact .nil | refine .cons (.refl _) ?_ | refine .cons (.forget _) ?_
  ·intros
   simp only [VV,Nat.reduceAdd]
   refine ret_end hcl (.inr rfl) (by simp only [RS,Nat.reduceAdd,reduceIte];rfl) (by simp only [LW]) ⟨?_,rfl⟩
   rw [rread_none hs h60 h123 (fun c=>by
    have:=hno c.toNat c.toNat_lt
    rwa [UInt8.ofNat_toNat] at this)]
   rfl
  ·intros
   simp only [VV]
   refine ret_end hcl (.inr rfl) (by simp only [RS,Nat.reduceAdd,reduceIte];rfl) (by simp only [LW]) ⟨?_,rfl⟩
   rw [rread_char hb2];rfl
end Go.Proofs.Tryz

/- A part of the proof of the statement of the last text of this claim: for every two lists of integers ReplicaCommutes returns true and leaves the memory as it was. -/
import Derived.Test.YtbfoheefppnnpaaGreatDoorV15
import Derived.Test.YtbfoheefppnnpaaGreatDoorV17
import Derived.Test.YtbfoheefppnnpaaGreatDoorV20
import Derived.Test.YtbfoheefppnnpaaGreatDoorV21
set_option linter.all false

namespace Go.Proofs.Tryz
open Go Go.Pm Go.Bt
theorem loop84 {σ:Store} {K:Exit→St→Prop} (s:List UInt8) (hcl:Closed σ) (hlen:s.length<2^30):∀ (n:Nat) (rest pre:List UInt8) (f:List It) (len:Nat),s=pre++rest→rest.length<n→f.length≤512→textLen f≤pre.length→len≤1024 →
  ((rparseN n f len rest pre.length).2.2=0→(∀ j0 j1 j2 j3 j4 j6 j7 j8 j9 j10 j11 j12 j13 j14 j15 j16 j17 j18 j19 j20 j21 j22 j23 j24 j25 j26 j27 j28 j29 j30 j31 j32 j33 j34 j35 j36 j37 j38 j39 j40 j41 j42 j43 j44 j45 j46 j47 j48 j49 j50 j51 j52 j53 j54,K (.exit 0) ⟨[j0,j1,j2,j3,j4,.sl 3 ((rparseN n f len rest pre.length).1.map It.cells),j6,j7,j8,j9,j10,j11,j12,j13,j14,j15,j16,j17,j18,j19,j20,j21,j22,j23,j24,j25,j26,j27,j28,j29,j30,j31,j32,j33,j34,j35,j36,j37,j38,j39,j40,j41,j42,j43,j44,j45,j46,j47,j48,j49,j50,j51,j52,j53,j54],σ⟩)) →
  ((rparseN n f len rest pre.length).2.2≠0→∀ loc,(∀ j0 j1 j5 j6 j7 j8 j9 j10 j11 j12 j13 j14 j15 j16 j17 j18 j19 j20 j21 j22 j23 j24 j25 j26 j27 j28 j29 j30 j31 j32 j33 j34 j35 j36 j37 j38 j39 j40 j41 j42 j43 j44 j45 j46 j47 j48 j49 j50 j51 j52 j53 j54,K .ret ⟨[j0,j1,.nil,.i .i64 (rparseN n f len rest pre.length).2.1,.i .i64 (rparseN n f len rest pre.length).2.2,j5,j6,j7,j8,j9,j10,j11,j12,j13,j14,j15,j16,j17,j18,j19,j20,j21,j22,j23,j24,j25,j26,j27,j28,j29,j30,j31,j32,j33,j34,j35,j36,j37,j38,j39,j40,j41,j42,j43,j44,j45,j46,j47,j48,j49,j50,j51,j52,j53,j54],σ++loc⟩)) →
  Rnd σ.length Tryz.prog p84_0 K n ⟨[.s s,.u,.u,.u,.u,.sl 3 (f.map It.cells),.i .i64 pre.length,.i .i64 len,.u,.u,.u,.u,.u,.u,.u,.u,.u,.u,.u,.u,.u,.u,.u,.u,.u,.u,.u,.u,.u,.u,.u,.u,.u,.u,.u,.u,.u,.u,.u,.u,.u,.u,.u,.u,.u,.u,.u,.u,.u,.u,.u,.u,.u,.u,.u],σ⟩:=by
 intro n
 induction n with
 | zero=>intro rest pre f len he hn;omega
 | succ n ih =>
  intro rest pre f len he hn hf ht hl h1 h2
  cases rest with
  | nil =>
   have he:s=pre:=by simpa using he
   subst he
   simp only [rparseN] at h1
   refine rnd_step fun R hR=>?_
   simp only [p84_0,VV,seval]
   exact ⟨fun h=>by simp at h,fun _=>h1 trivial ..⟩
  | cons c rest =>
   subst he
   have hrs:=rread_step (s:=c::rest) (by simp)
   have hd:List.take ((pre++c::rest).length - pre.length) (List.drop pre.length (pre++c::rest))=c::rest:=by simp
   simp only [rparseN] at h1 h2
   refine rnd_step fun R hR=>?_
   simp only [p84_0,hd,Int.toNat_natCast,VV,seval]
   refine ⟨fun _=>⟨by simp;omega,?_⟩,fun h=>by simp at h<;>omega⟩
   refine call_eq (r3read_pc (c::rest) (by simp) (by simp at hlen ⊢;omega) _) rfl ?_
   generalize hx:rread (c::rest)=xm at *
   obtain ⟨x,m⟩:=xm
   simp only at hrs h1 h2
   simp only [It.cells,VV,seval]
   refine ⟨fun hm=>?_,fun hm=>?_⟩
   ·have hm:m=0:=by simpa using hm
    simp only [hm,if_true] at h2
    exact h2 (by simp) [_] ..
   have hm:m≠0:=by simpa using hm
   obtain ⟨m1,m2,m3⟩:=hrs hm
   rw [if_neg hm] at h1 h2
   have hg:=norm_bound (f++[x])
   simp only [textLen_append,textLen,List.length_append,List.length_cons,List.length_nil] at hg
   have hlen2:pre.length+(rest.length+1)<2^30:=by simpa using hlen
   simp only [List.length_cons] at m2 hn
   have hpl:(pre++(c::rest).take m.toNat).length=pre.length+m.toNat:=by
    rw [List.length_append,List.length_take,List.length_cons];omega
   have hwl:IntKind.i64.wrap ((len:Int)+1)=((len+1:Nat):Int):=by rw [IntWalk.i64_in _ (by omega)];omega
   have hwa:IntKind.i64.wrap ((pre.length:Int)+m)=(pre.length:Int)+m:=IntWalk.i64_in _ (by omega)
   have el:(len:Int)+1=((len+1:Nat):Int):=by omega
   have ea:(pre.length:Int)+m=(((pre++(c::rest).take m.toNat).length:Nat):Int):=by rw [hpl];omega
   refine ⟨fun hk=>?_,fun hk=>?_⟩
   ·have hk:x.kind≠1:=by simpa using hk
    refine call_eq (r3Check_pc f x _) rfl ?_
    simp only [VV,seval]
    refine ⟨fun he=>?_,fun he=>?_⟩
    ·have he:checkErr f x≠0:=by simpa using he
     rw [if_pos ⟨hk,he⟩] at h2
     exact h2 he [_] ..
    have he:checkErr f x=0:=by simpa using he
    rw [if_neg (fun h=>h.2 he)] at h1 h2
    refine call_cv (zs:=[.sl 3 (f.map It.cells),.sl 3 ([x].map It.cells)]) (.cons (.refl _) (.cons (.lit _ _) .nil)) (r3Concat_pc f [x] (by omega) (by simp) (by omega) (by simp only [textLen];omega) _) ?_
    simp only [hwl,hwa,List.length_map,VV,seval]
    refine ⟨fun hc=>?_,fun hc=>?_⟩
    ·have hc:512<(normalize (f++[x])).length∨(1024:Int)<(len:Int)+1:=by simp at hc;omega
     rw [if_pos hc] at h2
     exact h2 (by simp) [_] ..
    ·have hc:¬ (512<(normalize (f++[x])).length∨(1024:Int)<(len:Int)+1):=by simp at hc;omega
     rw [if_neg hc,el,ea] at h1 h2
     refine hR _ (rnd_back (Nat.le_refl _) hcl ?_ ?_ (ih ((c::rest).drop m.toNat) (pre++(c::rest).take m.toNat) (normalize (f++[x])) (len+1) (by simp) (by rw [List.length_drop,List.length_cons];omega) (by omega) (by rw [hpl];omega) (by omega) h1 h2))
     ·rw [← ea]
      repeat first | exact .nil | refine .cons (.refl _) ?_ | refine .cons (.forget _) ?_
     ·simp only [LW]
   ·have hk:x.kind=1:=by simpa using hk
    rw [if_neg (fun h=>h.1 hk)] at h1 h2
    refine call_cv (zs:=[.sl 3 (f.map It.cells),.sl 3 ([x].map It.cells)]) (.cons (.refl _) (.cons (.lit _ _) .nil)) (r3Concat_pc f [x] (by omega) (by simp) (by omega) (by simp only [textLen];omega) _) ?_
    simp only [hwl,hwa,List.length_map,VV,seval]
    refine ⟨fun hc=>?_,fun hc=>?_⟩
    ·have hc:512<(normalize (f++[x])).length∨(1024:Int)<(len:Int)+1:=by simp at hc;omega
     rw [if_pos hc] at h2
     exact h2 (by simp) [_] ..
    ·have hc:¬ (512<(normalize (f++[x])).length∨(1024:Int)<(len:Int)+1):=by simp at hc;omega
     rw [if_neg hc,el,ea] at h1 h2
     refine hR _ (rnd_back (Nat.le_refl _) hcl ?_ ?_ (ih ((c::rest).drop m.toNat) (pre++(c::rest).take m.toNat) (normalize (f++[x])) (len+1) (by simp) (by rw [List.length_drop,List.length_cons];omega) (by omega) (by rw [hpl];omega) (by omega) h1 h2))
     ·rw [← ea]
      repeat first | exact .nil | refine .cons (.refl _) ?_ | refine .cons (.forget _) ?_
     ·simp only [LW]
theorem r3Parse_pc (s:List UInt8) (hlen:s.length<2^30) (σ:Store):PC Tryz.prog 84 [.s s] σ (fun r σ'=>r=.tup [.sl 3 ((parse s).1.map It.cells),.i .i64 (parse s).2.1,.i .i64 (parse s).2.2]∧σ'=σ):=by
 refine PC.intro Tryz.func84 c84 fun hcl hwf=>wpc_sound ?_
 rw [← rparse_parse]
 simp only [p84,SS,seval]
 simp only [VV,seval]
 refine PWc.wk (Wk.cvs ?_) (PWc.rnd (s.length+1) (loop84 s hcl hlen (s.length+1) s [] [] 0 rfl (by omega) (by simp) (by simp [textLen]) (by omega) (fun h=>?_) (fun h=>?_)))
 ·simp only [List.length_nil,Int.natCast_zero,List.map_nil,seval]
  repeat first | exact .nil | refine .cons (.refl _) ?_ | refine .cons (.forget _) ?_
  exact .cons (.nil _) (by repeat first | exact .nil | refine .cons (.refl _) ?_ | refine .cons (.forget _) ?_)
 ·have e:=rparseN_ok _ _ _ _ _ h
  intros
  simp only [VV,seval]
  refine ret_end0 (.inr rfl) (by simp only [RS,seval];rfl) ⟨?_,rfl⟩
  have h':(rparse s).2.2=0:=h
  have e':(rparse s).2.1=0:=e
  rw [h',e'];rfl
 ·intros
  simp only [VV,seval]
  refine ret_cvs (ys:=[.sl 3 [],.i .i64 (rparse s).2.1,.i .i64 (rparse s).2.2]) hcl (.inr rfl) (by simp only [RS,seval];rfl) ?_ (by simp only [LW]) ⟨?_,rfl⟩
  ·exact .cons (.nil _) (.cons (.refl _) (.cons (.refl _) .nil))
  ·have hz:=rparseN_bad _ _ _ _ _ h
   have hz':(rparse s).1=[]:=hz
   rw [hz'];rfl
theorem named_pc (s:List UInt8) (σ:Store):PC Tryz.prog 85 [.s s] σ (fun r σ'=>r=.b (named s)∧σ'=σ):=by
 refine PC.intro Tryz.func85 c85 fun hcl hwf=>wpc_sound ?_
 simp only [p85,SS,seval]
 simp only [VV,seval]
 refine callg_eq (by simp only [VV,seval]<;>rfl) (fun _=>r1IsName_pc s _) rfl ?_
 simp only [VV,seval]
 exact ret_end0 (.inr rfl) (by simp only [RS,seval];rfl) ⟨rfl,rfl⟩
theorem r16Validate_pc (e:En) (hs:e.small) (σ:Store):PC Tryz.prog 46 [.agg e.cells] σ (fun r σ'=>r=.i .i64 (entryErr e)∧σ'=σ):=by
 refine PC.intro Tryz.func46 c46 fun hcl hwf=>wpc_sound ?_
 simp only [p46,SS,seval]
 simp only [En.cells,VV,seval]
 refine call_eq (r3Validate_pc e.source _) rfl ?_
 simp only [VV,seval]
 refine ⟨fun h=>?_,fun h=>?_⟩
 ·have h:validItems e.source≠0:=by simpa using h
  exact ret_end hcl (.inr rfl) (by simp only [RS,seval];rfl) (by simp only [LW]) ⟨by simp only [entryErr,h,if_true,ne_eq,not_false_eq_true];rfl,rfl⟩
 have h1:validItems e.source=0:=by simpa using h
 refine call_eq (r3Validate_pc e.target _) rfl ?_
 simp only [VV,seval]
 refine ⟨fun h=>?_,fun h=>?_⟩
 ·have h:validItems e.target≠0:=by simpa using h
  refine ret_end hcl (.inr rfl) (by simp only [RS,seval];rfl) (by simp only [LW]) ⟨?_,rfl⟩
  simp only [entryErr,h1,h,if_true,ne_eq,not_false_eq_true,not_true,if_false];rfl
 have h2:validItems e.target=0:=by simpa using h
 refine call_eq (r3Canonical_pc e.source e.target (by have:=hs.source;omega) (by have:=hs.target;omega) (by have:=hs.sourceT;omega) (by have:=hs.targetT;omega) _) rfl ?_
 simp only [List.length_map,VV,seval]
 refine callg_eq (by simp only [VV,seval]<;>rfl) (fun _=>r3Same_pc (canonS e.source e.target) e.source _) rfl ?_
 simp only [VV,seval]
 refine callg_eq (by simp only [VV,seval]<;>rfl) (fun _=>r3Same_pc (canonT e.source e.target) e.target _) rfl ?_
 simp only [VV,seval]
 have hco:canonOk e=!((((e.source.length:Int)==0)||!itsEq (canonS e.source e.target) e.source)||!itsEq (canonT e.source e.target) e.target):=by
  have:((e.source.length:Int)==0)=(e.source.length==0):=by rw [Bool.eq_iff_iff];simp
  simp only [canonOk,this]
  cases (e.source.length==0)<;>cases itsEq (canonS e.source e.target) e.source<;>cases itsEq (canonT e.source e.target) e.target<;>rfl
 refine ⟨fun h=>?_,fun h=>?_⟩
 ·rw [h] at hco
  refine ret_end hcl (.inr rfl) (by simp only [RS,seval];rfl) (by simp only [LW]) ⟨?_,rfl⟩
  simp only [entryErr,h1,h2,hco,ne_eq,not_true,if_false];rfl
 rw [h] at hco
 have e1:entryErr e=if (parse e.previous).2.2≠0 then (parse e.previous).2.2 else if (parse e.next).2.2≠0 then (parse e.next).2.2 else
   if (named e.author&&named e.project)=false then 4 else if e.created<0∨1073741824<e.created∨e.origin<1∨3<e.origin then 1 else 0:=by
  simp only [entryErr,h1,h2,hco,ne_eq,not_true,if_false];rfl
 refine call_eq (r3Parse_pc e.previous (by have:=hs.previous;omega) _) rfl ?_
 simp only [VV,seval]
 refine ⟨fun h=>?_,fun h=>?_⟩
 ·have h:(parse e.previous).2.2≠0:=by simpa using h
  rw [e1,if_pos h]
  exact ret_end hcl (.inr rfl) (by simp only [RS,seval];rfl) (by simp only [LW]) ⟨rfl,rfl⟩
 have h3:¬ (parse e.previous).2.2≠0:=by simpa using h
 refine call_eq (r3Parse_pc e.next (by have:=hs.next;omega) _) rfl ?_
 simp only [VV,seval]
 refine ⟨fun h=>?_,fun h=>?_⟩
 ·have h:(parse e.next).2.2≠0:=by simpa using h
  rw [e1,if_neg h3,if_pos h]
  exact ret_end hcl (.inr rfl) (by simp only [RS,seval];rfl) (by simp only [LW]) ⟨rfl,rfl⟩
 have h4:¬ (parse e.next).2.2≠0:=by simpa using h
 rw [if_neg h3,if_neg h4] at e1
 refine call_eq (named_pc e.author _) rfl ?_
 simp only [VV,seval]
 refine callg_eq (by simp only [VV,seval]<;>rfl) (fun _=>named_pc e.project _) rfl ?_
 simp only [VV,seval]
 have hna:(!named e.author||!named e.project)=!(named e.author&&named e.project):=by
  cases named e.author<;>cases named e.project<;>rfl
 rw [hna]
 refine ⟨fun h=>?_,fun h=>⟨fun h5=>?_,fun h5=>?_⟩⟩
 ·have h:(named e.author&&named e.project)=false:=by rw [Bool.not_eq_true'] at h;exact h
  rw [e1,if_pos h]
  exact ret_end hcl (.inr rfl) (by simp only [RS,seval];rfl) (by simp only [LW]) ⟨rfl,rfl⟩
 ·have h:¬ (named e.author&&named e.project)=false:=by rw [Bool.not_eq_false'] at h;rw [h];simp
  have h5:e.created<0∨1073741824<e.created∨e.origin<1∨3<e.origin:=by
   simp at h5;omega
  rw [e1,if_neg h,if_pos h5]
  exact ret_end hcl (.inr rfl) (by simp only [RS,seval];rfl) (by simp only [LW]) ⟨rfl,rfl⟩
 ·have h:¬ (named e.author&&named e.project)=false:=by rw [Bool.not_eq_false'] at h;rw [h];simp
  have h5:¬ (e.created<0∨1073741824<e.created∨e.origin<1∨3<e.origin):=by
   simp at h5;omega
  rw [e1,if_neg h,if_neg h5]
  exact ret_end hcl (.inr rfl) (by simp only [RS,seval];rfl) (by simp only [LW]) ⟨rfl,rfl⟩
theorem loop23 {n:Nat} {σ:Store} {K:Exit→St→Prop} (q:V) (l:List Int) (hlen:l.length<2^63):∀ (rest pre:List Int),l=pre++rest →
  (rest.any (fun n=>decide (128<n))=false→(∀ j0 j2 j3 j4 j5 j6 j7 j8 j9 j10 j11 j12 j13 j14 j15 j16 j17 j18 j19 j20 j21 j22 j23 j24 j25 j26 j27 j28 j29 j30 j31 j32 j33 j34 j35 j36 j37 j38 j39 j40 j41 j42 j43 j44 j45 j46 j47 j48 j49 j50 j51 j52 j53 j54 j55 j56 j57 j58 j59 j60 j61 j62 j63 j64 j65 j66 j67 j68 j69 j70 j71 j72 j73 j74 j75 j76 j77 j78 j79 j80 j81 j82 j83 j84 j85,K (.exit 0) ⟨[j0,q,j2,j3,j4,j5,j6,j7,j8,j9,j10,j11,j12,j13,j14,j15,j16,j17,j18,j19,j20,j21,j22,j23,j24,j25,j26,j27,j28,j29,j30,j31,j32,j33,j34,j35,j36,j37,j38,j39,j40,j41,j42,j43,j44,j45,j46,j47,j48,j49,j50,j51,j52,j53,j54,j55,j56,j57,j58,j59,j60,j61,j62,j63,j64,j65,j66,j67,j68,j69,j70,j71,j72,j73,j74,j75,j76,j77,j78,j79,j80,j81,j82,j83,j84,j85],σ⟩))→(rest.any (fun n=>decide (128<n))=true→(∀ j0 j3 j4 j5 j6 j7 j8 j9 j10 j11 j12 j13 j14 j15 j16 j17 j18 j19 j20 j21 j22 j23 j24 j25 j26 j27 j28 j29 j30 j31 j32 j33 j34 j35 j36 j37 j38 j39 j40 j41 j42 j43 j44 j45 j46 j47 j48 j49 j50 j51 j52 j53 j54 j55 j56 j57 j58 j59 j60 j61 j62 j63 j64 j65 j66 j67 j68 j69 j70 j71 j72 j73 j74 j75 j76 j77 j78 j79 j80 j81 j82 j83 j84 j85,K .ret ⟨[j0,q,.i .i64 1,j3,j4,j5,j6,j7,j8,j9,j10,j11,j12,j13,j14,j15,j16,j17,j18,j19,j20,j21,j22,j23,j24,j25,j26,j27,j28,j29,j30,j31,j32,j33,j34,j35,j36,j37,j38,j39,j40,j41,j42,j43,j44,j45,j46,j47,j48,j49,j50,j51,j52,j53,j54,j55,j56,j57,j58,j59,j60,j61,j62,j63,j64,j65,j66,j67,j68,j69,j70,j71,j72,j73,j74,j75,j76,j77,j78,j79,j80,j81,j82,j83,j84,j85],σ⟩)) →
  Rnd n Tryz.prog p23_0 K (rest.length+1) ⟨[.u,q,.u,.u,.u,.u,.u,.u,.u,.u,.u,.u,.u,.u,.u,.u,.u,.u,.u,.u,.u,.u,.u,.u,.u,.u,.u,.u,.u,.u,.u,.sl 1 (l.map iRow),.i .i64 l.length,.i .i64 pre.length,.u,.u,.u,.u,.u,.u,.u,.u,.u,.u,.u,.u,.u,.u,.u,.u,.u,.u,.u,.u,.u,.u,.u,.u,.u,.u,.u,.u,.u,.u,.u,.u,.u,.u,.u,.u,.u,.u,.u,.u,.u,.u,.u,.u,.u,.u,.u,.u,.u,.u,.u,.u],σ⟩:=by
 intro rest
 induction rest with
 | nil =>
  intro pre he h1 h2
  have he:l=pre:=by simpa using he
  subst he
  refine rnd_step fun R hR=>?_
  simp only [p23_0,VV,seval]
  exact ⟨fun h=>by simp at h,fun _=>h1 rfl ..⟩
 | cons c rest ih =>
  intro pre he h1 h2
  subst he
  refine rnd_step fun R hR=>?_
  simp only [p23_0,iRow,VV,seval]
  refine ⟨fun _=>⟨by simp;omega,fun h=>?_,fun h=>?_⟩,fun h=>by simp at h<;>omega⟩
  ·have h:128<c:=by simpa using h
   exact h2 (by simp [h]) ..
  ·have h:¬ 128<c:=by simpa using h
   have e:(c::rest).any (fun n=>decide (128<n))=rest.any (fun n=>decide (128<n)):=by simp [h]
   rw [e] at h1 h2
   refine hR _ (rnd_cvs ?_ (ih (pre++[c]) (by simp) h1 h2))
   rw [wrap_succ (by simp at hlen;omega)]
   simp only [List.length_append,List.length_cons,List.length_nil]
   repeat first | exact .nil | refine .cons (.refl _) ?_ | refine .cons (.forget _) ?_
theorem r36ValidateOp_pc (o:Opr) (hs:o.small) (σ:Store):PC Tryz.prog 23 [.agg o.cells] σ (fun r σ'=>r=.i .i64 (opErr o)∧σ'=σ):=by
 refine PC.intro Tryz.func23 c23 fun hcl hwf=>wpc_sound ?_
 have hsl:=hs.seen
 simp only [p23,SS,seval]
 simp only [Opr.cells,Stamp.cells,En.cells,VV,seval]
 refine call_eq (r36Stamp_pc o.stamp _) rfl ?_
 simp only [VV,seval]
 refine ⟨fun h=>?_,fun h=>?_⟩
 ·have h:stampOk o.stamp=false:=by
   cases hk:stampOk o.stamp with
   | false=>rfl
   | true=>rw [hk] at h;simp at h
  refine ret_end hcl (.inr rfl) (by simp only [RS,seval];rfl) (by simp only [LW]) ⟨?_,rfl⟩
  simp only [opErr,h,if_true];rfl
 have h0:¬ stampOk o.stamp=false:=by
  intro hk;rw [hk] at h;simp at h
 have e0:opErr o=if (o.kind≠1∧o.kind≠2)∨vTrim o.seen≠o.seen then 1 else
   if o.seen.any (fun n=>decide (128<n)) then 1 else
   if vAt o.seen o.stamp.office≠o.stamp.number - 1 then 11 else
   if o.kind=2∧bareEn o.entry=false then 1 else entryErr (looked o):=by simp only [opErr,if_neg h0]
 have hnum:1≤o.stamp.number∧o.stamp.number≤128:=by
  have:stampOk o.stamp=true:=by simpa using h0
  simp only [stampOk,decide_eq_true_eq] at this;omega
 rw [e0]
 have hkind:(bif (o.kind != 1) then (o.kind != 2) else false)=decide (o.kind≠1∧o.kind≠2):=by
  rw [Bool.eq_iff_iff];by_cases h1:o.kind=1<;>by_cases h2:o.kind=2<;>simp [h1,h2]
 refine callg_eq (by simp only [VV,seval]<;>rfl) (fun _=>r36Trim_pc o.seen _) rfl ?_
 simp only [VV,seval]
 refine callg_eq (by simp only [VV,seval]<;>rfl) (fun _=>r3SameInts_pc (vTrim o.seen) o.seen _) rfl ?_
 simp only [VV,seval]
 have hl63:o.seen.length<2^63:=by omega
 refine ⟨fun h=>?_,fun h=>PWc.rnd_cvs ?_ (o.seen.length+1) (loop23 (.ptr σ.length 0) o.seen hl63 o.seen [] rfl (fun ha=>?_) (fun ha=>?_))⟩
 ·have h:(o.kind≠1∧o.kind≠2)∨vTrim o.seen≠o.seen:=by
   simpa [vTrim] using h
  refine ret_end hcl (.inr rfl) (by simp only [RS,seval];rfl) (by simp only [LW]) ⟨?_,rfl⟩
  rw [if_pos h];rfl
 ·simp only [List.length_map,List.length_nil,seval]
  repeat first | exact .nil | refine .cons (.refl _) ?_ | refine .cons (.forget _) ?_
 ·have h:¬ ((o.kind≠1∧o.kind≠2)∨vTrim o.seen≠o.seen):=by
   intro h2
   have:(o.kind != 1&&o.kind != 2||!vTrim o.seen==o.seen)=true:=by simpa using h2
   rw [h] at this;simp at this
  have hkk:=h
  rw [if_neg h,if_neg (show ¬ (o.seen.any fun n=>decide (128<n))=true by rw [ha];simp)]
  intros
  simp only [VV,seval]
  refine call_eq (r36At_pc o.seen o.stamp.office _) rfl ?_
  simp only [VV,seval]
  have hw:IntKind.i64.wrap (o.stamp.number - 1)=o.stamp.number - 1:=IntWalk.i64_in _ (by omega)
  rw [hw]
  refine ⟨fun h=>?_,fun h=>?_⟩
  ·have h:vAt o.seen o.stamp.office≠o.stamp.number - 1:=by simpa using h
   refine ret_end hcl (.inr rfl) (by simp only [RS,seval];rfl) (by simp only [LW]) ⟨?_,rfl⟩
   rw [if_pos h];rfl
  have h:¬ vAt o.seen o.stamp.office≠o.stamp.number - 1:=by simpa using h
  rw [if_neg h]
  refine ⟨fun h1=>?_,fun h1=>?_⟩
  ·have h1:o.kind=1:=by simpa using h1
   have hl:looked o=o.entry:=by simp only [looked,h1];rfl
   rw [if_neg (by rw [h1];simp),hl]
   refine call_eq (r16Validate_pc o.entry hs.entry _) rfl ?_
   simp only [VV,seval]
   exact ret_end hcl (.inr rfl) (by simp only [RS,seval];rfl) (by simp only [LW]) ⟨rfl,rfl⟩
  have h1:o.kind=2:=by
   simp only [not_or] at hkk
   have h1:¬ o.kind=1:=by simpa using h1
   have:=hkk.1
   omega
  have hl:looked o=asked o.entry:=by simp only [looked,h1];rfl
  have hbare:(decide ((0:Int)<(o.entry.target.length:Int))||!o.entry.author==[]||!o.entry.project==[]||o.entry.created != 0||o.entry.origin != 0)=!bareEn o.entry:=by
   have e:decide ((0:Int)<(o.entry.target.length:Int))=!(o.entry.target.length==0):=by
    rw [Bool.eq_iff_iff];simp only [decide_eq_true_eq,Bool.not_eq_true',beq_eq_false_iff_ne];omega
   rw [e]
   simp only [bareEn,bne]
   cases o.entry.target.length==0<;>cases o.entry.author==[]<;>cases o.entry.project==[]<;>cases o.entry.created==0<;>cases o.entry.origin==0<;>rfl
  simp only [List.length_map,seval]
  rw [hbare]
  refine ⟨fun h2=>?_,fun h2=>?_⟩
  ·have h2:bareEn o.entry=false:=by rw [Bool.not_eq_true'] at h2;exact h2
   refine ret_end hcl (.inr rfl) (by simp only [RS,seval];rfl) (by simp only [LW]) ⟨?_,rfl⟩
   rw [if_pos ⟨h1,h2⟩];rfl
  have h2:bareEn o.entry=true:=by rw [Bool.not_eq_false'] at h2;exact h2
  rw [if_neg (by rw [h2];simp)]
  refine call_eq (r36Asked_pc o.entry _) rfl ?_
  simp only [VV,seval]
  have hsl2:=looked_small hs
  rw [hl] at hsl2 ⊢
  refine call_eq (r16Validate_pc (asked o.entry) hsl2 _) rfl ?_
  simp only [VV,seval]
  exact ret_end hcl (.inr rfl) (by simp only [RS,seval];rfl) (by simp only [LW]) ⟨rfl,rfl⟩
 ·have h:¬ ((o.kind≠1∧o.kind≠2)∨vTrim o.seen≠o.seen):=by
   intro h2
   have:(o.kind != 1&&o.kind != 2||!vTrim o.seen==o.seen)=true:=by simpa using h2
   rw [h] at this;simp at this
  rw [if_neg h,if_pos ha]
  intros
  simp only [VV,seval]
  exact ret_end hcl (.inr rfl) (by simp only [RS,seval];rfl) (by simp only [LW]) ⟨rfl,rfl⟩
theorem ti_opR:Ti Tryz.prog 35 13 184:=tiB_ok (by kernel_rfl)
def opRow (g:Nat) (sh:Bool) (f:List Opr):Ob:=.row 35 13 184 g sh (f.map Opr.cells)
theorem op_row {out:List Opr} {n:Nat} (h:n<out.length):∃ x∈out,(out.map Opr.cells).getD n []=x.cells :=
 ⟨out[n],List.getElem_mem h,by simp [List.getD_eq_getElem?_getD,h]⟩
set_option maxHeartbeats 4000000 in
set_option maxRecDepth 20000 in
theorem loop6 (S:Store) (a:Nat) (ha:a<S.length) (l:List Int) {K:Exit→St→Prop} (k0:Nat) (hk0:k0<2^46) (hcl:Closed (nst S a l k0)) (N:Nat) (hN:N≤20):∀ (m:Nat) (k:Nat) (out:List Opr) (g:Nat),m≤N→out.length+m≤N→(∀ o∈out,GenOp o)→k+1000*m≤k0+1000*N →
  (∀ (k:Nat) (out:List Opr) (g:Nat),(∀ o∈out,GenOp o)→out.length≤N→k≤k0+1000*N→(∀ j0 j1 j2 j3 j4 j6 j7 j8 j9 j10 j11 j12 j13 j14 j15 j16 j17 j18 j19 j20 j21 j22 j23 j24 j25 j26 j27 j28 j29 j30 j31 j32 j33 j34 j35 j36 j37 j38 j39 j40 j41 j42 j43 j44 j45 j46 j47 j48 j49 j50 j51 j52 j53 j54 j55 j56 j57 j58 j59 j60 j61 j62 j63,K (.exit 0) ⟨[j0,j1,j2,j3,j4,.own S.length g,j6,j7,j8,j9,j10,j11,j12,j13,j14,j15,j16,j17,j18,j19,j20,j21,j22,j23,j24,j25,j26,j27,j28,j29,j30,j31,j32,j33,j34,j35,j36,j37,j38,j39,j40,j41,j42,j43,j44,j45,j46,j47,j48,j49,j50,j51,j52,j53,j54,j55,j56,j57,j58,j59,j60,j61,j62,j63],nst S a l k++[opRow g false out]⟩)) →
  Rnd S.length Tryz.prog p6_0 K (m+1) ⟨[.ptr a 0,.u,.u,.u,.u,.own S.length g,.i .i64 m,.u,.u,.u,.u,.u,.u,.u,.u,.u,.u,.u,.u,.u,.u,.u,.u,.u,.u,.u,.u,.u,.u,.u,.u,.u,.u,.u,.u,.u,.u,.u,.u,.u,.u,.u,.u,.u,.u,.u,.u,.u,.u,.u,.u,.u,.u,.u,.u,.u,.u,.u,.u,.u,.u,.u,.u,.u],nst S a l k++[opRow g false out]⟩:=by
 intro m
 induction m with
 | zero =>
  intro k out g hm hol ho hk h1
  refine rnd_step fun R hR=>?_
  simp only [p6_0,VV,seval]
  exact ⟨fun h=>by simp at h,fun _=>h1 k out g ho (by omega) (by omega) ..⟩
 | succ m ih =>
  intro k out g hm hol ho hk h1
  have hw:IntKind.i64.wrap (((m+1:Nat):Int) - 1)=(m:Int):=by rw [IntWalk.i64_in _ (by omega)];omega
  refine rnd_stepW fun R hR=>?_
  simp only [p6_0]
  refine PWc.cut fun R1 hR1=>?_
  simp only [VV,seval]
  refine ⟨fun _=>?_,fun h=>by simp at h<;>omega⟩
  refine hR1 _ (PWc.cvs (fr':=[.ptr a 0,.u,.u,.u,.u,.own S.length g,.i .i64 (m+1:Nat),.u,.u,.u,.u,.u,.u,.u,.u,.u,.u,.u,.u,.u,.u,.u,.u,.u,.u,.u,.u,.u,.u,.u,.u,.u,.u,.u,.u,.u,.u,.u,.u,.u,.u,.u,.u,.u,.u,.u,.u,.u,.u,.u,.u,.u,.u,.u,.u,.u,.u,.u,.u,.u,.u,.u,.u,.u]) ?_ (by repeat first | exact .nil | refine .cons (.refl _) ?_ | refine .cons (.forget _) ?_))
  clear hR1 R1
  refine PWc.cutW fun R2 hR2=>PWc.blk ?_
  have again:∀ (out2:List Opr) (g2 k2:Nat) (ext:Store) {fr:List V},(∀ o∈out2,GenOp o)→out2.length≤out.length+1→k2≤k+1000→Cvs fr [.ptr a 0,.u,.u,.u,.u,.own S.length g2,.i .i64 (m+1:Nat),.u,.u,.u,.u,.u,.u,.u,.u,.u,.u,.u,.u,.u,.u,.u,.u,.u,.u,.u,.u,.u,.u,.u,.u,.u,.u,.u,.u,.u,.u,.u,.u,.u,.u,.u,.u,.u,.u,.u,.u,.u,.u,.u,.u,.u,.u,.u,.u,.u,.u,.u,.u,.u,.u,.u,.u,.u]→R2 ⟨fr,nst S a l k2++(opRow g2 false out2::ext)⟩:=by
   intro out2 g2 k2 ext fr c1 c2 c3 hc
   refine hR2 _ (PWc.cvs (wpc_sound ?_) hc)
   simp only [hw,VV,seval]
   have hw2:Wk Tryz.prog S.length [.ptr a 0,.u,.u,.u,.u,.own S.length g2,.i .i64 m,.u,.u,.u,.u,.u,.u,.u,.u,.u,.u,.u,.u,.u,.u,.u,.u,.u,.u,.u,.u,.u,.u,.u,.u,.u,.u,.u,.u,.u,.u,.u,.u,.u,.u,.u,.u,.u,.u,.u,.u,.u,.u,.u,.u,.u,.u,.u,.u,.u,.u,.u,.u,.u,.u,.u,.u,.u] (nst S a l k2++(opRow g2 false out2::ext)) [.ptr a 0,.u,.u,.u,.u,.own S.length g2,.i .i64 m,.u,.u,.u,.u,.u,.u,.u,.u,.u,.u,.u,.u,.u,.u,.u,.u,.u,.u,.u,.u,.u,.u,.u,.u,.u,.u,.u,.u,.u,.u,.u,.u,.u,.u,.u,.u,.u,.u,.u,.u,.u,.u,.u,.u,.u,.u,.u,.u,.u,.u,.u,.u,.u,.u,.u,.u,.u] (nst S a l k2++[opRow g2 false out2]):=by
    have:=Wk.drop0 (P:=Tryz.prog) (n:=S.length) (xs:=[.ptr a 0,.u,.u,.u,.u,.own S.length g2,.i .i64 m,.u,.u,.u,.u,.u,.u,.u,.u,.u,.u,.u,.u,.u,.u,.u,.u,.u,.u,.u,.u,.u,.u,.u,.u,.u,.u,.u,.u,.u,.u,.u,.u,.u,.u,.u,.u,.u,.u,.u,.u,.u,.u,.u,.u,.u,.u,.u,.u,.u,.u,.u,.u,.u,.u,.u,.u,.u]) (σ:=nst S a l k2++[opRow g2 false out2]) (loc:=ext) (by simp [nst_len]) (closed_add (nst_closed hcl) (by simp [opRow])) (allLt_iff.1 (by
     rw [List.length_append,nst_len]
     simp only [List.length_cons,List.length_nil,Nat.lt_add_one,Nat.lt_add_right 1 ha,Nat.zero_add,LW]))
    rwa [List.append_assoc,List.singleton_append] at this
   exact hR _ (rnd_wk ((Wk.cvs (by repeat first | exact .nil | refine .cons (.refl _) ?_ | refine .cons (.forget _) ?_)).trans hw2) (ih k2 out2 g2 (by omega) (by omega) c1 (by omega) h1))
  refine PWc.cut fun R3 hR3=>?_
  simp only [opRow,VV,seval]
  refine call_ex (op_at S a ha l k (by omega) _) rfl ?_
  rintro _ _ ⟨o,k1,rfl,hO,hk1,rfl⟩
  simp only [Opr.cells,Stamp.cells,En.cells,nst_len,nb,nbs,VV,seval]
  refine hR3 _ (PWc.cvs (fr':=[.ptr a 0,.u,.u,.u,.u,.own S.length g,.i .i64 (m+1:Nat),.ptr (S.length+1) 0,.u,.u,.u,.u,.u,.u,.u,.u,.u,.u,.u,.u,.u,.u,.u,.u,.u,.u,.u,.u,.u,.u,.u,.u,.u,.u,.u,.u,.u,.u,.u,.u,.u,.u,.u,.u,.u,.u,.u,.u,.u,.u,.u,.u,.u,.u,.u,.u,.u,.u,.u,.u,.u,.u,.u,.u]) ?_ (by repeat first | exact .nil | refine .cons (.refl _) ?_ | refine .cons (.forget _) ?_))
  clear hR3 R3
  refine PWc.cutW fun R4 hR4=>?_
  have tail:∀ (o:Opr) (k2:Nat) (ext:Store) {fr:List V},o.small→(opErr o=0→GenOp o)→k2≤k+1000→Cvs fr [.ptr a 0,.u,.u,.u,.u,.own S.length g,.i .i64 (m+1:Nat),.ptr (S.length+1) 0,.u,.u,.u,.u,.u,.u,.u,.u,.u,.u,.u,.u,.u,.u,.u,.u,.u,.u,.u,.u,.u,.u,.u,.u,.u,.u,.u,.u,.u,.u,.u,.u,.u,.u,.u,.u,.u,.u,.u,.u,.u,.u,.u,.u,.u,.u,.u,.u,.u,.u,.u,.u,.u,.u,.u,.u] →
    R4 ⟨fr,nst S a l k2++(opRow g false out::.box 35 o.cells::ext)⟩:=by
   intro o k2 ext fr c1 c2 c3 hc
   refine hR4 _ (PWc.cvs (wpc_sound ?_) hc)
   simp only [opRow,Opr.cells,Stamp.cells,En.cells,List.cons_append,List.nil_append,nb,VV,seval]
   refine call_eq (r36ValidateOp_pc o c1 _) rfl ?_
   simp only [nb0,nb,nbs0,List.length_map,V.pure,VV,seval]
   refine ⟨fun h=>⟨⟨by omega,by simp only [maxLen];omega⟩,?_⟩,fun h=>?_⟩
   ·have e0:out.map Opr.cells++[[.i .i64 o.stamp.time,.i .i64 o.stamp.office,.i .i64 o.stamp.number,.i .i64 o.kind,.sl 3 (o.entry.source.map It.cells),.sl 3 (o.entry.target.map It.cells),.s o.entry.previous,.s o.entry.next,.s o.entry.author,.s o.entry.project,.i .i64 o.entry.created,.i .i64 o.entry.origin,.sl 1 (o.seen.map iRow)]]=(out++[o]).map Opr.cells:=by
     simp [Opr.cells,Stamp.cells,En.cells]
    rw [e0]
    refine again (out++[o]) (g+1) k2 _ (fun z hz=>?_) (by simp) c3 (by repeat first | exact .nil | refine .cons (.refl _) ?_ | refine .cons (.forget _) ?_)
    rcases List.mem_append.1 hz with hz | hz
    ·exact ho z hz
    ·rw [List.mem_singleton] at hz;subst hz;exact c2 (by simpa using h)
   ·exact again out g k2 _ ho (by omega) c3 (by repeat first | exact .nil | refine .cons (.refl _) ?_ | refine .cons (.forget _) ?_)
  refine PWc.cut fun R5 hR5=>?_
  have skip:∀ (k2:Nat) {fr:List V},k2≤k1+1→Cvs fr [.ptr a 0,.u,.u,.u,.u,.own S.length g,.i .i64 (m+1:Nat),.ptr (S.length+1) 0,.u,.u,.u,.u,.u,.u,.u,.u,.u,.u,.u,.u,.u,.u,.u,.u,.u,.u,.b false,.u,.u,.u,.u,.u,.u,.u,.u,.u,.u,.u,.u,.u,.u,.u,.u,.u,.u,.u,.u,.u,.u,.u,.u,.u,.u,.u,.u,.u,.u,.u,.u,.u,.u,.u,.u,.u]→R5 ⟨fr,nst S a l k2++[opRow g false out,.box 35 o.cells]⟩:=by
   intro k2 fr hk2 hc
   refine hR5 _ (PWc.cvs (PWc.iteF rfl (wpc_sound ?_)) hc)
   simp only [VV,seval]
   exact tail o k2 [] hO.small (fun _=>hO) (by omega) (by repeat first | exact .nil | refine .cons (.refl _) ?_ | refine .cons (.forget _) ?_)
  simp only [nb0,List.length_map,VV,seval]
  by_cases hne:out=[]
  ·have e1:decide ((0:Int)<(out.length:Int))=false:=by simp [hne]
   refine callg_ex (Q:=fun _ _=>True) (c:=false) (by simp only [e1,VV,seval]<;>rfl) (fun h=>by simp at h) rfl (fun h=>by simp at h) fun _=>⟨.i .i64 0,?_⟩
   simp only [e1,VV,seval]
   refine skip k1 (by omega) ?_
   repeat first | exact .nil | refine .cons (.refl _) ?_ | refine .cons (.forget _) ?_
  have e1:decide ((0:Int)<(out.length:Int))=true:=by
   have:=List.length_pos_iff.2 hne
   simp;omega
  refine callg_ex (c:=true) (by simp only [e1,VV,seval]<;>rfl) (fun _=>next_at S a ha l k1 (by omega) 2 (by decide) (by decide) _) rfl ?_ (fun h=>by simp at h)
  rintro _ _ _ ⟨v,rfl,hv,rfl⟩
  by_cases hv0:v=0
  ·have e2:(v==0)=true:=by simp [hv0]
   simp only [e1,e2,VV,seval]
   refine hR5 _ (PWc.cvs (fr':=[.ptr a 0,.u,.u,.u,.u,.own S.length g,.i .i64 (m+1:Nat),.ptr (S.length+1) 0,.u,.u,.u,.u,.u,.u,.u,.u,.u,.u,.u,.u,.u,.u,.u,.u,.u,.u,.b true,.u,.u,.u,.u,.u,.u,.u,.u,.u,.u,.u,.u,.u,.u,.u,.u,.u,.u,.u,.u,.u,.u,.u,.u,.u,.u,.u,.u,.u,.u,.u,.u,.u,.u,.u,.u,.u]) (PWc.iteT rfl ?_) (by repeat first | exact .nil | refine .cons (.refl _) ?_ | refine .cons (.forget _) ?_))
   clear hR5 skip R5
   refine PWc.cut fun R6 hR6=>?_
   simp only [nb0,List.length_map,VV,seval]
   refine call_ex (next_at S a ha l (k1+1) (by omega) out.length (by have:=List.length_pos_iff.2 hne;omega) (by omega) _) rfl ?_
   rintro _ _ ⟨j,rfl,hj,rfl⟩
   simp only [nst_len,nb0,nb,nbs,List.length_map,VV,seval]
   obtain ⟨x,hxm,hxe⟩:=op_row (out:=out) (n:=j.toNat) (by omega)
   have hX:=ho x hxm
   simp only [hxe,Opr.cells,Stamp.cells,En.cells,VV,seval]
   refine ⟨⟨hj.1,hj.2⟩,?_⟩
   refine hR6 _ (PWc.cvs (fr':=[.ptr a 0,.u,.u,.u,.u,.own S.length g,.i .i64 (m+1:Nat),.ptr (S.length+1) 0,.ptr (S.length+2) 0,.u,.u,.u,.u,.u,.u,.u,.u,.u,.u,.u,.u,.u,.u,.u,.u,.u,.u,.u,.u,.u,.u,.u,.u,.u,.u,.u,.u,.u,.u,.u,.u,.u,.u,.u,.u,.u,.u,.u,.u,.u,.u,.u,.u,.u,.u,.u,.u,.u,.u,.u,.u,.u,.u,.u]) ?_ (by repeat first | exact .nil | refine .cons (.refl _) ?_ | refine .cons (.forget _) ?_))
   clear hR6 R6
   refine PWc.cut fun R7 hR7=>?_
   simp only [nb,nbs,VV,seval]
   refine hR7 _ (PWc.cvs (fr':=[.ptr a 0,.u,.u,.u,.u,.own S.length g,.i .i64 (m+1:Nat),.ptr (S.length+1) 0,.ptr (S.length+2) 0,.u,.u,.u,.u,.u,.u,.u,.u,.u,.u,.u,.u,.u,.u,.u,.u,.u,.u,.u,.u,.u,.u,.u,.u,.u,.u,.u,.u,.u,.u,.u,.u,.u,.u,.u,.u,.u,.u,.u,.u,.u,.u,.u,.u,.u,.u,.u,.u,.u,.u,.u,.u,.u,.u,.u]) (wpc_sound ?_) (by repeat first | exact .nil | refine .cons (.refl _) ?_ | refine .cons (.forget _) ?_))
   clear hR7 R7
   simp only [nb,VV,seval]
   refine ⟨fun hk1'=>?_,fun hk1'=>?_⟩
   ·refine call_ex (target_at S a ha l (k1+1+1) (by omega) x.entry.source hX.src (by have:=hX.srcLen;omega) (by have:=hX.srcText;omega) _) rfl ?_
    rintro _ _ ⟨t,k2,rfl,t1,t2,t3,t4,rfl⟩
    simp only [nb,nbs,VV,seval]
    have hs:=mix_small hO hX (t:=t) (by have:=hX.srcLen;omega) (by have:=hX.srcLen;have:=hX.srcText;omega) (fun y hy=>by have:=err_ids t1 y hy;omega)
    refine tail (mixOp o x t) k2 _ hs (mix_gen hO hX hs (by have:=hX.srcLen;omega) (by have:=hX.srcLen;have:=hX.srcText;omega)) (by have:=hX.srcLen;omega) ?_
    repeat first | exact .nil | refine .cons (.refl _) ?_ | refine .cons (.forget _) ?_
   ·have hs:=mix_small hO hX (t:=o.entry.target) hO.small.entry.target hO.small.entry.targetT (fun y hy=>hO.small.entry.ids y (List.mem_append_right _ hy))
    refine tail (mixOp o x o.entry.target) (k1+1+1) _ hs (mix_gen hO hX hs hO.tgtLen hO.tgtText) (by omega) ?_
    repeat first | exact .nil | refine .cons (.refl _) ?_ | refine .cons (.forget _) ?_
  ·have e2:(v==0)=false:=by simpa using hv0
   simp only [e1,e2,VV,seval]
   refine skip (k1+1) (by omega) ?_
   repeat first | exact .nil | refine .cons (.refl _) ?_ | refine .cons (.forget _) ?_
theorem ops_pc (S:Store) (a:Nat) (ha:a<S.length) (l:List Int) (k:Nat) (hk:k<2^45) (N:Nat) (hN:N≤20) :
  PC Tryz.prog 6 [.ptr a 0,.i .i64 N] (nst S a l k) (fun r σ'=>∃ (out:List Opr) (k':Nat),r=.sl 13 (out.map Opr.cells)∧(∀ o∈out,GenOp o)∧out.length≤N∧σ'=nst S a l k'):=by
 refine PC.intro Tryz.func6 c6 fun hcl hwf=>wpc_sound ?_
 have hw:IntKind.i64.wrap ((N:Int)+1)=((N+1:Nat):Int):=wrap_succ (by omega)
 simp only [p6,SS,seval]
 simp only [nst_len,hw,VV,seval]
 refine call_ex (next_pc S a ha l k (by omega) ((N+1:Nat):Int) (by omega) (by omega)) rfl ?_
 rintro _ _ ⟨v,rfl,hv,rfl⟩
 obtain ⟨m,rfl⟩:∃ m:Nat,v=m:=⟨v.toNat,by omega⟩
 simp only [VV,seval]
 refine PWc.wk (((Wk.cvs (ys:=[.ptr a 0,.u,.u,.u,.u,.nil,.i .i64 m,.u,.u,.u,.u,.u,.u,.u,.u,.u,.u,.u,.u,.u,.u,.u,.u,.u,.u,.u,.u,.u,.u,.u,.u,.u,.u,.u,.u,.u,.u,.u,.u,.u,.u,.u,.u,.u,.u,.u,.u,.u,.u,.u,.u,.u,.u,.u,.u,.u,.u,.u,.u,.u,.u,.u,.u,.u]) (by repeat first | exact .nil | refine .cons (.refl _) ?_ | refine .cons (.forget _) ?_)).trans (Wk.promote (P:=Tryz.prog) (σ:=nst S a l (k+1)) (k:=5) ti_opR rfl)).trans (Wk.cvs (ys:=[.ptr a 0,.u,.u,.u,.u,.own S.length 0,.i .i64 m,.u,.u,.u,.u,.u,.u,.u,.u,.u,.u,.u,.u,.u,.u,.u,.u,.u,.u,.u,.u,.u,.u,.u,.u,.u,.u,.u,.u,.u,.u,.u,.u,.u,.u,.u,.u,.u,.u,.u,.u,.u,.u,.u,.u,.u,.u,.u,.u,.u,.u,.u,.u,.u,.u,.u,.u,.u]) ?_))
  (PWc.rnd (m+1) (loop6 S a ha l (k+1) (by omega) (nst_closed hcl) m (by omega) m (k+1) [] 0 (Nat.le_refl _) (by simp) (by simp) (by omega) ?_))
 ·simp only [nst_len,VV,seval]
  repeat first | exact .nil | refine .cons (.refl _) ?_ | refine .cons (.forget _) ?_
 intro k' out g c1 c2 c3
 intros
 simp only [opRow,VV,seval]
 refine ret_wk (xs':=[.sl 13 (out.map Opr.cells)]) (.inr rfl) rfl ((Wk.fz S.length (E:=35) (sz:=13) (by':=184) (g:=g) (sh:=false) (rows:=out.map Opr.cells) (by rw [nb0];rfl)).trans ?_) rfl ⟨out,k',rfl,c1,by omega,rfl⟩
 rw [nbs0]
 simp only [List.map_cons,List.map_nil,List.getD_cons_zero,List.getD_cons_succ,List.set_cons_zero,fz,fz1,and_self,if_true]
 have:=Wk.end0 (P:=Tryz.prog) (xs:=[.sl 13 (out.map Opr.cells)]) (loc:=[Ob.row 35 13 184 g true (out.map Opr.cells)]) (nst_closed (k':=k') hcl) (by simp only [nst_len,LW])
 rw [nst_len] at this
 exact this
end Go.Proofs.Tryz

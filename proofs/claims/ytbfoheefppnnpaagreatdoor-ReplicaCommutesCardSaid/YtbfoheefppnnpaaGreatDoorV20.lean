/- A part of the proof of the statement of the last text of this claim: for every two lists of integers ReplicaCommutes returns true and leaves the memory as it was. -/
import Derived.Test.YtbfoheefppnnpaaGreatDoorV12
import Derived.Test.YtbfoheefppnnpaaGreatDoorV14
import Derived.Test.YtbfoheefppnnpaaGreatDoorV15
import Derived.Test.YtbfoheefppnnpaaGreatDoorV17
import Derived.Test.YtbfoheefppnnpaaGreatDoorV18
set_option linter.all false

namespace Go.Proofs.Tryz
open Go Go.Pm Go.Bt
theorem r1Class_pc (b:UInt8) (σ:Store):PC Tryz.prog 178 [.i .u8 b.toNat] σ (fun r σ'=>r=.i .i64 (classOf b)∧σ'=σ):=by
 refine PC.intro Tryz.func178 c178 fun hcl hwf=>wpc_sound ?_
 simp only [p178,SS,seval]
 simp only [W,seval]
 clear hwf hcl
 refine ⟨fun h1=>?_,fun h1=>⟨fun h2=>?_,fun h2=>⟨fun h3=>?_,fun h3=>⟨fun h4=>?_,fun h4=>?_⟩⟩⟩⟩<;>refine ret_end0 (.inr rfl) rfl ⟨?_,rfl⟩<;>simp at*<;> simp only [Pm.one,classOf,V.i.injEq,true_and]<;>(repeat' split)<;>omega
theorem r3IsTag_pc (x:It) (σ:Store):PC Tryz.prog 159 [.agg x.cells] σ (fun r σ'=>r=.b (isTag x)∧σ'=σ):=by
 refine PC.intro Tryz.func159 c159 fun hcl hwf=>wpc_sound ?_
 simp only [p159,It.cells,SS,seval]
 simp only [VV,seval]
 refine ret_end hcl (.inr rfl) rfl (by simp only [LW]) ⟨?_,rfl⟩
 simp only [Pm.one,isTag,List.getD_cons_zero,List.getD_cons_succ]
theorem loop133 {n:Nat} {σ:Store} {K:Exit→St→Prop} (s:List UInt8) (hlen:s.length<2^63):∀ (rest pre:List UInt8),s=pre++rest→pre≠[] →
  (rest.all nameByte=true→(∀ j0 j1 j2 j3 j4 j5 j6 j7 j8 j9 j10 j11 j12 j13 j14 j15 j16 j17 j18 j19 j20 j21 j22 j23 j24 j25 j26 j27 j28 j29 j30 j31 j32 j33 j34 j35 j36 j37 j38 j39 j40 j41 j42 j43,K (.exit 0) ⟨[j0,j1,j2,j3,j4,j5,j6,j7,j8,j9,j10,j11,j12,j13,j14,j15,j16,j17,j18,j19,j20,j21,j22,j23,j24,j25,j26,j27,j28,j29,j30,j31,j32,j33,j34,j35,j36,j37,j38,j39,j40,j41,j42,j43],σ⟩))→(rest.all nameByte=false→(∀ j0 j1 j3 j4 j5 j6 j7 j8 j9 j10 j11 j12 j13 j14 j15 j16 j17 j18 j19 j20 j21 j22 j23 j24 j25 j26 j27 j28 j29 j30 j31 j32 j33 j34 j35 j36 j37 j38 j39 j40 j41 j42 j43,K .ret ⟨[j0,j1,.b false,j3,j4,j5,j6,j7,j8,j9,j10,j11,j12,j13,j14,j15,j16,j17,j18,j19,j20,j21,j22,j23,j24,j25,j26,j27,j28,j29,j30,j31,j32,j33,j34,j35,j36,j37,j38,j39,j40,j41,j42,j43],σ⟩)) →
  Rnd n Tryz.prog p133_0 K (rest.length+1) ⟨[.s s,.u,.u,.i .i64 pre.length,.u,.u,.u,.u,.u,.u,.u,.u,.u,.u,.u,.u,.u,.u,.u,.u,.u,.u,.u,.u,.u,.u,.u,.u,.u,.u,.u,.u,.u,.u,.u,.u,.u,.u,.u,.u,.u,.u,.u,.u],σ⟩:=by
 intro rest
 induction rest with
 | nil =>
  intro pre he hp h1 h2
  have he:s=pre:=by simpa using he
  subst he
  refine rnd_step fun R hR=>?_
  simp only [p133_0,VV,seval]
  exact ⟨fun h=>by simp at h,fun _=>h1 rfl ..⟩
 | cons c rest ih =>
  intro pre he hp h1 h2
  subst he
  have hpl:0<pre.length:=List.length_pos_iff.2 hp
  have hd:decide ((0:Int)<pre.length)=true:=by simp;omega
  refine rnd_step fun R hR=>?_
  simp only [p133_0,hd,VV,seval]
  have hn:nameByte c=((decide (97≤(c.toNat:Int))&&decide ((c.toNat:Int)≤122))||((decide (48≤(c.toNat:Int))&&decide ((c.toNat:Int)≤57))||((c.toNat:Int)==45))):=by
   rw [Bool.eq_iff_iff];simp [nameByte];omega
  rw [← hn]
  refine ⟨fun _=>⟨by simp;omega,fun h=>?_,fun h=>?_⟩,fun h=>by simp at h<;>omega⟩
  ·have e:(c::rest).all nameByte=rest.all nameByte:=by simp [h]
   rw [e] at h1 h2
   refine hR _ (rnd_cvs ?_ (ih (pre++[c]) (by simp) (by simp) h1 h2))
   rw [wrap_succ (by simp at hlen;omega)]
   simp only [List.length_append,List.length_cons,List.length_nil]
   repeat first | exact .nil | refine .cons (.refl _) ?_ | refine .cons (.forget _) ?_
  ·exact h2 (by simp [h]) ..
theorem r1IsName_pc (s:List UInt8) (σ:Store):PC Tryz.prog 133 [.s s] σ (fun r σ'=>r=.b (isName s)∧σ'=σ):=by
 refine PC.intro Tryz.func133 c133 fun hcl hwf=>wpc_sound ?_
 have hlen:=wf_s (hwf 0 _ rfl).1
 simp only [p133,SS,seval]
 simp only [VV,reduceIte]
 cases s with
 | nil =>
  refine ⟨fun _=>ret_end0 (.inr rfl) rfl ⟨rfl,rfl⟩,fun h=>by simp at h⟩
 | cons c r =>
  refine ⟨fun h=>?_,fun h=>?_⟩
  ·refine ret_end0 (.inr rfl) rfl ⟨?_,rfl⟩
   simp at h
   simp [Pm.one,isName]
   omega
  ·simp at h
   refine PWc.rnd (r.length+2) (rnd_step fun R hR=>?_)
   simp only [p133_0,List.getD_cons_zero,VV,Int.reduceToNat,reduceIte]
   have hlo:((decide (97≤(c.toNat:Int))&&decide ((c.toNat:Int)≤122))||(decide ((0:Int)<0)&&((decide (48≤(c.toNat:Int))&&decide ((c.toNat:Int)≤57))||((c.toNat:Int)==45))))=decide (97≤c.toNat∧c.toNat≤122):=by
    rw [Bool.eq_iff_iff];simp;omega
   have hln:(c::r).length≤24:=by simp;omega
   rw [hlo]
   refine ⟨fun _=>⟨by simp,fun h2=>?_,fun h2=>?_⟩,fun h=>by simp at h<;>omega⟩
   ·have e:isName (c::r)=r.all nameByte:=by
     simp only [isName,h2,hln,decide_true,Bool.true_and]
    refine hR _ (rnd_cvs ?_ (loop133 (c::r) hlen r [c] rfl (by simp) (fun h1=>?_) (fun h1=>?_)))
    ·rw [show IntKind.i64.wrap (0+1)=(([c].length:Nat):Int) from IntWalk.i64_in _ (by decide)]
     repeat first | exact .nil | refine .cons (.refl _) ?_ | refine .cons (.forget _) ?_
    ·intros
     simp only [VV]
     exact ret_end0 (.inr rfl) rfl ⟨by simp only [Pm.one,e,h1,List.getD_cons_zero,List.getD_cons_succ],rfl⟩
    ·intros
     simp only [VV]
     exact ret_end0 (.inr rfl) rfl ⟨by simp only [Pm.one,e,h1,List.getD_cons_zero,List.getD_cons_succ],rfl⟩
   ·refine ret_end0 (.inr rfl) rfl ⟨?_,rfl⟩
    have e:isName (c::r)=false:=by simp only [isName,h2,Bool.and_false,Bool.false_and]
    rw [e];rfl
theorem loop126 {n:Nat} {σ:Store} {K:Exit→St→Prop} (s:List UInt8) (hlen:s.length<2^63):∀ (rest pre:List UInt8),s=pre++rest→32 ∉ pre →
  (32 ∉ s→(∀ j1 j2 j3 j4 j5 j6 j7 j8 j9 j10 j11 j12 j13 j14 j15 j16 j17,K (.exit 0) ⟨[.s s,j1,j2,j3,j4,j5,j6,j7,j8,j9,j10,j11,j12,j13,j14,j15,j16,j17],σ⟩))→(32∈s→(∀ j0 j1 j3 j4 j5 j6 j7 j8 j9 j10 j11 j12 j13 j14 j15 j16 j17,K .ret ⟨[j0,j1,.s (s.take (Lib.indexByte s 32).toNat),j3,j4,j5,j6,j7,j8,j9,j10,j11,j12,j13,j14,j15,j16,j17],σ⟩)) →
  Rnd n Tryz.prog p126_0 K (rest.length+1) ⟨[.s s,.u,.u,.i .i64 pre.length,.u,.u,.u,.u,.u,.u,.u,.u,.u,.u,.u,.u,.u,.u],σ⟩:=by
 intro rest
 induction rest with
 | nil =>
  intro pre he hp h1 h2
  have he:s=pre:=by simpa using he
  subst he
  refine rnd_step fun R hR=>?_
  simp only [p126_0,VV,seval]
  exact ⟨fun h=>by simp at h,fun _=>h1 hp ..⟩
 | cons c rest ih =>
  intro pre he hp h1 h2
  subst he
  refine rnd_step fun R hR=>?_
  simp only [p126_0,VV,seval]
  refine ⟨fun _=>⟨by simp;omega,fun h=>⟨by simp;omega,?_⟩,fun h=>?_⟩,fun h=>by simp at h<;>omega⟩
  ·have hc:c=32:=by
    rw [show (32:Int)=((32:UInt8).toNat:Int) from rfl,u8_beq] at h
    simpa using h
   subst hc
   have e:(Lib.indexByte (pre++32::rest) 32).toNat=pre.length:=by
    rw [indexByte_at hp];simp
   have:=h2 (by simp)
   rw [e] at this
   exact this ..
  ·have hc:¬ c=32:=by
    rw [show (32:Int)=((32:UInt8).toNat:Int) from rfl,u8_beq] at h
    simpa using h
   refine hR _ (rnd_cvs ?_ (ih (pre++[c]) (by simp) (by simp [hp,Ne.symm hc]) h1 h2))
   rw [wrap_succ (by simp at hlen;omega)]
   simp only [List.length_append,List.length_cons,List.length_nil]
   repeat first | exact .nil | refine .cons (.refl _) ?_ | refine .cons (.forget _) ?_
theorem r3Name_pc (s:List UInt8) (σ:Store):PC Tryz.prog 126 [.s s] σ (fun r σ'=>r=.s (tagName s)∧σ'=σ):=by
 refine PC.intro Tryz.func126 c126 fun hcl hwf=>wpc_sound ?_
 have hlen:=wf_s (hwf 0 _ rfl).1
 simp only [p126,SS,seval]
 simp only [VV,seval]
 refine PWc.rnd_cvs ?_ (s.length+1) (loop126 s hlen s [] rfl (by simp) (fun h=>?_) (fun h=>?_))
 ·repeat first | exact .nil | refine .cons (.refl _) ?_ | refine .cons (.forget _) ?_
 ·intros
  simp only [VV,seval]
  refine ret_end0 (.inr rfl) rfl ⟨?_,rfl⟩
  have:Lib.indexByte s 32 = -1:=indexByte_none h
  simp [Pm.one,tagName,cutAt,this]
 ·intros
  refine ret_end0 (.inr rfl) rfl ⟨?_,rfl⟩
  have:0≤Lib.indexByte s 32:=indexByte_some h
  simp [Pm.one,tagName,cutAt,this]
theorem loop160 {n:Nat} {σ:Store} {K:Exit→St→Prop} (l:List Int) (x:Int) (hlen:l.length<2^63):∀ (rest pre:List Int),l=pre++rest →
  (rest.contains x=false→(∀ j0 j1 j2 j3 j4 j5 j6 j7 j8 j9 j10 j11 j12 j13 j14 j15 j16 j17,K (.exit 0) ⟨[j0,j1,j2,j3,j4,j5,j6,j7,j8,j9,j10,j11,j12,j13,j14,j15,j16,j17],σ⟩))→(rest.contains x=true→(∀ j0 j1 j2 j3 j5 j6 j7 j8 j9 j10 j11 j12 j13 j14 j15 j16 j17,K .ret ⟨[j0,j1,j2,j3,.b true,j5,j6,j7,j8,j9,j10,j11,j12,j13,j14,j15,j16,j17],σ⟩)) →
  Rnd n Tryz.prog p160_0 K (rest.length+1) ⟨[.sl 1 (l.map iRow),.i .i64 x,.u,.u,.u,.u,.u,.i .i64 l.length,.i .i64 pre.length,.u,.u,.u,.u,.u,.u,.u,.u,.u],σ⟩:=by
 intro rest
 induction rest with
 | nil =>
  intro pre he h1 h2
  have he:l=pre:=by simpa using he
  subst he
  refine rnd_step fun R hR=>?_
  simp only [p160_0,VV,seval]
  exact ⟨fun h=>by simp at h,fun _=>h1 rfl ..⟩
 | cons c rest ih =>
  intro pre he h1 h2
  subst he
  refine rnd_step fun R hR=>?_
  simp only [p160_0,iRow,VV,seval]
  refine ⟨fun _=>⟨by simp;omega,fun h=>?_,fun h=>?_⟩,fun h=>by simp at h<;>omega⟩
  ·have h:c=x:=by simpa using h
   exact h2 (by simp [h]) ..
  ·have h:¬ c=x:=by simpa using h
   have e:(c::rest).contains x=rest.contains x:=by
    have:(x==c)=false:=by simpa using fun e=>h e.symm
    simp only [List.contains_cons,this,Bool.false_or]
   rw [e] at h1 h2
   refine hR _ (rnd_cvs ?_ (ih (pre++[c]) (by simp) h1 h2))
   rw [wrap_succ (by simp at hlen;omega)]
   simp only [List.length_append,List.length_cons,List.length_nil]
   repeat first | exact .nil | refine .cons (.refl _) ?_ | refine .cons (.forget _) ?_
theorem r3Has_pc (l:List Int) (x:Int) (σ:Store):PC Tryz.prog 160 [.sl 1 (l.map iRow),.i .i64 x] σ (fun r σ'=>r=.b (l.contains x)∧σ'=σ):=by
 refine PC.intro Tryz.func160 c160 fun hcl hwf=>wpc_sound ?_
 have hlen:=wf_sl (hwf 0 _ rfl).1
 rw [List.length_map] at hlen
 simp only [p160,SS,seval]
 simp only [List.length_map,VV,seval]
 refine PWc.rnd_cvs ?_ (l.length+1) (loop160 l x hlen l [] rfl (fun h=>?_) (fun h=>?_))
 ·repeat first | exact .nil | refine .cons (.refl _) ?_ | refine .cons (.forget _) ?_
 ·intros
  simp only [VV,seval]
  exact ret_end0 (.inr rfl) rfl ⟨by rw [h];rfl,rfl⟩
 ·intros
  exact ret_end0 (.inr rfl) rfl ⟨by rw [h];rfl,rfl⟩
theorem loop130 {n:Nat} {σ:Store} {K:Exit→St→Prop} (its:List It) (hlen:its.length<2^63):∀ (rest pre:List It) (acc:Int),its=pre++rest →
  (∀ j0 j1 j2 j4 j5 j6 j7 j8 j9 j10 j11 j12 j13 j14 j15 j16 j17 j18 j19 j20 j21 j22 j23 j24 j25 j26 j27,K (.exit 0) ⟨[j0,j1,j2,.i .i64 (lengthFrom acc rest),j4,j5,j6,j7,j8,j9,j10,j11,j12,j13,j14,j15,j16,j17,j18,j19,j20,j21,j22,j23,j24,j25,j26,j27],σ⟩) →
  Rnd n Tryz.prog p130_0 K (rest.length+1) ⟨[.sl 3 (its.map It.cells),.u,.u,.i .i64 acc,.u,.u,.i .i64 its.length,.i .i64 pre.length,.u,.u,.u,.u,.u,.u,.u,.u,.u,.u,.u,.u,.u,.u,.u,.u,.u,.u,.u,.u],σ⟩:=by
 intro rest
 induction rest with
 | nil =>
  intro pre acc he h1
  have he:its=pre:=by simpa using he
  subst he
  refine rnd_step fun R hR=>?_
  simp only [p130_0,VV,seval]
  exact ⟨fun h=>by simp at h,fun _=>h1 ..⟩
 | cons x rest ih =>
  intro pre acc he h1
  subst he
  have hw:IntKind.i64.wrap ((pre.length:Int)+1)=(((pre++[x]).length:Nat):Int):=by
   rw [wrap_succ (by simp at hlen;omega)];simp
  refine rnd_step fun R hR=>?_
  simp only [p130_0,It.cells,VV,seval]
  have e:lengthFrom acc (x::rest)=lengthFrom (IntKind.i64.wrap (acc+width x)) rest:=rfl
  rw [e] at h1
  refine ⟨fun _=>⟨by simp;omega,fun h=>⟨by simp;omega,?_⟩,fun h=>?_⟩,fun h=>by simp at h<;>omega⟩
  ·have h:x.kind=1:=by simpa using h
   have ew:width x=x.text.length:=by simp [width,h]
   rw [ew] at h1
   refine hR _ (rnd_cvs ?_ (ih (pre++[x]) _ (by simp) h1))
   rw [hw];repeat first | exact .nil | refine .cons (.refl _) ?_ | refine .cons (.forget _) ?_
  ·have h:¬ x.kind=1:=by simpa using h
   have ew:width x=1:=by simp [width,h]
   rw [ew] at h1
   refine hR _ (rnd_cvs ?_ (ih (pre++[x]) _ (by simp) h1))
   rw [hw];repeat first | exact .nil | refine .cons (.refl _) ?_ | refine .cons (.forget _) ?_
theorem r3Length_pc (its:List It) (σ:Store):PC Tryz.prog 130 [.sl 3 (its.map It.cells)] σ (fun r σ'=>r=.i .i64 (lengthFrom 0 its)∧σ'=σ):=by
 refine PC.intro Tryz.func130 c130 fun hcl hwf=>wpc_sound ?_
 have hlen:=wf_sl (hwf 0 _ rfl).1
 rw [List.length_map] at hlen
 simp only [p130,SS,seval]
 simp only [List.length_map,VV,seval]
 refine PWc.rnd_cvs ?_ (its.length+1) (loop130 its hlen its [] 0 rfl ?_)
 ·repeat first | exact .nil | refine .cons (.refl _) ?_ | refine .cons (.forget _) ?_
 ·intros
  simp only [VV,seval]
  exact ret_end0 (.inr rfl) rfl ⟨rfl,rfl⟩
theorem loop64 {n:Nat} {σ:Store} {K:Exit→St→Prop} (a b:List It) (hlen:a.length<2^63) (hab:a.length=b.length):∀ (ra rb pa pb:List It),a=pa++ra→b=pb++rb→pa.length=pb.length →
  (itsEq ra rb=true→(∀ j0 j1 j2 j3 j4 j5 j6 j7 j8 j9 j10 j11 j12 j13 j14 j15 j16 j17 j18 j19 j20 j21 j22 j23 j24 j25,K (.exit 0) ⟨[j0,j1,j2,j3,j4,j5,j6,j7,j8,j9,j10,j11,j12,j13,j14,j15,j16,j17,j18,j19,j20,j21,j22,j23,j24,j25],σ⟩))→(itsEq ra rb=false→(∀ j0 j1 j2 j3 j5 j6 j7 j8 j9 j10 j11 j12 j13 j14 j15 j16 j17 j18 j19 j20 j21 j22 j23 j24 j25,K .ret ⟨[j0,j1,j2,j3,.b false,j5,j6,j7,j8,j9,j10,j11,j12,j13,j14,j15,j16,j17,j18,j19,j20,j21,j22,j23,j24,j25],σ⟩)) →
  Rnd n Tryz.prog p64_0 K (ra.length+1) ⟨[.sl 3 (a.map It.cells),.sl 3 (b.map It.cells),.u,.u,.u,.u,.u,.u,.u,.u,.u,.u,.i .i64 a.length,.i .i64 pa.length,.u,.u,.u,.u,.u,.u,.u,.u,.u,.u,.u,.u],σ⟩:=by
 intro ra
 induction ra with
 | nil =>
  intro rb pa pb ha hb hp h1 h2
  have:rb=[]:=by
   subst ha;subst hb
   simp at hab
   exact List.eq_nil_of_length_eq_zero (by omega)
  subst this
  have ha:a=pa:=by simpa using ha
  subst ha
  refine rnd_step fun R hR=>?_
  simp only [p64_0,VV,seval]
  exact ⟨fun h=>by simp at h,fun _=>h1 rfl ..⟩
 | cons x ra ih =>
  intro rb pa pb ha hb hp h1 h2
  cases rb with
  | nil=>subst ha;subst hb;simp at hab;omega
  | cons y rb =>
   subst ha;subst hb
   have e2:(List.map It.cells (pb++y::rb)).getD pa.length []=y.cells:=by rw [hp];exact row_at
   have hw:IntKind.i64.wrap ((pa.length:Int)+1)=(((pa++[x]).length:Nat):Int):=by
    rw [wrap_succ (by simp at hlen;omega)];simp
   refine rnd_step fun R hR=>?_
   simp only [p64_0,Int.toNat_natCast,e2,It.cells,cellsEq,scalEq,VV,seval]
   have hla:(0:Int)≤pa.length∧(pa.length:Int)<(List.map It.cells (pa++x::ra)).length:=by simp;omega
   have hlb:(0:Int)≤pa.length∧(pa.length:Int)<(List.map It.cells (pb++y::rb)).length:=by simp at hab ⊢;omega
   have hq:itEq x y=(x.kind==y.kind&&(x.text==y.text&&x.id==y.id)):=rfl
   rw [← hq]
   refine ⟨fun _=>⟨hla,hlb,fun h=>?_,fun h=>?_⟩,fun h=>by simp at h<;>omega⟩
   ·have h:itEq x y=false:=by rw [Bool.not_eq_true'] at h;exact h
    exact h2 (by simp [itsEq,h]) ..
   ·have h:itEq x y=true:=by rw [Bool.not_eq_false'] at h;exact h
    have e:itsEq (x::ra) (y::rb)=itsEq ra rb:=by simp [itsEq,h]
    rw [e] at h1 h2
    refine hR _ (rnd_cvs ?_ (ih rb (pa++[x]) (pb++[y]) (by simp) (by simp) (by simp [hp]) h1 h2))
    rw [hw];repeat first | exact .nil | refine .cons (.refl _) ?_ | refine .cons (.forget _) ?_
theorem r3Same_pc (a b:List It) (σ:Store):PC Tryz.prog 64 [.sl 3 (a.map It.cells),.sl 3 (b.map It.cells)] σ (fun r σ'=>r=.b (itsEq a b)∧σ'=σ):=by
 refine PC.intro Tryz.func64 c64 fun hcl hwf=>wpc_sound ?_
 have hlen:=wf_sl (hwf 0 _ rfl).1
 rw [List.length_map] at hlen
 simp only [p64,SS,seval]
 simp only [List.length_map,VV,seval]
 refine ⟨fun h=>?_,fun h=>?_⟩
 ·refine ret_end0 (.inr rfl) rfl ⟨?_,rfl⟩
  have:itsEq a b=false:=by
   cases h2:itsEq a b with
   | false=>rfl
   | true=>have:=itsEq_len h2;simp at h;omega
  simp [Pm.one,this]
 ·have hab:a.length=b.length:=by simp at h;omega
  refine PWc.rnd_cvs ?_ (a.length+1) (loop64 a b hlen hab a b [] [] rfl rfl rfl (fun h=>?_) (fun h=>?_))
  ·repeat first | exact .nil | refine .cons (.refl _) ?_ | refine .cons (.forget _) ?_
  ·intros
   simp only [VV,seval]
   exact ret_end0 (.inr rfl) rfl ⟨by simp [Pm.one,h],rfl⟩
  ·intros
   exact ret_end0 (.inr rfl) rfl ⟨by simp [Pm.one,h],rfl⟩
theorem loop128 {σ:Store} {K:Exit→St→Prop} (N:Nat) (hN:N<2^40):∀ (k i:Nat),i+k=N →
  (∀ j0 j1 j2 j4 j5 j6 j7 j8 j9 j10 j11 j12 j13 j14,K (.exit 0) ⟨[j0,j1,j2,.own σ.length N,j4,j5,j6,j7,j8,j9,j10,j11,j12,j13,j14],σ++[.row 3 1 8 N false ((counting N).map iRow)]⟩) →
  Rnd σ.length Tryz.prog p128_0 K (k+1) ⟨[.i .i64 N,.u,.u,.own σ.length i,.i .i64 ((i+1:Nat):Int),.u,.u,.u,.u,.u,.u,.u,.u,.u,.u],σ++[.row 3 1 8 i false ((counting i).map iRow)]⟩:=by
 intro k
 induction k with
 | zero =>
  intro i he h1
  have he:i=N:=by omega
  subst he
  refine rnd_step fun R hR=>?_
  simp only [p128_0,VV,seval]
  exact ⟨fun h=>by simp at h<;>omega,fun _=>h1 ..⟩
 | succ k ih =>
  intro i he h1
  refine rnd_step fun R hR=>?_
  have hc:(counting i).map iRow++[[.i .i64 ((i+1:Nat):Int)]]=(counting (i+1)).map iRow:=by simp [counting,List.range_succ,iRow]
  have hcl:(counting i).length=i:=by simp [counting]
  simp only [p128_0,hc,List.length_map,hcl,VV,seval]
  refine ⟨fun _=>⟨⟨by omega,by simp only [maxLen];omega⟩,?_⟩,fun h=>by simp at h<;>omega⟩
  refine hR _ (rnd_cvs ?_ (ih (i+1) (by omega) h1))
  rw [wrap_succ (by omega)]
  repeat first | exact .nil | refine .cons (.refl _) ?_ | refine .cons (.forget _) ?_
theorem r3UpTo_pc (n:Nat) (hn:n<2^40) (σ:Store):PC Tryz.prog 128 [.i .i64 n] σ (fun r σ'=>r=.sl 1 ((counting n).map iRow)∧σ'=σ):=by
 refine PC.intro Tryz.func128 c128 fun hcl hwf=>wpc_sound ?_
 simp only [p128,SS,seval]
 simp only [VV,seval]
 refine PWc.wk ((Wk.promote (k:=3) tI rfl).trans (Wk.cvs ?_)) (PWc.rnd (n+1) (loop128 n hn n 0 (by omega) ?_))
 ·simp only [VV,seval]
  repeat first | exact .nil | refine .cons (.refl _) ?_ | refine .cons (.forget _) ?_
 ·intros
  simp only [VV,seval]
  refine ret_fz 0 hcl (.inr rfl) rfl rfl ?_ ?_
  ·simp [fz,fz1,AllLt,lt_sl]
  ·simp [fz,fz1,Pm.one]
theorem place_pc (x n:Int) (hn:0<n) (h2:n<2^62) (σ:Store):PC Tryz.prog 10 [.i .i64 x,.i .i64 n] σ (fun r σ'=>r=.i .i64 (place x n)∧σ'=σ):=by
 refine PC.intro Tryz.func10 c10 fun hcl hwf=>wpc_sound ?_
 simp only [p10,SS,seval]
 simp only [VV,seval]
 refine ⟨by omega,fun h=>?_,fun h=>?_⟩
 ·have h:x.tmod n<0:=by simpa using h
  have hr:=place_range (x:=x) hn
  have e:place x n=x.tmod n+n:=by simp only [place,if_pos h]
  refine ret_end0 (.inr rfl) rfl ⟨?_,rfl⟩
  rw [e] at hr ⊢
  simp only [Pm.one,List.getD_cons_zero,List.getD_cons_succ]
  rw [IntWalk.i64_in _ (by omega)]
 ·have h:¬ x.tmod n<0:=by simpa using h
  have e:place x n=x.tmod n:=by simp only [place,if_neg h]
  exact ret_end0 (.inr rfl) rfl ⟨by rw [e];rfl,rfl⟩
theorem loop14 {n:Nat} {σ:Store} {K:Exit→St→Prop} (a b:List Int) (hlen:a.length<2^63) (hab:a.length=b.length):∀ (ra rb pa pb:List Int),a=pa++ra→b=pb++rb→pa.length=pb.length →
  (ra=rb→(∀ j0 j1 j2 j3 j4 j5 j6 j7 j8 j9 j10 j11 j12 j13 j14 j15 j16 j17 j18 j19 j20 j21 j22 j23 j24 j25,K (.exit 0) ⟨[j0,j1,j2,j3,j4,j5,j6,j7,j8,j9,j10,j11,j12,j13,j14,j15,j16,j17,j18,j19,j20,j21,j22,j23,j24,j25],σ⟩))→(ra≠rb→(∀ j0 j1 j2 j3 j5 j6 j7 j8 j9 j10 j11 j12 j13 j14 j15 j16 j17 j18 j19 j20 j21 j22 j23 j24 j25,K .ret ⟨[j0,j1,j2,j3,.b false,j5,j6,j7,j8,j9,j10,j11,j12,j13,j14,j15,j16,j17,j18,j19,j20,j21,j22,j23,j24,j25],σ⟩)) →
  Rnd n Tryz.prog p14_0 K (ra.length+1) ⟨[.sl 1 (a.map iRow),.sl 1 (b.map iRow),.u,.u,.u,.u,.u,.u,.u,.u,.u,.u,.i .i64 a.length,.i .i64 pa.length,.u,.u,.u,.u,.u,.u,.u,.u,.u,.u,.u,.u],σ⟩:=by
 intro ra
 induction ra with
 | nil =>
  intro rb pa pb ha hb hp h1 h2
  have:rb=[]:=by
   subst ha;subst hb
   simp at hab
   exact List.eq_nil_of_length_eq_zero (by omega)
  subst this
  have ha:a=pa:=by simpa using ha
  subst ha
  refine rnd_step fun R hR=>?_
  simp only [p14_0,VV,seval]
  exact ⟨fun h=>by simp at h,fun _=>h1 rfl ..⟩
 | cons x ra ih =>
  intro rb pa pb ha hb hp h1 h2
  cases rb with
  | nil=>subst ha;subst hb;simp at hab;omega
  | cons y rb =>
   subst ha;subst hb
   have e2:at2 (List.map iRow (pb++y::rb)) pa.length 0=some (.i .i64 y):=by rw [hp,at2_at];rfl
   have hw:IntKind.i64.wrap ((pa.length:Int)+1)=(((pa++[x]).length:Nat):Int):=by
    rw [wrap_succ (by simp at hlen;omega)];simp
   refine rnd_step fun R hR=>?_
   have e1:at2 (List.map iRow (pa++x::ra)) pa.length 0=some (.i .i64 x):=by rw [at2_at];rfl
   simp only [p14_0,Int.toNat_natCast,e1,e2,VV,seval]
   have hla:(0:Int)≤pa.length∧(pa.length:Int)<(List.map iRow (pa++x::ra)).length:=by simp;omega
   have hlb:(0:Int)≤pa.length∧(pa.length:Int)<(List.map iRow (pb++y::rb)).length:=by simp at hab ⊢;omega
   refine ⟨fun _=>⟨hla,hlb,fun h=>?_,fun h=>?_⟩,fun h=>by simp at h<;>omega⟩
   ·have h:¬ x=y:=by simpa using h
    exact h2 (by simp [h]) ..
   ·have h:x=y:=by simpa using h
    subst h
    refine hR _ (rnd_cvs ?_ (ih rb (pa++[x]) (pb++[x]) (by simp) (by simp) (by simp [hp]) (fun e=>h1 (by rw [e])) (fun e=>h2 (by simpa using e))))
    rw [hw];repeat first | exact .nil | refine .cons (.refl _) ?_ | refine .cons (.forget _) ?_
theorem r3SameInts_pc (a b:List Int) (σ:Store):PC Tryz.prog 14 [.sl 1 (a.map iRow),.sl 1 (b.map iRow)] σ (fun r σ'=>r=.b (a==b)∧σ'=σ):=by
 refine PC.intro Tryz.func14 c14 fun hcl hwf=>wpc_sound ?_
 have hlen:=wf_sl (hwf 0 _ rfl).1
 rw [List.length_map] at hlen
 simp only [p14,SS,seval]
 simp only [List.length_map,VV,seval]
 refine ⟨fun h=>?_,fun h=>?_⟩
 ·refine ret_end0 (.inr rfl) rfl ⟨?_,rfl⟩
  have:a≠b:=fun e=>by subst e;simp at h
  simp [Pm.one,this]
 ·have hab:a.length=b.length:=by simp at h;omega
  refine PWc.rnd_cvs ?_ (a.length+1) (loop14 a b hlen hab a b [] [] rfl rfl rfl (fun h=>?_) (fun h=>?_))
  ·repeat first | exact .nil | refine .cons (.refl _) ?_ | refine .cons (.forget _) ?_
  ·intros
   simp only [VV,seval]
   exact ret_end0 (.inr rfl) rfl ⟨by simp [Pm.one,h],rfl⟩
  ·intros
   exact ret_end0 (.inr rfl) rfl ⟨by simp [Pm.one,h],rfl⟩
def nst (S:Store) (a:Nat) (l:List Int) (k:Nat):Store:=S.set a (.box 61 [.sl 1 (l.map iRow),.i .i64 k])
theorem nst_len (S:Store) (a:Nat) (l:List Int) (k:Nat):(nst S a l k).length=S.length:=by simp [nst]
theorem nst_app {S:Store} {a:Nat} {l:List Int} {k:Nat} {loc:Store} (h:a<S.length):nst S a l k++loc=nst (S++loc) a l k:=by
 simp only [nst];rw [List.set_append_left _ _ h]
theorem nst_get {S:Store} {a:Nat} {l:List Int} {k:Nat} (h:a<S.length):(nst S a l k)[a]?=some (.box 61 [.sl 1 (l.map iRow),.i .i64 k]):=by
 simp [nst,h]
theorem nst_set {S:Store} {a:Nat} {l:List Int} {k k':Nat}:(nst S a l k).set a (.box 61 [.sl 1 (l.map iRow),.i .i64 (k':Int)])=nst S a l k':=by
 simp [nst]
theorem next_pc (S:Store) (a:Nat) (ha:a<S.length) (l:List Int) (k:Nat) (hk:k<2^60) (n:Int) (hn:0<n) (hn2:n<2^62) :
  PC Tryz.prog 20 [.ptr a 0,.i .i64 n] (nst S a l k) (fun r σ'=>∃ v:Int,r=.i .i64 v∧(0≤v∧v<n)∧σ'=nst S a l (k+1)):=by
 refine PC.intro Tryz.func20 c20 fun hcl hwf=>wpc_sound ?_
 simp only [p20,SS,seval]
 have hw:IntKind.i64.wrap ((k:Int)+1)=((k+1:Nat):Int):=wrap_succ (by omega)
 by_cases h:k<l.length
 ·have hd:decide ((k:Int)<(l.length:Int))=true:=by simp;omega
  simp only [nst_get ha,List.length_map,hd,hw,nst_set,Int.toNat_natCast,at2_iRow h,VV,seval]
  refine ⟨by omega,?_⟩
  refine call_eq (place_pc (l.getD k 0) n hn hn2 _) rfl ?_
  simp only [VV,seval]
  exact ret_wk (.inr rfl) rfl (Wk.refl _ _) rfl ⟨_,rfl,place_range hn,rfl⟩
 ·have hd:decide ((k:Int)<(l.length:Int))=false:=by simp;omega
  simp only [nst_get ha,List.length_map,hd,hw,nst_set,VV,seval]
  refine call_eq (place_pc 0 n hn hn2 _) rfl ?_
  simp only [VV,seval]
  exact ret_wk (.inr rfl) rfl (Wk.refl _ _) rfl ⟨_,rfl,place_range hn,rfl⟩
def genWords:List (List UInt8):=[[114,101,100],[99,97,114],[82,101,100],[97],[99,97,114,115],[49,44,53],[50,50],[100,111,110,39,116],[46],[33],[32],[32,32],[60],[38],[123],[34],[92],[120,45,121],[10],[61],[125],[62],[9],[98]]
theorem strs_at {ws:List (List UInt8)} {n:Nat} (h:n<ws.length):∃ w∈ws,at2 (ws.map fun s=>[V.s s]) n 0=some (V.s w):=by
 refine ⟨ws[n],List.getElem_mem h,?_⟩
 simp [at2,h]
theorem word_pc (S:Store) (a:Nat) (ha:a<S.length) (l:List Int) (k:Nat) (hk:k<2^60) :
  PC Tryz.prog 82 [.ptr a 0] (nst S a l k) (fun r σ'=>∃ w:List UInt8,r=.s w∧w∈genWords∧σ'=nst S a l (k+1)):=by
 refine PC.intro Tryz.func82 c82 fun hcl hwf=>wpc_sound ?_
 simp only [p82,SS,seval]
 simp only [VV,seval]
 refine call_ex (next_pc S a ha l k hk 24 (by decide) (by decide)) rfl ?_
 rintro _ _ ⟨v,rfl,hv,rfl⟩
 obtain ⟨w,hw,e⟩:=strs_at (ws:=genWords) (n:=v.toNat) (by simp [genWords];omega)
 simp only [genWords,List.map_cons,List.map_nil] at e
 simp only [e,VV,seval]
 refine ⟨by omega,?_⟩
 exact ret_wk (.inr rfl) rfl (Wk.refl _ _) rfl ⟨w,rfl,hw,rfl⟩
theorem word_len {w:List UInt8} (h:w∈genWords):w.length≤5:=by
 revert w;decide
theorem loop43 (S:Store) (a:Nat) (ha:a<S.length) (l:List Int) {K:Exit→St→Prop} (k0:Nat) (hk0:k0<2^59) (n:Nat) (hn:n<2^20):∀ (m k:Nat) (out:List UInt8),m≤n→k≤k0+2*(n - m)→out.length≤6*(n - m) →
  (∀ (k:Nat) (out:List UInt8),k≤k0+2*n→out.length≤6*n→(∀ j0 j1 j2 j3 j4 j6 j7 j8 j9 j10 j11 j12 j13 j14 j15 j16 j17 j18 j19 j20 j21 j22 j23 j24 j25 j26 j27 j28 j29 j30,K (.exit 0) ⟨[j0,j1,j2,j3,j4,.s out,j6,j7,j8,j9,j10,j11,j12,j13,j14,j15,j16,j17,j18,j19,j20,j21,j22,j23,j24,j25,j26,j27,j28,j29,j30],nst S a l k⟩)) →
  Rnd S.length Tryz.prog p43_0 K (m+1) ⟨[.ptr a 0,.u,.u,.u,.u,.s out,.i .i64 m,.u,.u,.u,.u,.u,.u,.u,.u,.u,.u,.u,.u,.u,.u,.u,.u,.u,.u,.u,.u,.u,.u,.u,.u],nst S a l k⟩:=by
 intro m
 induction m with
 | zero =>
  intro k out hm hk ho h1
  refine rnd_step fun R hR=>?_
  simp only [p43_0,VV,seval]
  exact ⟨fun h=>by simp at h,fun _=>h1 k out (by omega) (by omega) ..⟩
 | succ m ih =>
  intro k out hm hk ho h1
  have hw:IntKind.i64.wrap (((m+1:Nat):Int) - 1)=(m:Int):=by rw [IntWalk.i64_in _ (by omega)];omega
  refine rnd_step fun R hR=>?_
  simp only [p43_0,VV,seval]
  refine ⟨fun _=>?_,fun h=>by simp at h<;>omega⟩
  refine call_ex (word_pc S a ha l k (by omega)) rfl ?_
  rintro _ _ ⟨w,rfl,hww,rfl⟩
  have hwl:=word_len hww
  simp only [VV,seval]
  by_cases hne:out=[]
  ·have e1:(!out==[])=false:=by simp [hne]
   refine callg_ex (Q:=fun _ _=>True) (c:=false) (by simp only [e1,VV,seval]<;>rfl) (fun h=>by simp at h) rfl (fun h=>by simp at h) fun _=>⟨.i .i64 0,?_⟩
   simp only [e1,hw,VV,seval]
   refine ⟨by simp only [maxLen];omega,?_⟩
   refine hR _ (rnd_cvs ?_ (ih (k+1) (out++w) (by omega) (by omega) (by rw [List.length_append];omega) h1))
   repeat first | exact .nil | refine .cons (.refl _) ?_ | refine .cons (.forget _) ?_
  ·have e1:(!out==[])=true:=by simp [hne]
   refine callg_ex (c:=true) (by simp only [e1,VV,seval]<;>rfl) (fun _=>next_pc S a ha l (k+1) (by omega) 3 (by decide) (by decide)) rfl ?_ (fun h=>by simp at h)
   rintro _ _ _ ⟨v,rfl,hv,rfl⟩
   simp only [e1,hw,VV,seval]
   refine ⟨fun h=>⟨by simp only [maxLen];omega,by simp only [maxLen,List.length_append,List.length_cons,List.length_nil];omega,?_⟩,fun h=>⟨by simp only [maxLen];omega,?_⟩⟩
   ·refine hR _ (rnd_cvs ?_ (ih (k+1+1) (out++32::w) (by omega) (by omega) (by rw [List.length_append,List.length_cons];omega) h1))
    repeat first | exact .nil | refine .cons (.refl _) ?_ | refine .cons (.forget _) ?_
   ·refine hR _ (rnd_cvs ?_ (ih (k+1+1) (out++w) (by omega) (by omega) (by rw [List.length_append];omega) h1))
    repeat first | exact .nil | refine .cons (.refl _) ?_ | refine .cons (.forget _) ?_
theorem line_pc (S:Store) (a:Nat) (ha:a<S.length) (l:List Int) (k:Nat) (hk:k<2^58) (n:Nat) (hn:n<2^20) :
  PC Tryz.prog 43 [.ptr a 0,.i .i64 n] (nst S a l k) (fun r σ'=>∃ (s:List UInt8) (k':Nat),r=.s s∧s.length≤6*n∧k'≤k+2*n+1∧σ'=nst S a l k'):=by
 refine PC.intro Tryz.func43 c43 fun hcl hwf=>wpc_sound ?_
 have hw:IntKind.i64.wrap ((n:Int)+1)=((n+1:Nat):Int):=wrap_succ (by omega)
 simp only [p43,SS,seval]
 simp only [hw,VV,seval]
 refine call_ex (next_pc S a ha l k (by omega) ((n+1:Nat):Int) (by omega) (by omega)) rfl ?_
 rintro _ _ ⟨v,rfl,hv,rfl⟩
 obtain ⟨m,rfl⟩:∃ m:Nat,v=m:=⟨v.toNat,by omega⟩
 simp only [nst_len,VV,seval]
 refine PWc.rnd_cvs ?_ (m+1) (loop43 S a ha l (k+1) (by omega) m (by omega) m (k+1) [] (Nat.le_refl _) (by omega) (by simp) ?_)
 ·repeat first | exact .nil | refine .cons (.refl _) ?_ | refine .cons (.forget _) ?_
 intro k' out h1 h2
 intros
 simp only [VV,seval]
 exact ret_wk (.inr rfl) rfl (Wk.refl _ _) (by simp [nst_len]) ⟨out,k',rfl,by omega,by omega,rfl⟩
theorem loop127 {σ:Store} {K:Exit→St→Prop} (its:List It) (hcl:Closed σ) (hlen:its.length<2^40):∀ (rest pre:List It) (acc:List Int) (g:Nat),its=pre++rest→acc.length≤pre.length →
  (∀ g,(∀ j0 j1 j2 j4 j5 j6 j7 j8 j9 j10 j11 j12 j13 j14 j15 j16 j17 j18 j19 j20 j21 j22 j23 j24 j25 j26 j27 j28 j29 j30 j31 j32 j33 j34,K (.exit 0) ⟨[j0,j1,j2,.own σ.length g,j4,j5,j6,j7,j8,j9,j10,j11,j12,j13,j14,j15,j16,j17,j18,j19,j20,j21,j22,j23,j24,j25,j26,j27,j28,j29,j30,j31,j32,j33,j34],σ++[.row 3 1 8 g true ((numbersFrom acc rest).map iRow)]⟩)) →
  Rnd σ.length Tryz.prog p127_0 K (rest.length+1) ⟨[.sl 3 (its.map It.cells),.u,.u,.own σ.length g,.u,.u,.i .i64 its.length,.i .i64 pre.length,.u,.u,.u,.u,.u,.u,.u,.u,.u,.u,.u,.u,.u,.u,.u,.u,.u,.u,.u,.u,.u,.u,.u,.u,.u,.u,.u],σ++[.row 3 1 8 g true (acc.map iRow)]⟩:=by
 intro rest
 induction rest with
 | nil =>
  intro pre acc g he ha h1
  have he:its=pre:=by simpa using he
  subst he
  refine rnd_step fun R hR=>?_
  simp only [p127_0,VV,seval]
  exact ⟨fun h=>by simp at h,fun _=>h1 g ..⟩
 | cons y rest ih =>
  intro pre acc g he ha h1
  subst he
  have hw:IntKind.i64.wrap ((pre.length:Int)+1)=(((pre++[y]).length:Nat):Int):=by
   rw [wrap_succ (by simp at hlen;omega)];simp
  refine rnd_step fun R hR=>?_
  simp only [p127_0,It.cells,VV,seval]
  refine ⟨fun _=>⟨by simp;omega,?_⟩,fun h=>by simp at h<;>omega⟩
  refine call_eq (r3IsTag_pc y _) rfl ?_
  have bnd:(0:Int)≤pre.length∧(pre.length:Int)<(List.map It.cells (pre++y::rest)).length:=by simp;omega
  cases ht:isTag y with
  | false =>
   have e:numbersFrom acc (y::rest)=numbersFrom acc rest:=by simp [numbersFrom,ht]
   rw [e] at h1
   simp only [It.cells,VV,seval]
   refine ⟨fun h=>by simp at h,.i .i64 0,fun h=>by simp at h,?_⟩
   refine callg_eq (c:=false) (v:=.b false) (by rfl) (fun h=>by simp at h) rfl ?_
   simp only [VV,seval]
   refine hR _ (rnd_cvs ?_ (ih (pre++[y]) acc g (by simp) (by simp;omega) h1))
   rw [hw];repeat first | exact .nil | refine .cons (.refl _) ?_ | refine .cons (.forget _) ?_
  | true =>
   simp only [It.cells,VV,seval]
   refine ⟨bnd,.i .i64 y.id,rfl,?_⟩
   refine callg_eq (c:=true) (by rfl) (fun _=>PC.fzs σ.length (by simp only [base_get0];rfl) (r3Has_pc acc y.id _) (by simp only [List.map_cons,List.map_nil,ev,List.getD_cons_succ,List.getD_cons_zero,fz,fz1,and_self,if_true])) rfl ?_
   simp only [It.cells,VV,seval]
   refine ⟨fun h=>?_,fun h=>?_⟩
   ·have h:acc.contains y.id=false:=by rw [Bool.not_eq_true'] at h;exact h
    have e:numbersFrom acc (y::rest)=numbersFrom (acc++[y.id]) rest:=by simp only [numbersFrom,ht,h,Bool.not_false,Bool.and_self,if_true]
    rw [e] at h1
    have hr:acc.map iRow++[[V.i .i64 y.id]]=(acc++[y.id]).map iRow:=by simp [iRow]
    rw [hr]
    refine ⟨bnd,⟨by simp at hlen ⊢;omega,by simp at hlen ⊢;simp only [maxLen];omega⟩,?_⟩
    refine hR _ (rnd_cvs ?_ (ih (pre++[y]) (acc++[y.id]) (g+1) (by simp) (by simp;omega) h1))
    rw [hw];repeat first | exact .nil | refine .cons (.refl _) ?_ | refine .cons (.forget _) ?_
   ·have h:acc.contains y.id=true:=by rw [Bool.not_eq_false'] at h;exact h
    have e:numbersFrom acc (y::rest)=numbersFrom acc rest:=by simp only [numbersFrom,ht,h,Bool.not_true,Bool.and_false];rfl
    rw [e] at h1
    refine hR _ (rnd_cvs ?_ (ih (pre++[y]) acc g (by simp) (by simp;omega) h1))
    rw [hw];repeat first | exact .nil | refine .cons (.refl _) ?_ | refine .cons (.forget _) ?_
theorem r3Numbers_pc (its:List It) (hlen:its.length<2^40) (σ:Store):PC Tryz.prog 127 [.sl 3 (its.map It.cells)] σ (fun r σ'=>r=.sl 1 ((numbers its).map iRow)∧σ'=σ):=by
 refine PC.intro Tryz.func127 c127 fun hcl hwf=>wpc_sound ?_
 simp only [p127,SS,seval]
 simp only [List.length_map,VV,seval]
 refine PWc.wk ((Wk.promote (k:=3) tI rfl).trans (Wk.share0.trans (Wk.cvs ?_))) (PWc.rnd (its.length+1) (loop127 its hcl hlen its [] [] 0 rfl (Nat.le_refl _) ?_))
 ·simp only [VV,seval]
  repeat first | exact .nil | refine .cons (.refl _) ?_ | refine .cons (.forget _) ?_
 ·intro g
  intros
  simp only [VV,seval]
  refine ret_fz 0 hcl (.inr rfl) rfl rfl ?_ ?_
  ·simp [fz,fz1,AllLt,lt_sl]
  ·simp [fz,fz1,Pm.one,numbers]
theorem ti_it:Ti Tryz.prog 79 3 32:=tiB_ok (by kernel_rfl)
theorem loop81 {σ:Store} {K:Exit→St→Prop} (its:List It) (hcl:Closed σ) (hlen:its.length<2^40) (htext:textLen its<2^40):∀ (rest pre out:List It) (g:Nat),its=pre++rest→out.length≤pre.length→textLen out≤textLen pre →
  (∀ g,(∀ j0 j1 j2 j4 j5 j6 j7 j8 j9 j10 j11 j12 j13 j14 j15 j16 j17 j18 j19 j20 j21 j22 j23 j24 j25 j26 j27 j28 j29 j30 j31 j32 j33 j34 j35 j36 j37 j38 j39 j40 j41 j42 j43 j44 j45 j46 j47 j48 j49 j50 j51 j52 j53 j54 j55 j56 j57 j58 j59 j60,K (.exit 0) ⟨[j0,j1,j2,.own σ.length g,j4,j5,j6,j7,j8,j9,j10,j11,j12,j13,j14,j15,j16,j17,j18,j19,j20,j21,j22,j23,j24,j25,j26,j27,j28,j29,j30,j31,j32,j33,j34,j35,j36,j37,j38,j39,j40,j41,j42,j43,j44,j45,j46,j47,j48,j49,j50,j51,j52,j53,j54,j55,j56,j57,j58,j59,j60],σ++[.row 79 3 32 g false ((rest.foldl normStep out).map It.cells)]⟩)) →
  Rnd σ.length Tryz.prog p81_0 K (rest.length+1) ⟨[.sl 3 (its.map It.cells),.u,.u,.own σ.length g,.u,.u,.u,.u,.i .i64 its.length,.i .i64 pre.length,.u,.u,.u,.u,.u,.u,.u,.u,.u,.u,.u,.u,.u,.u,.u,.u,.u,.u,.u,.u,.u,.u,.u,.u,.u,.u,.u,.u,.u,.u,.u,.u,.u,.u,.u,.u,.u,.u,.u,.u,.u,.u,.u,.u,.u,.u,.u,.u,.u,.u,.u],σ++[.row 79 3 32 g false (out.map It.cells)]⟩:=by
 intro rest
 induction rest with
 | nil =>
  intro pre out g he ho ht h1
  have he:its=pre:=by simpa using he
  subst he
  refine rnd_step fun R hR=>?_
  simp only [p81_0,VV,seval]
  exact ⟨fun h=>by simp at h,fun _=>h1 g ..⟩
 | cons x rest ih =>
  intro pre out g he ho ht h1
  subst he
  have next:∀ (out':List It) (g':Nat) {loc:Store},normStep out x=out'→∀ {R:St→Prop} {fr:List V},(∀ st',Rnd σ.length Tryz.prog p81_0 K (rest.length+1) st'→R st') →
    Cvs fr [.sl 3 ((pre++x::rest).map It.cells),.u,.u,.own σ.length g',.u,.u,.u,.u,.i .i64 (pre++x::rest).length,.i .i64 (IntKind.i64.wrap ((pre.length:Int)+1)),.u,.u,.u,.u,.u,.u,.u,.u,.u,.u,.u,.u,.u,.u,.u,.u,.u,.u,.u,.u,.u,.u,.u,.u,.u,.u,.u,.u,.u,.u,.u,.u,.u,.u,.u,.u,.u,.u,.u,.u,.u,.u,.u,.u,.u,.u,.u,.u,.u,.u,.u]→R ⟨fr,σ++(.row 79 3 32 g' false (out'.map It.cells)::loc)⟩:=by
   intro out' g' loc hw R fr hR hc
   have e1:IntKind.i64.wrap ((pre.length:Int)+1)=(((pre++[x]).length:Nat):Int):=by
    rw [wrap_succ (by simp at hlen;omega)];simp
   rw [e1] at hc
   have hb:=normStep_bound out x
   rw [hw] at hb
   have e2:(x::rest).foldl normStep out=rest.foldl normStep out':=by rw [List.foldl_cons,hw]
   rw [e2] at h1
   refine hR _ (rnd_drop [_] loc (closed_add hcl (by simp)) hc ?_ (ih (pre++[x]) out' g' (by simp) (by simp;omega) (by simp only [textLen_append,textLen];omega) h1))
   simp only [LW,List.length_cons,List.length_nil,Nat.zero_add]
   omega
  have okA:(out.length+1)*32≤2^47∧out.length+1≤maxLen:=by simp at hlen;simp [maxLen];omega
  refine rnd_step fun R hR=>?_
  simp only [p81_0,It.cells,VV,seval]
  refine ⟨fun _=>⟨by simp;omega,fun hk=>?_,fun hk=>⟨fun ht0=>?_,fun ht0=>?_⟩⟩,fun h=>by simp at h<;>omega⟩
  ·have hk:x.kind≠1:=by simpa using hk
   have hrow:out.map It.cells++[[.i .i64 x.kind,.s x.text,.i .i64 x.id]]=(out++[x]).map It.cells:=by simp [It.cells]
   refine ⟨by rw [List.length_map];exact okA,?_⟩
   rw [hrow]
   refine next (out++[x]) (g+1) (by simp [normStep,hk]) hR ?_
   simp only
   repeat first | exact .nil | refine .cons (.refl _) ?_ | refine .cons (.forget _) ?_
  ·have hk:x.kind=1:=by simpa using hk
   have ht0:x.text=[]:=by simpa using ht0
   refine next out g (by simp [normStep,hk,ht0]) hR ?_
   simp only
   repeat first | exact .nil | refine .cons (.refl _) ?_ | refine .cons (.forget _) ?_
  have hk:x.kind=1:=by simpa using hk
  have ht0:x.text≠[]:=by simpa using ht0
  rcases List.eq_nil_or_concat out with hnil | ⟨out',y,hout⟩
  ·subst hnil
   have e0:decide ((0:Int)<(([]:List (List V)).length:Int))=false:=rfl
   simp only [List.map_nil,e0]
   refine ⟨fun h=>by simp at h,.i .i64 0,fun h=>by simp at h,?_⟩
   simp only [VV,seval]
   refine ⟨by decide,next [⟨1,x.text,0⟩] (g+1) (by simp [normStep,hk,ht0]) hR ?_⟩
   simp only
   repeat first | exact .nil | refine .cons (.refl _) ?_ | refine .cons (.forget _) ?_
  ·rw [List.concat_eq_append] at hout
   subst hout
   have hp:IntKind.i64.wrap (((out'++[y]).length:Int) - 1)=out'.length:=by
    have:(out'++[y]).length<2^63:=by simp at ho hlen ⊢;omega
    rw [IntWalk.i64_in _ (by simp at this ⊢;omega)];simp
   have hat:at2 (List.map It.cells (out'++[y])) out'.length 0=some (.i .i64 y.kind):=by
    rw [at2_at];rfl
   have e0:decide ((0:Int)<((List.map It.cells (out'++[y])).length:Int))=true:=by simp
   simp only [List.length_map,hp,Int.toNat_natCast,hat]
   refine ⟨fun _=>by simp;omega,.i .i64 y.kind,fun _=>⟨True,rfl,trivial⟩,?_⟩
   have e3:decide ((0:Int)<((out'++[y]).length:Int))=true:=by simp
   have hat1:at2 (List.map It.cells (out'++[y])) out'.length 1=some (.s y.text):=by
    rw [at2_at];rfl
   simp only [e3,hp,Int.toNat_natCast,hat1,List.length_map,VV,seval]
   have hb:(0:Int)≤(out'.length:Int)∧(out'.length:Int)<((out'++[y]).length:Int):=⟨by omega,by rw [List.length_append,List.length_singleton];omega⟩
   refine ⟨fun hy=>⟨hb,?_,hb,by omega,?_⟩,fun hy=>⟨okA,?_⟩⟩
   ·simp only [textLen_append,textLen] at ht htext
    simp only [maxLen];omega
   ·have hy:y.kind=1:=by simpa using hy
    have hrow:(List.map It.cells (out'++[y])).set out'.length (.i .i64 1::.s (y.text++x.text)::.i .i64 0::List.drop 3 y.cells)=(out'++[(⟨1,y.text++x.text,0⟩:It)]).map It.cells:=by
     simp [List.set_append,It.cells]
    rw [hrow]
    refine next (out'++[⟨1,y.text++x.text,0⟩]) g (by simp [normStep,hk,ht0,hy]) hR ?_
    simp only
    repeat first | exact .nil | refine .cons (.refl _) ?_ | refine .cons (.forget _) ?_
   ·have hy:¬ y.kind=1:=by simpa using hy
    have hrow:List.map It.cells (out'++[y])++[[.i .i64 1,.s x.text,.i .i64 0]]=(out'++[y]++[(⟨1,x.text,0⟩:It)]).map It.cells:=by simp [It.cells]
    rw [hrow]
    refine next (out'++[y]++[⟨1,x.text,0⟩]) (g+1) (by simp [normStep,hk,ht0,hy]) hR ?_
    simp only
    repeat first | exact .nil | refine .cons (.refl _) ?_ | refine .cons (.forget _) ?_
theorem r3Normalize_pc (its:List It) (hlen:its.length<2^40) (ht:textLen its<2^40) (σ:Store):PC Tryz.prog 81 [.sl 3 (its.map It.cells)] σ (fun r σ'=>r=.sl 3 ((normalize its).map It.cells)∧σ'=σ):=by
 refine PC.intro Tryz.func81 c81 fun hcl hwf=>wpc_sound ?_
 simp only [p81,SS,seval]
 simp only [List.length_map,VV,seval]
 refine PWc.wk ((Wk.promote (k:=3) ti_it rfl).trans (Wk.cvs ?_)) (PWc.rnd (its.length+1) (loop81 its hcl hlen ht its [] [] 0 rfl (Nat.le_refl _) (Nat.le_refl _) ?_))
 ·simp only [VV,seval]
  repeat first | exact .nil | refine .cons (.refl _) ?_ | refine .cons (.forget _) ?_
 ·intro g
  intros
  simp only [VV,seval]
  refine ret_fz 0 hcl (.inr rfl) rfl rfl ?_ ?_
  ·simp [fz,fz1,AllLt,lt_sl]
  ·have e:its.foldl normStep []=normalize its:=normFold_eq its
   simp [fz,fz1,Pm.one,e]
theorem r3Concat_pc (a b:List It) (ha:a.length<2^39) (hb:b.length<2^39) (hat:textLen a<2^39) (hbt:textLen b<2^39) (σ:Store):PC Tryz.prog 42 [.sl 3 (a.map It.cells),.sl 3 (b.map It.cells)] σ (fun r σ'=>r=.sl 3 ((normalize (a++b)).map It.cells)∧σ'=σ):=by
 refine PC.intro Tryz.func42 c42 fun hcl hwf=>wpc_sound ?_
 simp only [p42,SS,seval]
 simp only [List.length_map,VV,seval]
 refine ⟨by simp [maxLen];omega,by simp [maxLen];omega,?_⟩
 refine call_fz σ.length (by simp only [base_get0];rfl) (r3Normalize_pc (a++b) (by simp;omega) (by rw [textLen_append];omega) _) (by simp [fz,fz1,ev]) ?_
 simp only [VV,seval]
 exact ret_end hcl (.inr rfl) (by simp only [RS,seval];rfl) (by simp only [LW]) ⟨rfl,rfl⟩
theorem nb0 {S:Store} {a:Nat} {l:List Int} {k:Nat} {loc:Store}:(nst S a l k++loc)[S.length]?=loc[0]?:=by
 rw [List.getElem?_append_right (by rw [nst_len];exact Nat.le_refl _),nst_len,Nat.sub_self]
theorem nb {S:Store} {a:Nat} {l:List Int} {k j:Nat} {loc:Store}:(nst S a l k++loc)[S.length+j]?=loc[j]?:=by
 rw [List.getElem?_append_right (by rw [nst_len];omega),nst_len,Nat.add_sub_cancel_left]
theorem nbs0 {S:Store} {a:Nat} {l:List Int} {k:Nat} {loc:Store} {o:Ob}:(nst S a l k++loc).set S.length o=nst S a l k++loc.set 0 o:=by
 rw [List.set_append_right _ _ (by rw [nst_len];exact Nat.le_refl _),nst_len,Nat.sub_self]
theorem nbs {S:Store} {a:Nat} {l:List Int} {k j:Nat} {loc:Store} {o:Ob}:(nst S a l k++loc).set (S.length+j) o=nst S a l k++loc.set j o:=by
 rw [List.set_append_right _ _ (by rw [nst_len];omega),nst_len,Nat.add_sub_cancel_left]
theorem nst_closed {S:Store} {a:Nat} {l:List Int} {k k':Nat} (h:Closed (nst S a l k)):Closed (nst S a l k'):=by
 intro id T cs hid j x hx
 by_cases e:a=id
 ·subst e
  simp only [nst] at hid
  rw [List.getElem?_set] at hid
  simp only [if_true] at hid
  split at hid
  ·simp only [Option.some.injEq,Ob.box.injEq] at hid
   obtain ⟨_,rfl⟩:=hid
   rcases j with _ | _ | j
   ·simp only [List.getElem?_cons_zero,Option.some.injEq] at hx;subst hx;exact .sl _ _
   ·simp only [List.getElem?_cons_succ,List.getElem?_cons_zero,Option.some.injEq] at hx;subst hx;exact .i _ _
   ·simp at hx
  ·simp at hid
 ·have e1:(nst S a l k)[id]?=some (.box T cs):=by
   simp only [nst] at hid ⊢
   rw [List.getElem?_set_ne e] at hid ⊢;exact hid
  have:=h id T cs e1 j x hx
  rw [nst_len] at this ⊢;exact this
theorem next_at (S:Store) (a:Nat) (ha:a<S.length) (l:List Int) (k:Nat) (hk:k<2^60) (n:Int) (hn:0<n) (hn2:n<2^62) (loc:Store) :
  PC Tryz.prog 20 [.ptr a 0,.i .i64 n] (nst S a l k++loc) (fun r σ'=>∃ v:Int,r=.i .i64 v∧(0≤v∧v<n)∧σ'=nst S a l (k+1)++loc):=by
 rw [nst_app ha]
 refine (next_pc (S++loc) a (by rw [List.length_append];omega) l k hk n hn hn2).mono ?_
 rintro r σ' ⟨v,h1,h2,h3⟩
 exact ⟨v,h1,h2,by rw [h3,nst_app ha]⟩
theorem line_at (S:Store) (a:Nat) (ha:a<S.length) (l:List Int) (k:Nat) (hk:k<2^58) (n:Nat) (hn:n<2^20) (loc:Store) :
  PC Tryz.prog 43 [.ptr a 0,.i .i64 n] (nst S a l k++loc) (fun r σ'=>∃ (s:List UInt8) (k':Nat),r=.s s∧s.length≤6*n∧k'≤k+2*n+1∧σ'=nst S a l k'++loc):=by
 rw [nst_app ha]
 refine (line_pc (S++loc) a (by rw [List.length_append];omega) l k hk n hn).mono ?_
 rintro r σ' ⟨s,k',h1,h2,h3,h4⟩
 exact ⟨s,k',h1,h2,h3,by rw [h4,nst_app ha]⟩
theorem normStep_len1 {f:List It} (x:It) (h:itemsErr [] f=0):textLen (normalize (f++[x]))≤textLen f+x.text.length∧(normalize (f++[x])).length≤f.length+1:=by
 rw [normalize_snoc (norm_valid h)]
 exact normStep_bound f x
def tgtWords (t:List UInt8):List (List UInt8):=[[114,111,116],[100,97,115,32,65,117,116,111],[],[101,105,110,32]++t,t]
theorem tgtWords_len {t w:List UInt8} (h:w∈tgtWords t):w.length≤t.length+8:=by
 simp only [tgtWords,List.mem_cons,List.not_mem_nil,or_false] at h
 rcases h with rfl | rfl | rfl | rfl | rfl<;>simp
theorem loop22 (S:Store) (a:Nat) (ha:a<S.length) (l:List Int) {K:Exit→St→Prop} (k0:Nat) (hk0:k0<2^50) (hcl:Closed (nst S a l k0)) (src:List It) (hsrc:itemsErr [] src=0) (hlen:src.length≤100) (htx:textLen src≤10000) :
  ∀ (rest pre f:List It) (k:Nat),src=pre++rest→Tgt pre f→f.length≤2*pre.length→textLen f≤textLen pre+20*pre.length→k≤k0+10*pre.length →
  (∀ (k:Nat) (f:List It),Tgt src f→f.length≤2*src.length→textLen f≤textLen src+20*src.length→k≤k0+10*src.length→(∀ j0 j1 j2 j3 j4 j6 j7 j8 j9 j10 j11 j12 j13 j14 j15 j16 j17 j18 j19 j20 j21 j22 j23 j24 j25 j26 j27 j28 j29 j30 j31 j32 j33 j34 j35 j36 j37 j38 j39 j40 j41 j42 j43 j44 j45,K (.exit 0) ⟨[j0,j1,j2,j3,j4,.sl 3 (f.map It.cells),j6,j7,j8,j9,j10,j11,j12,j13,j14,j15,j16,j17,j18,j19,j20,j21,j22,j23,j24,j25,j26,j27,j28,j29,j30,j31,j32,j33,j34,j35,j36,j37,j38,j39,j40,j41,j42,j43,j44,j45],nst S a l k⟩)) →
  Rnd S.length Tryz.prog p22_0 K (rest.length+1) ⟨[.ptr a 0,.sl 3 (src.map It.cells),.u,.u,.u,.sl 3 (f.map It.cells),.u,.u,.u,.i .i64 src.length,.i .i64 pre.length,.u,.u,.u,.u,.u,.u,.u,.u,.u,.u,.u,.u,.u,.u,.u,.u,.u,.u,.u,.u,.u,.u,.u,.u,.u,.u,.u,.u,.u,.u,.u,.u,.u,.u,.u],nst S a l k⟩:=by
 intro rest
 induction rest with
 | nil =>
  intro pre f k he hT hfl hft hk h1
  have he:src=pre:=by simpa using he
  subst he
  refine rnd_step fun R hR=>?_
  simp only [p22_0,VV,seval]
  exact ⟨fun h=>by simp at h,fun _=>h1 k f hT hfl hft hk ..⟩
 | cons x rest ih =>
  intro pre f k he hT hfl hft hk h1
  subst he
  have hxt:textLen (pre++x::rest)=textLen pre+(x.text.length+textLen rest):=by rw [textLen_append];rfl
  have hpt:textLen (pre++[x])=textLen pre+x.text.length:=by rw [textLen_append];simp [textLen]
  have hpl:(pre++[x]).length=pre.length+1:=by simp
  have hsl:(pre++x::rest).length=pre.length+(rest.length+1):=by simp
  have hw:IntKind.i64.wrap ((pre.length:Int)+1)=(((pre++[x]).length:Nat):Int):=by
   rw [wrap_succ (by omega),hpl]
  have hla:(0:Int)≤pre.length∧(pre.length:Int)<(List.map It.cells (pre++x::rest)).length:=by simp;omega
  refine rnd_step fun R hR=>?_
  have fin:∀ (g:List It) (k':Nat) (fr:List V) (loc:Store),Tgt (pre++[x]) g→g.length≤f.length+2→textLen g≤textLen f+x.text.length+20→k'≤k+10 →
    Cvs fr [.ptr a 0,.sl 3 ((pre++x::rest).map It.cells),.u,.u,.u,.sl 3 (g.map It.cells),.u,.u,.u,.i .i64 (pre++x::rest).length,.i .i64 (pre++[x]).length,.u,.u,.u,.u,.u,.u,.u,.u,.u,.u,.u,.u,.u,.u,.u,.u,.u,.u,.u,.u,.u,.u,.u,.u,.u,.u,.u,.u,.u,.u,.u,.u,.u,.u,.u]→R ⟨fr,nst S a l k'++loc⟩:=by
   intro g k' fr loc g1 g2 g3 g4 hc
   refine hR _ (rnd_back (by rw [nst_len];exact Nat.le_refl _) (nst_closed hcl) hc ?_ (ih (pre++[x]) g k' (by simp) g1 (by omega) (by omega) (by omega) h1))
   simp only [nst_len,ha,LW]
  by_cases hk1:x.kind=1
  ·have e1:(x.kind==1)=true:=by simp [hk1]
   simp only [p22_0,Int.toNat_natCast,It.cells,e1,nst_len,nb0,nbs0,VV,seval]
   refine ⟨fun _=>⟨hla,by simp only [maxLen];omega,?_⟩,fun h=>by simp at h<;>omega⟩
   refine call_ex (next_at S a ha l k (by omega) 5 (by decide) (by decide) _) rfl ?_
   rintro _ _ ⟨v,rfl,hv,rfl⟩
   obtain ⟨w,hww,ew⟩:=strs_at (ws:=tgtWords x.text) (n:=v.toNat) (by simp [tgtWords];omega)
   have hwl:=tgtWords_len hww
   simp only [tgtWords,List.map_cons,List.map_nil,List.cons_append,List.nil_append] at ew
   simp only [ew,nb0,nbs0,VV,seval]
   refine ⟨by omega,?_⟩
   have hx0:x.id=0:=by
    rw [itemsErr_append,itemsErr_cons] at hsrc
    exact (fine_text hk1 hsrc.2.1).2.1
   have hb:=normStep_len1 ⟨1,w,0⟩ hT.err
   refine call_cv (zs:=[.sl 3 (f.map It.cells),.sl 3 ([(⟨1,w,0⟩:It)].map It.cells)]) ?_ (r3Concat_pc f [⟨1,w,0⟩] (by omega) (by simp) (by omega) (by simp [textLen];omega) _) ?_
   ·simp only [hk1,hx0]
    exact .cons (.refl _) (.cons (.lit _ _) .nil)
   ·simp only [hw,VV,seval]
    refine fin _ _ _ _ (hT.text hk1 w) (by omega) (by simp only at hb;omega) (by omega) ?_
    repeat first | exact .nil | refine .cons (.refl _) ?_ | refine .cons (.forget _) ?_
  ·have e1:(x.kind==1)=false:=by simpa using hk1
   simp only [p22_0,Int.toNat_natCast,It.cells,e1,nst_len,nb0,nbs0,VV,seval]
   refine ⟨fun _=>⟨hla,?_⟩,fun h=>by simp at h<;>omega⟩
   refine call_ex (next_at S a ha l k (by omega) 3 (by decide) (by decide) _) rfl ?_
   rintro _ _ ⟨v,rfl,hv,rfl⟩
   have hex:(⟨x.kind,x.text,x.id⟩:It)=x:=rfl
   by_cases hv0:v=0
   ·have e2:(v==0)=true:=by simp [hv0]
    simp only [e2,nb0,VV,seval]
    refine call_ex (line_at S a ha l (k+1) (by omega) 2 (by decide) _) rfl ?_
    rintro _ _ ⟨t,k',rfl,ht,hk',rfl⟩
    have hb:=normStep_len1 ⟨1,t,0⟩ hT.err
    simp only at hb
    have hT2:=hT.more t
    have hb2:=normStep_len1 x hT2.err
    simp only [VV,seval]
    refine call_cv (zs:=[.sl 3 (f.map It.cells),.sl 3 ([(⟨1,t,0⟩:It)].map It.cells)]) (.cons (.refl _) (.cons (.lit _ _) .nil)) (r3Concat_pc f [⟨1,t,0⟩] (by omega) (by simp) (by omega) (by simp [textLen];omega) _) ?_
    simp only [nb0,VV,seval]
    refine call_cv (zs:=[.sl 3 ((normalize (f++[(⟨1,t,0⟩:It)])).map It.cells),.sl 3 ([x].map It.cells)]) (.cons (.refl _) (.cons (.lit _ _) .nil)) (r3Concat_pc _ [x] (by omega) (by simp) (by omega) (by simp [textLen];omega) _) ?_
    simp only [hw,VV,seval]
    refine fin _ _ _ _ (hT2.item hsrc hk1) (by omega) (by omega) (by omega) ?_
    repeat first | exact .nil | refine .cons (.refl _) ?_ | refine .cons (.forget _) ?_
   ·have e2:(v==0)=false:=by simpa using hv0
    have hb2:=normStep_len1 x hT.err
    simp only [e2,nb0,VV,seval]
    refine call_cv (zs:=[.sl 3 (f.map It.cells),.sl 3 ([x].map It.cells)]) (.cons (.refl _) (.cons (.lit _ _) .nil)) (r3Concat_pc f [x] (by omega) (by simp) (by omega) (by simp [textLen];omega) _) ?_
    simp only [hw,VV,seval]
    refine fin _ _ _ _ (hT.item hsrc hk1) (by omega) (by omega) (by omega) ?_
    repeat first | exact .nil | refine .cons (.refl _) ?_ | refine .cons (.forget _) ?_
theorem target_pc (S:Store) (a:Nat) (ha:a<S.length) (l:List Int) (k:Nat) (hk:k<2^50) (src:List It) (hsrc:itemsErr [] src=0) (hlen:src.length≤100) (htx:textLen src≤10000) :
  PC Tryz.prog 22 [.ptr a 0,.sl 3 (src.map It.cells)] (nst S a l k) (fun r σ'=>∃ (f:List It) (k':Nat),r=.sl 3 (f.map It.cells)∧itemsErr [] f=0∧f.length≤2*src.length∧textLen f≤textLen src+20*src.length∧k'≤k+10*src.length∧σ'=nst S a l k'):=by
 refine PC.intro Tryz.func22 c22 fun hcl hwf=>wpc_sound ?_
 simp only [p22,SS,seval]
 simp only [List.length_map,nst_len,VV,seval]
 refine PWc.rnd_cvs (fr':=[.ptr a 0,.sl 3 (src.map It.cells),.u,.u,.u,.sl 3 (([]:List It).map It.cells),.u,.u,.u,.i .i64 src.length,.i .i64 (([]:List It).length:Nat),.u,.u,.u,.u,.u,.u,.u,.u,.u,.u,.u,.u,.u,.u,.u,.u,.u,.u,.u,.u,.u,.u,.u,.u,.u,.u,.u,.u,.u,.u,.u,.u,.u,.u,.u]) ?_ (src.length+1) (loop22 S a ha l k hk hcl src hsrc hlen htx src [] [] k rfl Tgt.nil (by simp) (by simp [textLen]) (by simp) ?_)
 ·simp only [List.map_nil,List.length_nil]
  repeat first | exact .nil | refine .cons (.refl _) ?_ | refine .cons (.nil _) ?_ | refine .cons (.forget _) ?_
 intro k' f hT h1 h2 h3
 intros
 simp only [VV,seval]
 exact ret_wk (.inr rfl) rfl (Wk.refl _ _) (by simp [nst_len]) ⟨f,k',rfl,hT.err,h1,h2,h3,rfl⟩
theorem r3Normalize_own (its:List It) (hlen:its.length<2^40) (ht:textLen its<2^40) (σ:Store):PC Tryz.prog 81 [.sl 3 (its.map It.cells)] σ (fun r σ'=>r=.own σ.length 0∧σ'=σ++[.row 79 3 32 0 false ((normalize its).map It.cells)]):=by
 refine PC.intro Tryz.func81 c81 fun hcl hwf=>wpc_sound ?_
 simp only [p81,SS,seval]
 simp only [List.length_map,VV,seval]
 refine PWc.wk ((Wk.promote (k:=3) ti_it rfl).trans (Wk.cvs ?_)) (PWc.rnd (its.length+1) (loop81 its hcl hlen ht its [] [] 0 rfl (Nat.le_refl _) (Nat.le_refl _) ?_))
 ·simp only [VV,seval]
  repeat first | exact .nil | refine .cons (.refl _) ?_ | refine .cons (.forget _) ?_
 ·intro g
  intros
  simp only [VV,seval]
  have e:its.foldl normStep []=normalize its:=normFold_eq its
  rw [e]
  exact ret_own 0 hcl (.inr rfl) rfl rfl rfl (by simp [mvOK,Ob.gen]) (by simp [Pm.one,mv1,Ob.fresh])
theorem r3Concat_own (a b:List It) (ha:a.length<2^39) (hb:b.length<2^39) (hat:textLen a<2^39) (hbt:textLen b<2^39) (σ:Store):PC Tryz.prog 42 [.sl 3 (a.map It.cells),.sl 3 (b.map It.cells)] σ (fun r σ'=>r=.own σ.length 0∧σ'=σ++[.row 79 3 32 0 false ((normalize (a++b)).map It.cells)]):=by
 refine PC.intro Tryz.func42 c42 fun hcl hwf=>wpc_sound ?_
 simp only [p42,SS,seval]
 simp only [List.length_map,VV,seval]
 refine ⟨by simp [maxLen];omega,by simp [maxLen];omega,?_⟩
 refine call_fz σ.length (by simp only [base_get0];rfl) (r3Normalize_own (a++b) (by simp;omega) (by rw [textLen_append];omega) _) (by simp [fz,fz1,ev]) ?_
 simp only [VV,seval]
 exact ret_own 1 hcl (.inr rfl) rfl rfl rfl (by simp [mvOK,Ob.gen]) (by simp [Pm.one,mv1,Ob.fresh])
theorem tagName_len (s:List UInt8):(tagName s).length≤s.length:=(cutAt_len s 32).1
def genSlots:List (List UInt8):=[[110],[110,97,109,101],[120,49]]
def genEmpties:List (List UInt8):=[[98,114],[105,109,103,32,97]]
def genOpens:List (List UInt8):=[[98],[105],[97,32,104,61,49]]
theorem genSlots_ok:∀ s∈genSlots,isName s=true∧s.length≤5:=by decide +kernel
theorem genEmpties_ok:∀ s∈genEmpties,isContent s=true∧s.length≤5:=by decide +kernel
theorem genOpens_ok:∀ s∈genOpens,isContent s=true∧isName (tagName s)=true∧s.length≤5:=by decide +kernel
def itRow (g:Nat) (sh:Bool) (f:List It):Ob:=.row 79 3 32 g sh (f.map It.cells)
theorem frag_keep {S:Store} {a:Nat} {l:List Int} {k:Nat} {loc:Store} (hcl:Closed (nst S a l k)) {i j g1 g2:Nat} {sh1 sh2:Bool} {f o:List It} (hij:i≠j) (h1:loc[i]?=some (itRow g1 sh1 f)) (h2:loc[j]?=some (itRow g2 sh2 o))
  {xs ys:List V} (hx:Mvs S.length loc [i,j] xs ys):Wk Tryz.prog S.length xs (nst S a l k++loc) ys (nst S a l k++[itRow 0 sh1 f,itRow 0 sh2 o]):=by
 have:=Wk.keepL (P:=Tryz.prog) (xs:=xs) (ys:=ys) (σ:=nst S a l k) (loc:=loc) (os:=[itRow 0 sh1 f,itRow 0 sh2 o]) [i,j] hcl (by simpa using hij) rfl (fun q k' hq=>by
  rcases q with _ | _ | q
  ·simp only [List.getElem?_cons_zero,Option.some.injEq] at hq;subst hq;exact ⟨_,h1,rfl,rfl⟩
  ·simp only [List.getElem?_cons_succ,List.getElem?_cons_zero,Option.some.injEq] at hq;subst hq;exact ⟨_,h2,rfl,rfl⟩
  ·simp at hq) (by rw [nst_len];exact hx)
 rwa [nst_len] at this
set_option maxRecDepth 20000 in
theorem loop79_1 (S:Store) (a:Nat) (l:List Int) (k:Nat) {K:Exit→St→Prop} (opn:List It) (hol:opn.length≤100) (hot:∀ y∈opn,y.text.length≤5) (id:Nat) (hid:id≤100) (g2:Nat):∀ (m:Nat) (cur f:List It) (g1:Nat),cur.length=m→(∃ d,opn=cur++d)→Gen f cur id→f.length+m≤1000 →
  (∀ (f':List It) (g1:Nat),itemsErr [] f'=0→f'.length=f.length+m→textLen f'≤textLen f+5*m→(∀ j0 j1 j2 j3 j4 j5 j6 j7 j8 j10 j11 j12 j13 j14 j15 j16 j17 j18 j19 j20 j21 j22 j23 j24 j25 j26 j27 j28 j29 j30 j31 j32 j33 j34 j35 j36 j37 j38 j39 j40 j41 j42 j43 j44 j45 j46 j47 j48 j49 j50 j51 j52 j53 j54 j55 j56 j57 j58 j59 j60 j61 j62 j63 j64 j65 j66 j67 j68 j69 j70 j71 j72 j73 j74 j75 j76 j77 j78 j79 j80 j81 j82 j83 j84 j85 j86 j87 j88 j89 j90 j91 j92 j93 j94 j95 j96 j97 j98 j99 j100 j101 j102 j103 j104 j105 j106 j107 j108 j109 j110 j111 j112 j113 j114 j115 j116 j117 j118 j119 j120 j121 j122 j123 j124 j125 j126 j127 j128 j129 j130 j131 j132 j133 j134 j135 j136 j137 j138 j139 j140,K (.exit 3) ⟨[j0,j1,j2,j3,j4,j5,j6,j7,j8,.own S.length g1,j10,j11,j12,j13,j14,j15,j16,j17,j18,j19,j20,j21,j22,j23,j24,j25,j26,j27,j28,j29,j30,j31,j32,j33,j34,j35,j36,j37,j38,j39,j40,j41,j42,j43,j44,j45,j46,j47,j48,j49,j50,j51,j52,j53,j54,j55,j56,j57,j58,j59,j60,j61,j62,j63,j64,j65,j66,j67,j68,j69,j70,j71,j72,j73,j74,j75,j76,j77,j78,j79,j80,j81,j82,j83,j84,j85,j86,j87,j88,j89,j90,j91,j92,j93,j94,j95,j96,j97,j98,j99,j100,j101,j102,j103,j104,j105,j106,j107,j108,j109,j110,j111,j112,j113,j114,j115,j116,j117,j118,j119,j120,j121,j122,j123,j124,j125,j126,j127,j128,j129,j130,j131,j132,j133,j134,j135,j136,j137,j138,j139,j140],nst S a l k++[itRow g1 false f',itRow g2 false opn]⟩)) →
  Rnd S.length Tryz.prog p79_1 K (m+1) ⟨[.u,.u,.u,.b true,.u,.u,.u,.u,.u,.own S.length g1,.own (S.length+1) g2,.u,.u,.u,.u,.i .i64 ((m:Int) - 1),.u,.u,.u,.u,.u,.u,.u,.u,.u,.u,.u,.u,.u,.u,.u,.u,.u,.u,.u,.u,.u,.u,.u,.u,.u,.u,.u,.u,.u,.u,.u,.u,.u,.u,.u,.u,.u,.u,.u,.u,.u,.u,.u,.u,.u,.u,.u,.u,.u,.u,.u,.u,.u,.u,.u,.u,.u,.u,.u,.u,.u,.u,.u,.u,.u,.u,.u,.u,.u,.u,.u,.u,.u,.u,.u,.u,.u,.u,.u,.u,.u,.u,.u,.u,.u,.u,.u,.u,.u,.u,.u,.u,.u,.u,.u,.u,.u,.u,.u,.u,.u,.u,.u,.u,.u,.u,.u,.u,.u,.u,.u,.u,.u,.u,.u,.u,.u,.u,.u,.u,.u,.u,.u,.u,.u],nst S a l k++[itRow g1 false f,itRow g2 false opn]⟩:=by
 intro m
 induction m with
 | zero =>
  intro cur f g1 hc _ hG hf h1
  have e1:decide ((0:Int)≤((0:Nat):Int) - 1)=false:=rfl
  refine rnd_step fun R hR=>?_
  simp only [p79_1,e1,VV,reduceIte,reduceCtorEq]
  exact h1 f g1 hG.err (by omega) (by omega) ..
 | succ m ih =>
  intro cur f g1 hc hpre hG hf h1
  obtain ⟨d,hopn⟩:=hpre
  rcases List.eq_nil_or_concat cur with h0 | ⟨cur',y,h0⟩
  ·subst h0;simp at hc
  rw [List.concat_eq_append] at h0
  subst h0
  have hc':cur'.length=m:=by simpa using hc
  subst hc'
  rw [List.append_assoc,List.singleton_append] at hopn
  have e0:((cur'.length+1:Nat):Int) - 1=(cur'.length:Int):=by omega
  have hll:opn.length=cur'.length+(d.length+1):=by rw [hopn];simp
  have hw:IntKind.i64.wrap ((cur'.length:Int) - 1)=(cur'.length:Int) - 1:=IntWalk.i64_in _ (by omega)
  have hat:∀ j,at2 (List.map It.cells opn) cur'.length j=y.cells[j]?:=fun j=>by rw [hopn];exact at2_at
  have hyt:=hot y (by rw [hopn];simp)
  have htn:=tagName_len y.text
  have hd:decide ((0:Int)≤(cur'.length:Int))=true:=by simp
  have hin:(0:Int)≤(cur'.length:Int)∧(cur'.length:Int)<((List.map It.cells opn).length:Int):=⟨by omega,by rw [List.length_map];omega⟩
  obtain ⟨hG2,_⟩:=hG.close (by omega)
  rw [e0]
  refine rnd_step fun R hR=>?_
  simp only [p79_1,itRow,hd,Int.toNat_natCast,nb,hat,It.cells,VV,reduceIte,reduceCtorEq]
  refine ⟨hin,hin,?_⟩
  refine call_eq (r3Name_pc y.text _) rfl ?_
  simp only [nb0,nb,nbs0,hat,It.cells,hw,List.length_map,VV,Nat.reduceAdd,Nat.reduceLeDiff,reduceIte]
  refine ⟨by omega,⟨by omega,by simp only [maxLen];omega⟩,?_⟩
  have e3:f.map It.cells++[[V.i .i64 3,.s (tagName y.text),.i .i64 y.id]]=(f++[(⟨3,tagName y.text,y.id⟩:It)]).map It.cells:=by simp [It.cells]
  rw [e3]
  have ht3:textLen (f++[⟨3,tagName y.text,y.id⟩])=textLen f+(tagName y.text).length:=by simp [textLen_append,textLen]
  have hl3:(f++[(⟨3,tagName y.text,y.id⟩:It)]).length=f.length+1:=by simp
  refine hR _ (rnd_cvs ?_ (ih cur' _ (g1+1) rfl ⟨y::d,hopn⟩ hG2 (by omega) fun f' g' q1 q2 q3=>h1 f' g' q1 (by omega) (by omega)))
  repeat first | exact .nil | refine .cons (.refl _) ?_ | refine .cons (.forget _) ?_
set_option maxHeartbeats 4000000 in
set_option maxRecDepth 20000 in
theorem loop79_0 (S:Store) (a:Nat) (ha:a<S.length) (l:List Int) {K:Exit→St→Prop} (k0:Nat) (hk0:k0<2^50) (hcl:Closed (nst S a l k0)) (N:Nat) (hN:N≤20):∀ (m:Nat) (k:Nat) (f opn:List It) (id g1 g2:Nat),m≤N→id+m≤N→opn.length+m≤N →
  (∀ y∈opn,y.text.length≤5)→Gen f opn id→f.length+m≤N→textLen f+18*m≤18*N→k+12*m≤k0+12*N →
  (∀ (k:Nat) (f opn:List It) (id g1 g2:Nat),id≤N→opn.length≤N→(∀ y∈opn,y.text.length≤5)→Gen f opn id→f.length≤N→textLen f≤18*N→k≤k0+12*N →
   (∀ j0 j1 j2 j4 j5 j6 j7 j8 j11 j12 j13 j14 j15 j16 j17 j18 j19 j20 j21 j22 j23 j24 j25 j26 j27 j28 j29 j30 j31 j32 j33 j34 j35 j36 j37 j38 j39 j40 j41 j42 j43 j44 j45 j46 j47 j48 j49 j50 j51 j52 j53 j54 j55 j56 j57 j58 j59 j60 j61 j62 j63 j64 j65 j66 j67 j68 j69 j70 j71 j72 j73 j74 j75 j76 j77 j78 j79 j80 j81 j82 j83 j84 j85 j86 j87 j88 j89 j90 j91 j92 j93 j94 j95 j96 j97 j98 j99 j100 j101 j102 j103 j104 j105 j106 j107 j108 j109 j110 j111 j112 j113 j114 j115 j116 j117 j118 j119 j120 j121 j122 j123 j124 j125 j126 j127 j128 j129 j130 j131 j132 j133 j134 j135 j136 j137 j138 j139 j140,K (.exit 0) ⟨[j0,j1,j2,.b true,j4,j5,j6,j7,j8,.own S.length g1,.own (S.length+1) g2,j11,j12,j13,j14,j15,j16,j17,j18,j19,j20,j21,j22,j23,j24,j25,j26,j27,j28,j29,j30,j31,j32,j33,j34,j35,j36,j37,j38,j39,j40,j41,j42,j43,j44,j45,j46,j47,j48,j49,j50,j51,j52,j53,j54,j55,j56,j57,j58,j59,j60,j61,j62,j63,j64,j65,j66,j67,j68,j69,j70,j71,j72,j73,j74,j75,j76,j77,j78,j79,j80,j81,j82,j83,j84,j85,j86,j87,j88,j89,j90,j91,j92,j93,j94,j95,j96,j97,j98,j99,j100,j101,j102,j103,j104,j105,j106,j107,j108,j109,j110,j111,j112,j113,j114,j115,j116,j117,j118,j119,j120,j121,j122,j123,j124,j125,j126,j127,j128,j129,j130,j131,j132,j133,j134,j135,j136,j137,j138,j139,j140],nst S a l k++[itRow g1 false f,itRow g2 false opn]⟩)) →
  Rnd S.length Tryz.prog p79_0 K (m+1) ⟨[.ptr a 0,.u,.b true,.b true,.u,.u,.u,.u,.u,.own S.length g1,.own (S.length+1) g2,.i .i64 id,.i .i64 m,.u,.u,.u,.u,.u,.u,.u,.u,.u,.u,.u,.u,.u,.u,.u,.u,.u,.u,.u,.u,.u,.u,.u,.u,.u,.u,.u,.u,.u,.u,.u,.u,.u,.u,.u,.u,.u,.u,.u,.u,.u,.u,.u,.u,.u,.u,.u,.u,.u,.u,.u,.u,.u,.u,.u,.u,.u,.u,.u,.u,.u,.u,.u,.u,.u,.u,.u,.u,.u,.u,.u,.u,.u,.u,.u,.u,.u,.u,.u,.u,.u,.u,.u,.u,.u,.u,.u,.u,.u,.u,.u,.u,.u,.u,.u,.u,.u,.u,.u,.u,.u,.u,.u,.u,.u,.u,.u,.u,.u,.u,.u,.u,.u,.u,.u,.u,.u,.u,.u,.u,.u,.u,.u,.u,.u,.u,.u,.u],nst S a l k++[itRow g1 false f,itRow g2 false opn]⟩:=by
 intro m
 induction m with
 | zero =>
  intro k f opn id g1 g2 hm hid hop hot hG hf hft hk h1
  refine rnd_step fun R hR=>?_
  simp only [p79_0,VV,reduceIte]
  exact ⟨fun h=>by simp at h,fun _=>h1 k f opn id g1 g2 (by omega) (by omega) hot hG (by omega) (by omega) (by omega) ..⟩
 | succ m ih =>
  intro k f opn id g1 g2 hm hid hop hot hG hf hft hk h1
  have hw:IntKind.i64.wrap (((m+1:Nat):Int) - 1)=(m:Int):=by rw [IntWalk.i64_in _ (by omega)];omega
  refine rnd_stepW fun R hR=>?_
  simp only [p79_0]
  refine PWc.cut fun R1 hR1=>?_
  simp only [VV,reduceIte]
  refine ⟨fun _=>?_,fun h=>by simp at h<;>omega⟩
  refine hR1 _ (PWc.cvs (fr':=[.ptr a 0,.u,.b true,.b true,.u,.u,.u,.u,.u,.own S.length g1,.own (S.length+1) g2,.i .i64 id,.i .i64 (m+1:Nat),.u,.u,.u,.u,.u,.u,.u,.u,.u,.u,.u,.u,.u,.u,.u,.u,.u,.u,.u,.u,.u,.u,.u,.u,.u,.u,.u,.u,.u,.u,.u,.u,.u,.u,.u,.u,.u,.u,.u,.u,.u,.u,.u,.u,.u,.u,.u,.u,.u,.u,.u,.u,.u,.u,.u,.u,.u,.u,.u,.u,.u,.u,.u,.u,.u,.u,.u,.u,.u,.u,.u,.u,.u,.u,.u,.u,.u,.u,.u,.u,.u,.u,.u,.u,.u,.u,.u,.u,.u,.u,.u,.u,.u,.u,.u,.u,.u,.u,.u,.u,.u,.u,.u,.u,.u,.u,.u,.u,.u,.u,.u,.u,.u,.u,.u,.u,.u,.u,.u,.u,.u,.u,.u,.u,.u,.u,.u,.u]) ?_ (by repeat first | exact .nil | refine .cons (.refl _) ?_ | refine .cons (.forget _) ?_))
  clear hR1 R1
  refine PWc.cutW fun R2 hR2=>PWc.blk ?_
  refine PWc.cut fun R3 hR3=>?_
  simp only [itRow,VV]
  refine call_ex (line_at S a ha l k (by omega) 3 (by decide) _) rfl ?_
  rintro _ _ ⟨t,k1,rfl,ht,hk1,rfl⟩
  simp only [nst_len,nb,nbs,VV,Nat.reduceAdd,Nat.reduceLeDiff,reduceIte]
  refine hR3 _ (PWc.cvs (fr':=[.ptr a 0,.u,.b true,.b true,.u,.u,.u,.u,.u,.own S.length g1,.own (S.length+1) g2,.i .i64 id,.i .i64 (m+1:Nat),.ptr (S.length+2) 0,.u,.u,.u,.u,.u,.u,.u,.u,.u,.u,.u,.u,.u,.u,.u,.u,.u,.u,.u,.u,.u,.u,.u,.u,.u,.u,.u,.u,.u,.u,.u,.u,.u,.u,.u,.u,.u,.u,.u,.u,.u,.u,.u,.u,.u,.u,.u,.u,.u,.u,.u,.u,.u,.u,.u,.u,.u,.u,.u,.u,.u,.u,.u,.u,.u,.u,.u,.u,.u,.u,.u,.u,.u,.u,.u,.u,.u,.u,.u,.u,.u,.u,.u,.u,.u,.u,.u,.u,.u,.u,.u,.u,.u,.u,.u,.u,.u,.u,.u,.u,.u,.u,.u,.u,.u,.u,.u,.u,.u,.u,.u,.u,.u,.u,.u,.u,.u,.u,.u,.u,.u,.u,.u,.u,.u,.u,.u]) ?_ (by repeat first | exact .nil | refine .cons (.refl _) ?_ | refine .cons (.forget _) ?_))
  clear hR3 R3
  refine PWc.cutW fun R4 hR4=>?_
  have tail:∀ (x:It) (r1:Ob) (ext:Store) (j k2:Nat) (opn2:List It) (id2 g2':Nat) {fr:List V},(itRow g1 true f::r1::.box 79 x.cells::(ext++[itRow 0 false (normalize (f++[x]))]))[j]?=some (itRow g2' false opn2)→ext.length+3≠j →
    id2+m≤N→opn2.length+m≤N→(∀ y∈opn2,y.text.length≤5)→Gen (normalize (f++[x])) opn2 id2→x.text.length≤18→k2≤k+12 →
    Cvs fr [.ptr a 0,.u,.b true,.b true,.u,.u,.u,.u,.u,.own S.length g1,.own (S.length+j) g2',.i .i64 id2,.i .i64 (m+1:Nat),.ptr (S.length+2) 0,.u,.u,.u,.u,.u,.u,.u,.u,.u,.u,.u,.u,.u,.u,.u,.u,.u,.u,.u,.u,.u,.u,.u,.u,.u,.u,.u,.u,.u,.u,.u,.u,.u,.u,.u,.u,.u,.u,.u,.u,.u,.u,.u,.u,.u,.u,.u,.u,.u,.u,.u,.u,.u,.u,.u,.u,.u,.u,.u,.u,.u,.u,.u,.u,.u,.u,.u,.u,.u,.u,.u,.u,.u,.u,.u,.u,.u,.u,.u,.u,.u,.u,.u,.u,.u,.u,.u,.u,.u,.u,.u,.u,.u,.u,.u,.u,.u,.u,.u,.u,.u,.u,.u,.u,.u,.u,.u,.u,.u,.u,.u,.u,.u,.u,.u,.u,.u,.u,.u,.u,.u,.u,.u,.u,.u,.u,.u]→R4 ⟨fr,nst S a l k2++(itRow g1 false f::r1::.box 79 x.cells::ext)⟩:=by
   intro x r1 ext j k2 opn2 id2 g2' fr hj hne c1 c2 c3 c4 c5 c6 hc
   have hb:=normStep_len1 x hG.err
   refine hR4 _ (PWc.cvs ?_ hc)
   clear hR4 hc
   refine wpc_sound ?_
   simp only [itRow,It.cells,nb,VV,Nat.reduceAdd]
   refine call_wk (zs:=[.sl 3 (f.map It.cells),.sl 3 ([x].map It.cells)]) (σ1:=nst S a l k2++(itRow g1 true f::r1::.box 79 x.cells::ext)) ?_ (r3Concat_own f [x] (by omega) (by simp) (by omega) (by simp [textLen];omega) _) ?_
   ·refine (Wk.fz S.length (E:=79) (sz:=3) (by':=32) (g:=g1) (sh:=false) (rows:=f.map It.cells) (by rw [nb0];rfl)).trans ?_
    rw [nbs0]
    simp only [List.map_cons,List.map_nil,ev,List.getD_cons_zero,List.getD_cons_succ,List.set_cons_zero,fz,fz1,and_self,if_true]
    exact Wk.cvs (.cons (.refl _) (.cons (.lit _ _) .nil))
   simp only [nst_len,VV]
   refine hR2 _ (PWc.cvs (fr':=[.ptr a 0,.u,.b true,.b true,.u,.u,.u,.u,.u,.own (S.length+(ext.length+1+1+1)) 0,.own (S.length+j) g2',.i .i64 id2,.i .i64 (m+1:Nat),.u,.u,.u,.u,.u,.u,.u,.u,.u,.u,.u,.u,.u,.u,.u,.u,.u,.u,.u,.u,.u,.u,.u,.u,.u,.u,.u,.u,.u,.u,.u,.u,.u,.u,.u,.u,.u,.u,.u,.u,.u,.u,.u,.u,.u,.u,.u,.u,.u,.u,.u,.u,.u,.u,.u,.u,.u,.u,.u,.u,.u,.u,.u,.u,.u,.u,.u,.u,.u,.u,.u,.u,.u,.u,.u,.u,.u,.u,.u,.u,.u,.u,.u,.u,.u,.u,.u,.u,.u,.u,.u,.u,.u,.u,.u,.u,.u,.u,.u,.u,.u,.u,.u,.u,.u,.u,.u,.u,.u,.u,.u,.u,.u,.u,.u,.u,.u,.u,.u,.u,.u,.u,.u,.u,.u,.u,.u,.u]) (wpc_sound ?_) (by repeat first | exact .nil | refine .cons (.refl _) ?_ | refine .cons (.forget _) ?_))
   simp only [hw,VV,reduceIte]
   refine hR _ (rnd_wk (fr':=[.ptr a 0,.u,.b true,.b true,.u,.u,.u,.u,.u,.own (S.length+0) 0,.own (S.length+1) 0,.i .i64 id2,.i .i64 m,.u,.u,.u,.u,.u,.u,.u,.u,.u,.u,.u,.u,.u,.u,.u,.u,.u,.u,.u,.u,.u,.u,.u,.u,.u,.u,.u,.u,.u,.u,.u,.u,.u,.u,.u,.u,.u,.u,.u,.u,.u,.u,.u,.u,.u,.u,.u,.u,.u,.u,.u,.u,.u,.u,.u,.u,.u,.u,.u,.u,.u,.u,.u,.u,.u,.u,.u,.u,.u,.u,.u,.u,.u,.u,.u,.u,.u,.u,.u,.u,.u,.u,.u,.u,.u,.u,.u,.u,.u,.u,.u,.u,.u,.u,.u,.u,.u,.u,.u,.u,.u,.u,.u,.u,.u,.u,.u,.u,.u,.u,.u,.u,.u,.u,.u,.u,.u,.u,.u,.u,.u,.u,.u,.u,.u,.u,.u,.u]) (σ':=nst S a l k2++[itRow 0 false (normalize (f++[x])),itRow 0 false opn2])
    ((Wk.cvs (ys:=[.ptr a 0,.u,.b true,.b true,.u,.u,.u,.u,.u,.own (S.length+(ext.length+1+1+1)) 0,.own (S.length+j) g2',.i .i64 id2,.i .i64 m,.u,.u,.u,.u,.u,.u,.u,.u,.u,.u,.u,.u,.u,.u,.u,.u,.u,.u,.u,.u,.u,.u,.u,.u,.u,.u,.u,.u,.u,.u,.u,.u,.u,.u,.u,.u,.u,.u,.u,.u,.u,.u,.u,.u,.u,.u,.u,.u,.u,.u,.u,.u,.u,.u,.u,.u,.u,.u,.u,.u,.u,.u,.u,.u,.u,.u,.u,.u,.u,.u,.u,.u,.u,.u,.u,.u,.u,.u,.u,.u,.u,.u,.u,.u,.u,.u,.u,.u,.u,.u,.u,.u,.u,.u,.u,.u,.u,.u,.u,.u,.u,.u,.u,.u,.u,.u,.u,.u,.u,.u,.u,.u,.u,.u,.u,.u,.u,.u,.u,.u,.u,.u,.u,.u,.u,.u,.u,.u]) (by repeat first | exact .nil | refine .cons (.refl _) ?_ | refine .cons (.forget _) ?_)).trans
     (frag_keep (i:=ext.length+1+1+1) (j:=j) (g1:=0) (g2:=g2') (nst_closed hcl) hne (by simp [itRow]) hj ?_)) (ih k2 (normalize (f++[x])) opn2 id2 0 0 (by omega) c1 c2 c3 c4 (by omega) (by omega) (by omega) h1))
   repeat first | exact .nil | refine .cons (.forget _) ?_ | refine .cons (.own 0 (ext.length+1+1+1) 79 3 32 0 false ((normalize (f++[x])).map It.cells) rfl (by simp;rfl)) ?_ | refine .cons (.own 1 j 79 3 32 g2' false (opn2.map It.cells) rfl hj) ?_ | refine .cons (.keep _ (by simp only [ha,LW])) ?_
  refine PWc.cut fun R5 hR5=>?_
  simp only [VV]
  refine call_ex (next_at S a ha l k1 (by omega) 8 (by decide) (by decide) _) rfl ?_
  rintro _ _ ⟨v,rfl,hv,rfl⟩
  simp only [VV]
  refine hR5 _ (PWc.cvs (fr':=[.ptr a 0,.u,.b true,.b true,.u,.u,.u,.u,.u,.own S.length g1,.own (S.length+1) g2,.i .i64 id,.i .i64 (m+1:Nat),.ptr (S.length+2) 0,.u,.u,.u,.u,.u,.u,.u,.u,.u,.u,.u,.u,.u,.u,.i .i64 v,.u,.u,.u,.u,.u,.u,.u,.u,.u,.u,.u,.u,.u,.u,.u,.u,.u,.u,.u,.u,.u,.u,.u,.u,.u,.u,.u,.u,.u,.u,.u,.u,.u,.u,.u,.u,.u,.u,.u,.u,.u,.u,.u,.u,.u,.u,.u,.u,.u,.u,.u,.u,.u,.u,.u,.u,.u,.u,.u,.u,.u,.u,.u,.u,.u,.u,.u,.u,.u,.u,.u,.u,.u,.u,.u,.u,.u,.u,.u,.u,.u,.u,.u,.u,.u,.u,.u,.u,.u,.u,.u,.u,.u,.u,.u,.u,.u,.u,.u,.u,.u,.u,.u,.u,.u,.u,.u,.u,.u,.u,.u,.u]) (wpc_sound ?_) (by repeat first | exact .nil | refine .cons (.refl _) ?_ | refine .cons (.forget _) ?_))
  clear hR5 R5
  have hwid:IntKind.i64.wrap ((id:Int)+1)=((id+1:Nat):Int):=wrap_succ (by omega)
  have hidc:((id+1:Nat):Int)=(id:Int)+1:=by omega
  have hv8:(v=0∨v=1)∨v=2∨(v=3∨v=4)∨(v=5∨v=6)∨v=7:=by omega
  rcases hv8 with hv8 | rfl | hv8 | hv8 | rfl
  ·have slot:∀ {w:List UInt8},w∈genSlots→Gen (normalize (f++[⟨5,w,0⟩])) opn id:=fun h=>hG.slot (genSlots_ok _ h).1
   rcases hv8 with rfl | rfl
   ·simp only [nb,nbs,VV,Int.reduceBEq,Nat.reduceAdd,Nat.reduceLeDiff,reduceIte,reduceCtorEq]
    refine call_ex (next_at S a ha l (k1+1) (by omega) 3 (by decide) (by decide) _) rfl ?_
    rintro _ _ ⟨u,rfl,hu,rfl⟩
    obtain ⟨w,hww,ew⟩:=strs_at (ws:=genSlots) (n:=u.toNat) (by simp [genSlots];omega)
    simp only [genSlots,List.map_cons,List.map_nil] at ew
    simp only [ew,nb,nbs,VV,Nat.reduceAdd,Nat.reduceLeDiff,reduceIte]
    refine ⟨by omega,?_⟩
    exact tail ⟨5,w,0⟩ (itRow g2 false opn) [] 1 (k1+1+1) opn id g2 rfl (by simp) (by omega) (by omega) hot (slot hww) (by have:=(genSlots_ok _ hww).2;simp only;omega) (by omega) (by repeat first | exact .nil | refine .cons (.refl _) ?_ | refine .cons (.forget _) ?_)
   ·simp only [nb,nbs,VV,Int.reduceBEq,Nat.reduceAdd,Nat.reduceLeDiff,reduceIte,reduceCtorEq]
    refine call_ex (next_at S a ha l (k1+1) (by omega) 3 (by decide) (by decide) _) rfl ?_
    rintro _ _ ⟨u,rfl,hu,rfl⟩
    obtain ⟨w,hww,ew⟩:=strs_at (ws:=genSlots) (n:=u.toNat) (by simp [genSlots];omega)
    simp only [genSlots,List.map_cons,List.map_nil] at ew
    simp only [ew,nb,nbs,VV,Nat.reduceAdd,Nat.reduceLeDiff,reduceIte]
    refine ⟨by omega,?_⟩
    exact tail ⟨5,w,0⟩ (itRow g2 false opn) [] 1 (k1+1+1) opn id g2 rfl (by simp) (by omega) (by omega) hot (slot hww) (by have:=(genSlots_ok _ hww).2;simp only;omega) (by omega) (by repeat first | exact .nil | refine .cons (.refl _) ?_ | refine .cons (.forget _) ?_)
  ·simp only [nb,nbs,hwid,VV,Int.reduceBEq,Nat.reduceAdd,Nat.reduceLeDiff,reduceIte,reduceCtorEq]
   refine call_ex (next_at S a ha l (k1+1) (by omega) 2 (by decide) (by decide) _) rfl ?_
   rintro _ _ ⟨u,rfl,hu,rfl⟩
   obtain ⟨w,hww,ew⟩:=strs_at (ws:=genEmpties) (n:=u.toNat) (by simp [genEmpties];omega)
   simp only [genEmpties,List.map_cons,List.map_nil] at ew
   obtain ⟨w1,w3⟩:=genEmpties_ok _ hww
   simp only [ew,nb,nbs,VV,Nat.reduceAdd,Nat.reduceLeDiff,reduceIte]
   refine ⟨by omega,?_⟩
   have hG2:=hG.empty w1 (by omega) (by omega)
   rw [← hidc] at hG2
   exact tail ⟨4,w,((id+1:Nat):Int)⟩ (itRow g2 false opn) [] 1 (k1+1+1) opn (id+1) g2 rfl (by simp) (by omega) (by omega) hot hG2 (by simp only;omega) (by omega) (by repeat first | exact .nil | refine .cons (.refl _) ?_ | refine .cons (.forget _) ?_)
  ·rcases hv8 with rfl | rfl
   ·simp only [nb,nbs,hwid,VV,Int.reduceBEq,Nat.reduceAdd,Nat.reduceLeDiff,reduceIte,reduceCtorEq]
    refine call_ex (next_at S a ha l (k1+1) (by omega) 3 (by decide) (by decide) _) rfl ?_
    rintro _ _ ⟨u,rfl,hu,rfl⟩
    obtain ⟨w,hww,ew⟩:=strs_at (ws:=genOpens) (n:=u.toNat) (by simp [genOpens];omega)
    simp only [genOpens,List.map_cons,List.map_nil] at ew
    obtain ⟨w1,w2,w3⟩:=genOpens_ok _ hww
    simp only [ew,nb,nbs,List.length_map,VV,Nat.reduceAdd,Nat.reduceLeDiff,reduceIte]
    refine ⟨by omega,⟨by omega,by simp only [maxLen];omega⟩,?_⟩
    have e3:opn.map It.cells++[[V.i .i64 2,.s w,.i .i64 ((id+1:Nat):Int)]]=(opn++[(⟨2,w,((id+1:Nat):Int)⟩:It)]).map It.cells:=by simp [It.cells]
    rw [e3]
    have hG2:=hG.opens w1 w2 (by omega) (by omega)
    rw [← hidc] at hG2
    refine tail ⟨2,w,((id+1:Nat):Int)⟩ (itRow (g2+1) false (opn++[⟨2,w,((id+1:Nat):Int)⟩])) [] 1 (k1+1+1) (opn++[⟨2,w,((id+1:Nat):Int)⟩]) (id+1) (g2+1) rfl (by simp) (by omega) (by simp;omega) (fun z hz=>by
     rcases List.mem_append.1 hz with hz | hz
     ·exact hot z hz
     ·rw [List.mem_singleton] at hz;subst hz;exact w3) hG2 ?_ ?_ ?_
    ·simp only;omega
    ·omega
    ·repeat first | exact .nil | refine .cons (.refl _) ?_ | refine .cons (.forget _) ?_
   ·simp only [nb,nbs,hwid,VV,Int.reduceBEq,Nat.reduceAdd,Nat.reduceLeDiff,reduceIte,reduceCtorEq]
    refine call_ex (next_at S a ha l (k1+1) (by omega) 3 (by decide) (by decide) _) rfl ?_
    rintro _ _ ⟨u,rfl,hu,rfl⟩
    obtain ⟨w,hww,ew⟩:=strs_at (ws:=genOpens) (n:=u.toNat) (by simp [genOpens];omega)
    simp only [genOpens,List.map_cons,List.map_nil] at ew
    obtain ⟨w1,w2,w3⟩:=genOpens_ok _ hww
    simp only [ew,nb,nbs,List.length_map,VV,Nat.reduceAdd,Nat.reduceLeDiff,reduceIte]
    refine ⟨by omega,⟨by omega,by simp only [maxLen];omega⟩,?_⟩
    have e3:opn.map It.cells++[[V.i .i64 2,.s w,.i .i64 ((id+1:Nat):Int)]]=(opn++[(⟨2,w,((id+1:Nat):Int)⟩:It)]).map It.cells:=by simp [It.cells]
    rw [e3]
    have hG2:=hG.opens w1 w2 (by omega) (by omega)
    rw [← hidc] at hG2
    refine tail ⟨2,w,((id+1:Nat):Int)⟩ (itRow (g2+1) false (opn++[⟨2,w,((id+1:Nat):Int)⟩])) [] 1 (k1+1+1) (opn++[⟨2,w,((id+1:Nat):Int)⟩]) (id+1) (g2+1) rfl (by simp) (by omega) (by simp;omega) (fun z hz=>by
     rcases List.mem_append.1 hz with hz | hz
     ·exact hot z hz
     ·rw [List.mem_singleton] at hz;subst hz;exact w3) hG2 ?_ ?_ ?_
    ·simp only;omega
    ·omega
    ·repeat first | exact .nil | refine .cons (.refl _) ?_ | refine .cons (.forget _) ?_
  ·rcases hv8 with rfl | rfl
   ·rcases List.eq_nil_or_concat opn with h0 | ⟨opn',y,h0⟩
    ·subst h0
     have e1:decide ((0:Int)≤IntKind.i64.wrap (((0:Nat):Int) - 1))=false:=rfl
     simp only [nb,nbs,List.map_nil,List.length_nil,e1,VV,Int.reduceBEq,Nat.reduceAdd,Nat.reduceLeDiff,reduceIte,reduceCtorEq]
     exact tail ⟨1,t,0⟩ (itRow g2 false []) [] 1 (k1+1) [] id g2 rfl (by simp) (by omega) (by simp;omega) (by simp) (hG.text t) (by simp only;omega) (by omega) (by repeat first | exact .nil | refine .cons (.refl _) ?_ | refine .cons (.forget _) ?_)
    ·rw [List.concat_eq_append] at h0
     subst h0
     have hol:(opn'++[y]).length=opn'.length+1:=by simp
     have hw1:IntKind.i64.wrap (((opn'.length+1:Nat):Int) - 1)=(opn'.length:Int):=by rw [IntWalk.i64_in _ (by omega)];omega
     have hw2:IntKind.i64.wrap ((opn'.length:Int)+1)=((opn'.length+1:Nat):Int):=wrap_succ (by omega)
     have e1:decide ((0:Int)≤(opn'.length:Int))=true:=by simp
     have hyt:=hot y (by simp)
     have htn:=tagName_len y.text
     have hat:∀ j,at2 (List.map It.cells (opn'++[y])) opn'.length j=y.cells[j]?:=fun j=>at2_at
     have hin:(0:Int)≤(opn'.length:Int)∧(opn'.length:Int)<((opn'.length+1:Nat):Int):=⟨by omega,by omega⟩
     obtain ⟨hG2,hn⟩:=hG.close (by omega)
     simp only [nb,nbs,List.length_map,hol,hw1,e1,hat,It.cells,Int.toNat_natCast,VV,Int.reduceBEq,Nat.reduceAdd,Nat.reduceLeDiff,reduceIte,reduceCtorEq]
     refine ⟨hin,hin,?_⟩
     refine call_eq (r3Name_pc y.text _) rfl ?_
     simp only [nst_len,nb,nbs,List.length_map,hol,hw2,hat,It.cells,Int.toNat_natCast,VV,Nat.reduceAdd,Nat.reduceLeDiff,Int.reduceToNat,reduceIte]
     have e4:List.take opn'.length (List.map It.cells (opn'++[y]))=List.map It.cells opn':=by rw [List.map_append];exact List.take_left' (by simp)
     have e5:List.take (opn'.length+1 - (opn'.length+1)) (List.drop (opn'.length+1) (List.map It.cells (opn'++[y])))=[]:=by simp
     simp only [e4,e5,List.append_nil,List.length_map,List.length_nil,Nat.add_zero]
     refine ⟨hin,by omega,by omega,⟨by omega,by simp only [maxLen];omega⟩,by omega,⟨by omega,by simp only [maxLen];omega⟩,?_⟩
     exact tail ⟨3,tagName y.text,y.id⟩ (itRow g2 false (opn'++[y])) [itRow 1 false opn'] 3 (k1+1) opn' id 1 rfl (by simp) (by omega) (by omega) (fun z hz=>hot z (by simp [hz])) (by rw [hn];exact hG2) (by simp only;omega) (by omega) (by repeat first | exact .nil | refine .cons (.refl _) ?_ | refine .cons (.forget _) ?_)
   ·rcases List.eq_nil_or_concat opn with h0 | ⟨opn',y,h0⟩
    ·subst h0
     have e1:decide ((0:Int)≤IntKind.i64.wrap (((0:Nat):Int) - 1))=false:=rfl
     simp only [nb,nbs,List.map_nil,List.length_nil,e1,VV,Int.reduceBEq,Nat.reduceAdd,Nat.reduceLeDiff,reduceIte,reduceCtorEq]
     exact tail ⟨1,t,0⟩ (itRow g2 false []) [] 1 (k1+1) [] id g2 rfl (by simp) (by omega) (by simp;omega) (by simp) (hG.text t) (by simp only;omega) (by omega) (by repeat first | exact .nil | refine .cons (.refl _) ?_ | refine .cons (.forget _) ?_)
    ·rw [List.concat_eq_append] at h0
     subst h0
     have hol:(opn'++[y]).length=opn'.length+1:=by simp
     have hw1:IntKind.i64.wrap (((opn'.length+1:Nat):Int) - 1)=(opn'.length:Int):=by rw [IntWalk.i64_in _ (by omega)];omega
     have hw2:IntKind.i64.wrap ((opn'.length:Int)+1)=((opn'.length+1:Nat):Int):=wrap_succ (by omega)
     have e1:decide ((0:Int)≤(opn'.length:Int))=true:=by simp
     have hyt:=hot y (by simp)
     have htn:=tagName_len y.text
     have hat:∀ j,at2 (List.map It.cells (opn'++[y])) opn'.length j=y.cells[j]?:=fun j=>at2_at
     have hin:(0:Int)≤(opn'.length:Int)∧(opn'.length:Int)<((opn'.length+1:Nat):Int):=⟨by omega,by omega⟩
     obtain ⟨hG2,hn⟩:=hG.close (by omega)
     simp only [nb,nbs,List.length_map,hol,hw1,e1,hat,It.cells,Int.toNat_natCast,VV,Int.reduceBEq,Nat.reduceAdd,Nat.reduceLeDiff,reduceIte,reduceCtorEq]
     refine ⟨hin,hin,?_⟩
     refine call_eq (r3Name_pc y.text _) rfl ?_
     simp only [nst_len,nb,nbs,List.length_map,hol,hw2,hat,It.cells,Int.toNat_natCast,VV,Nat.reduceAdd,Nat.reduceLeDiff,Int.reduceToNat,reduceIte]
     have e4:List.take opn'.length (List.map It.cells (opn'++[y]))=List.map It.cells opn':=by rw [List.map_append];exact List.take_left' (by simp)
     have e5:List.take (opn'.length+1 - (opn'.length+1)) (List.drop (opn'.length+1) (List.map It.cells (opn'++[y])))=[]:=by simp
     simp only [e4,e5,List.append_nil,List.length_map,List.length_nil,Nat.add_zero]
     refine ⟨hin,by omega,by omega,⟨by omega,by simp only [maxLen];omega⟩,by omega,⟨by omega,by simp only [maxLen];omega⟩,?_⟩
     exact tail ⟨3,tagName y.text,y.id⟩ (itRow g2 false (opn'++[y])) [itRow 1 false opn'] 3 (k1+1) opn' id 1 rfl (by simp) (by omega) (by omega) (fun z hz=>hot z (by simp [hz])) (by rw [hn];exact hG2) (by simp only;omega) (by omega) (by repeat first | exact .nil | refine .cons (.refl _) ?_ | refine .cons (.forget _) ?_)
  ·simp only [nb,nbs,VV,Int.reduceBEq,Nat.reduceAdd,Nat.reduceLeDiff,reduceIte,reduceCtorEq]
   exact tail ⟨1,t,0⟩ (itRow g2 false opn) [] 1 (k1+1) opn id g2 rfl (by simp) (by omega) (by omega) hot (hG.text t) (by simp only;omega) (by omega) (by repeat first | exact .nil | refine .cons (.refl _) ?_ | refine .cons (.forget _) ?_)
theorem fragment_pc (S:Store) (a:Nat) (ha:a<S.length) (l:List Int) (k:Nat) (hk:k<2^49) (N:Nat) (hN:N≤20) :
  PC Tryz.prog 79 [.ptr a 0,.i .i64 N,.b true,.b true] (nst S a l k) (fun r σ'=>∃ (f:List It) (k':Nat),r=.sl 3 (f.map It.cells)∧itemsErr [] f=0∧f.length≤2*N∧textLen f≤23*N∧k'≤k+12*N+1∧σ'=nst S a l k'):=by
 refine PC.intro Tryz.func79 c79 fun hcl hwf=>?_
 have hw:IntKind.i64.wrap ((N:Int)+1)=((N+1:Nat):Int):=wrap_succ (by omega)
 simp only [p79,SS,seval]
 refine PWc.cut fun R hR=>?_
 simp only [nst_len,VV,seval]
 refine hR _ ?_
 clear hR R
 refine PWc.cut fun R hR=>?_
 simp only [nst_len,VV,seval]
 refine hR _ ?_
 clear hR R
 refine PWc.cut fun R hR=>?_
 simp only [nst_len,VV,seval]
 refine hR _ ?_
 clear hR R
 refine PWc.cut fun R hR=>?_
 simp only [nst_len,hw,VV,seval]
 refine call_ex (next_pc S a ha l k (by omega) ((N+1:Nat):Int) (by omega) (by omega)) rfl ?_
 rintro _ _ ⟨v,rfl,hv,rfl⟩
 obtain ⟨m,rfl⟩:∃ m:Nat,v=m:=⟨v.toNat,by omega⟩
 simp only [VV,seval]
 refine PWc.wk (((Wk.cvs (ys:=[.ptr a 0,.u,.b true,.b true,.u,.u,.u,.u,.u,.nil,.nil,.i .i64 (0:Nat),.i .i64 m,.u,.u,.u,.u,.u,.u,.u,.u,.u,.u,.u,.u,.u,.u,.u,.u,.u,.u,.u,.u,.u,.u,.u,.u,.u,.u,.u,.u,.u,.u,.u,.u,.u,.u,.u,.u,.u,.u,.u,.u,.u,.u,.u,.u,.u,.u,.u,.u,.u,.u,.u,.u,.u,.u,.u,.u,.u,.u,.u,.u,.u,.u,.u,.u,.u,.u,.u,.u,.u,.u,.u,.u,.u,.u,.u,.u,.u,.u,.u,.u,.u,.u,.u,.u,.u,.u,.u,.u,.u,.u,.u,.u,.u,.u,.u,.u,.u,.u,.u,.u,.u,.u,.u,.u,.u,.u,.u,.u,.u,.u,.u,.u,.u,.u,.u,.u,.u,.u,.u,.u,.u,.u,.u,.u,.u,.u,.u,.u]) (by repeat first | exact .nil | refine .cons (.refl _) ?_ | refine .cons (.forget _) ?_)).trans (Wk.promote (P:=Tryz.prog) (σ:=nst S a l (k+1)) (k:=9) ti_it rfl)).trans ((Wk.promote_at (P:=Tryz.prog) (σ:=nst S a l (k+1)) [_] (k:=10) ti_it rfl).trans (Wk.cvs (ys:=[.ptr a 0,.u,.b true,.b true,.u,.u,.u,.u,.u,.own S.length 0,.own (S.length+1) 0,.i .i64 (0:Nat),.i .i64 m,.u,.u,.u,.u,.u,.u,.u,.u,.u,.u,.u,.u,.u,.u,.u,.u,.u,.u,.u,.u,.u,.u,.u,.u,.u,.u,.u,.u,.u,.u,.u,.u,.u,.u,.u,.u,.u,.u,.u,.u,.u,.u,.u,.u,.u,.u,.u,.u,.u,.u,.u,.u,.u,.u,.u,.u,.u,.u,.u,.u,.u,.u,.u,.u,.u,.u,.u,.u,.u,.u,.u,.u,.u,.u,.u,.u,.u,.u,.u,.u,.u,.u,.u,.u,.u,.u,.u,.u,.u,.u,.u,.u,.u,.u,.u,.u,.u,.u,.u,.u,.u,.u,.u,.u,.u,.u,.u,.u,.u,.u,.u,.u,.u,.u,.u,.u,.u,.u,.u,.u,.u,.u,.u,.u,.u,.u,.u,.u]) ?_)))
  (PWc.rnd (m+1) (loop79_0 S a ha l (k+1) (by omega) (nst_closed hcl) m (by omega) m (k+1) [] [] 0 0 0 (Nat.le_refl _) (by omega) (by simp) (by simp) Gen.nil (by simp) (by simp [textLen]) (by omega) ?_))
 ·simp only [nst_len,List.length_cons,List.length_nil,VV,seval]
  repeat first | exact .nil | refine .cons (.refl _) ?_ | refine .cons (.forget _) ?_
 intro k' f opn id g1 g2 c1 c2 c3 c4 c5 c6 c7
 intros
 simp only [VV,seval]
 refine hR _ (PWc.cvs (fr':=[.u,.u,.u,.b true,.u,.u,.u,.u,.u,.own S.length g1,.own (S.length+1) g2,.u,.u,.u,.u,.u,.u,.u,.u,.u,.u,.u,.u,.u,.u,.u,.u,.u,.u,.u,.u,.u,.u,.u,.u,.u,.u,.u,.u,.u,.u,.u,.u,.u,.u,.u,.u,.u,.u,.u,.u,.u,.u,.u,.u,.u,.u,.u,.u,.u,.u,.u,.u,.u,.u,.u,.u,.u,.u,.u,.u,.u,.u,.u,.u,.u,.u,.u,.u,.u,.u,.u,.u,.u,.u,.u,.u,.u,.u,.u,.u,.u,.u,.u,.u,.u,.u,.u,.u,.u,.u,.u,.u,.u,.u,.u,.u,.u,.u,.u,.u,.u,.u,.u,.u,.u,.u,.u,.u,.u,.u,.u,.u,.u,.u,.u,.u,.u,.u,.u,.u,.u,.u,.u,.u,.u,.u,.u,.u,.u,.u]) ?_ (by repeat first | exact .nil | refine .cons (.refl _) ?_ | refine .cons (.forget _) ?_))
 clear hR R
 refine PWc.cut fun R hR=>?_
 simp only [itRow,nst_len,nb,List.length_map,VV,seval]
 have hwo:IntKind.i64.wrap ((opn.length:Int) - 1)=(opn.length:Int) - 1:=IntWalk.i64_in _ (by omega)
 rw [hwo]
 refine PWc.rnd_cvs (fr':=[.u,.u,.u,.b true,.u,.u,.u,.u,.u,.own S.length g1,.own (S.length+1) g2,.u,.u,.u,.u,.i .i64 ((opn.length:Int) - 1),.u,.u,.u,.u,.u,.u,.u,.u,.u,.u,.u,.u,.u,.u,.u,.u,.u,.u,.u,.u,.u,.u,.u,.u,.u,.u,.u,.u,.u,.u,.u,.u,.u,.u,.u,.u,.u,.u,.u,.u,.u,.u,.u,.u,.u,.u,.u,.u,.u,.u,.u,.u,.u,.u,.u,.u,.u,.u,.u,.u,.u,.u,.u,.u,.u,.u,.u,.u,.u,.u,.u,.u,.u,.u,.u,.u,.u,.u,.u,.u,.u,.u,.u,.u,.u,.u,.u,.u,.u,.u,.u,.u,.u,.u,.u,.u,.u,.u,.u,.u,.u,.u,.u,.u,.u,.u,.u,.u,.u,.u,.u,.u,.u,.u,.u,.u,.u,.u,.u,.u,.u,.u,.u,.u,.u]) (by repeat first | exact .nil | refine .cons (.refl _) ?_ | refine .cons (.forget _) ?_) (opn.length+1) (loop79_1 S a l k' opn (by omega) c3 id (by omega) g2 opn.length opn f g1 rfl ⟨[],by simp⟩ c4 (by omega) ?_)
 intro f' g1' q1 q2 q3
 intros
 simp only [itRow,VV,seval]
 refine hR _ (wpc_sound ?_)
 clear hR R
 simp only [nst_len,VV,seval]
 refine ret_wk (xs':=[.sl 3 (f'.map It.cells)]) (.inr rfl) rfl ((Wk.fz S.length (E:=79) (sz:=3) (by':=32) (g:=g1') (sh:=false) (rows:=f'.map It.cells) (by rw [nb0];rfl)).trans ?_) ?_ ⟨f',k',rfl,q1,by omega,by omega,by omega,rfl⟩
 ·rw [nbs0]
  simp only [List.map_cons,List.map_nil,List.getD_cons_zero,List.getD_cons_succ,List.set_cons_zero,fz,fz1,and_self,if_true]
  have:=Wk.end0 (P:=Tryz.prog) (xs:=[.sl 3 (f'.map It.cells)]) (loc:=[Ob.row 79 3 32 g1' true (f'.map It.cells),Ob.row 79 3 32 g2 false (opn.map It.cells)]) (nst_closed (k':=k') hcl) (by simp only [nst_len,LW])
  rw [nst_len] at this
  exact this
 ·rfl
theorem frag_at (S:Store) (a:Nat) (ha:a<S.length) (l:List Int) (k:Nat) (hk:k<2^49) (N:Nat) (hN:N≤20) (loc:Store) :
  PC Tryz.prog 79 [.ptr a 0,.i .i64 N,.b true,.b true] (nst S a l k++loc) (fun r σ'=>∃ (f:List It) (k':Nat),r=.sl 3 (f.map It.cells)∧itemsErr [] f=0∧f.length≤2*N∧textLen f≤23*N∧k'≤k+12*N+1∧σ'=nst S a l k'++loc):=by
 rw [nst_app ha]
 refine (fragment_pc (S++loc) a (by rw [List.length_append];omega) l k hk N hN).mono ?_
 rintro r σ' ⟨f,k',h1,h2,h3,h4,h5,h6⟩
 exact ⟨f,k',h1,h2,h3,h4,h5,by rw [h6,nst_app ha]⟩
theorem target_at (S:Store) (a:Nat) (ha:a<S.length) (l:List Int) (k:Nat) (hk:k<2^50) (src:List It) (hsrc:itemsErr [] src=0) (hlen:src.length≤100) (htx:textLen src≤10000) (loc:Store) :
  PC Tryz.prog 22 [.ptr a 0,.sl 3 (src.map It.cells)] (nst S a l k++loc) (fun r σ'=>∃ (f:List It) (k':Nat),r=.sl 3 (f.map It.cells)∧itemsErr [] f=0∧f.length≤2*src.length∧textLen f≤textLen src+20*src.length∧k'≤k+10*src.length∧σ'=nst S a l k'++loc):=by
 rw [nst_app ha]
 refine (target_pc (S++loc) a (by rw [List.length_append];omega) l k hk src hsrc hlen htx).mono ?_
 rintro r σ' ⟨f,k',h1,h2,h3,h4,h5,h6⟩
 exact ⟨f,k',h1,h2,h3,h4,h5,by rw [h6,nst_app ha]⟩
end Go.Proofs.Tryz

/- A part of the proof of the statement of the last text of this claim: for every two lists of integers ReplicaCommutes returns true and leaves the memory as it was. -/
import Derived.Test.YtbfoheefppnnpaaGreatDoorV17
set_option linter.all false

namespace Go.Bt
open Go Go.Pm
def tg (f:List It):List It:=f.filter isTag
theorem tg_append (a b:List It):tg (a++b)=tg a++tg b:=by simp [tg]
theorem tg_one {x:It} (h:isTag x=true):tg [x]=[x]:=by simp [tg,h]
theorem tg_none {x:It} (h:isTag x=false):tg [x]=[]:=by simp [tg,h]
theorem isTag_text (t:List UInt8) (i:Int):isTag ⟨1,t,i⟩=false:=by simp [isTag]
theorem isTag_kind1 {x:It} (h:x.kind=1):isTag x=false:=by simp [isTag,h]
theorem text_eq {x:It} (h1:x.kind=1) (h2:x.id=0):(⟨1,x.text,0⟩:It)=x:=by
 obtain ⟨k,t,i⟩:=x
 simp only at h1 h2;subst h1;subst h2;rfl
theorem fine_text {p:Option It} {x:It} (hk:x.kind=1) (h:itemFine p x=true):x.text≠[]∧x.id=0∧∀ y,p=some y→y.kind≠1:=by
 simp only [itemFine,hk,if_true,Bool.and_eq_true,Bool.not_eq_true',beq_eq_false_iff_ne,beq_iff_eq] at h
 refine ⟨h.1.1,h.1.2,fun y hy=>?_⟩
 subst hy
 simpa using h.2
theorem fine_of_text {p:Option It} {t:List UInt8} (h1:t≠[]) (h2:∀ y,p=some y→y.kind≠1):itemFine p ⟨1,t,0⟩=true:=by
 simp only [itemFine,if_true,Bool.and_eq_true,Bool.not_eq_true',beq_eq_false_iff_ne,beq_iff_eq]
 refine ⟨⟨h1,trivial⟩,?_⟩
 cases p with
 | none=>rfl
 | some y=>simpa using h2 y rfl
theorem norm_valid {f:List It}:itemsErr [] f=0→normalize f=f:=by
 refine rev_ind (p:=fun f=>itemsErr [] f=0→normalize f=f) (fun _=>rfl) ?_ f
 intro l x ih h
 obtain ⟨h1,h2,_⟩:=(itemsErr_snoc l [] x).1 h
 simp only [List.nil_append] at h2
 rw [normalize_snoc (ih h1)]
 by_cases hk:x.kind=1
 ·obtain ⟨g1,g2,g3⟩:=fine_text hk h2
  simp only [normStep,hk,ne_eq,not_true,if_false,if_neg g1]
  cases hg:l.getLast? with
  | none=>simp only [text_eq hk g2]
  | some y=>simp only [if_neg (g3 y hg),text_eq hk g2]
 ·exact normStep_item hk
theorem fits_tg (f:List It) (x:It):fits f x=fits (tg f) x:=by
 induction f with
 | nil=>rfl
 | cons y f ih =>
  by_cases h:isTag y=true
  ·simp only [fits,tg,List.filter_cons,h,if_true,List.all_cons] at ih ⊢
   rw [ih]
  ·have h:isTag y=false:=by simpa using h
   have hb:fitsBad x y=false:=by simp [fitsBad,h]
   simp only [fits,tg,List.filter_cons,h,List.all_cons,hb,Bool.false_eq_true,if_false,Bool.not_false,Bool.true_and] at ih ⊢
   exact ih
theorem norm_text {f:List It} (t:List UInt8) (h:itemsErr [] f=0):itemsErr [] (normalize (f++[⟨1,t,0⟩]))=0∧tg (normalize (f++[⟨1,t,0⟩]))=tg f:=by
 rw [normalize_snoc (norm_valid h)]
 by_cases ht:t=[]
 ·have e:normStep f ⟨1,t,0⟩=f:=by simp [normStep,ht]
  rw [e];exact ⟨h,rfl⟩
 ·revert h
  refine rev_ind (p:=fun f=>itemsErr [] f=0→itemsErr [] (normStep f ⟨1,t,0⟩)=0∧tg (normStep f ⟨1,t,0⟩)=tg f) ?_ ?_ f
  ·intro _
   have e:normStep [] ⟨1,t,0⟩=[]++[⟨1,t,0⟩]:=by simp [normStep,ht]
   rw [e,itemsErr_snoc,tg_append,tg_none (isTag_text t 0),List.append_nil]
   exact ⟨⟨rfl,fine_of_text ht (by simp),by simp [isTag]⟩,rfl⟩
  ·intro l y _ h
   obtain ⟨h1,h2,h3⟩:=(itemsErr_snoc l [] y).1 h
   by_cases hy:y.kind=1
   ·have e:normStep (l++[y]) ⟨1,t,0⟩=l++[⟨1,y.text++t,0⟩]:=by simp [normStep,ht,hy]
    obtain ⟨_,_,g3⟩:=fine_text hy h2
    rw [e,itemsErr_snoc,tg_append,tg_append,tg_none (isTag_text _ 0),tg_none (isTag_kind1 hy)]
    exact ⟨⟨h1,fine_of_text (by simp [ht]) g3,by simp [isTag]⟩,rfl⟩
   ·have e:normStep (l++[y]) ⟨1,t,0⟩=(l++[y])++[⟨1,t,0⟩]:=by simp [normStep,ht,hy]
    rw [e,itemsErr_snoc,tg_append,tg_none (isTag_text _ 0),List.append_nil]
    refine ⟨⟨h,fine_of_text ht fun z hz=>?_,by simp [isTag]⟩,rfl⟩
    simp only [List.nil_append,List.getLast?_append,List.getLast?_singleton,Option.some_or,Option.some.injEq] at hz
    subst hz;exact hy
theorem norm_item {f:List It} {x:It} (h:itemsErr [] f=0) (hk:x.kind≠1) (hx:itemFine none x=true) (hf:isTag x=true→fits f x=true) :
  normalize (f++[x])=f++[x]∧itemsErr [] (f++[x])=0:=by
 refine ⟨by rw [normalize_snoc (norm_valid h),normStep_item hk],?_⟩
 rw [itemsErr_snoc]
 refine ⟨h,by rw [itemFine_any hk];exact hx,?_⟩
 rw [List.nil_append]
 cases ht:isTag x with
 | false=>rfl
 | true=>rw [hf ht];rfl
structure Gen (f opn:List It) (n:Int):Prop where
 err:itemsErr [] f=0
 ids:∀ z∈tg f,1≤z.id∧z.id≤n
 nd:(opn.map (·.id)).Nodup
 op:∀ y∈opn,isName (tagName y.text)=true∧1≤y.id∧y.id≤n∧∀ z∈tg f,z.id=y.id→z.kind=2∧z.text=y.text
theorem Gen.nil:Gen [] [] 0:=⟨rfl,by simp [tg],by simp,by simp⟩
theorem Gen.same {f g opn:List It} {n:Int} (h:Gen f opn n) (h1:itemsErr [] g=0) (h2:tg g=tg f):Gen g opn n :=
 ⟨h1,by rw [h2];exact h.ids,h.nd,by rw [h2];exact h.op⟩
theorem Gen.text {f opn:List It} {n:Int} (h:Gen f opn n) (t:List UInt8):Gen (normalize (f++[⟨1,t,0⟩])) opn n :=
 h.same (norm_text t h.err).1 (norm_text t h.err).2
theorem Gen.slot {f opn:List It} {n:Int} (h:Gen f opn n) {t:List UInt8} (ht:isName t=true):Gen (normalize (f++[⟨5,t,0⟩])) opn n:=by
 obtain ⟨e,he⟩:=norm_item (x:=⟨5,t,0⟩) h.err (by simp) (by simp [itemFine,ht]) (by simp [isTag])
 rw [e]
 exact h.same he (by rw [tg_append,tg_none (by simp [isTag]),List.append_nil])
theorem fits_new {f:List It} {x:It} (h:∀ z∈tg f,z.id≠x.id):fits f x=true:=by
 rw [fits_tg]
 simp only [fits,List.all_eq_true]
 intro z hz
 have:=h z hz
 simp [fitsBad,this]
theorem Gen.empty {f opn:List It} {n:Int} (h:Gen f opn n) {t:List UInt8} (ht:isContent t=true) (h0:0≤n) (h9:n<999):Gen (normalize (f++[⟨4,t,n+1⟩])) opn (n+1):=by
 have hT:isTag ⟨4,t,n+1⟩=true:=by simp [isTag]
 obtain ⟨e,he⟩:=norm_item (x:=⟨4,t,n+1⟩) h.err (by simp) (by simp [itemFine,ht];omega) (fun _=>fits_new fun z hz=>by have:=h.ids z hz;simp only;omega)
 rw [e]
 refine ⟨he,?_,h.nd,?_⟩
 ·intro z hz
  rw [tg_append,tg_one hT,List.mem_append,List.mem_singleton] at hz
  rcases hz with hz | rfl
  ·have:=h.ids z hz;omega
  ·simp only;omega
 ·intro y hy
  obtain ⟨o1,o2,o3,o4⟩:=h.op y hy
  refine ⟨o1,o2,by omega,fun z hz hzi=>?_⟩
  rw [tg_append,tg_one hT,List.mem_append,List.mem_singleton] at hz
  rcases hz with hz | rfl
  ·exact o4 z hz hzi
  ·simp only at hzi;omega
theorem Gen.opens {f opn:List It} {n:Int} (h:Gen f opn n) {t:List UInt8} (ht:isContent t=true) (hn:isName (tagName t)=true) (h0:0≤n) (h9:n<999) :
  Gen (normalize (f++[⟨2,t,n+1⟩])) (opn++[⟨2,t,n+1⟩]) (n+1):=by
 have hT:isTag ⟨2,t,n+1⟩=true:=by simp [isTag]
 obtain ⟨e,he⟩:=norm_item (x:=⟨2,t,n+1⟩) h.err (by simp) (by simp [itemFine,ht];omega) (fun _=>fits_new fun z hz=>by have:=h.ids z hz;simp only;omega)
 rw [e]
 refine ⟨he,?_,?_,?_⟩
 ·intro z hz
  rw [tg_append,tg_one hT,List.mem_append,List.mem_singleton] at hz
  rcases hz with hz | rfl
  ·have:=h.ids z hz;omega
  ·simp only;omega
 ·rw [List.map_append,List.nodup_append]
  refine ⟨h.nd,by simp,?_⟩
  intro a ha b hb
  obtain ⟨y,hy,rfl⟩:=List.mem_map.1 ha
  simp only [List.map_cons,List.map_nil,List.mem_singleton] at hb
  have:=(h.op y hy).2.2.1
  omega
 ·intro y hy
  rw [List.mem_append,List.mem_singleton] at hy
  rcases hy with hy | rfl
  ·obtain ⟨o1,o2,o3,o4⟩:=h.op y hy
   refine ⟨o1,o2,by omega,fun z hz hzi=>?_⟩
   rw [tg_append,tg_one hT,List.mem_append,List.mem_singleton] at hz
   rcases hz with hz | rfl
   ·exact o4 z hz hzi
   ·simp only at hzi;omega
  ·refine ⟨hn,by simp only;omega,by simp only;omega,fun z hz hzi=>?_⟩
   rw [tg_append,tg_one hT,List.mem_append,List.mem_singleton] at hz
   rcases hz with hz | rfl
   ·have:=h.ids z hz;simp only at hzi;omega
   ·exact ⟨rfl,rfl⟩
theorem Gen.close {f opn:List It} {y:It} {n:Int} (h:Gen f (opn++[y]) n) (h9:n≤999) :
  Gen (f++[⟨3,tagName y.text,y.id⟩]) opn n∧normalize (f++[⟨3,tagName y.text,y.id⟩])=f++[⟨3,tagName y.text,y.id⟩]:=by
 have hT:isTag ⟨3,tagName y.text,y.id⟩=true:=by simp [isTag]
 obtain ⟨o1,o2,o3,o4⟩:=h.op y (by simp)
 obtain ⟨e,he⟩:=norm_item (x:=⟨3,tagName y.text,y.id⟩) h.err (by simp) (by simp [itemFine,o1];omega) (fun _=>by
  rw [fits_tg]
  simp only [fits,List.all_eq_true]
  intro z hz
  by_cases hi:z.id=y.id
  ·obtain ⟨z1,z2⟩:=o4 z hz hi
   simp [fitsBad,z1,z2]
  ·simp [fitsBad,hi])
 have hnd:=h.nd
 rw [List.map_append,List.nodup_append] at hnd
 refine ⟨⟨he,?_,hnd.1,?_⟩,e⟩
 ·intro z hz
  rw [tg_append,tg_one hT,List.mem_append,List.mem_singleton] at hz
  rcases hz with hz | rfl
  ·exact h.ids z hz
  ·exact ⟨o2,o3⟩
 ·intro x hx
  obtain ⟨p1,p2,p3,p4⟩:=h.op x (by simp [hx])
  refine ⟨p1,p2,p3,fun z hz hzi=>?_⟩
  rw [tg_append,tg_one hT,List.mem_append,List.mem_singleton] at hz
  rcases hz with hz | rfl
  ·exact p4 z hz hzi
  ·have:=hnd.2.2 x.id (List.mem_map.2 ⟨x,hx,rfl⟩) y.id (by simp)
   exact absurd hzi.symm this
structure Tgt (pre f:List It):Prop where
 err:itemsErr [] f=0
 tags:tg f=tg pre
theorem Tgt.nil:Tgt [] []:=⟨rfl,rfl⟩
theorem Tgt.more {pre f:List It} (h:Tgt pre f) (t:List UInt8):Tgt pre (normalize (f++[⟨1,t,0⟩])) :=
 ⟨(norm_text t h.err).1,(norm_text t h.err).2.trans h.tags⟩
theorem Tgt.text {pre f:List It} {x:It} (h:Tgt pre f) (hk:x.kind=1) (t:List UInt8):Tgt (pre++[x]) (normalize (f++[⟨1,t,0⟩])) :=
 ⟨(norm_text t h.err).1,by rw [(norm_text t h.err).2,h.tags,tg_append,tg_none (isTag_kind1 hk),List.append_nil]⟩
theorem Tgt.item {pre f rest:List It} {x:It} (h:Tgt pre f) (hs:itemsErr [] (pre++x::rest)=0) (hk:x.kind≠1):Tgt (pre++[x]) (normalize (f++[x])):=by
 rw [itemsErr_append,itemsErr_cons] at hs
 obtain ⟨_,h2,h3,_⟩:=hs
 rw [List.nil_append] at h2 h3
 obtain ⟨e,he⟩:=norm_item (x:=x) h.err hk (by rw [← itemFine_any (p:=pre.getLast?) hk];exact h2) (fun ht=>by
  rw [ht,Bool.true_and] at h3
  rw [fits_tg,h.tags,← fits_tg]
  simpa using h3)
 rw [e]
 exact ⟨he,by rw [tg_append,tg_append,h.tags]⟩
theorem toF_from:∀ (l:List Int) (k:Int) (x:Int),toF l ((List.range l.length).map fun (i:Nat)=>(i:Int)+k) x=if x∈l then some ((l.idxOf x:Int)+k) else none
 | [],k,x=>by simp [toF]
 | a::l,k,x=>by
  have e:(List.range (l.length+1)).map (fun (i:Nat)=>(i:Int)+k)=k::(List.range l.length).map fun (i:Nat)=>(i:Int)+(k+1):=by
   rw [List.range_succ_eq_map,List.map_cons,List.map_map]
   refine congr (congrArg _ (by omega)) (List.map_congr_left fun i _=>?_)
   simp only [Function.comp];omega
  rw [List.length_cons,e]
  simp only [toF]
  by_cases h:x=a
  ·subst h;simp
  ·have h2:(a==x)=false:=by simpa using fun e=>h e.symm
   rw [if_neg h,toF_from l (k+1) x,List.idxOf_cons,h2]
   by_cases h3:x∈l
   ·rw [if_pos h3,if_pos (List.mem_cons_of_mem _ h3)]
    congr 1
    simp only [cond_false];omega
   ·rw [if_neg h3,if_neg (by simp [h,h3])]
theorem toF_count (l:List Int) (x:Int):toF l (counting l.length) x=if x∈l then some ((l.idxOf x:Int)+1) else none:=toF_from l 1 x
def mvI (l:List Int) (x:It):It:=if isTag x=true then ⟨x.kind,x.text,(l.idxOf x.id:Int)+1⟩ else x
theorem mvI_kind (l:List Int) (x:It):(mvI l x).kind=x.kind:=by simp only [mvI];split<;>rfl
theorem mvI_text (l:List Int) (x:It):(mvI l x).text=x.text:=by simp only [mvI];split<;>rfl
theorem mvI_tag (l:List Int) (x:It):isTag (mvI l x)=isTag x:=by simp only [isTag,mvI_kind]
theorem renamed_map {l:List Int} {f:List It} (h:∀ x∈tg f,x.id∈l):renamed f l (counting l.length)=f.map (mvI l):=by
 have key:∀ x∈f,ren l (counting l.length) x=some (mvI l x):=by
  intro x hx
  simp only [ren,mvI]
  by_cases ht:isTag x=true
  ·have:=h x (List.mem_filter.2 ⟨hx,ht⟩)
   rw [if_pos ht,if_pos ht,toF_count,if_pos this];rfl
  ·rw [if_neg ht,if_neg ht]
 simp only [renamed]
 rw [fm_congr key]
 clear key h
 induction f with
 | nil=>rfl
 | cons x f ih=>simp only [List.filterMap_cons,List.map_cons,ih]
theorem idx_inj {l:List Int} {x y:Int} (hx:x∈l) (hy:y∈l) (h:l.idxOf x=l.idxOf y):x=y:=by
 induction l with
 | nil=>simp at hx
 | cons a l ih =>
  simp only [List.idxOf_cons] at h
  by_cases h1:a=x
  ·by_cases h2:a=y
   ·rw [← h1,h2]
   ·have e1:(a==x)=true:=by simp [h1]
    have e2:(a==y)=false:=by simp [h2]
    rw [e1,e2] at h;simp at h
  ·have e1:(a==x)=false:=by simp [h1]
   by_cases h2:a=y
   ·have e2:(a==y)=true:=by simp [h2]
    rw [e1,e2] at h;simp at h
   ·have e2:(a==y)=false:=by simp [h2]
    rw [e1,e2] at h
    simp only [cond_false] at h
    refine ih ?_ ?_ (by omega)
    ·rcases List.mem_cons.1 hx with h3 | h3
     ·exact absurd h3.symm h1
     ·exact h3
    ·rcases List.mem_cons.1 hy with h3 | h3
     ·exact absurd h3.symm h2
     ·exact h3
theorem mvI_fine {l:List Int} {x:It} {p:Option It} (hx:isTag x=true→x.id∈l) (hl:l.length≤999) (h:itemFine p x=true):itemFine (p.map (mvI l)) (mvI l x)=true:=by
 by_cases ht:isTag x=true
 ·have hlt:l.idxOf x.id<l.length:=List.idxOf_lt_length_of_mem (hx ht)
  have hk:x.kind=2∨x.kind=3∨x.kind=4:=by
   simp only [isTag,Bool.or_eq_true,beq_iff_eq] at ht;omega
  have e:mvI l x=⟨x.kind,x.text,(l.idxOf x.id:Int)+1⟩:=by rw [mvI,if_pos ht]
  rw [e]
  simp only [itemFine] at h ⊢
  rcases hk with hk | hk | hk
  ·simp [hk] at h ⊢;exact ⟨⟨h.1.1,by omega⟩,by omega⟩
  ·simp [hk] at h ⊢;exact ⟨⟨h.1.1,by omega⟩,by omega⟩
  ·simp [hk] at h ⊢;exact ⟨⟨h.1.1,by omega⟩,by omega⟩
 ·have e:mvI l x=x:=by rw [mvI,if_neg ht]
  rw [e]
  by_cases hk:x.kind=1
  ·obtain ⟨g1,g2,g3⟩:=fine_text hk h
   rw [← text_eq hk g2]
   refine fine_of_text g1 fun y hy=>?_
   obtain ⟨z,hz,rfl⟩:=Option.map_eq_some_iff.1 hy
   rw [mvI_kind];exact g3 z hz
  ·rw [itemFine_any hk] at h ⊢;exact h
theorem mvI_fits {l:List Int} {x:It} {f:List It} (ht:isTag x=true) (hx:x.id∈l) (hf:∀ z∈tg f,z.id∈l) (h:fits f x=true):fits (f.map (mvI l)) (mvI l x)=true:=by
 simp only [fits,List.all_eq_true,List.mem_map] at h ⊢
 rintro _ ⟨y,hy,rfl⟩
 have hb:=h y hy
 by_cases hty:isTag y=true
 ·have hyl:=hf y (List.mem_filter.2 ⟨hy,hty⟩)
  have e1:mvI l x=⟨x.kind,x.text,(l.idxOf x.id:Int)+1⟩:=by rw [mvI,if_pos ht]
  have e2:mvI l y=⟨y.kind,y.text,(l.idxOf y.id:Int)+1⟩:=by rw [mvI,if_pos hty]
  have e3:((l.idxOf y.id:Int)+1 != (l.idxOf x.id:Int)+1)=(y.id != x.id):=by
   by_cases hi:y.id=x.id
   ·rw [hi];simp
   ·have:l.idxOf y.id≠l.idxOf x.id:=fun e=>hi (idx_inj hyl hx e)
    have h1:(y.id != x.id)=true:=by simpa using hi
    rw [h1];simp;omega
  have e4:isTag (mvI l y)=isTag y:=mvI_tag l y
  simp only [fitsBad,e4] at hb ⊢
  rw [e1,e2]
  simp only
  rw [e3]
  exact hb
 ·have hty:isTag y=false:=by simpa using hty
  simp [fitsBad,mvI_tag,hty]
theorem map_err {l:List Int} (hl:l.length≤999) {f:List It} (hf:∀ x∈tg f,x.id∈l) (h:itemsErr [] f=0):itemsErr [] (f.map (mvI l))=0:=by
 revert hf h
 refine rev_ind (p:=fun f=>(∀ x∈tg f,x.id∈l)→itemsErr [] f=0→itemsErr [] (f.map (mvI l))=0) (fun _ _=>rfl) ?_ f
 intro f x ih hf h
 obtain ⟨h1,h2,h3⟩:=(itemsErr_snoc f [] x).1 h
 rw [List.nil_append] at h2 h3
 have hf1:∀ z∈tg f,z.id∈l:=fun z hz=>hf z (by rw [tg_append];exact List.mem_append_left _ hz)
 have hx1:isTag x=true→x.id∈l:=fun ht=>hf x (by rw [tg_append,tg_one ht];simp)
 rw [List.map_append,List.map_cons,List.map_nil,itemsErr_snoc]
 refine ⟨ih hf1 h1,?_,?_⟩
 ·rw [List.nil_append,List.getLast?_map]
  exact mvI_fine hx1 hl h2
 ·rw [List.nil_append,mvI_tag]
  cases ht:isTag x with
  | false=>rfl
  | true =>
   rw [ht,Bool.true_and] at h3
   rw [mvI_fits ht (hx1 ht) hf1 (by simpa using h3)];rfl
theorem textLen_map (l:List Int) (f:List It):textLen (f.map (mvI l))=textLen f:=by
 induction f with
 | nil=>rfl
 | cons x f ih=>simp only [List.map_cons,textLen,mvI_text,ih]
def tagIds (f:List It):List Int:=(tg f).map (·.id)
theorem numbers_tagIds (f:List It):numbers f=(tagIds f).foldl insI []:=by
 simp only [numbers,numbersFrom_fold];rfl
theorem canon_ids (s t:List It):canonNumbers s t=(tagIds (s++t)).foldl insI []:=by
 rw [← numbers_append,numbers_tagIds]
theorem canon_all (s t:List It):(∀ x∈tg s,x.id∈canonNumbers s t)∧∀ x∈tg t,x.id∈canonNumbers s t:=by
 rw [canon_ids]
 constructor<;>intro x hx<;>refine foldI_mem _ ?_<;>simp only [tagIds,tg_append,List.map_append,List.mem_append,List.mem_map]
 ·exact .inl ⟨x,hx,rfl⟩
 ·exact .inr ⟨x,hx,rfl⟩
theorem insI_nodup {l:List Int} {n:Int} (h:l.Nodup):(insI l n).Nodup:=by
 simp only [insI]
 split
 ·exact h
 ·rename_i h1
  rw [List.nodup_append]
  refine ⟨h,by simp,?_⟩
  intro a ha b hb e
  simp only [List.mem_singleton] at hb
  subst hb;subst e
  exact h1 (by simpa using ha)
theorem foldI_nodup:∀ (m:List Int) {l:List Int},l.Nodup→(m.foldl insI l).Nodup
 | [],_,h=>h
 | _::m,_,h=>foldI_nodup m (insI_nodup h)
theorem foldI_map {g:Int→Int} {L:List Int} (hg:∀ x∈L,∀ y∈L,g x=g y→x=y):∀ (m acc:List Int),(∀ x∈m,x∈L)→(∀ x∈acc,x∈L)→(m.map g).foldl insI (acc.map g)=(m.foldl insI acc).map g
 | [],_,_,_=>rfl
 | n::m,acc,hm,ha=>by
  have hn:=hm n (by simp)
  have e:insI (acc.map g) (g n)=(insI acc n).map g:=by
   by_cases h:n∈acc
   ·have h1:acc.contains n=true:=by simpa using h
    have h2:(acc.map g).contains (g n)=true:=by simp;exact ⟨n,h,rfl⟩
    simp only [insI,h1,h2,if_true]
   ·have h1:acc.contains n=false:=by simpa using h
    have h2:(acc.map g).contains (g n)=false:=by
     cases h3:(acc.map g).contains (g n) with
     | false=>rfl
     | true =>
      simp only [List.contains_iff_mem,List.mem_map] at h3
      obtain ⟨x,hx,hxe⟩:=h3
      exact absurd (hg x (ha x hx) n hn hxe▸hx) h
    simp only [insI,h1,h2,Bool.false_eq_true,if_false,List.map_append,List.map_cons,List.map_nil]
  simp only [List.map_cons,List.foldl_cons,e]
  refine foldI_map hg m (insI acc n) (fun x hx=>hm x (by simp [hx])) fun x hx=>?_
  simp only [insI] at hx
  split at hx
  ·exact ha x hx
  ·rw [List.mem_append,List.mem_singleton] at hx
   rcases hx with hx | rfl
   ·exact ha x hx
   ·exact hn
theorem idx_count:∀ {L:List Int} (_:L.Nodup),L.map (fun x=>(L.idxOf x:Int)+1)=counting L.length:=by
 intro L hnd
 have key:∀ (l pre:List Int),(pre++l).Nodup→l.map (fun x=>((pre++l).idxOf x:Int)+1)=(List.range l.length).map fun (i:Nat)=>(i:Int)+((pre.length:Int)+1):=by
  intro l
  induction l with
  | nil=>intro pre _;rfl
  | cons a l ih =>
   intro pre h
   have e:(List.range (l.length+1)).map (fun (i:Nat)=>(i:Int)+((pre.length:Int)+1))=((pre.length:Int)+1)::(List.range l.length).map fun (i:Nat)=>(i:Int)+(((pre++[a]).length:Int)+1):=by
    rw [List.range_succ_eq_map,List.map_cons,List.map_map]
    refine congr (congrArg _ (by omega)) (List.map_congr_left fun i _=>?_)
    simp only [Function.comp,List.length_append,List.length_cons,List.length_nil];omega
   have h2:=ih (pre++[a]) (by rwa [List.append_assoc,List.singleton_append])
   rw [List.append_assoc,List.singleton_append] at h2
   rw [List.length_cons,e,← h2,List.map_cons]
   congr 1
   have hna:a ∉ pre:=by
    rw [List.nodup_append] at h
    exact fun hm=>h.2.2 a hm a (by simp) rfl
   have:(pre++a::l).idxOf a=pre.length:=by
    clear h2 e ih h
    induction pre with
    | nil=>simp
    | cons b pre ih =>
     have hb:(b==a)=false:=by
      simp only [List.mem_cons,not_or] at hna
      simpa using fun e=>hna.1 e.symm
     rw [List.cons_append,List.idxOf_cons,hb,cond_false,ih (fun hm=>hna (List.mem_cons_of_mem _ hm)),List.length_cons]
   rw [this]
 have:=key L [] hnd
 simpa [counting] using this
theorem tagIds_map {l:List Int} {f:List It}:tagIds (f.map (mvI l))=(tagIds f).map fun x=>(l.idxOf x:Int)+1:=by
 induction f with
 | nil=>rfl
 | cons x f ih =>
  simp only [tagIds,tg,List.map_cons,List.filter_cons,mvI_tag] at ih ⊢
  by_cases ht:isTag x=true
  ·rw [if_pos ht,if_pos ht,List.map_cons,List.map_cons,List.map_cons,ih]
   congr 1
   rw [mvI,if_pos ht]
  ·rw [if_neg ht,if_neg ht,ih]
theorem canon_eq {s t:List It} (hs:itemsErr [] s=0) (ht:itemsErr [] t=0) (hl:(canonNumbers s t).length≤999) :
  canonS s t=s.map (mvI (canonNumbers s t))∧canonT s t=t.map (mvI (canonNumbers s t)):=by
 have ha:=canon_all s t
 constructor
 ·rw [canonS,rename,renamed_map ha.1];exact norm_valid (map_err hl ha.1 hs)
 ·rw [canonT,rename,renamed_map ha.2];exact norm_valid (map_err hl ha.2 ht)
theorem canon_count {s t:List It}:canonNumbers (s.map (mvI (canonNumbers s t))) (t.map (mvI (canonNumbers s t)))=counting (canonNumbers s t).length:=by
 have e:canonNumbers s t=(tagIds (s++t)).foldl insI []:=canon_ids s t
 have hL:∀ x∈tagIds (s++t),x∈canonNumbers s t:=fun x hx=>by rw [e];exact foldI_mem _ hx
 rw [canon_ids (s.map _) (t.map _),← List.map_append,tagIds_map]
 have h1:=foldI_map (g:=fun x=>((canonNumbers s t).idxOf x:Int)+1) (L:=canonNumbers s t) (fun x hx y hy h=>idx_inj hx hy (by omega)) (tagIds (s++t)) [] hL (by simp)
 rw [List.map_nil] at h1
 rw [h1,← e]
 exact idx_count (by rw [e];exact foldI_nodup _ List.nodup_nil)
theorem count_idx {n:Nat} {x:Int} (h:x∈counting n):((counting n).idxOf x:Int)+1=x:=by
 have hnd:(counting n).Nodup:=by
  simp only [counting]
  exact (List.nodup_range).map (f:=fun (i:Nat)=>(i:Int)+1) (fun a b h=>by have h:a≠b:=h;omega)
 have e:=idx_count hnd
 rw [counting_len] at e
 have hlt:(counting n).idxOf x<(counting n).length:=List.idxOf_lt_length_of_mem h
 have h2:((counting n).map fun x=>((counting n).idxOf x:Int)+1)[(counting n).idxOf x]?=(counting n)[(counting n).idxOf x]?:=by rw [e]
 rw [List.getElem?_map,List.getElem?_eq_getElem hlt] at h2
 have hg:(counting n)[(counting n).idxOf x]=x:=List.getElem_idxOf hlt
 rw [hg] at h2
 simpa using h2
theorem mvI_count {n:Nat} {f:List It} (h:∀ x∈tg f,x.id∈counting n):f.map (mvI (counting n))=f:=by
 induction f with
 | nil=>rfl
 | cons x f ih =>
  rw [List.map_cons]
  have h2:∀ z∈tg f,z.id∈counting n:=fun z hz=>h z (by simp only [tg,List.filter_cons];split<;>simp [tg] at hz ⊢<;>simp [hz])
  rw [ih h2]
  congr 1
  rw [mvI]
  split
  ·rename_i ht
   have:=h x (by simp only [tg,List.filter_cons,ht,if_true];simp)
   rw [count_idx this]
  ·rfl
theorem canon_ok {s t:List It} (hs:itemsErr [] s=0) (ht:itemsErr [] t=0) (hl:(canonNumbers s t).length≤999) :
  canonS (canonS s t) (canonT s t)=canonS s t∧canonT (canonS s t) (canonT s t)=canonT s t:=by
 obtain ⟨e1,e2⟩:=canon_eq hs ht hl
 have ha:=canon_all s t
 have hs':=map_err hl ha.1 hs
 have ht':=map_err hl ha.2 ht
 rw [e1,e2]
 have hn:=canon_count (s:=s) (t:=t)
 have hl':(canonNumbers (s.map (mvI (canonNumbers s t))) (t.map (mvI (canonNumbers s t)))).length≤999:=by rw [hn,counting_len];exact hl
 obtain ⟨f1,f2⟩:=canon_eq hs' ht' hl'
 have hb:=canon_all (s.map (mvI (canonNumbers s t))) (t.map (mvI (canonNumbers s t)))
 rw [hn] at hb f1 f2
 exact ⟨by rw [f1,mvI_count hb.1],by rw [f2,mvI_count hb.2]⟩
theorem canon_len (s t:List It):(canonNumbers s t).length≤s.length+t.length:=by
 have h1:=moreNumbers_len (numbers t) (numbers s)
 have h2:=numbers_len s
 have h3:=numbers_len t
 simp only [canonNumbers];omega
theorem gen_valid {f:List It} (h:itemsErr [] f=0) (h1:f.length≤100) (h2:textLen f≤900):validItems f=0:=by
 have:=total_le f
 exact (validItems_iff (by omega)).2 ⟨by omega,by omega,h⟩
def genCtx:List (List UInt8):=[[],[83,97,118,101],[114,101,100,32,99,97,114],[120]]
def genNames:List (List UInt8):=[[],[97,110,110],[98,111,98],[112],[113]]
theorem ctx_ok:∀ s∈genCtx,(parse s).2.2=0∧s.length≤7:=by decide +kernel
theorem names_ok:∀ s∈genNames,named s=true∧s.length≤3:=by decide +kernel
structure GenEn (e:En):Prop where
 ok:entryErr e=0
 srcLen:e.source.length≤40
 srcText:textLen e.source≤400
 tgtLen:e.target.length≤100
 tgtText:textLen e.target≤900
 prev:e.previous.length≤7
 next:e.next.length≤7
 author:e.author.length≤3
 project:e.project.length≤3
theorem fine_id {p:Option It} {x:It} (h:itemFine p x=true):0≤x.id∧x.id≤999:=by
 simp only [itemFine] at h
 split at h
 ·simp only [Bool.and_eq_true,beq_iff_eq] at h;omega
 ·split at h
  ·simp only [Bool.and_eq_true,beq_iff_eq] at h;omega
  ·split at h
   ·simp only [Bool.and_eq_true,decide_eq_true_eq] at h;omega
   ·split at h
    ·simp only [Bool.and_eq_true,decide_eq_true_eq] at h;omega
    ·simp at h
theorem valid_ids {f:List It} (h:validItems f=0):∀ x∈f,0≤x.id∧x.id≤999:=by
 simp only [validItems] at h
 split at h
 ·simp at h
 ·intro x hx
  exact fine_id (itemsErr_fine f [] h x hx)
theorem asked_source {e:En} (h:entryErr e=0):validItems e.source=0∧validItems e.target=0:=⟨(en_facts h).source,(en_facts h).target⟩
theorem gen_entry {f t:List It} {p n a r:List UInt8} {c o:Int} (hf:itemsErr [] f=0) (ht:itemsErr [] t=0) (hne:f≠[]) (f1:f.length≤40) (f2:textLen f≤400) (t1:t.length≤100) (t2:textLen t≤900)
  (hp:p∈genCtx) (hn:n∈genCtx) (ha:a∈genNames) (hr:r∈genNames) (hc:0≤c∧c≤1073741824) (ho:1≤o∧o≤3):GenEn ⟨canonS f t,canonT f t,p,n,a,r,c,o⟩:=by
 have hl:(canonNumbers f t).length≤999:=by have:=canon_len f t;omega
 obtain ⟨e1,e2⟩:=canon_eq hf ht hl
 have hall:=canon_all f t
 have v1:itemsErr [] (canonS f t)=0:=by rw [e1];exact map_err hl hall.1 hf
 have v2:itemsErr [] (canonT f t)=0:=by rw [e2];exact map_err hl hall.2 ht
 have l1:(canonS f t).length=f.length:=by rw [e1,List.length_map]
 have l2:(canonT f t).length=t.length:=by rw [e2,List.length_map]
 have x1:textLen (canonS f t)=textLen f:=by rw [e1,textLen_map]
 have x2:textLen (canonT f t)=textLen t:=by rw [e2,textLen_map]
 obtain ⟨k1,k2⟩:=canon_ok hf ht hl
 have w1:validItems (canonS f t)=0:=gen_valid v1 (by omega) (by omega)
 have w2:validItems (canonT f t)=0:=gen_valid v2 (by omega) (by omega)
 have hne':(canonS f t).length≠0:=by rw [l1];exact fun h=>hne (List.eq_nil_of_length_eq_zero h)
 have hco:canonOk ⟨canonS f t,canonT f t,p,n,a,r,c,o⟩=true:=by
  simp only [canonOk,k1,k2,itsEq_iff.2 rfl,Bool.and_true,Bool.not_eq_true',beq_eq_false_iff_ne,ne_eq]
  exact hne'
 refine ⟨?_,by simp only [l1];exact f1,by simp only [x1];exact f2,by simp only [l2];exact t1,by simp only [x2];exact t2,(ctx_ok p hp).2,(ctx_ok n hn).2,(names_ok a ha).2,(names_ok r hr).2⟩
 simp only [entryErr,w1,w2,hco,(ctx_ok p hp).1,(ctx_ok n hn).1,(names_ok a ha).1,(names_ok r hr).1,ne_eq,not_true,if_false,Bool.and_self,Bool.true_eq_false]
 rw [if_neg (by omega)]
theorem GenEn.small {e:En} (h:GenEn e):e.small:=by
 have:=asked_source h.ok
 have h1:=h.srcLen
 have h2:=h.srcText
 have h3:=h.tgtLen
 have h4:=h.tgtText
 have h5:=h.prev
 have h6:=h.next
 refine ⟨by omega,by omega,by omega,by omega,by omega,by omega,fun x hx=>?_⟩
 rcases List.mem_append.1 hx with hx | hx
 ·have:=valid_ids this.1 x hx;omega
 ·have:=valid_ids this.2 x hx;omega
structure GenOp (o:Opr):Prop where
 ok:opErr o=0
 src:itemsErr [] o.entry.source=0
 srcLen:o.entry.source.length≤40
 srcText:textLen o.entry.source≤400
 small:o.small
 tgtLen:o.entry.target.length≤100
 tgtText:textLen o.entry.target≤1200
 ctx:o.entry.previous.length≤7∧o.entry.next.length≤7∧o.entry.author.length≤3∧o.entry.project.length≤3
def bareOf (e:En):En:=⟨e.source,[],e.previous,e.next,[],[],0,0⟩
theorem GenEn.items {e:En} (h:GenEn e):itemsErr [] e.source=0:=by
 have h1:=(asked_source h.ok).1
 simp only [validItems] at h1
 split at h1
 ·simp at h1
 ·exact h1
theorem seen_ok:∀ (i j k:Fin 3) (f:Fin 3),let v:List Int:=[((i.val:Nat):Int),((j.val:Nat):Int),((k.val:Nat):Int)]
  vTrim (vTrim v)=vTrim v∧(vTrim v).any (fun n=>decide (128<n))=false∧vAt (vTrim v) f.val=v.getD f.val 0∧(vTrim v).length≤3:=by decide +kernel
theorem seen_ok' {v:List Int} (hv:∃ x y z:Int,v=[x,y,z]∧(0≤x∧x<3)∧(0≤y∧y<3)∧(0≤z∧z<3)) {f:Int} (hf:0≤f∧f<3) :
  vTrim (vTrim v)=vTrim v∧(vTrim v).any (fun n=>decide (128<n))=false∧vAt (vTrim v) f=v.getD f.toNat 0∧(vTrim v).length≤3:=by
 obtain ⟨x,y,z,rfl,hx,hy,hz⟩:=hv
 have:=seen_ok ⟨x.toNat,by omega⟩ ⟨y.toNat,by omega⟩ ⟨z.toNat,by omega⟩ ⟨f.toNat,by omega⟩
 simp only at this
 rw [show ((x.toNat:Nat):Int)=x by omega,show ((y.toNat:Nat):Int)=y by omega,show ((z.toNat:Nat):Int)=z by omega,show ((f.toNat:Nat):Int)=f by omega] at this
 exact this
theorem gen_op {e:En} (h:GenEn e) {t f n k:Int} {v:List Int} (ht:1≤t∧t≤1000) (hf:0≤f∧f<3) (hn:1≤n∧n≤3) (hv:∃ x y z:Int,v=[x,y,z]∧(0≤x∧x<3)∧(0≤y∧y<3)∧(0≤z∧z<3)) (hvn:v.getD f.toNat 0=n - 1) :
  GenOp ⟨⟨t,f,n⟩,1,e,vTrim v⟩∧GenOp ⟨⟨t,f,n⟩,2,bareOf e,vTrim v⟩:=by
 obtain ⟨s1,s2,s3,s4⟩:=seen_ok' hv hf
 have hst:stampOk ⟨t,f,n⟩=true:=by simp only [stampOk,decide_eq_true_eq];omega
 have hsm:=h.small
 have h7:=h.author
 have h8:=h.project
 constructor
 ·refine ⟨?_,h.items,h.srcLen,h.srcText,⟨hsm,by simp only;omega,by simp only;omega,by simp only;omega⟩,by have:=h.tgtLen;simp only;omega,by have:=h.tgtText;simp only;omega,h.prev,h.next,by simp only;omega,by simp only;omega⟩
  simp only [opErr,hst,s1,s2,s3,hvn,looked,Bool.true_eq_false,Bool.false_eq_true,if_false,ne_eq,not_true,or_false,false_and]
  simp [h.ok]
 ·have hb:bareEn (bareOf e)=true:=by simp [bareEn,bareOf]
  have ha:entryErr (asked (bareOf e))=0:=by rw [show asked (bareOf e)=asked e from rfl];exact asked_ok h.ok
  refine ⟨?_,h.items,h.srcLen,h.srcText,⟨⟨hsm.source,hsm.sourceT,by simp [bareOf],by simp [bareOf,textLen],hsm.previous,hsm.next,fun x hx=>hsm.ids x ?_⟩,by simp [bareOf],by simp [bareOf],by simp only;omega⟩,by simp [bareOf],by simp [bareOf,textLen],h.prev,h.next,by simp [bareOf],by simp [bareOf]⟩
  ·simp only [opErr,hst,s1,s2,s3,hvn,looked,hb,ha,Bool.true_eq_false,Bool.false_eq_true,if_false,ne_eq,not_true,or_false,and_false]
  ·simp only [bareOf,List.append_nil] at hx
   exact List.mem_append_left _ hx
theorem err_ids {f:List It} (h:itemsErr [] f=0):∀ x∈f,0≤x.id∧x.id≤999:=fun x hx=>fine_id (itemsErr_fine f [] h x hx)
def mixOp (o x:Opr) (t:List It):Opr:=⟨o.stamp,o.kind,⟨x.entry.source,t,x.entry.previous,x.entry.next,o.entry.author,o.entry.project,o.entry.created,o.entry.origin⟩,o.seen⟩
theorem mix_small {o x:Opr} (ho:GenOp o) (hx:GenOp x) {t:List It} (h1:t.length<2^30) (h2:textLen t<2^30) (h3:∀ y∈t,-9223372036854775808≤y.id∧y.id≤9223372036854775807):(mixOp o x t).small :=
 ⟨⟨hx.small.entry.source,hx.small.entry.sourceT,h1,h2,hx.small.entry.previous,hx.small.entry.next,fun y hy=>by
  rcases List.mem_append.1 hy with hy | hy
  ·have:=err_ids hx.src y hy;omega
  ·exact h3 y hy⟩,ho.small.author,ho.small.project,ho.small.seen⟩
theorem mix_gen {o x:Opr} (ho:GenOp o) (hx:GenOp x) {t:List It} (hs:(mixOp o x t).small) (h1:t.length≤100) (h2:textLen t≤1200) (h:opErr (mixOp o x t)=0):GenOp (mixOp o x t) :=
 ⟨h,hx.src,hx.srcLen,hx.srcText,hs,h1,h2,hx.ctx.1,hx.ctx.2.1,ho.ctx.2.2⟩
theorem fmt_text {f:List It} (h:itemsErr [] f=0):(format f).1.length≤4*textLen f+30*f.length:=by
 have hk:=itemsErr_fine f [] h
 have key:∀ f:List It,(∀ x∈f,itemFine none x=true)→(f.flatMap itemText).length≤4*textLen f+30*f.length:=by
  intro f
  induction f with
  | nil=>intro _;simp
  | cons x f ih =>
   intro h
   have h1:=ih fun y hy=>h y (by simp [hy])
   have h3:=fine_id (h x (by simp))
   have h2:=itemText_len x (by omega)
   simp only [List.flatMap_cons,List.length_append,textLen,List.length_cons]
   omega
 have:=key f hk
 simp only [format]
 split
 ·simp
 ·exact this
theorem gen_enc {o:Opr} (h:GenOp o):(encBody o).length≤60000:=by
 have h1:=fmt_text h.src
 have h2:=h.srcLen
 have h3:=h.srcText
 have h4:=h.tgtLen
 have h5:=h.tgtText
 have h6:=h.ctx
 have F:=op_facts h.ok
 have hsn:=F.seenLen
 have hfl:∀ l:List Int,(l.flatMap be2).length=2*l.length:=by
  intro l
  induction l with
  | nil=>rfl
  | cons a r ih=>simp only [List.flatMap_cons,List.length_append,be2_length,ih,List.length_cons];omega
 have h7:o.kind=1→(format o.entry.target).1.length≤8000:=by
  intro hk
  have e:looked o=o.entry:=by simp [looked,hk]
  have hl:=F.looked
  rw [e] at hl
  have hv:=(en_facts hl).target
  simp only [validItems] at hv
  split at hv
  ·simp at hv
  ·have:=fmt_text hv;omega
 simp only [encBody,encText,List.length_append,be4_length,be2_length,List.length_cons,List.length_nil,hfl]
 split
 ·have:=h7 (by assumption)
  simp only [List.length_append,be4_length,List.length_cons,List.length_nil];omega
 ·simp only [List.length_nil];omega
theorem ordNo_neg {a b:Opr}:ordNo a b<0↔a.stamp.office<b.stamp.office∨(a.stamp.office=b.stamp.office∧a.stamp.number<b.stamp.number):=by
 simp only [ordNo,orI,cmpI]
 (repeat' split)<;>omega
theorem ordNo_zero {a b:Opr}:ordNo a b=0↔a.stamp.office=b.stamp.office∧a.stamp.number=b.stamp.number:=by
 simp only [ordNo,orI,cmpI]
 (repeat' split)<;>omega
abbrev SortN (l:List Opr):Prop:=l.Pairwise fun a b=>ordNo a b<0
def idxN (l:List Opr) (x:Opr):Nat:=(l.takeWhile fun y=>decide (ordNo y x<0)).length
def insN (l:List Opr) (x:Opr):List Opr:=l.take (idxN l x)++x::l.drop (idxN l x)
theorem idxN_le (l:List Opr) (x:Opr):idxN l x≤l.length:=List.Sublist.length_le (List.takeWhile_sublist _)
theorem idxN_spec {l:List Opr} (h:SortN l) (x:Opr):∀ (k:Nat) (y:Opr),l[k]?=some y→(0≤ordNo y x↔idxN l x≤k):=by
 induction l with
 | nil=>intro k y h;simp at h
 | cons a l ih =>
  replace h:=List.pairwise_cons.1 h
  intro k y hk
  by_cases ha:ordNo a x<0
  ·have e:idxN (a::l) x=idxN l x+1:=by simp [idxN,List.takeWhile_cons,ha]
   cases k with
   | zero=>simp only [List.getElem?_cons_zero,Option.some.injEq] at hk;subst hk;omega
   | succ k =>
    have:=ih h.2 k y (by simpa using hk)
    omega
  ·have e:idxN (a::l) x=0:=by simp [idxN,List.takeWhile_cons,ha]
   rw [e]
   refine ⟨fun _=>Nat.zero_le _,fun _=>?_⟩
   cases k with
   | zero=>simp only [List.getElem?_cons_zero,Option.some.injEq] at hk;subst hk;omega
   | succ k =>
    have hy:y∈l:=List.mem_of_getElem? (by simpa using hk)
    have h1:=h.1 y hy
    refine Classical.byContradiction fun hn=>ha ?_
    have h2:ordNo y x<0:=by omega
    rw [ordNo_neg] at h1 h2 ⊢
    omega
theorem mem_insN {l:List Opr} {x y:Opr}:y∈insN l x↔y=x∨y∈l:=by
 have:y∈l↔y∈l.take (idxN l x)∨y∈l.drop (idxN l x):=by rw [← List.mem_append,List.take_append_drop]
 simp only [insN,List.mem_append,List.mem_cons,this]
 constructor
 ·rintro (h | h | h)
  ·exact .inr (.inl h)
  ·exact .inl h
  ·exact .inr (.inr h)
 ·rintro (h | h | h)
  ·exact .inr (.inl h)
  ·exact .inl h
  ·exact .inr (.inr h)
theorem insN_len (l:List Opr) (x:Opr):(insN l x).length=l.length+1:=by
 have:=idxN_le l x
 simp only [insN,List.length_append,List.length_take,List.length_cons,List.length_drop];omega
theorem insN_sort {l:List Opr} (h:SortN l) {x:Opr} (hx:∀ y∈l,ordNo y x≠0):SortN (insN l x):=by
 have hs:=idxN_spec h x
 refine List.pairwise_append.2 ?_
 rw [List.pairwise_cons]
 refine ⟨h.sublist (List.take_sublist _ _),⟨fun y hy=>?_,h.sublist (List.drop_sublist _ _)⟩,fun a ha b hb=>?_⟩
 ·obtain ⟨k,hk⟩:=List.mem_iff_getElem?.1 hy
  rw [List.getElem?_drop] at hk
  have h1:=(hs _ y hk).2 (by omega)
  have h2:=hx y (List.mem_of_mem_drop hy)
  have h3:¬ ordNo y x<0:=by omega
  rw [ordNo_neg] at h3 ⊢
  rw [ne_eq,ordNo_zero] at h2
  omega
 ·have h1:ordNo a x<0:=by
   obtain ⟨k,hk⟩:=List.mem_iff_getElem?.1 ha
   rw [List.getElem?_take] at hk
   split at hk
   ·have:=hs k a hk;omega
   ·cases hk
  rcases List.mem_cons.1 hb with rfl | hb
  ·exact h1
  ·obtain ⟨k,hk⟩:=List.mem_iff_getElem?.1 hb
   rw [List.getElem?_drop] at hk
   have h2:=(hs _ b hk).2 (by omega)
   have h3:¬ ordNo b x<0:=by omega
   rw [ordNo_neg] at h1 h3 ⊢
   omega
theorem sortN_ext:∀ {l m:List Opr},SortN l→SortN m→(∀ x,x∈l↔x∈m)→l=m
 | [],[],_,_,_=>rfl
 | [],b::m,_,_,h=>absurd ((h b).2 (by simp)) (by simp)
 | a::l,[],_,_,h=>absurd ((h a).1 (by simp)) (by simp)
 | a::l,b::m,h1,h2,h=>by
  replace h1:=List.pairwise_cons.1 h1
  replace h2:=List.pairwise_cons.1 h2
  have irr:∀ z:Opr,¬ ordNo z z<0:=fun z hz=>by rw [ordNo_neg] at hz;omega
  have e:a=b:=by
   rcases List.mem_cons.1 ((h a).1 (by simp)) with ha | ha
   ·exact ha
   ·rcases List.mem_cons.1 ((h b).2 (by simp)) with hb | hb
    ·exact hb.symm
    ·have h3:=h2.1 a ha
     have h4:=h1.1 b hb
     rw [ordNo_neg] at h3 h4
     omega
  subst e
  refine congrArg _ (sortN_ext h1.2 h2.2 fun x=>?_)
  constructor
  ·intro hx
   rcases List.mem_cons.1 ((h x).1 (by simp [hx])) with rfl | h3
   ·exact absurd (h1.1 x hx) (irr x)
   ·exact h3
  ·intro hx
   rcases List.mem_cons.1 ((h x).2 (by simp [hx])) with rfl | h3
   ·exact absurd (h2.1 x hx) (irr x)
   ·exact h3
theorem nodup_len {α:Type}:∀ {l m:List α},l.Nodup→(∀ x∈l,x∈m)→l.length≤m.length
 | [],_,_,_=>Nat.zero_le _
 | a::l,m,hn,h=>by
  rw [List.nodup_cons] at hn
  obtain ⟨s,t,rfl⟩:=List.append_of_mem (h a (by simp))
  have:=nodup_len (m:=s++t) hn.2 fun x hx=>by
   have h1:=h x (by simp [hx])
   simp only [List.mem_append,List.mem_cons] at h1 ⊢
   rcases h1 with h1 | h1 | h1
   ·exact .inl h1
   ·subst h1;exact absurd hx hn.1
   ·exact .inr h1
  simp only [List.length_append,List.length_cons] at this ⊢
  omega
structure Pool (M:List Opr):Prop where
 gen:∀ x∈M,GenOp x
 off:∀ x∈M,x.stamp.office≠0
 one:∀ x∈M,∀ y∈M,ordNo x y=0→x=y
 len:M.length≤10
structure Recv (M:List Opr) (o:Off):Prop where
 num:o.number=0
 down:o.down=false
 sub:∀ x∈o.ops,x∈M
 sort:SortN o.ops
 top:∀ x∈o.ops,x.stamp.time≤o.clock
 clk:o.clock=0∨∃ x∈o.ops,o.clock=x.stamp.time
 log:o.log.length≤60008*o.ops.length
theorem op_time {x:Opr} (h:opErr x=0):1≤x.stamp.time∧0≤x.stamp.office∧x.stamp.number≤128:=by
 simp only [opErr] at h
 split at h
 ·simp at h
 ·rename_i hs
  simp only [stampOk,Bool.not_eq_false,decide_eq_true_eq] at hs
  omega
theorem ordNo_self (x:Opr):ordNo x x=0:=ordNo_zero.2 ⟨rfl,rfl⟩
theorem Recv.len {M:List Opr} {o:Off} (h:Recv M o):o.ops.length≤M.length:=by
 refine nodup_len ?_ h.sub
 refine h.sort.imp fun {a b} hab e=>?_
 subst e
 rw [ordNo_self] at hab
 omega
theorem Recv.small {M:List Opr} {o:Off} (hM:Pool M) (h:Recv M o):o.small:=by
 have h1:=h.len
 have h2:=hM.len
 have h3:=h.log
 exact ⟨fun x hx=>(hM.gen x (h.sub x hx)).small,by omega,by omega⟩
def recvO (o:Off) (x:Opr):Off:=if o.ops.any (fun y=>ordNo y x==0) then o else putOff o x (idxN o.ops x)
theorem known_iff {M:List Opr} {o:Off} (hM:Pool M) (h:Recv M o) {x:Opr} (hx:x∈M):o.ops.any (fun y=>ordNo y x==0)=true↔x∈o.ops:=by
 rw [List.any_eq_true]
 constructor
 ·rintro ⟨y,hy,he⟩
  have:=hM.one y (h.sub y hy) x hx (by simpa using he)
  exact this▸hy
 ·exact fun hx=>⟨x,hx,by simp [ordNo_self]⟩
theorem recv_ops {M:List Opr} {o:Off} (hM:Pool M) (h:Recv M o) {x y:Opr} (hx:x∈M):y∈(recvO o x).ops↔y=x∨y∈o.ops:=by
 by_cases hk:o.ops.any (fun y=>ordNo y x==0)=true
 ·rw [recvO,if_pos hk]
  have:=(known_iff hM h hx).1 hk
  exact ⟨.inr,fun h=>h.elim (fun e=>e▸this) id⟩
 ·rw [recvO,if_neg hk]
  exact mem_insN
theorem recv_inv {M:List Opr} {o:Off} (hM:Pool M) (h:Recv M o) {x:Opr} (hx:x∈M):Recv M (recvO o x):=by
 by_cases hk:o.ops.any (fun y=>ordNo y x==0)=true
 ·rw [recvO,if_pos hk];exact h
 ·rw [recvO,if_neg hk]
  have hn:x ∉ o.ops:=fun hh=>hk ((known_iff hM h hx).2 hh)
  have ht:=(op_time (hM.gen x hx).ok).1
  refine ⟨h.num,h.down,fun y hy=>?_,insN_sort h.sort fun y hy he=>hn (hM.one y (h.sub y hy) x hx he▸hy),fun y hy=>?_,?_,?_⟩
  ·rcases mem_insN.1 hy with rfl | hy
   ·exact hx
   ·exact h.sub y hy
  ·simp only [putOff]
   rcases mem_insN.1 hy with rfl | hy
   ·split<;>omega
   ·have:=h.top y hy
    split<;>omega
  ·right
   simp only [putOff]
   by_cases hc:o.clock<x.stamp.time
   ·rw [if_pos hc];exact ⟨x,mem_insN.2 (.inl rfl),rfl⟩
   ·rw [if_neg hc]
    rcases h.clk with h0 | ⟨y,hy,he⟩
    ·omega
    ·exact ⟨y,mem_insN.2 (.inr hy),he⟩
  ·have h1:=gen_enc (hM.gen x hx)
   have h2:=h.log
   have h3:=insN_len o.ops x
   simp only [insN,List.length_append] at h3
   simp only [putOff,List.length_append,recF_len]
   omega
theorem recv_all {M:List Opr} (hM:Pool M):∀ (xs:List Opr) {o:Off},Recv M o→(∀ x∈xs,x∈M)→Recv M (xs.foldl recvO o)∧∀ y,y∈(xs.foldl recvO o).ops↔y∈xs∨y∈o.ops
 | [],o,h,_=>⟨h,fun y=>by simp⟩
 | x::xs,o,h,hs=>by
  have hx:=hs x (by simp)
  have:=recv_all hM xs (recv_inv hM h hx) fun y hy=>hs y (by simp [hy])
  refine ⟨this.1,fun y=>?_⟩
  rw [List.foldl_cons,this.2,recv_ops hM h hx,List.mem_cons]
  constructor
  ·rintro (h | h | h)
   ·exact .inl (.inr h)
   ·exact .inl (.inl h)
   ·exact .inr h
  ·rintro ((h | h) | h)
   ·exact .inr (.inl h)
   ·exact .inl h
   ·exact .inr (.inr h)
theorem recv_same {M:List Opr} (hM:Pool M) {a b:Off} (ha:Recv M a) (hb:Recv M b) (h:∀ x,x∈a.ops↔x∈b.ops):a.ops=b.ops∧a.clock=b.clock:=by
 have e:=sortN_ext ha.sort hb.sort h
 refine ⟨e,?_⟩
 have pos:∀ {o:Off},Recv M o→0≤o.clock:=by
  intro o ho
  rcases ho.clk with h | ⟨x,hx,h⟩
  ·omega
  ·have:=(op_time (hM.gen x (ho.sub x hx)).ok).1;omega
 have le:∀ {o p:Off},Recv M o→Recv M p→o.ops=p.ops→o.clock≤p.clock:=by
  intro o p ho hp e
  rcases ho.clk with h | ⟨x,hx,h⟩
  ·have:=pos hp;omega
  ·rw [h];exact hp.top x (e▸hx)
 have h1:=le ha hb e
 have h2:=le hb ha e.symm
 omega
theorem idxN_at {l:List Opr} (h:SortN l) {x:Opr} (hx:x∈l):l[idxN l x]?=some x:=by
 obtain ⟨k,hk⟩:=List.mem_iff_getElem?.1 hx
 have h1:=(idxN_spec h x k x hk).1 (by rw [ordNo_self];exact Int.le_refl _)
 have hkl:=(List.getElem?_eq_some_iff.1 hk).1
 have e:idxN l x=k:=by
  refine Classical.byContradiction fun hne=>?_
  have hlt:idxN l x<k:=by omega
  have h2:l[idxN l x]?=some l[idxN l x]:=List.getElem?_eq_getElem (by omega)
  have h3:=(idxN_spec h x _ _ h2).2 (Nat.le_refl _)
  have h4:=List.pairwise_iff_getElem.1 h (idxN l x) k (by omega) hkl hlt
  have h5:l[k]=x:=by rw [List.getElem?_eq_getElem hkl] at hk;simpa using hk
  rw [h5] at h4
  omega
 rw [e];exact hk
theorem opOrd_self (x:Opr):opOrd x x=0:=by
 have h:∀ l:List UInt8,cmpB l l=0:=by
  intro l
  induction l with
  | nil=>rfl
  | cons a l ih=>simp [cmpB,ih]
 simp [opOrd,orI,cmpI,h]
def sameNo (x y:Opr):Bool:=x.stamp.office==y.stamp.office&&x.stamp.number==y.stamp.number
def keepM (m:List Opr) (x:Opr):List Opr:=if x.stamp.office==0||m.any (sameNo x) then m else m++[x]
def poolOf (l:List Opr):List Opr:=l.foldl keepM []
theorem sameNo_iff {x y:Opr}:sameNo x y=true↔ordNo y x=0:=by
 rw [ordNo_zero]
 simp only [sameNo,Bool.and_eq_true,beq_iff_eq]
 exact ⟨fun h=>⟨h.1.symm,h.2.symm⟩,fun h=>⟨h.1.symm,h.2.symm⟩⟩
theorem keepM_len (m:List Opr) (x:Opr):(keepM m x).length≤m.length+1:=by
 unfold keepM;split<;>simp
theorem pool_nil:Pool []:=⟨by simp,by simp,by simp,by simp⟩
theorem pool_keep {m:List Opr} (h:Pool m) {x:Opr} (hx:GenOp x) (hl:m.length<10):Pool (keepM m x):=by
 unfold keepM
 by_cases hc:(x.stamp.office==0||m.any (sameNo x))=true
 ·rw [if_pos hc];exact h
 ·rw [if_neg hc]
  rw [Bool.or_eq_true,not_or] at hc
  have h1:x.stamp.office≠0:=by simpa using hc.1
  have h2:∀ y∈m,ordNo y x≠0:=fun y hy he=>hc.2 (List.any_eq_true.2 ⟨y,hy,sameNo_iff.2 he⟩)
  have sym:∀ a b:Opr,ordNo a b=0→ordNo b a=0:=fun a b e=>by
   rw [ordNo_zero] at e ⊢;exact ⟨e.1.symm,e.2.symm⟩
  refine ⟨fun y hy=>?_,fun y hy=>?_,fun y hy z hz e=>?_,by simp;omega⟩
  ·rcases List.mem_append.1 hy with hy | hy
   ·exact h.gen y hy
   ·simp only [List.mem_singleton] at hy;exact hy▸hx
  ·rcases List.mem_append.1 hy with hy | hy
   ·exact h.off y hy
   ·simp only [List.mem_singleton] at hy;exact hy▸h1
  ·rcases List.mem_append.1 hy with h3 | h3<;>rcases List.mem_append.1 hz with h4 | h4
   ·exact h.one y h3 z h4 e
   ·simp only [List.mem_singleton] at h4;subst h4;exact absurd e (h2 y h3)
   ·simp only [List.mem_singleton] at h3;subst h3;exact absurd (sym _ _ e) (h2 z h4)
   ·simp only [List.mem_singleton] at h3 h4;rw [h3,h4]
theorem pool_of {l:List Opr} (h:∀ x∈l,GenOp x) (hl:l.length≤10):Pool (poolOf l):=by
 have key:∀ (r m:List Opr),Pool m→(∀ x∈r,GenOp x)→m.length+r.length≤10→Pool (r.foldl keepM m):=by
  intro r
  induction r with
  | nil=>intro m h1 _ _;exact h1
  | cons x r ih =>
   intro m h1 h2 h3
   simp only [List.length_cons] at h3
   have:=keepM_len m x
   exact ih _ (pool_keep h1 (h2 x (by simp)) (by omega)) (fun y hy=>h2 y (by simp [hy])) (by omega)
 exact key l [] pool_nil h (by simpa using hl)
def offZ:Off:=⟨0,0,[],[],0,false⟩
theorem recv_offZ (M:List Opr):Recv M offZ:=⟨rfl,rfl,by simp [offZ],by simp [offZ,SortN],by simp [offZ],.inl rfl,by simp [offZ]⟩
def picks (m:List Opr) (order:List Int):List Opr:=if m.length=0 then [] else order.map fun i=>m.getD (place i m.length).toNat zeroOp
theorem pick_mem {m:List Opr} (h:m.length≠0) (i:Int):m.getD (place i m.length).toNat zeroOp∈m:=by
 have h1:=place_range (x:=i) (n:=(m.length:Int)) (by omega)
 have h2:(place i m.length).toNat<m.length:=by omega
 rw [List.getD_eq_getElem?_getD,List.getElem?_eq_getElem h2]
 exact List.getElem_mem _
theorem picks_mem {m:List Opr} (order:List Int):∀ x∈picks m order,x∈m:=by
 intro x hx
 unfold picks at hx
 split at hx
 ·cases hx
 ·obtain ⟨i,_,rfl⟩:=List.mem_map.1 hx
  exact pick_mem (by assumption) i
theorem commute_same {m:List Opr} (hM:Pool m) (order:List Int) :
  let a:=m.foldl recvO offZ
  let b:=m.reverse.foldl recvO ((picks m order).foldl recvO offZ)
  Recv m a∧Recv m b∧a.ops=b.ops∧a.clock=b.clock:=by
 intro a b
 have ha:=recv_all hM m (recv_offZ m) fun x h=>h
 have hp:=recv_all hM (picks m order) (recv_offZ m) (picks_mem order)
 have hb:=recv_all hM m.reverse hp.1 fun x h=>by simpa using h
 refine ⟨ha.1,hb.1,?_⟩
 refine recv_same hM ha.1 hb.1 fun x=>?_
 rw [ha.2,hb.2,hp.2]
 have:=picks_mem (m:=m) order x
 simp only [offZ,List.not_mem_nil,or_false,List.mem_reverse]
 exact ⟨.inl,fun h=>h.elim id this⟩
def stEq (a b:Stamp):Bool:=a.time==b.time&&(a.office==b.office&&(a.number==b.number&&true))
theorem stEq_iff {a b:Stamp}:stEq a b=true↔a=b:=by
 obtain ⟨a1,a2,a3⟩:=a
 obtain ⟨b1,b2,b3⟩:=b
 simp [stEq]
def opEq (a b:Opr):Bool:=stEq a.stamp b.stamp&&a.kind==b.kind&&enEq a.entry b.entry&&a.seen==b.seen
theorem opEq_iff {a b:Opr}:opEq a b=true↔a=b:=by
 obtain ⟨a1,a2,a3,a4⟩:=a
 obtain ⟨b1,b2,b3,b4⟩:=b
 simp only [opEq,Bool.and_eq_true,stEq_iff,enEq_iff,beq_iff_eq,Opr.mk.injEq,and_assoc]
def opsEq:List Opr→List Opr→Bool
 | [],[]=>true
 | a::x,b::y=>opEq a b&&opsEq x y
 | _,_=>false
theorem opsEq_iff:∀ {a b:List Opr},opsEq a b=true↔a=b
 | [],[]=>by simp [opsEq]
 | a::x,b::y=>by simp [opsEq,opEq_iff,opsEq_iff (a:=x) (b:=y)]
 | [],b::y=>by simp [opsEq]
 | a::x,[]=>by simp [opsEq]
theorem opsEq_len:∀ {a b:List Opr},opsEq a b=true→a.length=b.length:=fun h=>by rw [opsEq_iff.1 h]
structure IsOrd {α:Type} (c:α→α→Int):Prop where
 anti:∀ a b,c b a = - c a b
 trans:∀ a b d,0≤c a b→0≤c b d→0≤c a d
theorem IsOrd.on {α β:Type} {c:β→β→Int} (h:IsOrd c) (f:α→β):IsOrd fun a b=>c (f a) (f b) :=
 ⟨fun _ _=>h.anti _ _,fun _ _ _=>h.trans _ _ _⟩
end Go.Bt

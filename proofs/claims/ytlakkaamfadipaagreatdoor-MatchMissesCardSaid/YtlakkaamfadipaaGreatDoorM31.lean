/- A part of a proof; the claim's last text says of what. -/
import Derived.Test.YtlakkaamfadipaaGreatDoorCards
import Derived.Test.YtlakkaamfadipaaGreatDoorTie
import Derived.WalkKit
import Derived.ProofKit
import Derived.OpenShut
import Derived.LaidMore
import Derived.Deep.DeepHandedRow
import Derived.Test.YtlakkaamfadipaaGreatDoorM15
set_option linter.all false
open Bool renaming true->A,false->Z
open Go.Proofs.Tryz renaming prog->θ

namespace Go.Proofs.Tryz
open Go Go.Pm Go.ChangeShapes Go.WideShapes Go.ChangeAt Go.RowKit Go.Proofs.YtlakkaamfadipaaGreatDoor
def own:ownKnob prog.godebug=none:=by kernel_rfl
def lv:List (String×DataW Unit):=[("math/bits.deBruijn32tab",Rows.laid_math_bits_deBruijn32tab),("math/bits.deBruijn64tab",Rows.laid_math_bits_deBruijn64tab),("internal/strconv.uint64pow10",Rows.laid_internal_strconv_uint64pow10)]
def aad:prog.globalNamed "internal/strconv.uint64pow10" = some 1:=by kernel_rfl
def Te:(prog.globals[1]?).map (·.type)=some 302:=by kernel_rfl
def Xn:prog.cellsOf 302=20:=by kernel_rfl
def Xm:prog.cellsOf 231=1:=by kernel_rfl
def OG{W:aT}(h:laidMetH θ lv W):Lib.TabIs θ W "internal/strconv.uint64pow10" .u64 Bk:=by
 have a:=laidMetH.filter (λx=>x.1 == "internal/strconv.uint64pow10") h;have e:lv.filter (λx=>x.1 == "internal/strconv.uint64pow10")=[("internal/strconv.uint64pow10",Lib.tabData .u64 Bk)]:=by rfl
 rw[e,MakeChecks.laidMetH_plain _ _ _ (by rfl)]at a;exact Lib.tabIs_of_head (rest:=[]) aad Te underlying302 underlying231 Xm Xn a
def UQ{W:aT}(p:laidMetH θ lv W){f:Nat}{a:ao}{d:Array Value}{μ:Mem}(h:bO θ f a [] (.b A))(n:Uw W [] μ a d): Calls θ f d W λe q=>e=.returned (.bool A)/\Below W.heap.size W q:=by
 have k:=OG p;have m:1<W.heap.size:=World.block_lt_of_cell? W _ (k.cell aad 0 (by decide));have o:gU θ W.heap.size W W [] μ:=by refine⟨⟨Below.refl _ _,λt j g l=>?_⟩,ax _,by simp,by simp⟩;simp only[UJ,bE,fK,vA]at j;subst j;obtain rfl:=iE (aad.symm.trans l);exact⟨m,k⟩
 refine(h W.heap.size W W μ d o n).mono ?_;rintro e u ⟨r,v,w,s,rfl,⟨rfl,rfl⟩,c,i,_⟩;exact⟨by rw[i.oR],c.below.toBelow⟩
def laidOut:laidOutB θ=A:=by kernel_rfl
def Dd{H:Type}{d:TypeId×Value->H}{W k:aT}(m:Below W.heap.size W k):∀{a:List TypeId} {f:List Value} {g:List (DataW H)} {c:List MemPlace},(a.all λt=>prog.readableRec t&&decide (t<prog.types.size))=A ->DataW.TrodAll d θ W 0 (λ_=>A) A a f g c->(∀x∈c,x.block<W.heap.size)->DataW.TrodAll d θ k 0 (λb=>decide (b<W.heap.size)) A a f g c:=by
 intro a;induction a with
 |nil =>intro f g c _ h _;obtain⟨rfl,rfl,rfl⟩:=trodAll_nil h;exact trodAll_mk0
 |cons t a ih =>intro f g c e h j;simp only[jJ,aP,a7]at e;obtain⟨u,p,r,n,s,q,rfl,rfl,rfl,l,o⟩:=trodAll_cons h;exact trodAll_cons_mk (Below.trod laidOut e.1.1 e.1.2 l m λx i=>j x (by simp[i])) (ih e.2 o λx i=>j x (by simp[i]))
def OI{H:Type}{a:TypeId×Value->H}{f:Func}{s:ChangeSpec}{W i:aT}{args:Array Value}{b k:List (DataW H)}{before:List MemPlace}(j:s.vars=[])(m:f.resultTypes=#[4]) (n:(f.params.toList.all λt=>prog.readableRec t&&decide (t<prog.types.size))=A) (hW:DataW.Whole a θ f.params.toList s.vars Z W args.toList b k before) (c:s.fn H (b++k)={ results:=[.lit (.bool A)],args:=b }) (g:Below W.heap.size W i):s.post a θ f Z A Z Z W args (.bool A) i:=by
 have o:∀x∈before,x.block<W.heap.size:=λx e=>hW.lt x e;have d:=hW;obtain⟨p,q,r,l,rfl,_,_⟩:=hW;rw[j]at l;obtain⟨rfl,rfl⟩:=trodVars_none l;refine⟨b,[],p++[],[],p,[],d,?_,?_,?_,g.frame _,λh=>by cases h⟩;.rw[c,m];exact trodAll_cons_mk (shut_bool underlying4 _) trodAll_mk0
 .rw[c];exact Dd g n r λx e=>o x (by simp[e])
 rw[c,j];exact rfl
def Sc(os:Os)(a:Array Value):laidMetH θ lv ((World.doorLaid θ 400 os).forCall (λ_ _=>0) ⟨#[],a,[]⟩).memory :=laidMetH_of_parts3 (fuel:=8) (laidMet_of_run' 8 (by kernel_rfl) (by kernel_rfl)) (by kernel_rfl) (by kernel_rfl)
end Go.Proofs.Tryz

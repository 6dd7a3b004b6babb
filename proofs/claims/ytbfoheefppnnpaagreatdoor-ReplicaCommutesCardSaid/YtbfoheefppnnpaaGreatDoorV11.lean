/- A part of the proof of the statement of the last text of this claim: for every two lists of integers ReplicaCommutes returns true and leaves the memory as it was. -/
import Derived.Test.YtbfoheefppnnpaaGreatDoorV10
set_option linter.all false

namespace Go.Pm
open Go Go.RowKit
def Rnd (n:Nat) (P:Program) (c:PCode) (K:Exit→St→Prop):Nat→St→Prop
 | 0,_=>False
 | N+1,st=>PWc n P c (fun e=>match e with
  | .normal=>Rnd n P c K N
  | e=>K e) st
theorem PWc.rnd {n:Nat} {P:Program} {c:PCode} {K:Exit→St→Prop} {st:St} (N:Nat) (h:Rnd n P c K N st):PWc n P (.loop c) K st:=by
 intro code hc
 cases code
 case loop c' =>
  simp only [cCode,Option.map_eq_some_iff,PCode.loop.injEq] at hc
  obtain ⟨c2,hc2,rfl⟩:=hc
  intro B w0 w μ a hs hf
  refine wp_loop_bounded N (fun k a2 w2=>∃ st2 μ2,Rnd n P c2 K k st2∧Sim P B w0 w2 st2.σ μ2∧FR w2 st2.σ μ2 st2.fr a2∧KeepN n w st.σ μ w2 st2.σ μ2) ⟨st,μ,h,hs,hf,KeepN.refl _ _ _ _⟩ ?_
  rintro k a2 w2 ⟨st2,μ2,hI2,hs2,hf2,hk2⟩
  cases k with
  | zero=>exact hI2.elim
  | succ k =>
   refine wp_mono (hI2 c' hc2 B w0 w2 μ2 a2 hs2 hf2) ?_
   rintro e a' w' ⟨st',μ',hK,hs',hf',hk⟩
   cases e with
   | normal=>exact ⟨k,Nat.lt_succ_self k,st',μ',hK,hs',hf',hk2.trans hk⟩
   | exit id=>exact ⟨st',μ',hK,hs',hf',hk2.trans hk⟩
   | goto l=>exact ⟨st',μ',hK,hs',hf',hk2.trans hk⟩
   | ret=>exact ⟨st',μ',hK,hs',hf',hk2.trans hk⟩
   | panic c=>exact ⟨st',μ',hK,hs',hf',hk2.trans hk⟩
   | outgrown=>exact ⟨st',μ',hK,hs',hf',hk2.trans hk⟩
 all_goals first | (exfalso;revert hc;simp only [cCode];try ((repeat' split)<;>simp);done) | (rename_i _ ops draw;exfalso;cases draw<;>simp only [cCode] at hc<;>first | (obtain ⟨_,_,_,h⟩:=cReg_some hc;simp at h;done) | (rcases cRegD_some hc with ⟨_,_,_,_,h,_⟩ | ⟨_,_,h,_⟩ | ⟨_,_,_,_,_,_,h,_⟩<;>simp at h;done))
def blkK (id:Nat) (K:Exit→St→Prop):Exit→St→Prop
 | .exit id'=>if id'=id then K .normal else K (.exit id')
 | e=>K e
def rndK (n:Nat) (P:Program) (c:PCode) (K:Exit→St→Prop) (N:Nat):Exit→St→Prop
 | .normal=>Rnd n P c K N
 | e=>K e
def seqK (k:St→Prop) (K:Exit→St→Prop):Exit→St→Prop
 | .normal=>k
 | e=>K e
def dregK (P:Program):PCode→(St→Prop)→St→Prop
 | .dreg ds last gs tail,k,st=>runD P ds last (runC P gs tail k) st
 | _,_,_=>False
theorem dregK_ex {P:Program} {c:PCode} {k:St→Prop} {st:St} (h:dregK P c k st):∃ ds last gs tail,c=.dreg ds last gs tail∧runD P ds last (runC P gs tail k) st:=by
 cases c with
 | dreg ds last gs tail=>exact ⟨ds,last,gs,tail,rfl,h⟩
 | _=>exact h.elim
def wpc (n:Nat) (P:Program):PCode→(Exit→St→Prop)→St→Prop
 | .skip,K,st=>K .normal st
 | .reg gs is,K,st=>runC P gs is (K .normal) st
 | .dreg ds last gs tail,K,st=>runD P ds last (runC P gs tail (K .normal)) st
 | .seq a b,K,st=>wpc n P a (seqK (wpc n P b K) K) st
 | .ite c a b,K,st=>match ev st.fr c with
  | .b x=>(x=true→wpc n P a K st)∧(x=false→wpc n P b K st)
  | _=>False
 | .block id c,K,st=>wpc n P c (blkK id K) st
 | .loop c,K,st=>PWc n P (.loop c) K st
 | .exit id,K,st=>K (.exit id) st
 | .ret,K,st=>K .ret st
 | .both a b,K,st=>dregK P a (K .normal) st∧dregK P b (K .normal) st
 | .dfl fls ds1 ds2 last gs tail,K,st=>runF P (bxOf fls) ds1 ds2 last (runC P gs tail (K .normal)) (setF st.σ.length fls st.fr) st.σ
theorem wpc_sound {n:Nat} {P:Program}:∀ {c:PCode} {K:Exit→St→Prop} {st:St},wpc n P c K st→PWc n P c K st
 | .skip,_,_,h=>PWc.skip h
 | .reg _ _,_,_,h=>PWc.reg h
 | .dreg _ _ _ _,_,_,h=>PWc.dreg h
 | .seq a b,K,st,h=>PWc.seq ((wpc_sound (c:=a) h).mono fun e st' hk=>by
   cases e with
   | normal=>exact wpc_sound (c:=b) hk
   | _=>exact hk)
 | .ite c a b,K,st,h=>by
  simp only [wpc] at h
  split at h
  ·rename_i x hx
   exact PWc.ite hx (fun hb=>wpc_sound (h.1 hb)) fun hb=>wpc_sound (h.2 hb)
  ·exact h.elim
 | .block id c,K,st,h=>PWc.block ((wpc_sound (c:=c) h).mono fun e st' hk=>by
   cases e with
   | exit id' =>
    simp only [blkK] at hk
    simp only [blockK]
    split at hk<;>rename_i h1<;>simp only [h1,if_true,if_false]<;>exact hk
   | _=>exact hk)
 | .loop _,_,_,h=>h
 | .exit _,_,_,h=>PWc.exit h
 | .ret,_,_,h=>PWc.ret h
 | .both _ _,_,_,h=>PWc.both (dregK_ex h.1) (dregK_ex h.2)
 | .dfl ..,_,_,h=>PWc.dfl h
theorem bxOf_nil:bxOf []=[]:=rfl
theorem bxOf_cons (d T:Nat) (zs:List V) (r:List (Nat×Nat×List V)):bxOf ((d,T,zs)::r)=.box T zs::bxOf r:=rfl
theorem deads_nil:deads []=[]:=rfl
theorem deads_cons (o:Ob) (r:List Ob):deads (o::r)=.dead::deads r:=rfl
theorem setF_nil (n:Nat) (fr:List V):setF n [] fr=fr:=rfl
theorem setF_cons (n d T:Nat) (zs:List V) (r:List (Nat×Nat×List V)) (fr:List V):setF n ((d,T,zs)::r) fr=setF (n+1) r (fr.set d (.ptr n 0)):=rfl
theorem rnd_succ {n:Nat} {P:Program} {c:PCode} {K:Exit→St→Prop} {N:Nat} {st:St} (h:wpc n P c (rndK n P c K N) st):Rnd n P c K (N+1) st:=by
 simp only [Rnd]
 exact (wpc_sound h).mono fun e st' hk=>by cases e<;>exact hk
theorem blkK_normal {id:Nat} {K:Exit→St→Prop}:blkK id K .normal=K .normal:=rfl
theorem blkK_ret {id:Nat} {K:Exit→St→Prop}:blkK id K .ret=K .ret:=rfl
theorem blkK_same {id:Nat} {K:Exit→St→Prop}:blkK id K (.exit id)=K .normal:=by simp only [blkK,if_true]
theorem blkK_exit {id id':Nat} {K:Exit→St→Prop}:blkK id K (.exit id')=if id'=id then K .normal else K (.exit id'):=rfl
theorem seqK_normal {k:St→Prop} {K:Exit→St→Prop}:seqK k K .normal=k:=rfl
theorem seqK_ret {k:St→Prop} {K:Exit→St→Prop}:seqK k K .ret=K .ret:=rfl
theorem seqK_exit {k:St→Prop} {K:Exit→St→Prop} {id:Nat}:seqK k K (.exit id)=K (.exit id):=rfl
def pI (r:Option (Prop×V)) (d:Option Nat) (K:St→Prop) (fr:List V) (σ:Store):Prop :=
 match r with
 | some (ob,v)=>ob∧K ⟨setd fr d v,σ⟩
 | none=>False
def xI (r:Option (Prop×V×Store)) (d:Option Nat) (K:St→Prop) (fr:List V):Prop :=
 match r with
 | some (ob,v,σ')=>ob∧K ⟨setd fr d v,σ'⟩
 | none=>False
def qI (r:Option (Prop×V)) (c:Bool) (d:Option Nat) (K:St→Prop) (fr:List V) (σ:Store):Prop :=
 match r with
 | some (ob,v)=>(c=true→ob)∧K ⟨setd fr d v,σ⟩
 | none=>False
theorem pI_some {ob:Prop} {v:V} {d:Option Nat} {K:St→Prop} {fr:List V} {σ:Store}:pI (some (ob,v)) d K fr σ=(ob∧K ⟨setd fr d v,σ⟩):=rfl
theorem xI_some {ob:Prop} {v:V} {d:Option Nat} {K:St→Prop} {fr:List V} {σ':Store}:xI (some (ob,v,σ')) d K fr=(ob∧K ⟨setd fr d v,σ'⟩):=rfl
theorem qI_some {ob:Prop} {v:V} {c:Bool} {d:Option Nat} {K:St→Prop} {fr:List V} {σ:Store}:qI (some (ob,v)) c d K fr σ=((c=true→ob)∧K ⟨setd fr d v,σ⟩):=rfl
theorem pI_eq {P:Program} {d:Option Nat} {i:I} {K:St→Prop} {fr:List V} {σ:Store} (hs:i.silent=true):gI P ⟨d,[],i⟩ K ⟨fr,σ⟩=pI (pexec fr σ i) d K fr σ:=by
 have hx:=xexec_silent (fr:=fr) (σ:=σ) hs
 simp only [gI]
 cases i<;>first | (simp [I.silent] at hs;done) | skip
 all_goals
  simp only [stepI,pI,hx]
  generalize pexec fr σ _=r
  cases r<;>rfl
theorem xI_eq {P:Program} {d:Option Nat} {i:I} {K:St→Prop} {fr:List V} {σ:Store} (hs:i.silent=false) (hc:∀ f args,i≠.call f args) (hv:∀ x args,i≠.callv x args):gI P ⟨d,[],i⟩ K ⟨fr,σ⟩=xI (xexec fr σ i) d K fr:=by
 have hp:pexec fr σ i=none:=by
  cases h:pexec fr σ i with
  | none=>rfl
  | some r=>rw [pexec_silent h] at hs;simp at hs
 simp only [gI]
 cases i<;>first | (simp [I.silent] at hs;done) | exact absurd rfl (hc _ _) | exact absurd rfl (hv _ _) | skip
 all_goals
  simp only [stepI,xI,hp]
  generalize xexec fr σ _=r
  cases r<;>rfl
theorem gI_mov {P:Program} {d:Option Nat} {K:St→Prop} {fr:List V} {σ:Store} {x:O}:gI P ⟨d,[],.mov x⟩ K ⟨fr,σ⟩=pI (pexec fr σ (.mov x)) d K fr σ:=pI_eq rfl
theorem gI_pick {P:Program} {d:Option Nat} {K:St→Prop} {fr:List V} {σ:Store} {c a b:O}:gI P ⟨d,[],.pick c a b⟩ K ⟨fr,σ⟩=pI (pexec fr σ (.pick c a b)) d K fr σ:=pI_eq rfl
theorem gI_build {P:Program} {d:Option Nat} {K:St→Prop} {fr:List V} {σ:Store} {zs:List V} {ps:List (Nat×Nat×O)}:gI P ⟨d,[],.build zs ps⟩ K ⟨fr,σ⟩=pI (pexec fr σ (.build zs ps)) d K fr σ:=pI_eq rfl
theorem gI_bslice {P:Program} {d:Option Nat} {K:St→Prop} {fr:List V} {σ:Store} {sz:Nat} {szs:List (Option Nat)} {xs:List O}:gI P ⟨d,[],.bslice sz szs xs⟩ K ⟨fr,σ⟩=pI (pexec fr σ (.bslice sz szs xs)) d K fr σ:=pI_eq rfl
theorem gI_load {P:Program} {d:Option Nat} {K:St→Prop} {fr:List V} {σ:Store} {k:Option Nat} {a:O}:gI P ⟨d,[],.load k a⟩ K ⟨fr,σ⟩=pI (pexec fr σ (.load k a)) d K fr σ:=pI_eq rfl
theorem gI_nilck {P:Program} {d:Option Nat} {K:St→Prop} {fr:List V} {σ:Store} {x:O}:gI P ⟨d,[],.nilck x⟩ K ⟨fr,σ⟩=pI (pexec fr σ (.nilck x)) d K fr σ:=pI_eq rfl
theorem gI_bin {P:Program} {d:Option Nat} {K:St→Prop} {fr:List V} {σ:Store} {op:BinOp} {x y:O}:gI P ⟨d,[],.bin op x y⟩ K ⟨fr,σ⟩=pI (pexec fr σ (.bin op x y)) d K fr σ:=pI_eq rfl
theorem gI_beq {P:Program} {d:Option Nat} {K:St→Prop} {fr:List V} {σ:Store} {neg:Bool} {ks:List Nat} {x y:O}:gI P ⟨d,[],.beq neg ks x y⟩ K ⟨fr,σ⟩=pI (pexec fr σ (.beq neg ks x y)) d K fr σ:=pI_eq rfl
theorem gI_bbq {P:Program} {d:Option Nat} {K:St→Prop} {fr:List V} {σ:Store} {neg:Bool} {x y:O}:gI P ⟨d,[],.bbq neg x y⟩ K ⟨fr,σ⟩=pI (pexec fr σ (.bbq neg x y)) d K fr σ:=pI_eq rfl
theorem gI_un {P:Program} {d:Option Nat} {K:St→Prop} {fr:List V} {σ:Store} {op:UnOp} {x:O}:gI P ⟨d,[],.un op x⟩ K ⟨fr,σ⟩=pI (pexec fr σ (.un op x)) d K fr σ:=pI_eq rfl
theorem gI_cvi {P:Program} {d:Option Nat} {K:St→Prop} {fr:List V} {σ:Store} {k:IntKind} {x:O}:gI P ⟨d,[],.cvi k x⟩ K ⟨fr,σ⟩=pI (pexec fr σ (.cvi k x)) d K fr σ:=pI_eq rfl
theorem gI_b2s {P:Program} {d:Option Nat} {K:St→Prop} {fr:List V} {σ:Store} {x:O}:gI P ⟨d,[],.b2s x⟩ K ⟨fr,σ⟩=pI (pexec fr σ (.b2s x)) d K fr σ:=pI_eq rfl
theorem gI_slice {P:Program} {d:Option Nat} {K:St→Prop} {fr:List V} {σ:Store} {sz:Nat} {x:O} {lo hi:Option O}:gI P ⟨d,[],.slice sz x lo hi⟩ K ⟨fr,σ⟩=pI (pexec fr σ (.slice sz x lo hi)) d K fr σ:=pI_eq rfl
theorem gI_sslice {P:Program} {d:Option Nat} {K:St→Prop} {fr:List V} {σ:Store} {x:O} {lo hi:Option O}:gI P ⟨d,[],.sslice x lo hi⟩ K ⟨fr,σ⟩=pI (pexec fr σ (.sslice x lo hi)) d K fr σ:=pI_eq rfl
theorem gI_fld {P:Program} {d:Option Nat} {K:St→Prop} {fr:List V} {σ:Store} {off:Nat} {x:O}:gI P ⟨d,[],.fld off x⟩ K ⟨fr,σ⟩=pI (pexec fr σ (.fld off x)) d K fr σ:=pI_eq rfl
theorem gI_idx {P:Program} {d:Option Nat} {K:St→Prop} {fr:List V} {σ:Store} {sz:Nat} {x i:O}:gI P ⟨d,[],.idx sz x i⟩ K ⟨fr,σ⟩=pI (pexec fr σ (.idx sz x i)) d K fr σ:=pI_eq rfl
theorem gI_sidx {P:Program} {d:Option Nat} {K:St→Prop} {fr:List V} {σ:Store} {x i:O}:gI P ⟨d,[],.sidx x i⟩ K ⟨fr,σ⟩=pI (pexec fr σ (.sidx x i)) d K fr σ:=pI_eq rfl
theorem gI_ext {P:Program} {d:Option Nat} {K:St→Prop} {fr:List V} {σ:Store} {k:Nat} {x:O}:gI P ⟨d,[],.ext k x⟩ K ⟨fr,σ⟩=pI (pexec fr σ (.ext k x)) d K fr σ:=pI_eq rfl
theorem gI_len {P:Program} {d:Option Nat} {K:St→Prop} {fr:List V} {σ:Store} {str:Bool} {x:O}:gI P ⟨d,[],.len str x⟩ K ⟨fr,σ⟩=pI (pexec fr σ (.len str x)) d K fr σ:=pI_eq rfl
theorem gI_max2 {P:Program} {d:Option Nat} {K:St→Prop} {fr:List V} {σ:Store} {x y:O}:gI P ⟨d,[],.max2 x y⟩ K ⟨fr,σ⟩=pI (pexec fr σ (.max2 x y)) d K fr σ:=pI_eq rfl
theorem gI_min2 {P:Program} {d:Option Nat} {K:St→Prop} {fr:List V} {σ:Store} {x y:O}:gI P ⟨d,[],.min2 x y⟩ K ⟨fr,σ⟩=pI (pexec fr σ (.min2 x y)) d K fr σ:=pI_eq rfl
theorem gI_look {P:Program} {d:Option Nat} {K:St→Prop} {fr:List V} {σ:Store} {kd:Nat} {z:V} {ok:Bool} {m k:O}:gI P ⟨d,[],.look kd z ok m k⟩ K ⟨fr,σ⟩=pI (pexec fr σ (.look kd z ok m k)) d K fr σ:=pI_eq rfl
theorem gI_mlen {P:Program} {d:Option Nat} {K:St→Prop} {fr:List V} {σ:Store} {x:O}:gI P ⟨d,[],.mlen x⟩ K ⟨fr,σ⟩=pI (pexec fr σ (.mlen x)) d K fr σ:=pI_eq rfl
theorem gI_box {P:Program} {d:Option Nat} {K:St→Prop} {fr:List V} {σ:Store} {T:Nat} {x:O}:gI P ⟨d,[],.box T x⟩ K ⟨fr,σ⟩=xI (xexec fr σ (.box T x)) d K fr:=xI_eq rfl (by simp) (by simp)
theorem gI_alloc {P:Program} {d:Option Nat} {K:St→Prop} {fr:List V} {σ:Store} {T:Nat} {zs:List V}:gI P ⟨d,[],.alloc T zs⟩ K ⟨fr,σ⟩=xI (xexec fr σ (.alloc T zs)) d K fr:=xI_eq rfl (by simp) (by simp)
theorem gI_store {P:Program} {d:Option Nat} {K:St→Prop} {fr:List V} {σ:Store} {k:Nat} {szs:List (Option Nat)} {a x:O}:gI P ⟨d,[],.store k szs a x⟩ K ⟨fr,σ⟩=xI (xexec fr σ (.store k szs a x)) d K fr:=xI_eq rfl (by simp) (by simp)
theorem gI_app {P:Program} {d:Option Nat} {K:St→Prop} {fr:List V} {σ:Store} {E sz by':Nat} {x y:O}:gI P ⟨d,[],.app E sz by' x y⟩ K ⟨fr,σ⟩=xI (xexec fr σ (.app E sz by' x y)) d K fr:=xI_eq rfl (by simp) (by simp)
theorem gI_apps {P:Program} {d:Option Nat} {K:St→Prop} {fr:List V} {σ:Store} {E:Nat} {x y:O}:gI P ⟨d,[],.apps E x y⟩ K ⟨fr,σ⟩=xI (xexec fr σ (.apps E x y)) d K fr:=xI_eq rfl (by simp) (by simp)
theorem gI_mk {P:Program} {d:Option Nat} {K:St→Prop} {fr:List V} {σ:Store} {E sz by':Nat} {zs:List V} {l c:O}:gI P ⟨d,[],.mk E sz by' zs l c⟩ K ⟨fr,σ⟩=xI (xexec fr σ (.mk E sz by' zs l c)) d K fr:=xI_eq rfl (by simp) (by simp)
theorem gI_bown {P:Program} {d:Option Nat} {K:St→Prop} {fr:List V} {σ:Store} {E sz by':Nat} {szs:List (Option Nat)} {xs:List O}:gI P ⟨d,[],.bown E sz by' szs xs⟩ K ⟨fr,σ⟩=xI (xexec fr σ (.bown E sz by' szs xs)) d K fr:=xI_eq rfl (by simp) (by simp)
theorem gI_mkmap {P:Program} {d:Option Nat} {K:St→Prop} {fr:List V} {σ:Store} {T E:Nat}:gI P ⟨d,[],.mkmap T E⟩ K ⟨fr,σ⟩=xI (xexec fr σ (.mkmap T E)) d K fr:=xI_eq rfl (by simp) (by simp)
theorem gI_mupd {P:Program} {d:Option Nat} {K:St→Prop} {fr:List V} {σ:Store} {kd:Nat} {szs:List (Option Nat)} {m k x:O}:gI P ⟨d,[],.mupd kd szs m k x⟩ K ⟨fr,σ⟩=xI (xexec fr σ (.mupd kd szs m k x)) d K fr:=xI_eq rfl (by simp) (by simp)
theorem gI_aidx {P:Program} {d:Option Nat} {K:St→Prop} {fr:List V} {σ:Store} {n sz:Nat} {x i:O}:gI P ⟨d,[],.aidx n sz x i⟩ K ⟨fr,σ⟩=pI (pexec fr σ (.aidx n sz x i)) d K fr σ:=pI_eq rfl
theorem gI_asl {P:Program} {d:Option Nat} {K:St→Prop} {fr:List V} {σ:Store} {n:Nat} {x:O}:gI P ⟨d,[],.asl n x⟩ K ⟨fr,σ⟩=pI (pexec fr σ (.asl n x)) d K fr σ:=pI_eq rfl
theorem gI_clo {P:Program} {d:Option Nat} {K:St→Prop} {fr:List V} {σ:Store} {f:Nat} {xs:List O}:gI P ⟨d,[],.clo f xs⟩ K ⟨fr,σ⟩=pI (pexec fr σ (.clo f xs)) d K fr σ:=pI_eq rfl
def gX (p:Pi) (r:Option Bool) (K:St→Prop) (fr:List V) (σ:Store):Prop :=
 match r with
 | none=>False
 | some c=>match p.i with
  | .load k a=>match ev fr a with
   | .ptr _ _=>qI (pexec fr σ (.load k a)) c p.d K fr σ
   | _=>∃ v,(c=true→∃ ob,pexec fr σ (.load k a)=some (ob,v)∧ob)∧K ⟨setd fr p.d v,σ⟩
  | i=>qI (pexec fr σ i) c p.d K fr σ
theorem gX_eq {P:Program} {p:Pi} {K:St→Prop} {fr:List V} {σ:Store} (hg:p.g≠[]) (hc:∀ f args,p.i≠.call f args):gI P p K ⟨fr,σ⟩=gX p (chainB fr p.g) K fr σ:=by
 obtain ⟨d,g,i⟩:=p
 cases g with
 | nil=>exact absurd rfl hg
 | cons q qs =>
  simp only [gI,gX]
  cases chainB fr (q::qs) with
  | none=>rfl
  | some c =>
   simp only [gstep]
   cases i<;>first | rfl | exact absurd rfl (hc _ _)
theorem gg_mov {P:Program} {d:Option Nat} {q:Nat×Bool} {qs:List (Nat×Bool)} {K:St→Prop} {fr:List V} {σ:Store} {x:O}:gI P ⟨d,q::qs,.mov x⟩ K ⟨fr,σ⟩=gX ⟨d,q::qs,.mov x⟩ (chainB fr (q::qs)) K fr σ:=gX_eq (by simp) (by simp)
theorem gg_pick {P:Program} {d:Option Nat} {q:Nat×Bool} {qs:List (Nat×Bool)} {K:St→Prop} {fr:List V} {σ:Store} {c a b:O}:gI P ⟨d,q::qs,.pick c a b⟩ K ⟨fr,σ⟩=gX ⟨d,q::qs,.pick c a b⟩ (chainB fr (q::qs)) K fr σ:=gX_eq (by simp) (by simp)
theorem gg_build {P:Program} {d:Option Nat} {q:Nat×Bool} {qs:List (Nat×Bool)} {K:St→Prop} {fr:List V} {σ:Store} {zs:List V} {ps:List (Nat×Nat×O)}:gI P ⟨d,q::qs,.build zs ps⟩ K ⟨fr,σ⟩=gX ⟨d,q::qs,.build zs ps⟩ (chainB fr (q::qs)) K fr σ:=gX_eq (by simp) (by simp)
theorem gg_bslice {P:Program} {d:Option Nat} {q:Nat×Bool} {qs:List (Nat×Bool)} {K:St→Prop} {fr:List V} {σ:Store} {sz:Nat} {szs:List (Option Nat)} {xs:List O}:gI P ⟨d,q::qs,.bslice sz szs xs⟩ K ⟨fr,σ⟩=gX ⟨d,q::qs,.bslice sz szs xs⟩ (chainB fr (q::qs)) K fr σ:=gX_eq (by simp) (by simp)
theorem gg_load {P:Program} {d:Option Nat} {q:Nat×Bool} {qs:List (Nat×Bool)} {K:St→Prop} {fr:List V} {σ:Store} {k:Option Nat} {a:O}:gI P ⟨d,q::qs,.load k a⟩ K ⟨fr,σ⟩=gX ⟨d,q::qs,.load k a⟩ (chainB fr (q::qs)) K fr σ:=gX_eq (by simp) (by simp)
theorem gg_nilck {P:Program} {d:Option Nat} {q:Nat×Bool} {qs:List (Nat×Bool)} {K:St→Prop} {fr:List V} {σ:Store} {x:O}:gI P ⟨d,q::qs,.nilck x⟩ K ⟨fr,σ⟩=gX ⟨d,q::qs,.nilck x⟩ (chainB fr (q::qs)) K fr σ:=gX_eq (by simp) (by simp)
theorem gg_bin {P:Program} {d:Option Nat} {q:Nat×Bool} {qs:List (Nat×Bool)} {K:St→Prop} {fr:List V} {σ:Store} {op:BinOp} {x y:O}:gI P ⟨d,q::qs,.bin op x y⟩ K ⟨fr,σ⟩=gX ⟨d,q::qs,.bin op x y⟩ (chainB fr (q::qs)) K fr σ:=gX_eq (by simp) (by simp)
theorem gg_beq {P:Program} {d:Option Nat} {q:Nat×Bool} {qs:List (Nat×Bool)} {K:St→Prop} {fr:List V} {σ:Store} {neg:Bool} {ks:List Nat} {x y:O}:gI P ⟨d,q::qs,.beq neg ks x y⟩ K ⟨fr,σ⟩=gX ⟨d,q::qs,.beq neg ks x y⟩ (chainB fr (q::qs)) K fr σ:=gX_eq (by simp) (by simp)
theorem gg_bbq {P:Program} {d:Option Nat} {q:Nat×Bool} {qs:List (Nat×Bool)} {K:St→Prop} {fr:List V} {σ:Store} {neg:Bool} {x y:O}:gI P ⟨d,q::qs,.bbq neg x y⟩ K ⟨fr,σ⟩=gX ⟨d,q::qs,.bbq neg x y⟩ (chainB fr (q::qs)) K fr σ:=gX_eq (by simp) (by simp)
theorem gg_un {P:Program} {d:Option Nat} {q:Nat×Bool} {qs:List (Nat×Bool)} {K:St→Prop} {fr:List V} {σ:Store} {op:UnOp} {x:O}:gI P ⟨d,q::qs,.un op x⟩ K ⟨fr,σ⟩=gX ⟨d,q::qs,.un op x⟩ (chainB fr (q::qs)) K fr σ:=gX_eq (by simp) (by simp)
theorem gg_cvi {P:Program} {d:Option Nat} {q:Nat×Bool} {qs:List (Nat×Bool)} {K:St→Prop} {fr:List V} {σ:Store} {k:IntKind} {x:O}:gI P ⟨d,q::qs,.cvi k x⟩ K ⟨fr,σ⟩=gX ⟨d,q::qs,.cvi k x⟩ (chainB fr (q::qs)) K fr σ:=gX_eq (by simp) (by simp)
theorem gg_b2s {P:Program} {d:Option Nat} {q:Nat×Bool} {qs:List (Nat×Bool)} {K:St→Prop} {fr:List V} {σ:Store} {x:O}:gI P ⟨d,q::qs,.b2s x⟩ K ⟨fr,σ⟩=gX ⟨d,q::qs,.b2s x⟩ (chainB fr (q::qs)) K fr σ:=gX_eq (by simp) (by simp)
theorem gg_slice {P:Program} {d:Option Nat} {q:Nat×Bool} {qs:List (Nat×Bool)} {K:St→Prop} {fr:List V} {σ:Store} {sz:Nat} {x:O} {lo hi:Option O}:gI P ⟨d,q::qs,.slice sz x lo hi⟩ K ⟨fr,σ⟩=gX ⟨d,q::qs,.slice sz x lo hi⟩ (chainB fr (q::qs)) K fr σ:=gX_eq (by simp) (by simp)
theorem gg_sslice {P:Program} {d:Option Nat} {q:Nat×Bool} {qs:List (Nat×Bool)} {K:St→Prop} {fr:List V} {σ:Store} {x:O} {lo hi:Option O}:gI P ⟨d,q::qs,.sslice x lo hi⟩ K ⟨fr,σ⟩=gX ⟨d,q::qs,.sslice x lo hi⟩ (chainB fr (q::qs)) K fr σ:=gX_eq (by simp) (by simp)
theorem gg_fld {P:Program} {d:Option Nat} {q:Nat×Bool} {qs:List (Nat×Bool)} {K:St→Prop} {fr:List V} {σ:Store} {off:Nat} {x:O}:gI P ⟨d,q::qs,.fld off x⟩ K ⟨fr,σ⟩=gX ⟨d,q::qs,.fld off x⟩ (chainB fr (q::qs)) K fr σ:=gX_eq (by simp) (by simp)
theorem gg_idx {P:Program} {d:Option Nat} {q:Nat×Bool} {qs:List (Nat×Bool)} {K:St→Prop} {fr:List V} {σ:Store} {sz:Nat} {x i:O}:gI P ⟨d,q::qs,.idx sz x i⟩ K ⟨fr,σ⟩=gX ⟨d,q::qs,.idx sz x i⟩ (chainB fr (q::qs)) K fr σ:=gX_eq (by simp) (by simp)
theorem gg_sidx {P:Program} {d:Option Nat} {q:Nat×Bool} {qs:List (Nat×Bool)} {K:St→Prop} {fr:List V} {σ:Store} {x i:O}:gI P ⟨d,q::qs,.sidx x i⟩ K ⟨fr,σ⟩=gX ⟨d,q::qs,.sidx x i⟩ (chainB fr (q::qs)) K fr σ:=gX_eq (by simp) (by simp)
theorem gg_ext {P:Program} {d:Option Nat} {q:Nat×Bool} {qs:List (Nat×Bool)} {K:St→Prop} {fr:List V} {σ:Store} {k:Nat} {x:O}:gI P ⟨d,q::qs,.ext k x⟩ K ⟨fr,σ⟩=gX ⟨d,q::qs,.ext k x⟩ (chainB fr (q::qs)) K fr σ:=gX_eq (by simp) (by simp)
theorem gg_len {P:Program} {d:Option Nat} {q:Nat×Bool} {qs:List (Nat×Bool)} {K:St→Prop} {fr:List V} {σ:Store} {str:Bool} {x:O}:gI P ⟨d,q::qs,.len str x⟩ K ⟨fr,σ⟩=gX ⟨d,q::qs,.len str x⟩ (chainB fr (q::qs)) K fr σ:=gX_eq (by simp) (by simp)
theorem gg_max2 {P:Program} {d:Option Nat} {q:Nat×Bool} {qs:List (Nat×Bool)} {K:St→Prop} {fr:List V} {σ:Store} {x y:O}:gI P ⟨d,q::qs,.max2 x y⟩ K ⟨fr,σ⟩=gX ⟨d,q::qs,.max2 x y⟩ (chainB fr (q::qs)) K fr σ:=gX_eq (by simp) (by simp)
theorem gg_min2 {P:Program} {d:Option Nat} {q:Nat×Bool} {qs:List (Nat×Bool)} {K:St→Prop} {fr:List V} {σ:Store} {x y:O}:gI P ⟨d,q::qs,.min2 x y⟩ K ⟨fr,σ⟩=gX ⟨d,q::qs,.min2 x y⟩ (chainB fr (q::qs)) K fr σ:=gX_eq (by simp) (by simp)
theorem gg_look {P:Program} {d:Option Nat} {q:Nat×Bool} {qs:List (Nat×Bool)} {K:St→Prop} {fr:List V} {σ:Store} {kd:Nat} {z:V} {ok:Bool} {m k:O}:gI P ⟨d,q::qs,.look kd z ok m k⟩ K ⟨fr,σ⟩=gX ⟨d,q::qs,.look kd z ok m k⟩ (chainB fr (q::qs)) K fr σ:=gX_eq (by simp) (by simp)
theorem gg_mlen {P:Program} {d:Option Nat} {q:Nat×Bool} {qs:List (Nat×Bool)} {K:St→Prop} {fr:List V} {σ:Store} {x:O}:gI P ⟨d,q::qs,.mlen x⟩ K ⟨fr,σ⟩=gX ⟨d,q::qs,.mlen x⟩ (chainB fr (q::qs)) K fr σ:=gX_eq (by simp) (by simp)
theorem call_eq {P:Program} {d:Option Nat} {f:Nat} {args:List O} {K:St→Prop} {fr:List V} {σ σ1:Store} {as:List V} {v:V} (h:PC P f as σ (fun r σ'=>r=v∧σ'=σ1)) (ha:args.map (ev fr)=as) (hK:K ⟨setd fr d v,σ1⟩) :
  gI P ⟨d,[],.call f args⟩ K ⟨fr,σ⟩:=by
 subst ha
 exact h.mono fun r σ' ⟨e1,e2⟩=>by subst e1;subst e2;exact hK
theorem callv_eq {P:Program} {d:Option Nat} {f:Nat} {x:O} {args:List O} {K:St→Prop} {fr caps:List V} {σ σ1:Store} {as:List V} {v:V} (hx:ev fr x=.fn f caps) (hf:okFn P f=true) (h:PC P f as σ (fun r σ'=>r=v∧σ'=σ1)) (ha:args.map (ev fr)++caps=as) (hK:K ⟨setd fr d v,σ1⟩) :
  gI P ⟨d,[],.callv x args⟩ K ⟨fr,σ⟩:=by
 subst ha
 simp only [gI,stepI,hx]
 exact ⟨hf,h.mono fun r σ' ⟨e1,e2⟩=>by subst e1;subst e2;exact hK⟩
theorem call_ex {P:Program} {d:Option Nat} {f:Nat} {args:List O} {K:St→Prop} {fr:List V} {σ:Store} {as:List V} {Q:V→Store→Prop} (h:PC P f as σ Q) (ha:args.map (ev fr)=as) (hK:∀ r σ',Q r σ'→K ⟨setd fr d r,σ'⟩) :
  gI P ⟨d,[],.call f args⟩ K ⟨fr,σ⟩:=by
 subst ha
 exact h.mono hK
theorem callg_eq {P:Program} {d:Option Nat} {q:Nat×Bool} {qs:List (Nat×Bool)} {f:Nat} {args:List O} {K:St→Prop} {fr:List V} {σ:Store} {as:List V} {v:V} {c:Bool} (hc:chainB fr (q::qs)=some c) (h:c=true→PC P f as σ (fun r σ'=>r=v∧σ'=σ)) (ha:args.map (ev fr)=as) (hK:K ⟨setd fr d v,σ⟩) :
  gI P ⟨d,q::qs,.call f args⟩ K ⟨fr,σ⟩:=by
 subst ha
 simp only [gI,hc,gstep]
 exact ⟨fun hc=>(h hc).mono fun r' σ' ⟨e1,e2⟩=>by subst e1;subst e2;exact hK,fun _=>⟨v,hK⟩⟩
theorem callg_ex {P:Program} {d:Option Nat} {q:Nat×Bool} {qs:List (Nat×Bool)} {f:Nat} {args:List O} {K:St→Prop} {fr:List V} {σ:Store} {as:List V} {Q:V→Store→Prop} {c:Bool} (hc:chainB fr (q::qs)=some c) (h:c=true→PC P f as σ Q) (ha:args.map (ev fr)=as)
  (hK:c=true→∀ r σ',Q r σ'→K ⟨setd fr d r,σ'⟩) (hN:c=false→∃ v,K ⟨setd fr d v,σ⟩):gI P ⟨d,q::qs,.call f args⟩ K ⟨fr,σ⟩:=by
 subst ha
 simp only [gI,hc,gstep]
 exact ⟨fun hc=>(h hc).mono (hK hc),hN⟩
def chkK (P:Program) (chk:List Pi) (ds:List (List Pi×Pi×List Pi)) (last:List Pi) (K:St→Prop) (st:St):Prop:=(∀ p∈chk,chkF p st)∧runD P ds last K st
def runJ (P:Program) (bx:List Ob) (chk:List Pi) (ds1 ds2:List (List Pi×Pi×List Pi)) (last:List Pi) (K:St→Prop) (τ:Store) (Xs:List Ob) (st:St):Prop:=(∀ p∈chk,chkF p st)∧st.σ=τ++Xs∧runF P bx ds1 ds2 last K st.fr τ
def silJ (P:Program) (bx:List Ob) (L:Pi) (chk:List Pi) (ds1 ds2:List (List Pi×Pi×List Pi)) (last:List Pi) (K:St→Prop) (τ:Store) (st:St):Prop:=allX bx fun Xs=>gI P L (runJ P bx chk ds1 ds2 last K τ Xs) ⟨st.fr,τ++Xs⟩
def silK (P:Program) (bx:List Ob) (L:Pi) (chk:List Pi) (ds:List (List Pi×Pi×List Pi)) (last:List Pi) (K:St→Prop) (τ:Store) (st:St):Prop:=gI P L (chkK P chk ds last K) ⟨st.fr,τ++bx⟩
def lastJ (K:St→Prop) (τ:Store) (st:St):Prop:=K ⟨st.fr,τ⟩
section
variable {P:Program} {bx:List Ob} {sil last:List Pi} {L:Pi} {chk:List Pi} {ds1 ds2:List (List Pi×Pi×List Pi)} {K:St→Prop} {fr:List V} {τ:Store}
theorem runF_nil:runF P bx [] [] last K fr τ=runC P [] last (lastJ K (τ++bx)) ⟨fr,τ++deads bx⟩:=rfl
theorem runF_late:runF P bx [] ((sil,L,chk)::ds2) last K fr τ=runC P [] sil (silK P bx L chk ds2 last K τ) ⟨fr,τ++deads bx⟩:=rfl
theorem runF_cons:runF P bx ((sil,L,chk)::ds1) ds2 last K fr τ=runC P [] sil (silJ P bx L chk ds1 ds2 last K τ) ⟨fr,τ++deads bx⟩:=by cases ds2<;>rfl
end
theorem runD_nil {P:Program} {last:List Pi} {K:St→Prop} {st:St}:runD P [] last K st=runC P [] last K st:=rfl
theorem runD_cons {P:Program} {sil:List Pi} {L:Pi} {chk:List Pi} {ds:List (List Pi×Pi×List Pi)} {last:List Pi} {K:St→Prop} {st:St} :
  runD P ((sil,L,chk)::ds) last K st=runC P [] sil (gI P L (chkK P chk ds last K)) st:=rfl
theorem runC_nil {P:Program} {gs:List Nat} {K:St→Prop} {fr:List V} {σ:Store}:runC P gs [] K ⟨fr,σ⟩=K ⟨clr gs fr,σ⟩:=rfl
theorem runC_cons {P:Program} {gs:List Nat} {p:Pi} {ps:List Pi} {K:St→Prop} {fr:List V} {σ:Store}:runC P gs (p::ps) K ⟨fr,σ⟩=gI P p (runC P gs ps K) ⟨fr,σ⟩:=rfl
theorem base_get0 {σ l:Store}:(σ++l)[σ.length]?=l[0]?:=by rw [List.getElem?_append_right (Nat.le_refl _),Nat.sub_self]
theorem base_get {σ l:Store} {k:Nat}:(σ++l)[σ.length+k]?=l[k]?:=by rw [List.getElem?_append_right (Nat.le_add_right _ _),Nat.add_sub_cancel_left]
theorem base_set0 {σ l:Store} {x:Ob}:(σ++l).set σ.length x=σ++l.set 0 x:=by rw [List.set_append_right _ _ (Nat.le_refl _),Nat.sub_self]
theorem base_set {σ l:Store} {k:Nat} {x:Ob}:(σ++l).set (σ.length+k) x=σ++l.set k x:=by
 rw [List.set_append_right _ _ (Nat.le_add_right _ _),Nat.add_sub_cancel_left]
theorem base_len {σ l:Store}:(σ++l).length=σ.length+l.length:=List.length_append
def fz1 (id g sz:Nat) (rows:List (List V)):V→V
 | .own id' g'=>if id'=id∧g'=g then .sl sz rows else .own id' g'
 | .sub id' g' lo hi=>if id'=id∧g'=g then .sl sz ((rows.drop lo).take (hi - lo)) else .sub id' g' lo hi
 | x=>x
def fz (id g sz:Nat) (rows:List (List V)):V→V
 | .agg xs=>.agg (xs.map (fz1 id g sz rows))
 | x=>fz1 id g sz rows x
theorem fz1_ok {P:Program} {B:Nat} {w0 w:World} {σ:Store} {μ:Mem} (hS:Sim P B w0 w σ μ) {id E sz by' g:Nat} {rows:List (List V)} (ho:σ[id]?=some (.row E sz by' g true rows)) {x:V} {v:Value} (h:VR w σ μ x v) :
  VR w σ μ (fz1 id g sz rows x) v:=by
 unfold fz1
 split
 ·split
  ·rename_i e
   obtain ⟨rfl,rfl⟩:=e
   rw [h.inv_own ho]
   have:=VR.ofShared hS ho 0 rows.length (by omega) (Nat.le_refl _)
   rw [subv_all hS ho] at this
   simpa using this
  ·exact h
 ·split
  ·rename_i e
   obtain ⟨rfl,rfl⟩:=e
   obtain ⟨h1,h2,h3⟩:=h.inv_sub ho
   rw [h3]
   exact VR.ofShared hS ho _ _ h1 h2
  ·exact h
 ·exact h
theorem fz_ok {P:Program} {B:Nat} {w0 w:World} {σ:Store} {μ:Mem} (hS:Sim P B w0 w σ μ) {id E sz by' g:Nat} {rows:List (List V)} (ho:σ[id]?=some (.row E sz by' g true rows)) {x:V} {v:Value} (h:VR w σ μ x v) :
  VR w σ μ (fz id g sz rows x) v:=by
 unfold fz
 split
 ·rename_i xs
  obtain ⟨vs,rfl,h1,h2⟩:=h.inv_agg
  refine .agg _ _ (by simpa using h1) fun i y hy=>?_
  rw [List.getElem?_map,Option.map_eq_some_iff] at hy
  obtain ⟨z,hz,rfl⟩:=hy
  exact fz1_ok hS ho (h2 i z hz)
 ·exact fz1_ok hS ho h
theorem Wk.fz {P:Program} {n:Nat} {xs:List V} {σ:Store} (id:Nat) {E sz by' g:Nat} {sh:Bool} {rows:List (List V)} (ho:σ[id]?=some (.row E sz by' g sh rows)) :
  Wk P n xs σ (xs.map (Pm.fz id g sz rows)) (σ.set id (.row E sz by' g true rows)):=by
 refine Wk.trans (Wk.share ho) ?_
 have hlt:id<σ.length:=(List.getElem?_eq_some_iff.1 ho).1
 intro B w0 w μ vs hS hC
 refine ⟨μ,hS,⟨by simp [hC.1],fun i y hy=>?_⟩,KeepN.refl _ _ _ _⟩
 rw [List.getElem?_map,Option.map_eq_some_iff] at hy
 obtain ⟨z,hz,rfl⟩:=hy
 exact fz_ok hS (by rw [List.getElem?_set_self hlt]) (hC.2 i z hz)
theorem Wk.one {P:Program} {n:Nat} {xs xs':List V} {σ σ':Store} (h:Wk P n xs σ xs' σ') (hl:xs'.length=xs.length):Wk P n [Pm.one xs] σ [Pm.one xs'] σ':=by
 intro B w0 w μ vs hS hC
 have h0:=hC.2 0 _ rfl
 have fin:∀ {w':World} {ys:List V} {us:Array Value} {μ':Mem},CR w' σ' μ' ys us→ys.length≠1→VR w' σ' μ' (Pm.one ys) (.tuple us):=by
  intro w' ys us μ' h1 h2
  match ys,h1,h2 with
  | [],h1,_=>exact .tup _ _ h1.1 h1.2
  | x::y::ys,h1,_=>exact .tup _ _ h1.1 h1.2
  | [x],_,h2=>exact absurd rfl h2
 by_cases h1:xs.length=1
 ·match xs,h1,h,hl,h0 with
  | [x],_,h,hl,h0 =>
   match xs',hl,h with
   | [x'],_,h =>
    exact h B w0 w μ vs hS ⟨hC.1,fun i y hy=>hC.2 i y hy⟩
 ·have hx:Pm.one xs=.tup xs:=by
   match xs,h1 with
   | [],_=>rfl
   | x::y::xs,_=>rfl
   | [x],h1=>exact absurd rfl h1
  rw [hx] at h0
  obtain ⟨us,hv,h2,h3⟩:=h0.inv_tup
  obtain ⟨μ',h4,h5,h6⟩:=h B w0 w μ us hS ⟨h2,h3⟩
  refine ⟨μ',h4,⟨hC.1,fun i y hy=>?_⟩,h6⟩
  cases i with
  | zero =>
   simp only [List.getElem?_cons_zero,Option.some.injEq] at hy
   subst hy
   rw [hv]
   exact fin h5 (by rw [hl];exact h1)
  | succ i=>simp at hy
theorem ret_wk {P:Program} {n:Nat} {rs:List Rs} {Q:V→Store→Prop} {e:Exit} {st:St} {xs xs':List V} {σ':Store} (he:e=.normal∨e=.ret) (hx:resVs st rs=some xs) (hw:Wk P n xs st.σ xs' σ') (hl:xs'.length=xs.length) (hQ:Q (one xs') σ') :
  retK P n rs Q e st:=⟨he,xs,hx,_,_,hw.one hl,hQ⟩
def AllLt (m:Nat):List V→Prop
 | []=>True
 | x::xs=>x.Lt m∧AllLt m xs
theorem allLt_iff {m:Nat}:∀ {xs:List V},AllLt m xs↔∀ (i:Nat) (x:V),xs[i]?=some x→x.Lt m
 | []=>by simp [AllLt]
 | y::xs=>by
  rw [AllLt,allLt_iff]
  constructor
  ·rintro ⟨h1,h2⟩ i x hx
   cases i with
   | zero=>simp only [List.getElem?_cons_zero,Option.some.injEq] at hx;subst hx;exact h1
   | succ i=>exact h2 i x (by simpa using hx)
  ·intro h
   exact ⟨h 0 y rfl,fun i x hx=>h (i+1) x (by simpa using hx)⟩
section
variable {m:Nat}
theorem lt_u:V.u.Lt m↔True:=⟨fun _=>trivial,fun _=>.u⟩
theorem lt_b {x}:(V.b x).Lt m↔True:=⟨fun _=>trivial,fun _=>.b _⟩
theorem lt_i {k a}:(V.i k a).Lt m↔True:=⟨fun _=>trivial,fun _=>.i _ _⟩
theorem lt_s {l}:(V.s l).Lt m↔True:=⟨fun _=>trivial,fun _=>.s _⟩
theorem lt_nil:V.nil.Lt m↔True:=⟨fun _=>trivial,fun _=>.nil⟩
theorem lt_lit {sz xs}:(V.lit sz xs).Lt m↔True:=⟨fun _=>trivial,fun _=>.lit _ _⟩
theorem lt_sl {sz xs}:(V.sl sz xs).Lt m↔True:=⟨fun _=>trivial,fun _=>.sl _ _⟩
theorem lt_ep {sz xs i o}:(V.ep sz xs i o).Lt m↔True:=⟨fun _=>trivial,fun _=>.ep _ _ _ _⟩
theorem lt_nilmap:V.nilmap.Lt m↔True:=⟨fun _=>trivial,fun _=>.nilmap⟩
theorem lt_nilptr:V.nilptr.Lt m↔True:=⟨fun _=>trivial,fun _=>.nilptr⟩
theorem lt_own {id g}:(V.own id g).Lt m↔id<m:=⟨fun h=>by cases h;assumption,fun h=>.own _ _ h⟩
theorem lt_sub {id g lo hi}:(V.sub id g lo hi).Lt m↔id<m:=⟨fun h=>by cases h;assumption,fun h=>.sub _ _ _ _ h⟩
theorem lt_ptr {id o}:(V.ptr id o).Lt m↔id<m:=⟨fun h=>by cases h;assumption,fun h=>.ptr _ _ h⟩
theorem lt_rp {id g i o}:(V.rp id g i o).Lt m↔id<m:=⟨fun h=>by cases h;assumption,fun h=>.rp _ _ _ _ h⟩
theorem lt_mp {id}:(V.mp id).Lt m↔id<m:=⟨fun h=>by cases h;assumption,fun h=>.mp _ h⟩
theorem lt_agg {xs}:(V.agg xs).Lt m↔AllLt m xs:=by
 rw [allLt_iff];exact ⟨fun h=>by cases h;assumption,fun h=>.agg _ h⟩
theorem lt_tup {xs}:(V.tup xs).Lt m↔AllLt m xs:=by
 rw [allLt_iff];exact ⟨fun h=>by cases h;assumption,fun h=>.tup _ h⟩
end
theorem Wk.end0 {P:Program} {xs:List V} {σ loc:Store} (hcl:Closed σ) (hx:AllLt σ.length xs):Wk P σ.length xs (σ++loc) xs σ:=Wk.drop0 (Nat.le_refl _) hcl (allLt_iff.1 hx)
theorem ret_end {P:Program} {rs:List Rs} {Q:V→Store→Prop} {e:Exit} {fr:List V} {σ loc:Store} {xs:List V} (hcl:Closed σ) (he:e=.normal∨e=.ret) (hx:resVs ⟨fr,σ++loc⟩ rs=some xs) (hl:AllLt σ.length xs) (hQ:Q (one xs) σ) :
  retK P σ.length rs Q e ⟨fr,σ++loc⟩:=ret_wk he hx (Wk.end0 hcl hl) rfl hQ
theorem ret_cvs {P:Program} {rs:List Rs} {Q:V→Store→Prop} {e:Exit} {fr:List V} {σ loc:Store} {xs ys:List V} (hcl:Closed σ) (he:e=.normal∨e=.ret) (hx:resVs ⟨fr,σ++loc⟩ rs=some xs) (hc:Cvs xs ys) (hl:AllLt σ.length ys) (hQ:Q (one ys) σ) :
  retK P σ.length rs Q e ⟨fr,σ++loc⟩:=ret_wk he hx ((Wk.cvs hc).trans (Wk.end0 hcl hl)) hc.at.1 hQ
end Go.Pm

/- A part of the proof of the statement of the last text of this claim: for every two lists of integers ReplicaCommutes returns true and leaves the memory as it was. -/
import Derived.WalkKit
import Derived.Laws.Externs
import Derived.Lib.Bytealg
import Derived.Test.YtbfoheefppnnpaaGreatDoorV14
import Derived.Test.YtbfoheefppnnpaaGreatDoorV17
set_option linter.all false

namespace Go.Proofs.Tryz
open Go Go.Pm Go.Bt Go.RowKit
theorem loadBytes_run {w:World}:∀ (l:List UInt8) (a:Addr) (acc:ByteArray),(∀ j x,l[j]?=some x→w.cell? (a.add j)=some (.int .u8 x.toNat)) →
  (Extern.Bytes.loadBytes a l.length acc).run Tryz.prog w=.ok ⟨(acc.data.toList++l).toArray⟩ w:=by
 intro l
 induction l with
 | nil=>intro a acc _;simp [Extern.Bytes.loadBytes]
 | cons c l ih =>
  intro a acc h
  have h0:=h 0 c rfl
  have ha:a.add 0=a:=by simp [Addr.add]
  rw [ha] at h0
  simp only [List.length_cons,Extern.Bytes.loadBytes,Sem.run_bind,run_load,h0,Result.andThen_ok]
  rw [ih (a.add 1) _ fun j x hj=>by
   have:=h (j+1) x (by simpa using hj)
   have e:(a.add 1).add j=a.add (j+1):=by
    unfold Addr.add
    by_cases hj:j=0
    ·subst hj;simp
    ·simp [hj];omega
   rw [e];exact this]
  congr 1
  simp
theorem bytes_run {w:World} {σ:Store} {μ:Mem} {l:List UInt8} {v:Value} (h:VR w σ μ (.sl 1 (bytesV l)) v):(Extern.Bytes.bytesOf v).run Tryz.prog w=.ok ⟨l.toArray⟩ w:=by
 generalize hx:V.sl 1 (bytesV l)=x at h
 cases h with
 | sl0 sz =>
  simp only [V.sl.injEq] at hx
  have:l=[]:=by have:=hx.2;simpa [bytesV] using this
  subst this
  rfl
 | sle sz a =>
  simp only [V.sl.injEq] at hx
  have:l=[]:=by have:=hx.2;simpa [bytesV] using this
  subst this
  rfl
 | sl sz xs b o cap f hlen hcap hrow hc hv =>
  simp only [V.sl.injEq] at hx
  obtain ⟨rfl,rfl⟩:=hx
  simp only [Extern.Bytes.bytesOf,bytesV_length]
  have:=loadBytes_run (w:=w) l ⟨b,o,none⟩ .empty fun j x hj=>by
   have hat:at2 (bytesV l) j 0=some (.i .u8 x.toNat):=by simp [at2,bytesV,hj]
   have h1:=(hc j 0 _ hat).1
   have h2:=(hv j 0 _ hat).inv_i
   rw [h2] at h1
   have e:(Addr.add ⟨b,o,none⟩ j)=⟨b,o+j,none⟩:=by
    unfold Addr.add
    by_cases hj:j=0
    ·subst hj;simp
    ·simp [hj]
   rw [e];simpa using h1
  rw [this];simp
 | _=>simp at hx
theorem compareBytes_eq:∀ (a b:List UInt8),Lib.compareBytes a b=cmpB a b:=by
 intro a
 induction a with
 | nil=>intro b;cases b<;>simp [Lib.compareBytes,cmpB]
 | cons x a ih=>intro b;cases b<;>simp [Lib.compareBytes,cmpB,ih]
theorem bytealgCompare_run {w:World} {σ:Store} {μ:Mem} {a b:List UInt8} {u v:Value} (hu:VR w σ μ (.sl 1 (bytesV a)) u) (hv:VR w σ μ (.sl 1 (bytesV b)) v) :
  (Extern.BytealgCompare.compare #[u,v]).run Tryz.prog w=.ok (.int .i64 (cmpB a b)) w:=by
 change Sem.run Tryz.prog (do pure (goInt (Extern.BytealgCompare.cmp (← Extern.Bytes.bytesOf u) (← Extern.Bytes.bytesOf v)))) w=_
 simp only [Sem.run_bind,Sem.run_pure,bytes_run hu,bytes_run hv,Result.andThen_ok]
 rw [Lib.cmp_eq,compareBytes_eq]
 rfl
set_option maxRecDepth 100000 in
set_option maxHeartbeats 1000000 in
theorem bytesCompare_calls {w:World} {σ:Store} {μ:Mem} {a b:List UInt8} {u v:Value} (hu:VR w σ μ (.sl 1 (bytesV a)) u) (hv:VR w σ μ (.sl 1 (bytesV b)) v) :
  Calls Tryz.prog 58 #[u,v] w fun e w'=>e=.returned (.int .i64 (cmpB a b))∧w'=w:=by
 go_enter Tryz.func58,Tryz.ntmps58
 go_wp2
 rw [run_callFunc_extern Tryz.func91 (by kernel_rfl) (by kernel_rfl) (by kernel_rfl) (e:=Extern.BytealgCompare.compare) (by kernel_rfl),bytealgCompare_run hu hv]
 simp only [Result.andThen]
 rw [Oper.upon_value]
 go_wp2
 go_ret
 exact ⟨rfl,rfl⟩
theorem bytesCompare_pc (a b:List UInt8) (σ:Store):PC Tryz.prog 58 [.sl 1 (bytesV a),.sl 1 (bytesV b)] σ (fun r σ'=>r=.i .i64 (cmpB a b)∧σ'=σ):=by
 refine PC.ofCalls fun w μ vs hv=>?_
 have h0:=hv.2 0 _ rfl
 have h1:=hv.2 1 _ rfl
 rw [vs2 hv.1]
 exact ⟨_,bytesCompare_calls h0 h1,.i _ _⟩
end Go.Proofs.Tryz

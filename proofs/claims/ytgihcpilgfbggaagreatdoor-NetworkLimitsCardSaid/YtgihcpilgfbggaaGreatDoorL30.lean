/- A part of the proof that for every input the law NetworkLimits returns true and leaves its argument as it was. -/
import Derived.WalkKit
import Derived.Laws.Externs
import Derived.Lib.Bytealg
import Derived.Test.YtgihcpilgfbggaaGreatDoorL16
import Derived.Test.YtgihcpilgfbggaaGreatDoorL20
set_option linter.all false

namespace Go.Proofs.Tryz
open Go Go.Pm Go.Bt Go.RowKit
theorem zd{w:World}:∀ (l:List UInt8) (a:Addr) (acc:ByteArray),(∀ j x,l[j]?=some x→w.cell? (a.add j)=some (.int .u8 x.toNat)) →
  (Extern.Bytes.loadBytes a l.length acc).run prog w=.ok ⟨(acc.data.toList++l).toArray⟩ w:=by
 intro l
 induction l with
 | nil=>intro a acc _;simp[Extern.Bytes.loadBytes]
 | cons c l ih =>
  intro a acc h;have h0:=h 0 c rfl;have ha:a.add 0=a:=by simp[Addr.add]
  rw[ha]at h0;simp only[ag,Extern.Bytes.loadBytes,Sem.run_bind,run_load,h0,Result.andThen_ok]
  rw[ih (a.add 1) _ fun j x hj=>by
   have:=h (j+1) x (by simpa using hj)
   have e:(a.add 1).add j=a.add (j+1):=by
    unfold Addr.add
    by_cases hj:j=0
    ·subst hj;simp
    ·simp[hj];omega
   rw[e];exact this]
  congr 1;simp
theorem AT{w:World}{σ:ah}{μ:Mem}{l:List UInt8}{v:Value}(h:VR w σ μ (.sl 1 (aQ l)) v):(Extern.Bytes.bytesOf v).run prog w=.ok ⟨l.toArray⟩ w:=by
 generalize hx:V.sl 1 (aQ l)=x at h;cases h with
 | zY sz =>
  simp only[V.sl.injEq]at hx;have:l=[]:=by have:=hx.2;simpa[aQ]using this
  subst this;rfl
 | sle sz a =>
  simp only[V.sl.injEq]at hx;have:l=[]:=by have:=hx.2;simpa[aQ]using this
  subst this;rfl
 | sl sz xs b o cap f hlen ku cm hc hv =>
  simp only[V.sl.injEq]at hx;obtain⟨rfl,rfl⟩:=hx;simp only[Extern.Bytes.bytesOf,bO]
  have:=zd (w:=w) l ⟨b,o,none⟩ .empty fun j x hj=>by
   have er:ft (aQ l) j 0=some (.i .u8 x.toNat):=by simp[ft,aQ,hj]
   have h1:=(hc j 0 _ er).1;have h2:=(hv j 0 _ er).gl;rw[h2]at h1
   have e:(Addr.add ⟨b,o,none⟩ j)=⟨b,o+j,none⟩:=by
    unfold Addr.add
    by_cases hj:j=0
    ·subst hj;simp
    ·simp[hj]
   rw[e];simpa using h1
  rw[this];simp
 | _=>simp at hx
theorem wa:∀ (a b:List UInt8),Lib.compareBytes a b=fa a b:=by
 intro a
 induction a with
 | nil=>intro b;cases b<;>simp[Lib.compareBytes,fa]
 | cons x a ih=>intro b;cases b<;>simp[Lib.compareBytes,fa,ih]
theorem sa{w:World}{σ:ah}{μ:Mem}{a b:List UInt8}{u v:Value}(hu:VR w σ μ (.sl 1 (aQ a)) u)(hv:VR w σ μ (.sl 1 (aQ b)) v):
  (Extern.BytealgCompare.compare #[u,v]).run prog w=.ok (.int .i64 (fa a b)) w:=by
 change Sem.run prog (do pure (goInt (Extern.BytealgCompare.cmp (← Extern.Bytes.bytesOf u) (← Extern.Bytes.bytesOf v)))) w=_;simp only[Sem.run_bind,Sem.run_pure,AT hu,AT hv,Result.andThen_ok];rw[Lib.cmp_eq,wa];rfl
set_option maxRecDepth 100000 in
set_option maxHeartbeats 1000000 in
theorem r9{w:World}{σ:ah}{μ:Mem}{a b:List UInt8}{u v:Value}(hu:VR w σ μ (.sl 1 (aQ a)) u)(hv:VR w σ μ (.sl 1 (aQ b)) v):
  Calls prog 98 #[u,v] w fun e w'=>e=.returned (.int .i64 (fa a b))∧w'=w:=by
 go_enter func98,Tryz.ntmps98
 go_wp2
 rw[run_callFunc_extern func142 (by kernel_rfl) (by kernel_rfl) (by kernel_rfl) (e:=Extern.BytealgCompare.compare) (by kernel_rfl),sa hu hv];simp only[Result.andThen];rw[Oper.upon_value]
 go_wp2
 go_ret
 exact⟨rfl,rfl⟩
theorem wc(a b:List UInt8)(σ:ah):PC prog 98 [.sl 1 (aQ a),.sl 1 (aQ b)] σ (fun r σ'=>r=.i .i64 (fa a b)∧σ'=σ):=by
 refine PC.B7 fun w μ vs hv=>?_;have h0:=hv.2 0 _ rfl;have h1:=hv.2 1 _ rfl;rw[Yl hv.1];exact⟨_,r9 h0 h1,.i _ _⟩
end Go.Proofs.Tryz

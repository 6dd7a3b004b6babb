/- A part of the proof of the statement of the last text of this claim; its conditions stand there. -/
import Derived.WalkKit
import Derived.Laws.Externs
import Derived.Test.YtkkjfegefckehaaGreatDoorB16
import Derived.Test.YtkkjfegefckehaaGreatDoorB19
set_option linter.all false

namespace Go.Proofs.Tryz
open Go Go.Pm Go.Bt Go.RowKit
theorem EU{w:World}:∀ (l:List UInt8) (a:Addr) (acc:ByteArray),(∀ j x,l[j]?=some x→w.cell? (a.add j)=some (.int .u8 x.toNat)) →
  (Extern.Bytes.loadBytes a l.length acc).run prog w=.ok ⟨(acc.data.toList++l).toArray⟩ w:=by
 intro l
 induction l with
 | nil=>intro a acc _;simp[Extern.Bytes.loadBytes]
 | cons c l ih =>
  intro a acc h;have h0:=h 0 c rfl;have ha:a.add 0=a:=by simp[Addr.add]
  rw[ha]at h0;simp only[ab,Extern.Bytes.loadBytes,Sem.run_bind,run_load,h0,Result.andThen_ok]
  rw[ih (a.add 1) _ fun j x hj=>by
   have:=h (j+1) x (by simpa using hj)
   have e:(a.add 1).add j=a.add (j+1):=by
    unfold Addr.add
    by_cases hj:j=0
    ·subst hj;simp
    ·simp[hj];omega
   rw[e];exact this]
  congr 1;simp
theorem Gq{w:World}{σ:ag}{μ:Mem}{l:List UInt8}{v:Value}(h:VR w σ μ (.sl 1 (al l)) v):(Extern.Bytes.bytesOf v).run prog w=.ok ⟨l.toArray⟩ w:=by
 generalize hx:V.sl 1 (al l)=x at h;cases h with
 | yq sz =>
  simp only[V.sl.injEq]at hx;have:l=[]:=by have:=hx.2;simpa[al]using this
  subst this;rfl
 | sle sz a =>
  simp only[V.sl.injEq]at hx;have:l=[]:=by have:=hx.2;simpa[al]using this
  subst this;rfl
 | sl sz xs b o cap f hlen nI cP hc hv =>
  simp only[V.sl.injEq]at hx;obtain⟨rfl,rfl⟩:=hx;simp only[Extern.Bytes.bytesOf,aL]
  have:=EU (w:=w) l ⟨b,o,none⟩ .empty fun j x hj=>by
   have dY:fe (al l) j 0=some (.i .u8 x.toNat):=by simp[fe,al,hj]
   have h1:=(hc j 0 _ dY).1;have h2:=(hv j 0 _ dY).iP;rw[h2]at h1
   have e:(Addr.add ⟨b,o,none⟩ j)=⟨b,o+j,none⟩:=by
    unfold Addr.add
    by_cases hj:j=0
    ·subst hj;simp
    ·simp[hj]
   rw[e];simpa using h1
  rw[this];simp
 | _=>simp at hx
theorem BW:∀ (a b:List UInt8),Lib.compareBytes a b=fS a b:=by
 intro a
 induction a with
 | nil=>intro b;cases b<;>simp[Lib.compareBytes,fS]
 | cons x a ih=>intro b;cases b<;>simp[Lib.compareBytes,fS,ih]
theorem yb{w:World}{σ:ag}{μ:Mem}{a b:List UInt8}{u v:Value}(hu:VR w σ μ (.sl 1 (al a)) u)(hv:VR w σ μ (.sl 1 (al b)) v):
  (Extern.BytealgCompare.compare #[u,v]).run prog w=.ok (.int .i64 (fS a b)) w:=by
 change Sem.run prog (do pure (goInt (Extern.BytealgCompare.cmp (← Extern.Bytes.bytesOf u) (← Extern.Bytes.bytesOf v)))) w=_;simp only[Sem.run_bind,Sem.run_pure,Gq hu,Gq hv,Result.andThen_ok];rw[Lib.cmp_eq,BW];rfl
set_option maxRecDepth 100000 in
set_option maxHeartbeats 1000000 in
theorem ya{w:World}{σ:ag}{μ:Mem}{a b:List UInt8}{u v:Value}(hu:VR w σ μ (.sl 1 (al a)) u)(hv:VR w σ μ (.sl 1 (al b)) v):
  Calls prog 114 #[u,v] w fun e w'=>e=.returned (.int .i64 (fS a b))∧w'=w:=by
 go_enter func114,Tryz.ntmps114
 go_wp2
 rw[run_callFunc_extern func173 (by kernel_rfl) (by kernel_rfl) (by kernel_rfl) (e:=Extern.BytealgCompare.compare) (by kernel_rfl),yb hu hv];simp only[Result.andThen];rw[Oper.upon_value]
 go_wp2
 go_ret
 exact⟨rfl,rfl⟩
theorem BX(a b:List UInt8)(σ:ag):PC prog 114 [.sl 1 (al a),.sl 1 (al b)] σ (fun r σ'=>r=.i .i64 (fS a b)∧σ'=σ):=by
 refine PC.B5 fun w μ vs hv=>?_;have h0:=hv.2 0 _ rfl;have h1:=hv.2 1 _ rfl;rw[vs2 hv.1];exact⟨_,ya h0 h1,.i _ _⟩
end Go.Proofs.Tryz

/- A part of a proof; the claim's last text says of what. -/
import Derived.Test.YtlakkaamfadipaaGreatDoorM5
import Derived.Test.YtlakkaamfadipaaGreatDoorM17
import Derived.Test.YtlakkaamfadipaaGreatDoorM21
import Derived.Test.YtlakkaamfadipaaGreatDoorM24
set_option linter.all false
set_option maxHeartbeats 2000000
open Option renaming some->N,none->Y
open List renaming length->F

namespace Go.Proofs.Tryz
open Go Go.Pm Go.Bt Go.RowKit
variable{U:Mem}{v:Value}{w:aT}{J:ag}{X:cD}
def IY:(prog.info? 61).map (λi=>(i.zero.map (λz=>z.cells.size),i.size,i.bytes))=N (N 3,3,32):=by kernel_rfl
def Rt{x:V}(h:VR w J U x v)(a:x.pure=true):v.oneCell'=true:=by cases h<;>first|rfl|simp[V.pure]at a
def UN{c:Nat}(B:0<c)(h:VR w J U (.sl c X) v): ((∃a,v=.slice a 0 0)/\X=[])\/∃b o m e,v=.slice (N ⟨b,o,Y⟩) (F X) m/\F X<=maxLen/\F e=F X*c/\(∀j u,e[j]?=N u->w.cell? ⟨b,o+j,Y⟩=N u)/\(∀u∈e,u.oneCell'=true)/\lp w J U X c e:=by
 generalize d:V.sl c X=x at h;cases h with
 |Dh p =>simp only[V.sl.injEq]at d;exact .inl ⟨⟨_,rfl⟩,d.2⟩
 |sle p a =>simp only[V.sl.injEq]at d;exact .inl ⟨⟨_,rfl⟩,d.2⟩
 |sl p Q b o m f n H z C G =>
  simp only[V.sl.injEq]at d;obtain⟨rfl,rfl⟩:=d;refine .inr ⟨b,o,m,(List.range (F X*c)).map λk=>f (k / c) (k % c),rfl,bX n H,by simp,λj u s=>?_,λu E=>?_,z,λi j x d=>?_⟩
  .rw[bu,al]at s;obtain⟨k,I,rfl⟩:=s;have D:=ab.1 I;simp only[List.length_range,List.getElem_range]at D;obtain⟨y,rfl⟩:=D;have l:j / c<F X:=nr (by rw[gE];exact y);have q:j % c<c:=vB _ B;have g:=z X[j / c] (cS l);have t:gp X (j / c) (j % c)=N (X[j / c][j % c]'(by rw[g];exact q)):=by simp[gp,l,g,q]
   have:=(C _ _ _ t).1;rwa [gB,Nat.div_add_mod']at this
  .rw[br]at E;obtain⟨j,s,rfl⟩:=E;rw[dt]at s;have l:j / c<F X:=nr (by rw[gE];exact s);have q:j % c<c:=vB _ B;have g:=z X[j / c] (cS l);have t:gp X (j / c) (j % c)=N (X[j / c][j % c]'(by rw[g];exact q)):=by simp[gp,l,g,q]
   exact Rt (G _ _ _ t) (C _ _ _ t).2.2
  have L:=C i j x d;have l:i<F X/\j<c:=by simp only[gp]at d;cases g:X[i]? with|none=>rw[g]at d;simp at d|some r =>rw[g]at d;have M:=(ab.1 g).1;have y:=(ab.1 (show r[j]?=N x from d)).1;rw[z r (bc g)]at y;exact⟨M,y⟩
  refine⟨L.2.2,f i j,?_,G i j x d⟩;have O:i*c+j<F X*c:=by have:(i+1)*c<=F X*c:=bL _ l.1;rw[cN,gN]at this;omega
  rw[bu,an (by simpa using O)];simp only[List.getElem_range,b5,aa];have P:(i*c+j) / c=i:=by rw[gE,Nat.mul_add_div B,Nat.div_eq_of_lt l.2];rfl
  have K:(i*c+j) % c=j:=by rw[gE,Nat.mul_add_mod,Af l.2]
  rw[P,K]
 |_=>simp at d
def GB{T n by':Nat}(h:(prog.info? T).map (λi=>(i.zero.map (λz=>z.cells.size),i.size,i.bytes))=N (N n,n,by')):∃i z,prog.info? T=N i/\i.zero=N z/\i.size=n/\i.bytes=by'/\z.cells.size=n:=by
 cases c:prog.info? T with
 |none=>rw[c]at h;simp at h
 |some i =>rw[c]at h;simp only[b5,aa,aB]at h;obtain⟨a,d,e⟩:=h;cases b:i.zero with|none=>rw[b]at a;simp at a|some z =>rw[b]at a;simp only[b5,aa]at a;exact⟨i,z,rfl,b,d,e,a⟩
set_option maxRecDepth 100000 in
def Jy{P:aM}{b:Shelf.Ren}(L:SlLaysE0.n41 P b)(d:TypeInfo)(z:Value)(size bytes:Nat)(C:P.info? (b.t 23)=N d)(l:d.zero=N z)(s:d.size=size)(B:d.bytes=bytes)(D:z.cells.size=size)(q:0<size) (x:∀w,(Go.sizeOf (b.t 23)).run P w=.ok size w) (a:Addr) (w:aT) :
  Calls P (b.f 41) #[.slice (N a) 0 0] w λe o=>∃h,e=.returned h/\o.ownsRow w.heap.size (b.t 23) size h 0 []/\Below w.heap.size w o:=by have mixed:=L.mixed;have J:=L.t4;have M:=L.a4;have K:=L.z4;have O:=L.v4;have g:=L.t22;have G:=L.a22;have p:=L.z22;have y:=L.v22;have v:∀(w:aT) (a:Option Addr) (n c i j:Nat),(binOp .eql (b.t 22) (.slice a n c) (.slice Y i j)).run P w=.ok (.bool a.isNone) w:=λw a n c i j=>Lib.run_eql_slice_nil w _ _ a n c i j L.t22;have E:∀w,Sem.run P (underlying (b.t 22)) w=.ok (TypeDesc.slice (b.t 23)) w:=run_underlying g;obtain⟨_,_,r⟩:=L.f41;go_enter r,SlBodyN.n41_ntmps b;go_wp2_with (at_builtin;refine wpList_append_own _ rfl _ _ (b.t 22) rfl w.heap.size (b.t 23) d z size bytes g C l s B D q _ _ _ rfl (World.ownsRow_made w #[] 0 (ax _) (eR _) (by simp)) a 0 0 [] rfl (by simp) (by simp) (by simp) (by simp) (by simp) (by simp) ?_);intro h I H m _;go_wp2;go_ret;exact⟨h,rfl,by simpa using H,((Below.refl _ w).alloc (ax _) _).grown m (by simp) (by intro k u;simp[Value.ownBlock]at u;omega)⟩
def TG{f E h by':Nat}(H:0<h)(t:(prog.info? E).map (λi=>(i.zero.map (λz=>z.cells.size),i.size,i.bytes))=N (N h,h,by')) (p:F X*by'<=140737488355328) (Q:∀w,Calls prog f #[.slice Y 0 0] w λe g=>e=.returned (.slice Y 0 0)/\g=w) (y:∀(a:Addr) (w:aT),Calls prog f #[.slice (N a) 0 0] w λe g=>∃k,e=.returned k/\g.ownsRow w.heap.size E h k 0 []/\Below w.heap.size w g) (C:∀(s:TypeInfo) (z:Value),prog.info? E=N s->s.zero=N z->s.size=h->s.bytes=by'->z.cells.size=h->(∀w,(Go.sizeOf E).run prog w=.ok h w)->∀(b q n c:Nat) (d:List Value) (w:aT),F d=n*h->n<=maxLen->n*by'<=140737488355328 ->(∀j u,d[j]?=N u->w.cell? ⟨b,q+j,Y⟩=N u)->(∀u∈d,u.oneCell'=true) ->Calls prog f #[.slice (N ⟨b,q,Y⟩) n c] w λe g=>∃k,e=.returned k/\g.ownsRow w.heap.size E h k n d/\k≠.slice Y 0 0/\Below w.heap.size w g) (J:ag):bO prog f [.sl h X] J (.sl h X):=by
 obtain⟨i,z,G,K,m,r,L⟩:=GB t;refine PC.YM (E:=E) (by':=by') ⟨H,i,z,G,K,m,r,L⟩ λB w0 w μ I hS M=>?_;have O:=M.2 0 _ rfl;have e:I=#[I.getD 0 undef]:=vs1 M.1;rw[e];rcases UN H O with⟨⟨a,v⟩,S⟩|⟨b,o,x,l,v,U,R,W,D,V⟩
 .rw[v];subst S;cases a with
  |none =>refine(Q w).mono ?_;rintro e g ⟨rfl,rfl⟩;exact⟨_,[],rfl,World.ownsRow_nil g _ _ _,Below.refl _ _,by simp,by simp[gp]⟩
  |some a =>refine(y a w).mono ?_;rintro e g ⟨k,rfl,m,r⟩;exact⟨_,[],rfl,m,r,by simp,by simp[gp]⟩
 rw[v];refine(C i z G K m r L (λw=>by simp[sizeOf,run_typeInfo w G,m]) b o _ x l w R U p W D).mono ?_;rintro e g ⟨k,rfl,T,_,P⟩;exact⟨_,l,rfl,T,P,V⟩
def uV(j:List It)(m:F j<2^40)(J:ag):bO prog 134 [.sl 3 (j.map It.aoZ)] J (.sl 3 (j.map It.aoZ)) :=TG (by decide) IY (by rw[ae];omega) (λw=>AnyE.slices_Clone_nil Tryz.Cz 0 0 w) (λa w=>by
   obtain⟨i,z,e,l,f,g,k⟩:=GB IY;exact Jy Tryz.Cz i z 3 32 e l f g k (by decide) (show ∀w,(Go.sizeOf 61).run prog w=.ok 3 w from λw=>by simp[sizeOf,run_typeInfo w e,f]) a w)
  (λi z e l f g k r b o n c d w p s q t h=>AnyE.slices_Clone Tryz.Cz i z 3 32 e l f g k (by decide) r b o n c d w p s q t h) J
end Go.Proofs.Tryz

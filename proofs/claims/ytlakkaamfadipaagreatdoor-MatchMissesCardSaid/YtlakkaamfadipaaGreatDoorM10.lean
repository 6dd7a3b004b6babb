/- A part of a proof; the claim's last text says of what. -/
import Derived.Maps.RangeRun
import Derived.Test.YtlakkaamfadipaaGreatDoorM9
set_option linter.all false
open Option renaming some->N,none->Y
open Bool renaming true->A,false->Z
open List renaming length->F

namespace Go.Pm
open Go Go.RowKit
section IH
variable {P:aM} {o:Oper} {a:Act} {B:Nat} {w0 w:aT} {J:ag} {μ:Mem} {fr:ao} (hF:FR w J μ fr a) (hS:gU P B w0 w J μ)
include hF hS
theorem ah6{T E:TypeId}{t:TypeInfo}{z:Value}{l c:Operand}{l' c':O}{e:ao}{f:List (bP)}(ho:o.op=.makeSlice T l c)(hT:P.underlying T=N (.slice E))(D:P.info? E=N t)(H:t.zero=N z) (gv:0<t.size) (S:z.cells.size=t.size) (Qw:jr z.cells.toList=N e) (hl:cO l=N l') (hc:cO c=N c') {W:Prop} {r:V} {J':ag} (h:cc fr J (.mk E t.size t.bytes (cZ f e) l' c')=N (W,r,J')) (dP:W):rT P o a B w0 w J μ r J':=by
 have L:=dp hF hl;have C:=dp hF hc;simp only[cc]at h;split at h
 .rename_i k n k2 m hn hm;simp only[aa,aB]at h;obtain⟨rfl,rfl,rfl⟩:=h;obtain⟨Lo,ZB,J0,Q,SK,Sy⟩:=dP;rw[hn]at L;rw[hm]at C;have Nr:Ti P E t.size t.bytes:=⟨gv,t,z,D,H,rfl,rfl,S⟩;obtain⟨M,rfl⟩:=Aj J0;have X:CR w J μ (cZ f e) z.cells:=(lS Qw).cZ f;have XM:F (cZ f e)=t.size:=by rw[X.1];exact S
  have ky:t.bytes*M<=281474976710656:=by
   have h3:((M*t.bytes:Nat):Int)<=281474976710656:=by rw[Int.natCast_mul];exact Q
   rw[gE];exact Int.ofNat_le.1 h3
  have U:M<=maxLen:=Int.ofNat_le.1 SK;have u:∀(v:Value) (w':aT) (d:Nat) (p:List Value),(Instr.makeSlice T (a.eval l) (a.eval c)).run P w=.ok v w'->w'.ownsRow B E t.size v d p->w.grownBy w' Y->(∀b,js v=N b->w.heap.size<=b)->n.toNat=d ->
    lp w J μ (List.replicate d (cZ f e)) t.size p->rT P o a B w0 w J μ (.own (F J) 0) (J++[.row E t.size t.bytes 0 false (List.replicate n.toNat (cZ f e))]):=by intro v w' d p q s y R hN cH;rw[hN];have ku:=hS.sb (w':=w') (.row E t.size t.bytes 0 false (List.replicate d (cZ f e))) v y R (λhp=>⟨Nr,p,by rw[qY];exact s,cH.fU hp.fU⟩);refine⟨v,w',_,.inl (by simp only[execOp,ho,Sem.run_bind,q,Result.andThen_ok,Sem.run_pure]),ku.1,?_,ku.2⟩;have:=VR.nR (w:=w') (J:=J++[.row E t.size t.bytes 0 false (List.replicate d (cZ f e))]) (μ:=r7 μ (F J) v) (id:=F J) (E:=E) (sz:=t.size) (by':=t.bytes) (g:=0) (sh:=false) (xs:=List.replicate d (cZ f e)) (by simp);rwa [eH]at this
  rcases ZB with rfl|rfl
  .obtain⟨w',q,s,y⟩:=run_make_full (P:=P) w B T E t z t.size hT D H rfl k k2 M ky U hS.base;refine u _ w' M _ (by rw[L.fE,C.fE];exact q) s y (λb G=>by simp only[js,aa]at G;omega) (by simp) ⟨λr q=>by rw[afe q];exact XM,λi j x I=>?_⟩;obtain⟨hi,K⟩:=Tp I;have lz:j<t.size:=by rw[<- XM];exact(ab.1 K).1
   have zX:i*t.size+j<M*t.size:=by have:(i+1)*t.size<=M*t.size:=bL _ hi;rw[cN,gN]at this;omega
   refine⟨Sy x (bc K),z.cells.getD j undef,?_,X.2 j x K⟩;have SH:(i*t.size+j) % z.cells.size=j:=by rw[S,Nat.add_comm,Nat.add_mul_mod_self_right,Af lz]
   simp only[madeCells,nO,Array.toList_range,bu,lh zX,b5,SH];rw[wT _ _ (by omega)]
  obtain⟨w',q,s,y⟩:=run_make_own (P:=P) w B T E t z t.size hT D H rfl k k2 M ky U hS.base;exact u _ w' 0 _ (by rw[L.fE,C.fE];exact q) s y (λb G=>by simp only[js,aa]at G;omega) (by simp) ⟨by simp,λi j x I=>by simp[gp]at I⟩
 simp at h
theorem ae2{T E:TypeId}{t:TypeInfo}{l c:Operand}{y p:O}(Q:o.op=.makeSlice T l c)(hT:P.underlying T=N (.slice E))(C:P.info? E=N t)(K:t.zero=N (.slice Y 0 0))(z:t.size=1)(S:cO l=N y)(g:cO c=N p) {u:Prop} {r:V} {q:ag} (h:cc fr J (.XI E t.bytes y p)=N (u,r,q)) (D:u):rT P o a B w0 w J μ r q:=by
 have s:=dp hF S;have j:=dp hF g;simp only[cc]at h;split at h
 .rename_i k n k2 m hn hm;simp only[aa,aB]at h;obtain⟨rfl,rfl,rfl⟩:=h;obtain⟨rfl,M,f,H⟩:=D;rw[hn]at s;rw[hm]at j;have W:(maxLen:Int)<=9223372036854775807:=by decide
  have U:=run_make (P:=P) w T E t (.slice Y 0 0) hT C K k k2 n n M (cP _) (by rw[Int.mul_comm];exact f) (eD H W);have L:CR w J μ (List.replicate n.toNat .nil) (madeCells (Value.slice Y 0 0).cells (n.toNat*t.size)):=by
   refine⟨by simp[size_madeCells,z],λi x v=>?_⟩;have hi:i<n.toNat:=by have:=(ab.1 v).1;simpa using this
   have X:x=.nil:=afe (bc v);subst X;have:(madeCells (Value.slice Y 0 0).cells (n.toNat*t.size)).getD i undef=.slice Y 0 0:=by have g:(Value.slice Y 0 0).cells=#[.slice Y 0 0]:=rfl;simp only[madeCells,g,z,G8];simp[bJ,hi,Nat.mod_one]
   rw[this];exact .nil
  obtain⟨e,R,G,g3⟩:=Gq hS E _ _ L;cases G with|ptr _ _ b d I =>refine⟨_,_,e,.inl (by simp only[execOp,Q,Sem.run_bind,s.fE,j.fE,U,Result.andThen_ok,Sem.run_pure]),R,.sy _ _ _ d I,g3⟩
 simp at h
theorem aaG{T E:TypeId}{len:Nat}{parts:Array (Nat×Operand)}{t:TypeInfo}{z:Value}{xs:List O}{d:List (bP)}(U:o.op=.buildSlice T len parts)(hT:P.underlying T=N (.slice E))(n:P.info? E=N t)(s:t.zero=N z) (X:parts.size=len) (l:0<t.size) (C:z.cells.size=t.size) (Ws:len*t.size<=2^24) (S:tD 0 parts.toList=N xs) {q:Prop} {r:V} {p:ag} (h:cc fr J (.JJ E t.size t.bytes d xs)=N (q,r,p)) (L:q):rT P o a B w0 w J μ r p:=by
 simp only[cc,aa,aB]at h;obtain⟨rfl,rfl,rfl⟩:=h;obtain⟨W,k⟩:=L;obtain⟨c,D,u,K,m⟩:=CF hF hS U hT n s X l C Ws S W (λr f=>(k r f).1);generalize G:(xs.map λx=>cZ d (fH (ev fr x)))=rows at k u m |-;have M:Ti P E t.size t.bytes:=⟨l,t,z,n,s,rfl,rfl,C⟩;have I:w.grownBy (w.alloc (.cells c E)) Y:=World.grownBy_alloc w _ Y;have Q:len<=maxLen:=by have:len<=len*t.size:=afR _ l;unfold maxLen;omega
 have gi:=World.ownsRow_lit (e:=E) w c len hS.base Q K;have y:=hS.sb (w':=w.alloc (.cells c E)) (.row E t.size t.bytes 0 Z rows) (.slice (N ⟨w.heap.size,0,Y⟩) len len) I (λb H=>by simp only[js,aa]at H;omega)
  (λR=>⟨M,c.toList,by rw[u];exact gi,λr f=>(k r f).1,λi j x v=>by obtain⟨dC,hv⟩:=m i j x v;obtain⟨r,f,hj⟩:=iD v;refine⟨(k r (bc f)).2 x (bc hj),_,?_,R.fU _ _ hv⟩;simp[dC]⟩);refine⟨_,_,_,.inl D,y.1,?_,y.2⟩;have:=VR.nR (w:=w.alloc (.cells c E)) (J:=J++[.row E t.size t.bytes 0 Z rows]) (μ:=r7 μ (F J) (.slice (N ⟨w.heap.size,0,Y⟩) len len)) (id:=F J) (E:=E) (sz:=t.size) (by':=t.bytes) (g:=0) (sh:=Z) (xs:=rows) (by simp);rwa [eH]at this
omit hF hS in
theorem VR.Mo{c:ao}{l n:Value}(r:VR w J μ (.agg c) l)(H:VR w J μ (.agg c) n)(D:∀x∈c,x.Oe=A):Instr.sameBits 10000 n l=A:=by
 obtain⟨G,rfl,K,v⟩:=r.iZ;obtain⟨t,rfl,L,B⟩:=H.iZ;simp only[Instr.sameBits,aP,b9,cv];refine⟨by omega,λp y=>?_⟩;obtain⟨i,m⟩:=eC.1 y;rw[List.getElem?_zip_eq_some]at m;obtain⟨f,g⟩:=m;have o:i<F c:=by have:=(ab.1 f).1;simp at this;omega
 have h:=an o;have e:=v i _ h;have d:=B i _ h;have z:t.getD i undef=p.1:=by simp at f;simp[bJ,f]
 have q:G.getD i undef=p.2:=by simp at g;simp[bJ,g]
 rw[q]at e;rw[z]at d;have C:=D _ (cS o);generalize c[i]=x at *;obtain⟨a,b⟩:=p;cases x<;>simp[V.Oe]at C;.rw[e.oR,d.oR];simp[Instr.sameBits]
 .rw[e.fE,d.fE];simp[Instr.sameBits]
 obtain⟨s,k,u,_⟩:=e.mi;obtain⟨I,j,E,_⟩:=d.mi;simp only at k j;subst k;subst j;simp only[Instr.sameBits];rw[beq_toListBytes,toList_data,toList_data,u,E];simp
theorem VR.sameBits{k a:V}{l m:Value}{f:Nat}(c:VR w J μ k l)(d:VR w J μ a m)(h:cA f k a=N A):Instr.sameBits 10000 m l=A:=by
 cases k<;>cases a<;>(try (simp[cA]at h;done));.rw[c.oR,d.oR];match f with|2=>simp only[cA,aa,b9]at h;subst h;simp[Instr.sameBits]|0=>simp[cA]at h|1=>simp[cA]at h|n+3=>simp[cA]at h
 .rw[c.fE,d.fE];match f with|0 =>simp only[cA]at h;split at h<;>simp only[aa,b9,reduceCtorEq]at h;rename_i u;subst u;subst h;simp[Instr.sameBits]|1=>simp[cA]at h|2=>simp[cA]at h|n+3=>simp[cA]at h
 .obtain⟨s,rfl,r,_⟩:=c.mi;obtain⟨x,rfl,g,_⟩:=d.mi;match f with|1 =>simp only[cA,aa,b9]at h;subst h;simp only[Instr.sameBits];rw[beq_toListBytes,toList_data,toList_data,r,g];simp|0=>simp[cA]at h|2=>simp[cA]at h|n+3=>simp[cA]at h
 match f with
 |3 =>simp only[cA]at h;obtain⟨q,o,t,i,p,j,rfl,rfl,e⟩:=s5 h;rw[c.pair,d.pair];have b:=e.symm;simp only[aP,b9]at b;obtain⟨rfl,rfl⟩:=b;simp[Instr.sameBits]
 |4 =>simp only[cA]at h;obtain⟨o,i,p,j,rfl,rfl,e⟩:=sM h;have b:=e.symm;simp only[aP,b9]at b;obtain⟨rfl,rfl⟩:=b;exact VR.Mo c d (by simp[V.Oe])
 |5 =>simp only[cA]at h;obtain⟨q,o,i,t,y,p,j,v,rfl,rfl,e⟩:=uZ h;have b:=e.symm;simp only[aP,b9]at b;obtain⟨rfl,rfl,rfl⟩:=b;exact VR.Mo c d (by simp[V.Oe])
 |0=>simp[cA]at h
 |1=>simp[cA]at h
 |2=>simp[cA]at h
 |n+6=>simp[cA]at h
omit hF hS in
theorem gU.ie(hS:gU P B w0 w J μ){id K E k clock:Nat}{z:List (V×V)}{h:Array MapEntry}(l:J[id]?=N (.map K E z))(q:μ id=.map (N k))(y:w.heap[k]?=N (.map h clock)) (p:Nat) (g:List (V×V)) (d:Array MapEntry) (a:Nat) (QF:vv w J μ g d a) (S:E<=p) (W:p=E->F z<=F g/\(F g=F z->a=clock/\∀(i:Nat) (r:MapEntry),d[i]?=N r->∃e,h[i]?=N e/\e.born=r.born) /\∀(i:Nat) (e:MapEntry),h[i]?=N e->∃r,d[i]?=N r/\r.born=e.born) : gU P B w0 { w with heap:=w.heap.setIfInBounds k (.map d a) } (J.set id (.map K p g)) μ/\np w J μ { w with heap:=w.heap.setIfInBounds k (.map d a) } (J.set id (.map K p g)) μ:=by
 have u:id<F J:=(ab.1 l).1;have X:k<w.heap.size:=(bh.1 y).1;have L:(w.heap.setIfInBounds k (.map d a))[k]?=N (.map d a):=by simp[X]
 obtain⟨r',_,_,o,hB,_,_⟩:=hS.obj id _ l;rw[q]at o;simp only[Value.map.injEq,aa]at o;subst o;exact hS.update (w':={ w with heap:=w.heap.setIfInBounds k (.map d a) }) (J':=J.set id (.map K p g)) (μ':=μ) id (N k) ⟨rfl,rfl,rfl,by simp,λj _ C=>by simp only[];rw[cT (λe=>C (by rw[e]))]⟩ (λb t=>⟨_,l,by simp,by simp only[aa]at t;subst t;simp[q,js]⟩) (by simp) (λj C=>aN (λe=>C e.symm)) (λ_ _=>rfl) (λb t=>.inl ⟨_,l,by simp,t⟩) (λb U v2 R f _ H h6 _=>by simp only[q,js,aa]at H;subst H;simp[World.cell?,y]at h6) (λT2 M f=>by rw[l]at f;simp at f) (λK2 I ad f=>by rw[l]at f;simp only[aa,Ob.map.injEq]at f;obtain⟨rfl,rfl,rfl⟩:=f;refine⟨⟨_,_,aw u⟩,rfl,λK3 E3 am bm G s v D x=>?_⟩;rw[l]at v;simp only[aa,Ob.map.injEq]at v;obtain⟨rfl,rfl,rfl⟩:=v;rw[q]at D;simp only[Value.map.injEq,aa]at D;subst D;rw[y]at x;simp only[aa,Obj.map.injEq]at x;obtain⟨rfl,rfl⟩:=x;exact⟨q,K,p,g,d,a,aw u,L,S,W⟩) (λI Q af g2 ac T _ f=>by simp[u]at f) (λO R f=>by simp only[aw u,aa]at f;subst f;exact⟨k,d,a,q,hB,L,QF.fU O.fU⟩) (λst m I n ps c f=>by rw[l]at f;simp at f)
omit hF hS in
theorem vv.push{g:List (V×V)}{d:Array MapEntry}{clock:Nat}(c:vv w J μ g d clock){k x:V}{n o:Value}(t:VR w J μ k n)(r:VR w J μ x o)(h1:k.qE=A)(q:x.jG=A): vv w J μ (g++[(k,x)]) (d.push { key:=n,val:=o,born:=clock }) (clock+1):=by
 refine⟨by simp[c.1],λi u y f=>?_,λi e b=>?_,λi j e p b a m=>?_⟩
 .by_cases h:i<F g;.rw[aj h]at f;obtain⟨v,B,e,s,z⟩:=c.2.1 i u y f;exact⟨v,B,e,by rw[CV (by rw[c.1];exact h)];have:=s;rw[bD (by rw[c.1];exact h)]at this;exact this,z⟩
  have l:i=F g:=by have:=(ab.1 f).1;simp at this;omega
  subst l;simp only[List.getElem?_concat_length,aa,aB]at f;obtain⟨rfl,rfl⟩:=f;exact⟨h1,q,_,by rw[<- c.1];exact oy,t,r⟩
 .rw[um]at b;split at b;.simp only[aa]at b;subst b;exact Nat.lt_succ_self _
  exact Nat.lt_succ_of_lt (c.2.2.1 i e b)
 rw[um]at b a;split at b
 .split at a;.omega
  simp only[aa]at b;subst b;have:=c.2.2.1 j p a;simp only at m;omega
 split at a;.simp only[aa]at a;subst a;have:=c.2.2.1 i e b;simp only at m;omega
 exact c.2.2.2 i j e p b a m
omit hF hS in
theorem Es{b:List (V×V)}{a:Array MapEntry}{clock:Nat}(j:vv w J μ b a clock)(k x:V)(d:MapEntry){E g:Nat}:g=E->F b<=F (b++[(k,x)])/\(F (b++[(k,x)])=F b->clock+1=clock/\∀(i:Nat) (c:MapEntry),(a.push d)[i]?=N c->∃e,a[i]?=N e/\e.born=c.born) /\
  ∀(i:Nat) (e:MapEntry),a[i]?=N e->∃c,(a.push d)[i]?=N c/\c.born=e.born:=by refine λ_=>⟨by simp,λh=>by simp at h,λi e h=>⟨e,?_,rfl⟩⟩;have f:=(bh.1 h).1;rw[CV f];rw[bD f]at h;exact h
omit hF hS in
theorem vv.modify{s:List (V×V)}{a:Array MapEntry}{clock l:Nat}(o:vv w J μ s a clock){k x:V}{kv xv:Value}{t:MapEntry}(H:a[l]?=N t)(E:l<F s)(z:VR w J μ k kv)(G:VR w J μ x xv)(h1:k.qE=A)(v:x.jG=A): vv w J μ (s.set l (k,x)) (a.modify l λe=>{ e with key:=kv,val:=xv }) clock:=by
 have p:∀(i:Nat) (b:MapEntry),(a.modify l λe=>{ e with key:=kv,val:=xv })[i]?=N b->∃d,a[i]?=N d/\d.born=b.born:=by
  intro i b c;rw[cz]at c;split at c;.simp only[al]at c;obtain⟨d,h,rfl⟩:=c;exact⟨d,h,rfl⟩
  exact⟨b,c,rfl⟩
 refine⟨by simp[o.1],λi C y m=>?_,λi b c=>?_,λi j b d c q D=>?_⟩
 .by_cases r:i=l;.subst r;rw[aw E]at m;simp only[aa,aB]at m;obtain⟨rfl,rfl⟩:=m;exact⟨h1,v,{ t with key:=kv,val:=xv },by rw[cz,aK rfl,H];rfl,z,G⟩
  rw[aN (λe=>r e.symm)]at m;obtain⟨h,n,b,f,g⟩:=o.2.1 i C y m;exact⟨h,n,b,by rw[cz,au (λe=>r e.symm)];exact f,g⟩
 .obtain⟨d,h,n⟩:=p i b c;rw[<- n];exact o.2.2.1 i d h
 obtain⟨u,h,n⟩:=p i b c;obtain⟨B,f,g⟩:=p j d q;exact o.2.2.2 i j u B h f (by rw[n,g,D])
omit hF hS in
theorem s6{a:Array MapEntry}{clock d:Nat}(f:MapEntry->MapEntry)(g:∀e,(f e).born=e.born){n c E l:Nat}(m:c=n):l=E->n<=c/\(c=n->clock=clock/\∀(i:Nat) (b:MapEntry),(a.modify d f)[i]?=N b->∃e,a[i]?=N e/\e.born=b.born) /\∀(i:Nat) (e:MapEntry),a[i]?=N e->∃b,(a.modify d f)[i]?=N b/\b.born=e.born:=by
 refine λ_=>⟨by omega,λ_=>⟨rfl,λi b h=>?_⟩,λi e h=>?_⟩
 .rw[cz]at h;split at h;.simp only[al]at h;obtain⟨j,k,rfl⟩:=h;exact⟨j,k,(g j).symm⟩
  exact⟨b,h,rfl⟩
 rw[cz];split;.rw[h];exact⟨_,rfl,g e⟩
 exact⟨e,h,rfl⟩
theorem aaC{T K E:TypeId}{m k x:Operand}{m' W x':O}{kd:Nat}{q:List (bP)}(ho:o.op=.mapUpdate T m k x)(hT:P.underlying T=N (.map K E))(hm:cO m=N m')(hk:cO k=N W)(hx:cO x=N x')(rJ:kD P K=N kd) {ob:Prop} {r:V} {J':ag} (h:cc fr J (.vf kd q m' W x')=N (ob,r,J')) (z:ob):rT P o a B w0 w J μ r J':=by
 have h1:=dp hF hm;have s:=dp hF hk;have n:=dp hF hx;have ac:lE kd (ev fr W)=A:=by
  simp only[cc]at h;split at h
  .split at h;.split at h<;>simp only[aa,aB,reduceCtorEq]at h<;>(obtain⟨rfl,_⟩:=h;exact z.1)
   simp at h
  simp at h
 simp only[cc]at h;generalize X:dB q (ev fr x')=xv at h;have C:VR w J μ xv (a.eval x):=by
  rw[<- X];unfold dB;split;.rename_i xs hp;rw[hp]at n;obtain⟨vs,M,hl,wI⟩:=n.iZ;rw[M];exact CR.sZ (xs:=xs) q ⟨hl,wI⟩
  exact n
 split at h
 .rename_i id hp;rw[hp]at h1;obtain⟨v,M,ma,_⟩:=h1.ta;split at h
  .rename_i K' L Q S;obtain⟨r',b,clock,p,hB,I,j⟩:=hS.obj id _ S;rw[ma]at p;simp only[Value.map.injEq,aa]at p;subst p;have dC:id<F J:=(ab.1 S).1;have nS:v<w.heap.size:=(bh.1 I).1;have hg:∀(R:aT),R.heap[v]?=N (.map b clock)->(getObj v).run P R=.ok (.map b clock) R:=λR h=>by simp[getObj,Sem.run,h]
   have wQ:=run_checkKey (P:=P) (w:=w) rJ false 9998 s ac;have D:∀(f:List (V×V)) (d:Array MapEntry) (c:Nat),(execOp a.eval o).run P w=.ok .skip { w with heap:=w.heap.setIfInBounds v (.map d c) }->vv w J μ f d c ->
     (L=L->F Q<=F f/\(F f=F Q->c=clock/\∀(i:Nat) (G:MapEntry),d[i]?=N G->∃e,b[i]?=N e/\e.born=G.born) /\
      ∀(i:Nat) (e:MapEntry),b[i]?=N e->∃G,d[i]?=N G/\G.born=e.born)->rT P o a B w0 w J μ .u (J.set id (.map K' L f)):=by intro f d c hr QF ad;have pj:=hS.ie S ma I L f d c QF (ax _) ad;exact⟨undef,_,μ,.inr ⟨hr,rfl⟩,pj.1,.u _,pj.2⟩
   have ll:∀l,(setObj v l).run P w=.ok () { w with heap:=w.heap.setIfInBounds v l }:=λl=>by simp[setObj,Sem.run,I]
   split at h
   .rename_i hf;simp only[aa,aB]at h;obtain⟨rfl,rfl,rfl⟩:=h;have BX:=kO rJ s Q b.toList Y (by rw[aW];exact j.1) (λi a x hi=>by obtain⟨_,_,e,n,g,t⟩:=j.2.1 i a x hi;exact⟨e,by simpa using n,g,t⟩) hf;have H:(Instr.findKey K (a.eval k) b.toList).run P w=.ok Y w:=by
     rcases BX with⟨_,h⟩|⟨i,x,e,a2,h,_⟩;.exact h
     simp at h
    refine D _ (b.push { key:=a.eval k,val:=a.eval x,born:=clock }) (clock+1) ?_ (j.push s C (vg z.1) z.2) (Es j _ _ _);simp[execOp,ho,M,Instr.mapUpdate,run_underlying hT,hg w I,wQ,H,ll]
   .rename_i i0 x0 hf;simp only[aa,aB]at h;obtain⟨rfl,rfl,rfl⟩:=h;have BX:=kO rJ s Q b.toList _ (by rw[aW];exact j.1) (λi a x hi=>by obtain⟨_,_,e,n,g,t⟩:=j.2.1 i a x hi;exact⟨e,by simpa using n,g,t⟩) hf;rcases BX with⟨g,_⟩|⟨i,y,e,a2,g,t,h6,h7,h8⟩;.simp at g
    simp only[aa,aB]at g;obtain⟨rfl,rfl⟩:=g;obtain⟨_,_,e2,h9,B6,_⟩:=j.2.1 i0 a2 x0 t;have U:e2=e:=by
     have:b[i0]?=N e:=by simpa using h6
     rw[h9]at this;simpa using this
    subst U;have Zv:=VR.sameBits hF hS s B6 h7;refine D _ (b.modify i0 λe=>{ e with key:=a.eval k,val:=a.eval x }) clock ?_ (j.modify h9 (ab.1 t).1 s C (vg z.1) z.2) (s6 (λe:MapEntry=>{ e with key:=a.eval k,val:=a.eval x }) (λ_=>rfl) (by simp));simp[execOp,ho,M,Instr.mapUpdate,run_underlying hT,hg w I,wQ,h8,h9,Instr.keyThatStays,Zv,ll]
   simp at h
  simp at h
 simp at h
omit hF hS in
theorem VR.Fk{k a:V}{e:Nat}{b d:Value}(c:VR w J μ k b)(f:VR w J μ a d)(h:cA e k a=N A):VR w J μ a b:=by rw[<- sO h];exact c
omit hF hS in
theorem gU.jd(hS:gU P B w0 w J μ){id K E d clock c:Nat}{b:List (V×V)}{a:Array MapEntry}{e:MapEntry}(f:J[id]?=N (.map K E b))(k:μ id=.map (N d))(h:w.heap[d]?=N (.map a clock))(j:a[c]?=N e): gU P B w0 w (J++[.iter A id E (F b) [] (N c)]) (r7 μ (F J) (.int .i64 e.born))/\np w J μ w (J++[.iter A id E (F b) [] (N c)]) (r7 μ (F J) (.int .i64 e.born)):=by
 have i:id<F J:=(ab.1 f).1;refine hS.sb _ _ (grownBy_refl w Y) (by simp[js]) λl=>⟨e.born,rfl,d,?_,K,E,b,a,clock,?_,h,ax _,λ_=>⟨ax _,λm g=>?_⟩⟩;.rw[mQ _ _ _ _ (by omega)];exact k
 .rw[aj i];exact f
 simp only[aa]at g;subst g;exact⟨e,j,rfl⟩
theorem aaE{T K E:TypeId}{m k:Operand}{m' k':O}{kd:Nat}{z:V}(ho:o.op=.mapEntry T m k)(hT:P.underlying T=N (.map K E))(hm:cO m=N m')(hk:cO k=N k')(S:kD P K=N kd)(hz:zeroV P E=N z) {ob:Prop} {r:V} {J':ag} (h:cc fr J (.wA kd z m' k')=N (ob,r,J')) (R:ob):rT P o a B w0 w J μ r J':=by
 have h1:=dp hF hm;have s:=dp hF hk;obtain⟨M,ac,Zm⟩:=Hq (w:=w) (J:=J) (μ:=μ) hz;simp only[cc]at h;split at h
 .rename_i id hp;rw[hp]at h1;obtain⟨n,hv,H,_⟩:=h1.ta;split at h
  .rename_i K' X g D;obtain⟨r',b,clock,u,hB,L,j⟩:=hS.obj id _ D;rw[H]at u;simp only[Value.map.injEq,aa]at u;subst u;have dC:id<F J:=(ab.1 D).1;have nS:n<w.heap.size:=(bh.1 L).1;have hg:(getObj n).run P w=.ok (.map b clock) w:=by simp[getObj,Sem.run,L]
   have ll:∀t,(setObj n t).run P w=.ok () { w with heap:=w.heap.setIfInBounds n t }:=λt=>by simp[setObj,Sem.run,L]
   split at h
   .rename_i hf;simp only[aa,aB]at h;obtain⟨rfl,rfl,rfl⟩:=h;have wQ:=run_checkKey (P:=P) (w:=w) S Z 9998 s R.1;have BX:=kO S s g b.toList Y (by rw[aW];exact j.1) (λi a x hi=>by obtain⟨_,_,e,h3,l,v⟩:=j.2.1 i a x hi;exact⟨e,by simpa using h3,l,v⟩) hf;have I:(Instr.findKey K (a.eval k) b.toList).run P w=.ok Y w:=by
     rcases BX with⟨_,h⟩|⟨i,x,e,U,h,_⟩;.exact h
     simp at h
    have QF:=j.push s Zm (vg R.1) R.2;have q:=hS.ie D H L X (g++[(ev fr k',z)]) (b.push { key:=a.eval k,val:=M,born:=clock }) (clock+1) QF (ax _) (Es j _ _ _);have C:(w.heap.setIfInBounds n (.map (b.push { key:=a.eval k,val:=M,born:=clock }) (clock+1)))[n]?=N (.map (b.push { key:=a.eval k,val:=M,born:=clock }) (clock+1)):=by simp[nS]
    have p:=q.1.jd (c:=F g) (e:={ key:=a.eval k,val:=M,born:=clock }) (aw dC) H C (by rw[<- j.1];exact oy);simp only[ai,ah,az,bq,dI]at p;refine⟨.tuple #[M,.int .i64 clock],_,_,.inl ?_,p.1,?_,q.2.trans p.2⟩;.simp[execOp,ho,hv,Instr.mapEntry,run_underlying hT,hg,wQ,I,ll,ac,goInt]
    refine .gy _ _ rfl λi x d=>?_;match i with|0=>simp only[aH,aa]at d;subst d;exact(Zm.mono q.2).mono p.2|1=>simp only[bS,aH,aa]at d;subst d;exact .it _ _ ⟨_,_,_,_,_,_,by rw[aD (by simp)];simp;exact⟨rfl,rfl,rfl,rfl,rfl,rfl⟩⟩ (by simp[r7])|i+2=>simp at d
   .rename_i f x0 hf;simp only[aa,aB]at h;obtain⟨rfl,rfl,rfl⟩:=h;have wQ:=run_checkKey (P:=P) (w:=w) S Z 9998 s R;have BX:=kO S s g b.toList _ (by rw[aW];exact j.1) (λi a x hi=>by obtain⟨_,_,e,h3,l,v⟩:=j.2.1 i a x hi;exact⟨e,by simpa using h3,l,v⟩) hf;rcases BX with⟨l,_⟩|⟨i,y,e,U,l,v,h6,h7,h8⟩;.simp at l
    simp only[aa,aB]at l;obtain⟨rfl,rfl⟩:=l;obtain⟨si,zV,G,Q,B6,z7⟩:=j.2.1 f U x0 v;have W:G=e:=by
     have:b[f]?=N e:=by simpa using h6
     rw[Q]at this;simpa using this
    subst W;have vK:=(ab.1 v).1;have Zv:=VR.sameBits hF hS s B6 h7;have QF:vv w J μ g (b.modify f λe=>{ e with key:=a.eval k }) clock:=by
     have:=j.modify (k:=U) (x:=x0) (kv:=a.eval k) (xv:=G.val) Q vK (VR.Fk s B6 h7) z7 si zV;rw[show g.set f (U,x0)=g by obtain⟨hq,e⟩:=ab.1 v;rw[<- e];exact qX hq]at this;have e3:(b.modify f λe=>{ e with key:=a.eval k,val:=G.val })=b.modify f λe=>{ e with key:=a.eval k }:=by
      apply L8;intro i;rw[cz,cz];split;.rename_i Lu;subst Lu;rw[Q];rfl
      rfl
     rwa [e3]at this
    have q:=hS.ie D H L X g (b.modify f λe=>{ e with key:=a.eval k }) clock QF (ax _) (s6 (λe:MapEntry=>{ e with key:=a.eval k }) (λ_=>rfl) rfl);have Ss:J.set id (.map K' X g)=J:=by obtain⟨hq,e⟩:=ab.1 D;rw[<- e];exact qX hq
    rw[Ss]at q;have C:(w.heap.setIfInBounds n (.map (b.modify f λe=>{ e with key:=a.eval k }) clock))[n]?=N (.map (b.modify f λe=>{ e with key:=a.eval k }) clock):=by simp[nS]
    have p:=q.1.jd (c:=f) (e:={ G with key:=a.eval k }) D H C (by rw[cz,aK rfl,Q];rfl);refine⟨.tuple #[G.val,.int .i64 G.born],_,_,.inl ?_,p.1,?_,q.2.trans p.2⟩;.simp[execOp,ho,hv,Instr.mapEntry,run_underlying hT,hg,wQ,h8,Q,Instr.keyThatStays,Zv,ll,goInt]
    refine .gy _ _ rfl λi x d=>?_;match i with|0=>simp only[aH,aa]at d;subst d;exact(z7.mono q.2).mono p.2|1=>simp only[bS,aH,aa]at d;subst d;exact .it _ _ ⟨_,_,_,_,_,_,by simp;exact⟨rfl,rfl,rfl,rfl,rfl,rfl⟩⟩ (by simp[r7])|i+2=>simp at d
   simp at h
  simp at h
 simp at h
theorem aaD{T K E:TypeId}{m q x:Operand}{m' q' x':O}{t:List (bP)}(ho:o.op=.entryStore T m q x)(hm:cO m=N m')(hq:cO q=N q')(hx:cO x=N x') {ob:Prop} {r:V} {J':ag} (h:cc fr J (.wz t m' q' x')=N (ob,r,J')) (dP:ob):rT P o a B w0 w J μ r J':=by
 have h1:=dp hF hm;have h2:=dp hF hq;have L:=dp hF hx;simp only[cc]at h;generalize I:dB t (ev fr x')=xv at h;have M:VR w J μ xv (a.eval x):=by
  rw[<- I];unfold dB;split;.rename_i xs hp;rw[hp]at L;obtain⟨vs,Q,hl,wI⟩:=L.iZ;rw[Q];exact CR.sZ (xs:=xs) t ⟨hl,wI⟩
  exact L
 split at h
 .rename_i id j hp zW;rw[hp]at h1;rw[zW]at h2;obtain⟨D,Q,ma,_⟩:=h1.ta;split at h
  .rename_i K' E' es ac E2 n ps c z hj;split at h
   .rename_i hc;obtain⟨rfl,rfl⟩:=hc;split at h
    .rename_i W y0 B2;simp only[aa,aB]at h;obtain⟨rfl,rfl,rfl⟩:=h;obtain⟨r',b,clock,p,hB,v,hR⟩:=hS.obj _ _ z;rw[ma]at p;simp only[Value.map.injEq,aa]at p;subst p;obtain⟨f,G,bm,s,K3,E3,ap,S,C,X,R,q3,q4⟩:=hS.obj _ _ hj;rw[z]at X;simp only[aa,Ob.map.injEq]at X;obtain⟨rfl,rfl,rfl⟩:=X;rw[ma]at s;simp only[Value.map.injEq,aa]at s;subst s;rw[v]at R;simp only[aa,Obj.map.injEq]at R;obtain⟨rfl,rfl⟩:=R;obtain⟨_,q5⟩:=q4 rfl;obtain⟨y,d,ad⟩:=q5 c rfl;have dC:ac<F J:=(ab.1 z).1;have nS:D<w.heap.size:=(bh.1 v).1;have bn:c<F es:=(ab.1 B2).1;obtain⟨si,_,e1,l,pM,_⟩:=hR.2.1 c W y0 B2;rw[d]at l;simp only[aa]at l;subst l;have QF:=hR.modify (k:=W) (x:=xv) (kv:=y.key) (xv:=a.eval x) d bn pM M si dP;have e3:(b.modify c λe=>{ e with key:=y.key,val:=a.eval x })=b.modify c λe=>{ e with val:=a.eval x }:=by
      apply L8;intro i;rw[cz,cz];split;.rename_i Lu;subst Lu;rw[d];rfl
      rfl
     rw[e3]at QF;have pj:=hS.ie z ma v _ (es.set c (W,xv)) (b.modify c λe=>{ e with val:=a.eval x }) clock QF (ax _) (s6 (λe:MapEntry=>{ e with val:=a.eval x }) (λ_=>rfl) (by simp));have hg:(getObj D).run P w=.ok (.map b clock) w:=by simp[getObj,Sem.run,v]
     have ll:∀g,(setObj D g).run P w=.ok () { w with heap:=w.heap.setIfInBounds D g }:=λg=>by simp[setObj,Sem.run,v]
     have H:a.eval q=.int .i64 f:=by rw[h2.Lc.1,G]
     have QC:b.findIdx? (λe=>(e.born:Int)==f)=N c:=by
      have mE:c<b.size:=(bh.1 d).1;have af:b[c]=y:=(bh.1 d).2;rw[Array.findIdx?_eq_some_iff_getElem];refine⟨mE,by rw[af];simp[ad],λj am=>?_⟩;have U:j<b.size:=by omega
      simp only[Bool.not_eq_true,cU,fJ,da,Qt];intro Lw;have:=hR.2.2.2 j c b[j] y (bD U) d (by omega);omega
     refine⟨undef,_,μ,.inr ⟨?_,rfl⟩,pj.1,.u _,pj.2⟩;simp[execOp,ho,Q,Instr.entryStore,hg,H,asInt,asIntOf,QC,ll]
    simp at h
   simp at h
  simp at h
 simp at h
theorem aaF{T K E K2:TypeId}{m k:Operand}{m' k':O}{kd:Nat}(ho:o.op=.call { callee:=.builtin .delete,args:=#[m,k],argTypes:=#[T,K2] })(hT:P.underlying T=N (.map K E))(hm:cO m=N m')(hk:cO k=N k')(G:kD P K=N kd) {ob:Prop} {r:V} {J':ag} (h:cc fr J (.Dx kd m' k')=N (ob,r,J')) (X:ob):rT P o a B w0 w J μ r J':=by
 have h1:=dp hF hm;have D:=dp hF hk;simp only[cc]at h;split at h
 .rename_i id hp;rw[hp]at h1;obtain⟨H,hv,R,_⟩:=h1.ta;split at h
  .rename_i K' L p s;obtain⟨r',b,clock,n,hB,C,d⟩:=hS.obj id _ s;rw[R]at n;simp only[Value.map.injEq,aa]at n;subst n;have dC:id<F J:=(ab.1 s).1;have nS:H<w.heap.size:=(bh.1 C).1;have hg:(getObj H).run P w=.ok (.map b clock) w:=by simp[getObj,Sem.run,C]
   have ll:∀g,(setObj H g).run P w=.ok () { w with heap:=w.heap.setIfInBounds H g }:=λg=>by simp[setObj,Sem.run,C]
   split at h
   .rename_i S;simp only[aa,aB]at h;obtain⟨rfl,rfl,rfl⟩:=h;have W:=run_checkKey (P:=P) (w:=w) G b.isEmpty 9998 D X;have U:=kO G D p b.toList Y (by rw[aW];exact d.1) (λi a x l=>by obtain⟨_,_,e,M,f,v⟩:=d.2.1 i a x l;exact⟨e,by simpa using M,f,v⟩) S;have z:(Instr.findKey K (a.eval k) b.toList).run P w=.ok Y w:=by
     rcases U with⟨_,h⟩|⟨i,x,e,a2,h,_⟩;.exact h
     simp at h
    have q:=hS.ie s R C L p b clock d (ax _) (λ_=>⟨ax _,λ_=>⟨rfl,λi Q h=>⟨Q,h,rfl⟩⟩,λi e h=>⟨e,h,rfl⟩⟩);have Ss:J.set id (.map K' L p)=J:=by obtain⟨hq,e⟩:=ab.1 s;rw[<- e];exact qX hq
    rw[Ss]at q;refine⟨.tuple #[],_,μ,.inl ?_,q.1,.gy _ _ rfl (by simp),q.2⟩;simp[execOp,ho,resolve,invoke,builtin,hv,Builtin.delete_,run_underlying hT,hg,W,z,ll]
   .rename_i c x0 S;simp only[aa,aB]at h;obtain⟨rfl,rfl,rfl⟩:=h;have W:=run_checkKey (P:=P) (w:=w) G b.isEmpty 9998 D X;have U:=kO G D p b.toList _ (by rw[aW];exact d.1) (λi a x l=>by obtain⟨_,_,e,M,f,v⟩:=d.2.1 i a x l;exact⟨e,by simpa using M,f,v⟩) S;rcases U with⟨f,_⟩|⟨i,y,e,a2,f,v,h6,h7,h8⟩;.simp at f
    simp only[aa,aB]at f;obtain⟨rfl,rfl⟩:=f;have vK:c<F p:=(ab.1 v).1;have SN:c<b.size:=by rw[d.1];exact vK
    have I:∀i,(b.eraseIdxIfInBounds c)[i]?=b[if i<c then i else i+1]?:=by
     intro i;rw[<- Array.getElem?_toList,<- Array.getElem?_toList];have:(b.eraseIdxIfInBounds c).toList=b.toList.eraseIdx c:=by unfold Array.eraseIdxIfInBounds;rw[dif_pos SN];simp
     rw[this,ajY];split<;>rfl
    have QF:vv w J μ (p.eraseIdx c) (b.eraseIdxIfInBounds c) clock:=by
     refine⟨?_,λi k x l=>?_,λi e u=>?_,λi j e Q u t SY=>?_⟩
     .have:(b.eraseIdxIfInBounds c).size=b.size - 1:=by unfold Array.eraseIdxIfInBounds;rw[dif_pos SN];simp
      rw[this,List.length_eraseIdx,aK vK,d.1]
     .rw[ajY]at l;rw[I];split at l<;>rename_i hc<;>simp only[hc,aU,aQ]<;>exact d.2.1 _ k x l
     .rw[I]at u;exact d.2.2.1 _ e u
     rw[I]at u t;have:=d.2.2.2 _ _ e Q u t SY;split at this<;>split at this<;>omega
    have q:=hS.ie s R C (L+1) (p.eraseIdx c) (b.eraseIdxIfInBounds c) clock QF (by omega) (λh=>by omega);refine⟨.tuple #[],_,μ,.inl ?_,q.1,.gy _ _ rfl (by simp),q.2⟩;simp[execOp,ho,resolve,invoke,builtin,hv,Builtin.delete_,run_underlying hT,hg,W,h8,ll]
   simp at h
  simp at h
 simp at h
theorem Xd{T K E:TypeId}{x:Operand}{t:O}(z:o.op=.range T x)(hT:P.underlying T=N (.map K E))(G:cO x=N t) {y:Prop} {r:V} {m:ag} (h:cc fr J (.range t)=N (y,r,m)):rT P o a B w0 w J μ r m:=by
 have q:=dp hF G;simp only[cc]at h;split at h
 .rename_i id g;rw[g]at q;obtain⟨d,I,s,_⟩:=q.ta;split at h
  .rename_i Q n l j;simp only[aa,aB]at h;obtain⟨rfl,rfl,rfl⟩:=h;obtain⟨R,b,clock,f,S,k,L⟩:=hS.obj id _ j;rw[s]at f;simp only[Value.map.injEq,aa]at f;subst f;have H:id<F J:=(ab.1 j).1;have C:d<w.heap.size:=(bh.1 k).1;have v:(w.alloc (.mapIter (N d) clock #[] clock)).heap[d]?=N (.map b clock):=by rw[(World.grownBy_alloc w (.mapIter (N d) clock #[] clock) Y).block d C (by simp)];exact k
   have u:=hS.sb (w':=w.alloc (.mapIter (N d) clock #[] clock)) (.iter Z id n (F l) (List.range (F l)) Y) (.pointer (N ⟨w.heap.size,0,Y⟩)) (World.grownBy_alloc w _ Y) (by simp[js]) (λg=>⟨w.heap.size,d,clock,#[],rfl,hS.base,heap_alloc_new w _,by rw[mQ _ _ _ _ (by omega)];exact s,λp g=>by simpa using g,Q,n,l,b,clock,by rw[aj H];exact j,v,ax _,
     λ_=>⟨ax _,λ_=>⟨rfl,λi e D=>by have:=(bh.1 D).1;rw[L.1]at this;simp[this],λc M=>by simp at M⟩⟩⟩);refine⟨_,_,_,.inl ?_,u.1,.it _ _ ⟨_,_,_,_,_,_,by simp;exact⟨rfl,rfl,rfl,rfl,rfl,rfl⟩⟩ (eH _ _ _),u.2⟩;simp[execOp,z,I,run_range_map (P:=P) w T K E d b clock hT k]
  simp at h
 simp at h
omit hS in
theorem abg(hS:gU P B w0 w J μ){x:Operand}{R:O}(ho:o.op=.entry x)(hx:cO x=N R){X:Prop}{y:V}(h:ba fr J (.Nz R)=N (X,y)):Yields P o a w J μ y:=by
 have Q:=dp hF hx;simp only[ba]at h;split at h
 .rename_i j hp;rw[hp]at Q;split at h
  .rename_i m E n ps c hj;split at h
   .rename_i K E' es I;split at h
    .rename_i hc;obtain⟨rfl,rfl⟩:=hc;split at h
     .rename_i k y0 s;simp only[aa,aB]at h;obtain⟨_,rfl⟩:=h;obtain⟨r,bm,since,L,q1,_,q3,q4,_,K3,E3,ac,b,clock,p,M,q7,q8⟩:=hS.obj _ _ hj;rw[I]at p;simp only[aa,Ob.map.injEq]at p;obtain⟨rfl,rfl,rfl⟩:=p;obtain⟨T,ad,u⟩:=(q8 rfl).2 rfl;subst T;obtain⟨e,g,C⟩:=u c rfl;obtain⟨r',q,l,d,_,t,S⟩:=hS.obj _ _ I;rw[q4]at d;simp only[Value.map.injEq,aa]at d;subst d;rw[M]at t;simp only[aa,Obj.map.injEq]at t;obtain⟨rfl,rfl⟩:=t;obtain⟨_,_,e2,D,hk,hv⟩:=S.2.1 c k y0 s;rw[g]at D;simp only[aa]at D;subst D;have W:c<b.size:=(bh.1 g).1;have G:b[c]=e:=(bh.1 g).2;have H:b.find? (λx=>x.born==e.born)=N e:=by
       rw[Array.find?_eq_some_iff_getElem];refine⟨by simp,c,W,G,λi hi=>?_⟩;have SN:i<b.size:=by omega
       simp only[da,cU,fJ];intro U;have:=S.2.2.2 i c b[i] e (bD SN) g U;omega
      have Sq:a.eval x=.pointer (N ⟨r,0,Y⟩):=Q.Lc.1.trans q1;refine .pure (v:=.tuple #[e.key,e.val]) ?_ (.gy _ _ rfl λi z f=>?_);.simp[execOp,ho,Sq,Instr.entry,getObj,Sem.run,q3,M,C,H]
      match i with|0=>simp only[aH,aa]at f;subst f;exact hk|1=>simp only[bS,aH,aa]at f;subst f;exact hv|i+2=>simp at f
     simp at h
    simp at h
   simp at h
  simp at h
 simp at h
theorem ae3{T E:TypeId}{t:TypeInfo}{z:Value}{x:Operand}{x':O}{D:ao}{G:List (bP)}(ho:o.op=.call { callee:=.builtin .clear,args:=#[x],argTypes:=#[T] })(hT:P.underlying T=N (.slice E))(ht:P.info? E=N t)(hz:t.zero=N z) (gv:0<t.size) (nP:z.cells.size=t.size) (Qw:jr z.cells.toList=N D) (hx:cO x=N x') {ob:Prop} {r:V} {J':ag} (h:cc fr J (.Hn t.size (cZ G D) x')=N (ob,r,J')) (dP:ob):rT P o a B w0 w J μ r J':=by
 have h1:=dp hF hx;have S6:CR w J μ (cZ G D) z.cells:=(lS Qw).cZ G;generalize cZ G D=zs at h S6;have XM:F zs=t.size:=by rw[S6.1];exact nP
 simp only[cc]at h;split at h
 .rename_i id g c d hp;split at h
  .rename_i E' sz R g' sh i C;split at h
   .rename_i hg;obtain⟨rfl,rfl,rfl⟩:=hg;simp only[aa,aB]at h;obtain⟨rfl,rfl,rfl⟩:=h;rw[hp]at h1;obtain⟨be,J1,hv⟩:=h1.pJ C;have dC:id<F J:=(ab.1 C).1;obtain⟨Nr,a0,⟨Qx,hw⟩,cH,Sv⟩:=hS.obj id _ C;have ac:VR w (J.set id (.row E' t.size R g false (i.take c++List.replicate (d - c) zs++i.drop d))) μ (.gy []) (.tuple #[]):=.gy _ _ rfl (by simp);by_cases h0:c=d
    .subst h0;have e1:J.set id (.row E' t.size R g false (i.take c++List.replicate (c - c) zs++i.drop c))=J:=by simp only[fA,JW,bM,fP];obtain⟨L,e⟩:=ab.1 C;rw[<- e];exact qX L
     have dA:(execOp a.eval o).run P w=.ok (.value (.tuple #[])) w:=by
      have V8:∃ad p,a.eval x=.slice ad 0 p:=by
       rw[hv];rcases hw with⟨Q,_⟩|⟨b,p,l,Q,_⟩;.rw[Q];exact⟨_,_,by simp only[lk,fA];rfl⟩
       rw[Q];exact⟨_,_,by simp only[lk,fA];rfl⟩
      obtain⟨ad,p,V8⟩:=V8;cases ad<;>simp[execOp,ho,resolve,invoke,builtin,V8,Builtin.clear_,run_underlying hT]
     rw[e1]at ac |-;exact⟨_,w,μ,.inl dA,hS,ac,np.refl _ _ _⟩
    rcases hw with⟨_,hn⟩|⟨b,p,l,Q,hB,hh,I5,BY,X,BV⟩;.omega
    have gn:¬p=c:=by omega
    have XN:a.eval x=.slice (N ⟨b,c*t.size,Y⟩) (d - c) (p - c):=by rw[hv,Q];simp[lk,gn,Addr.add_lit]
    obtain⟨m,ap⟩:∃m,d - c=m+1:=⟨d - c - 1,by omega⟩;generalize bn:(Builtin.zeroCells z.cells (d - c)).toList=cl;have U:F cl=(d - c)*t.size:=by rw[<- bn];simp[Builtin.zeroCells,nP]
    have af:∀q,q<(d - c)*t.size->cl[q]?=N (z.cells.getD (q % t.size) undef):=by
     intro q L;rw[<- bn];have SH:q % t.size<z.cells.size:=by rw[nP];exact vB _ gv
     simp only[Builtin.zeroCells,nO,Array.toList_range,bu,nP,lh L,b5];rw[wT _ _ SH]
    have I:c*t.size+(d - c)*t.size=d*t.size:=by rw[<- Nat.add_mul];congr 1;omega
    have a9:d*t.size<=F i*t.size:=bL _ J1;have bi:F i*t.size<=p*t.size:=bL _ I5;have SC:∀v∈cl,v.oneCell'=A:=by
     intro v am;obtain⟨q,L⟩:=eC.1 am;have Ay:q<(d - c)*t.size:=by rw[<- U];exact(ab.1 L).1
     rw[af q Ay]at L;simp only[aa]at L;subst L;have hj:q % t.size<F zs:=by rw[XM];exact vB _ gv
     have:=S6.2 (q % t.size) zs[q % t.size] (an hj);exact(oY hS this (pB (dP _ (cS hj)))).1
    have td:=run_storeCells_at P b (c*t.size) E' cl 0 l w hh (by rw[U,X];omega) SC;generalize ku:(l.toList.take (c*t.size+0)++cl++l.toList.drop (c*t.size+0+F cl)).toArray=arr at td;have dA:(execOp a.eval o).run P w=.ok (.value (.tuple #[])) (w.setRow b arr):=by rw[ap]at bn XN;simp[execOp,ho,resolve,invoke,builtin,XN,Builtin.clear_,run_underlying hT,zeroValue,typeInfo,ht,hz,bn,td]
    have vj:∀j,arr.toList[j]?=if c*t.size<=j/\j<d*t.size then cl[j - c*t.size]? else l.toList[j]?:=by intro j;rw[<- ku];have:=rl l.toList cl (c*t.size) j (by rw[U,aW,X];omega);rw[U,I]at this;simpa[U,I]using this
    have B4:arr.size=l.size:=by rw[<- ku];simp only[eS,ai,bB,bY,aW,U,X,dQ];omega
    have S:F (i.take c++List.replicate (d - c) zs++i.drop d)=F i:=by simp;omega
    have pj:=hS.update (w':=w.setRow b arr) (J':=J.set id (.row E' t.size R g false (i.take c++List.replicate (d - c) zs++i.drop d))) (μ':=μ) id (N b) ⟨rfl,rfl,rfl,by simp,λk _ hk=>setRow_other w b k _ (λe=>hk (by simp[e]))⟩ (λb2 ky=>⟨_,C,by simp,by simp only[aa]at ky;subst ky;simp[Q,js]⟩) (by simp) (λj hj=>aN (λe=>hj e.symm)) (λ_ _=>rfl) (λb2 ky=>.inl ⟨_,C,by simp,ky⟩) (λb2 aV v2 o2 s _ h4 _ f=>absurd ⟨id,o2,s,h4,by rw[C]at s;simp only[aa]at s;subst s;intro hf;simp at hf⟩ f) (λT2 a5 s=>by rw[C]at s;simp at s) (λK E es s=>by rw[C]at s;simp at s) (λE2 a1 a2 g2 a4 a3 _ s=>by
      simp only[aw dC,aa,Ob.row.injEq]at s;obtain⟨rfl,rfl,rfl,rfl,rfl,rfl⟩:=s;exact⟨g,false,i,C,ax _,λ_=>⟨S.symm,rfl⟩⟩) (λzW o2 s=>by
      simp only[aw dC,aa]at s;subst s;refine⟨Nr,arr.toList.take (F i*t.size),⟨?_,.inr ⟨b,p,arr,by rw[S];exact Q,hB,setRow_heap w b l arr E' (0,0) hh,by rw[S];exact I5,BY,by rw[B4,X],by rw[S]⟩⟩,?_,?_⟩;.rw[S];simp only[bB,aW,B4,X];omega
      .intro r W;simp only[bR,List.mem_replicate]at W;rcases W with(f|⟨_,rfl⟩)|f;.exact cH r (dv f)
       .exact XM
       exact cH r (eU f)
      intro n H y hy;obtain⟨r,f,h6⟩:=iD hy;have Hj:n<F i:=by have:=(ab.1 f).1;rw[S]at this;exact this
      have I3:=rl i (List.replicate (d - c) zs) c n (by rw[qY];omega);rw[qY,show c+(d - c)=d by omega]at I3;rw[I3]at f;have nS:F r=t.size:=by
       by_cases M:c<=n/\n<d;.rw[aK M,pn,aK (by omega)]at f;simp only[aa]at f;rw[<- f];exact XM
       rw[au M]at f;exact cH r (bc f)
      have aE:H<t.size:=by rw[<- nS];exact(ab.1 h6).1
      have zX:n*t.size+H<F i*t.size:=by have:(n+1)*t.size<=F i*t.size:=bL _ Hj;rw[cN,gN]at this;omega
      by_cases M:c<=n/\n<d
      .rw[aK M,pn,aK (by omega)]at f;simp only[aa]at f;subst f;have PI:c*t.size<=n*t.size:=bL _ M.1;have kZ:(n+1)*t.size<=d*t.size:=bL _ M.2;rw[cN,gN]at kZ;refine⟨dP y (bc h6),z.cells.getD H undef,?_,(S6.2 H y h6).mono zW⟩;rw[bF zX,vj,aK (by omega),af _ (by omega)];have e2:n*t.size+H - c*t.size=H+t.size*(n - c):=by rw[gE t.size,Nat.sub_mul];omega
       rw[e2,Nat.add_mul_mod_self_left,Af aE]
      rw[au M]at f;have fG:gp i n H=N y:=by rw[o7 f];exact h6
      obtain⟨av,u,h7,h8⟩:=Sv n H y fG;refine⟨av,u,?_,h8.mono zW⟩;rw[bF zX,vj,au ?_];.rw[<- BV,bF zX]at h7;exact h7
      rintro⟨h9,B6⟩;rcases gF n c with z7|z7;.have:(n+1)*t.size<=c*t.size:=bL _ z7;rw[cN,gN]at this;omega
      have:d*t.size<=n*t.size:=bL _ (by omega);omega);exact⟨_,_,μ,.inl dA,pj.1,.gy _ _ rfl (by simp),pj.2⟩
   simp at h
  simp at h
 simp at h
end IH
end Go.Pm

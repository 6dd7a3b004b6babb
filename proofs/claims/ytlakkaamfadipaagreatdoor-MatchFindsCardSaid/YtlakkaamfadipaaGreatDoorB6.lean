/- A part of a proof; the claim's last text says of what. -/
import Derived.Maps.RangeRun
import Derived.Test.YtlakkaamfadipaaGreatDoorB5
set_option linter.all false

namespace Go.Pm
open Go Go.RowKit
section Q5
variable {P:bo} {o:Oper} {a:Act} {B:Nat} {w0 w:bD} {J:ak} {μ:Mem} {fr:aB} (hF:FR w J μ fr a) (hS:lj P B w0 w J μ)
include hF hS
theorem arl{T E:TypeId}{t:TypeInfo}{z:Value}{l c:Operand}{l' c':O}{d:aB}{e:List (cU)}(ho:o.op=.makeSlice T l c)(hT:P.underlying T=some (.slice E))(C:P.info? E=some t)(F:t.zero=some z)
  (jD:0<t.size) (K:z.cells.size=t.size) (YP:mP z.cells.toList=some d) (hl:cO l=some l') (hc:cO c=some c')
  {Y:Prop} {r:V} {J':ak} (h:dE fr J (.mk E t.size t.bytes (eT e d) l' c')=some (Y,r,J')) (fR:Y):zR P o a B w0 w J μ r J':=by
 have L:=fu hF hl;have A:=fu hF hc;simp only[dE]at h;split at h
 .rename_i k n Z m hn hm;simp only[ae,aQ]at h;obtain⟨rfl,rfl,rfl⟩:=h;obtain⟨TT,I,CU,R,W,Q⟩:=fR;rw[hn]at L;rw[hm]at A;have VT:Ti P E t.size t.bytes:=⟨jD,t,z,C,F,rfl,rfl,K⟩;obtain⟨M,rfl⟩:=HK CU;have q:CR w J μ (eT e d) z.cells:=(qQ YP).eT e;have Pj:(eT e d).length=t.size:=by rw[q.1];exact K
  have mj:t.bytes*M<=281474976710656:=by
   have h3:((M*t.bytes:Nat):Int)<=281474976710656:=by rw[Int.natCast_mul];exact R
   rw[kD];exact KW.1 h3
  have X:M<=maxLen:=KW.1 W
  have s:∀(v:Value) (w':bD) (N:Nat) (f:List Value),(Instr.makeSlice T (a.eval l) (a.eval c)).run P w=.ok v w'->w'.ownsRow B E t.size v N f->w.grownBy w' none->(∀b,lZ v=some b->w.heap.size<=b)->n.toNat=N ->
    kN w J μ (List.replicate N (eT e d)) t.size f->zR P o a B w0 w J μ (.own J.length 0) (J++[.row E t.size t.bytes 0 false (List.replicate n.toNat (eT e d))]):=by
   intro v w' N f p y u S hN dd;rw[hN];have oC:=hS.z6 (w':=w') (.row E t.size t.bytes 0 false (List.replicate N (eT e d))) v u S (λhp=>⟨VT,f,by rw[yS];exact y,dd.jF hp.jF⟩);refine⟨v,w',_,.inl (by simp only[execOp,ho,Sem.run_bind,p,Result.andThen_ok,Sem.run_pure]),oC.1,?_,oC.2⟩;have:=VR.uq (w:=w') (J:=J++[.row E t.size t.bytes 0 false (List.replicate N (eT e d))]) (μ:=yO μ J.length v) (id:=J.length) (E:=E) (sz:=t.size) (by':=t.bytes) (g:=0) (sh:=false) (xs:=List.replicate N (eT e d)) (by simp)
   rwa [gR]at this
  rcases I with rfl|rfl
  .obtain⟨w',p,y,u⟩:=run_make_full (P:=P) w B T E t z t.size hT C F rfl k Z M mj X hS.base;refine s _ w' M _ (by rw[L.iF,A.iF];exact p) y u (λb D=>by simp only[lZ,ae]at D;omega) (by simp) ⟨λr p=>by rw[aoj p];exact Pj,λi j x G=>?_⟩;obtain⟨hi,H⟩:=abJ G;have pR:j<t.size:=by rw[<- Pj];exact(ah.1 H).1
   have Hu:i*t.size+j<M*t.size:=by
    have:(i+1)*t.size<=M*t.size:=bI _ hi;rw[cJ,ir]at this;omega
   refine⟨Q x (bE H),z.cells.getD j undef,?_,q.2 j x H⟩;have U:(i*t.size+j) % z.cells.size=j:=by rw[K,Nat.add_comm,Nat.add_mul_mod_self_right,HI pR]
   simp only[madeCells,mh,we,ck,np Hu,cL,U];rw[rY _ _ (by omega)]
  .obtain⟨w',p,y,u⟩:=run_make_own (P:=P) w B T E t z t.size hT C F rfl k Z M mj X hS.base;exact s _ w' 0 _ (by rw[L.iF,A.iF];exact p) y u (λb D=>by simp only[lZ,ae]at D;omega) (by simp) ⟨by simp,λi j x G=>by simp[gj]at G⟩
 .simp at h
theorem an6{T E:TypeId}{t:TypeInfo}{l c:Operand}{A s:O}(M:o.op=.makeSlice T l c)(hT:P.underlying T=some (.slice E))(F:P.info? E=some t)(K:t.zero=some (.slice none 0 0))(u:t.size=1)(Q:cO l=some A)(p:cO c=some s)
  {y:Prop} {r:V} {J':ak} (h:dE fr J (.mkb E t.bytes A s)=some (y,r,J')) (H:y):zR P o a B w0 w J μ r J':=by
 have v:=fu hF Q;have q:=fu hF p;simp only[dE]at h;split at h
 .rename_i k n X m U W;simp only[ae,aQ]at h;obtain⟨rfl,rfl,rfl⟩:=h;obtain⟨rfl,I,g,j⟩:=H;rw[U]at v;rw[W]at q;have C:(maxLen:Int)<=9223372036854775807:=by decide
  have R:=run_make (P:=P) w T E t (.slice none 0 0) hT F K k X n n I (dJ _) (by rw[Int.mul_comm];exact g) (gF j C)
  have d:CR w J μ (List.replicate n.toNat .nil) (madeCells (Value.slice none 0 0).cells (n.toNat*t.size)):=by
   refine⟨by simp[size_madeCells,u],λi x z=>?_⟩;have S:i<n.toNat:=by have:=(ah.1 z).1;simpa using this
   have L:x=.nil:=aoj (bE z);subst L
   have:(madeCells (Value.slice none 0 0).cells (n.toNat*t.size)).getD i undef=.slice none 0 0:=by
    have p:(Value.slice none 0 0).cells=#[.slice none 0 0]:=rfl;simp only[madeCells,p,u,Pc];simp[cx,S,Nat.mod_one]
   rw[this];exact .nil
  obtain⟨f,N,G,Y⟩:=Oe hS E _ _ d;cases G with
  |ptr _ _ b e D =>
   refine⟨_,_,f,.inl (by simp only[execOp,M,Sem.run_bind,v.iF,q.iF,R,Result.andThen_ok,Sem.run_pure]),N,.Af _ _ _ e D,Y⟩
 .simp at h
theorem ai7{T E:TypeId}{len:Nat}{parts:Array (Nat×Operand)}{t:TypeInfo}{z:Value}{xs:List O}{d:List (cU)}(N:o.op=.buildSlice T len parts)(hT:P.underlying T=some (.slice E))(p:P.info? E=some t)(v:t.zero=some z)
  (Q:parts.size=len) (l:0<t.size) (q:z.cells.size=t.size) (m:len*t.size<=2^24) (X:A9 0 parts.toList=some xs) {s:Prop} {r:V} {J':ak} (h:dE fr J (.Sg E t.size t.bytes d xs)=some (s,r,J')) (K:s):zR P o a B w0 w J μ r J':=by
 simp only[dE,ae,aQ]at h;obtain⟨rfl,rfl,rfl⟩:=h;obtain⟨W,k⟩:=K;obtain⟨c,G,A,R,u⟩:=KF hF hS N hT p v Q l q m X W (λr f=>(k r f).1);generalize F:(xs.map λx=>eT d (jw (ev fr x)))=rows at k A u |-;have Y:Ti P E t.size t.bytes:=⟨l,t,z,p,v,rfl,rfl,q⟩;have I:w.grownBy (w.alloc (.cells c E)) none:=World.grownBy_alloc w _ none
 have n:len<=maxLen:=by
  have:len<=len*t.size:=aoZ _ l;unfold maxLen;omega
 have M:=World.ownsRow_lit (e:=E) w c len hS.base n R
 have C:=hS.z6 (w':=w.alloc (.cells c E)) (.row E t.size t.bytes 0 false rows) (.slice (some ⟨w.heap.size,0,none⟩) len len) I (λb H=>by simp only[lZ,ae]at H;omega)
  (λL=>⟨Y,c.toList,by rw[A];exact M,λr f=>(k r f).1,λi j x y=>by
   obtain⟨D,S⟩:=u i j x y;obtain⟨r,f,U⟩:=jz y;refine⟨(k r (bE f)).2 x (bE U),_,?_,L.jF _ _ S⟩;simp[D]⟩)
 refine⟨_,_,_,.inl G,C.1,?_,C.2⟩;have:=VR.uq (w:=w.alloc (.cells c E)) (J:=J++[.row E t.size t.bytes 0 false rows]) (μ:=yO μ J.length (.slice (some ⟨w.heap.size,0,none⟩) len len)) (id:=J.length) (E:=E) (sz:=t.size) (by':=t.bytes) (g:=0) (sh:=false) (xs:=rows) (by simp)
 rwa [gR]at this
omit hF hS in
theorem VR.UX{xs:aB}{kv l:Value}(o:VR w J μ (.agg xs) kv)(D:VR w J μ (.agg xs) l)(A:∀x∈xs,x.WI=true):Instr.sameBits 10000 l kv=true:=by
 obtain⟨C,rfl,F,t⟩:=o.mi;obtain⟨q,rfl,G,y⟩:=D.mi;simp only[Instr.sameBits,aJ,cE,bY];refine⟨by omega,λp u=>?_⟩;obtain⟨i,k⟩:=ed.1 u;rw[List.getElem?_zip_eq_some]at k;obtain⟨e,g⟩:=k
 have f:i<xs.length:=by
  have:=(ah.1 e).1;simp at this;omega
 have m:=ax f;have d:=t i _ m;have c:=y i _ m;have v:q.getD i undef=p.1:=by simp at e;simp[cx,e]
 have n:C.getD i undef=p.2:=by simp at g;simp[cx,g]
 rw[n]at d;rw[v]at c;have z:=A _ (dC f);generalize xs[i]=x at *;obtain⟨a,b⟩:=p;cases x<;>simp[V.WI]at z
 .rw[d.vE,c.vE];simp[Instr.sameBits]
 .rw[d.iF,c.iF];simp[Instr.sameBits]
 .obtain⟨s,j,r,_⟩:=d.qf;obtain⟨E,h,B,_⟩:=c.qf;simp only at j h;subst j;subst h;simp only[Instr.sameBits];rw[beq_toListBytes,toList_data,toList_data,r,B];simp
theorem VR.sameBits{k a:V}{kv l:Value}{f:Nat}(c:VR w J μ k kv)(d:VR w J μ a l)(h:dD f k a=some true):Instr.sameBits 10000 l kv=true:=by
 cases k<;>cases a<;>(try (simp[dD]at h;done))
 .rw[c.vE,d.vE]
  match f with
  |2=>simp only[dD,ae,cE]at h;subst h;simp[Instr.sameBits]
  |0=>simp[dD]at h
  |1=>simp[dD]at h
  |n+3=>simp[dD]at h
 .rw[c.iF,d.iF]
  match f with
  |0 =>
   simp only[dD]at h;split at h<;>simp only[ae,cE,reduceCtorEq]at h;rename_i t;subst t;subst h;simp[Instr.sameBits]
  |1=>simp[dD]at h
  |2=>simp[dD]at h
  |n+3=>simp[dD]at h
 .obtain⟨s,rfl,q,_⟩:=c.qf;obtain⟨v,rfl,g,_⟩:=d.qf
  match f with
  |1 =>
   simp only[dD,ae,cE]at h;subst h;simp only[Instr.sameBits];rw[beq_toListBytes,toList_data,toList_data,q,g];simp
  |0=>simp[dD]at h
  |2=>simp[dD]at h
  |n+3=>simp[dD]at h
 .match f with
  |3 =>
   simp only[dD]at h;obtain⟨p,m,r,i,o,j,rfl,rfl,e⟩:=AG h;rw[c.pair,d.pair];have b:=e.symm;simp only[aJ,cE]at b;obtain⟨rfl,rfl⟩:=b;simp[Instr.sameBits]
  |4 =>
   simp only[dD]at h;obtain⟨m,i,o,j,rfl,rfl,e⟩:=Ao h;have b:=e.symm;simp only[aJ,cE]at b;obtain⟨rfl,rfl⟩:=b;exact VR.UX c d (by simp[V.WI])
  |5 =>
   simp only[dD]at h;obtain⟨p,m,i,r,x,o,j,u,rfl,rfl,e⟩:=CE h;have b:=e.symm;simp only[aJ,cE]at b;obtain⟨rfl,rfl,rfl⟩:=b;exact VR.UX c d (by simp[V.WI])
  |0=>simp[dD]at h
  |1=>simp[dD]at h
  |2=>simp[dD]at h
  |n+6=>simp[dD]at h
omit hF hS in
theorem lj.lu(hS:lj P B w0 w J μ){id K E k clock:Nat}{z:List (V×V)}{h:Array MapEntry}(l:J[id]?=some (.map K E z))(p:μ id=.map (some k))(y:w.heap[k]?=some (.map h clock))
  (q:Nat) (g:List (V×V)) (d:Array MapEntry) (a:Nat) (Y:C6 w J μ g d a) (O:E<=q)
  (S:q=E->z.length<=g.length/\(g.length=z.length->a=clock/\∀(i:Nat) (r:MapEntry),d[i]?=some r->∃e,h[i]?=some e/\e.born=r.born) /\
    ∀(i:Nat) (e:MapEntry),h[i]?=some e->∃r,d[i]?=some r/\r.born=e.born) :
  lj P B w0 { w with heap:=w.heap.setIfInBounds k (.map d a) } (J.set id (.map K q g)) μ/\s7 w J μ { w with heap:=w.heap.setIfInBounds k (.map d a) } (J.set id (.map K q g)) μ:=by
 have s:id<J.length:=(ah.1 l).1;have W:k<w.heap.size:=(cg.1 y).1;have H:(w.heap.setIfInBounds k (.map d a))[k]?=some (.map d a):=by simp[W]
 obtain⟨r',_,_,o,hB,_,_⟩:=hS.obj id _ l;rw[p]at o;simp only[Value.map.injEq,ae]at o;subst o
 exact hS.update (w':={ w with heap:=w.heap.setIfInBounds k (.map d a) }) (J':=J.set id (.map K q g)) (μ':=μ) id (some k)
  ⟨rfl,rfl,rfl,by simp,λj _ A=>by simp only[];rw[eH (λe=>A (by rw[e]))]⟩
  (λb u=>⟨_,l,by simp,by simp only[ae]at u;subst u;simp[p,lZ]⟩)
  (by simp) (λj A=>bz (λe=>A e.symm)) (λ_ _=>rfl)
  (λb u=>.inl ⟨_,l,by simp,u⟩)
  (λb R v2 N f _ F U _=>by
   simp only[p,lZ,ae]at F;subst F;simp[World.cell?,y]at U)
  (λT2 I f=>by rw[l]at f;simp at f)
  (λK2 G X f=>by
   rw[l]at f;simp only[ae,Ob.map.injEq]at f;obtain⟨rfl,rfl,rfl⟩:=f;refine⟨⟨_,_,aL s⟩,rfl,λK3 E3 aa bm D t v C x=>?_⟩;rw[l]at v;simp only[ae,Ob.map.injEq]at v;obtain⟨rfl,rfl,rfl⟩:=v;rw[p]at C;simp only[Value.map.injEq,ae]at C;subst C;rw[y]at x;simp only[ae,Obj.map.injEq]at x;obtain⟨rfl,rfl⟩:=x;exact⟨p,K,q,g,d,a,aL s,H,O,S⟩)
  (λG M Z g2 T Q _ f=>by simp[s]at f)
  (λL N f=>by
   simp only[aL s,ae]at f;subst f;exact⟨k,d,a,p,hB,H,Y.jF L.jF⟩)
  (λst m G n ps c f=>by rw[l]at f;simp at f)
omit hF hS in
theorem C6.push{g:List (V×V)}{d:Array MapEntry}{clock:Nat}(c:C6 w J μ g d clock){k x:V}{kv xv:Value}(r:VR w J μ k kv)(p:VR w J μ x xv)(h1:k.yf=true)(o:x.lO=true):
  C6 w J μ (g++[(k,x)]) (d.push { key:=kv,val:=xv,born:=clock }) (clock+1):=by
 refine⟨by simp[c.1],λi s y f=>?_,λi e b=>?_,λi j e n b a m=>?_⟩
 .by_cases h:i<g.length
  .rw[ay h]at f;obtain⟨t,v,e,q,u⟩:=c.2.1 i s y f;exact⟨t,v,e,by rw[KX (by rw[c.1];exact h)];have:=q;rw[bO (by rw[c.1];exact h)]at this;exact this,u⟩
  .have l:i=g.length:=by
    have:=(ah.1 f).1;simp at this;omega
   subst l;simp only[List.getElem?_concat_length,ae,aQ]at f;obtain⟨rfl,rfl⟩:=f;exact⟨h1,o,_,by rw[<- c.1];exact uR,r,p⟩
 .rw[BX]at b;split at b
  .simp only[ae]at b;subst b;exact Nat.lt_succ_self _
  .exact Nat.lt_succ_of_lt (c.2.2.1 i e b)
 .rw[BX]at b a;split at b
  .split at a
   .omega
   .simp only[ae]at b;subst b;have:=c.2.2.1 j n a;simp only at m;omega
  .split at a
   .simp only[ae]at a;subst a;have:=c.2.2.1 i e b;simp only at m;omega
   .exact c.2.2.2 i j e n b a m
omit hF hS in
theorem Mu{b:List (V×V)}{a:Array MapEntry}{clock:Nat}(j:C6 w J μ b a clock)(k x:V)(d:MapEntry){E g:Nat}:g=E->b.length<=(b++[(k,x)]).length/\((b++[(k,x)]).length=b.length->clock+1=clock/\∀(i:Nat) (c:MapEntry),(a.push d)[i]?=some c->∃e,a[i]?=some e/\e.born=c.born) /\
  ∀(i:Nat) (e:MapEntry),a[i]?=some e->∃c,(a.push d)[i]?=some c/\c.born=e.born:=by
 refine λ_=>⟨by simp,λh=>by simp at h,λi e h=>⟨e,?_,rfl⟩⟩;have f:=(cg.1 h).1;rw[KX f];rw[bO f]at h;exact h
omit hF hS in
theorem C6.modify{s:List (V×V)}{a:Array MapEntry}{clock n:Nat}(p:C6 w J μ s a clock){k x:V}{kv xv:Value}{t:MapEntry}(E:a[n]?=some t)(z:n<s.length)(A:VR w J μ k kv)(D:VR w J μ x xv)(h1:k.yf=true)(v:x.lO=true):
  C6 w J μ (s.set n (k,x)) (a.modify n λe=>{ e with key:=kv,val:=xv }) clock:=by
 have m:∀(i:Nat) (c:MapEntry),(a.modify n λe=>{ e with key:=kv,val:=xv })[i]?=some c->∃f,a[i]?=some f/\f.born=c.born:=by
  intro i c d;rw[dp]at d;split at d
  .simp only[aF]at d;obtain⟨f,l,rfl⟩:=d;exact⟨f,l,rfl⟩
  .exact⟨c,d,rfl⟩
 refine⟨by simp[p.1],λi C y o=>?_,λi c d=>?_,λi j c f d r F=>?_⟩
 .by_cases q:i=n
  .subst q;rw[aL z]at o;simp only[ae,aQ]at o;obtain⟨rfl,rfl⟩:=o;exact⟨h1,v,{ t with key:=kv,val:=xv },by rw[dp,az rfl,E];rfl,A,D⟩
  .rw[bz (λe=>q e.symm)]at o;obtain⟨l,b,c,g,h⟩:=p.2.1 i C y o;exact⟨l,b,c,by rw[dp,an (λe=>q e.symm)];exact g,h⟩
 .obtain⟨f,l,b⟩:=m i c d;rw[<- b];exact p.2.2.1 i f l
 .obtain⟨u,l,b⟩:=m i c d;obtain⟨B,g,h⟩:=m j f r;exact p.2.2.2 i j u B l g (by rw[b,h,F])
omit hF hS in
theorem AM{a:Array MapEntry}{clock d:Nat}(f:MapEntry->MapEntry)(g:∀e,(f e).born=e.born){n c E l:Nat}(m:c=n):l=E->n<=c/\(c=n->clock=clock/\∀(i:Nat) (b:MapEntry),(a.modify d f)[i]?=some b->∃e,a[i]?=some e/\e.born=b.born) /\
  ∀(i:Nat) (e:MapEntry),a[i]?=some e->∃b,(a.modify d f)[i]?=some b/\b.born=e.born:=by
 refine λ_=>⟨by omega,λ_=>⟨rfl,λi b h=>?_⟩,λi e h=>?_⟩
 .rw[dp]at h;split at h
  .simp only[aF]at h;obtain⟨j,k,rfl⟩:=h;exact⟨j,k,(g j).symm⟩
  .exact⟨b,h,rfl⟩
 .rw[dp];split
  .rw[h];exact⟨_,rfl,g e⟩
  .exact⟨e,h,rfl⟩
theorem ai3{T K E:TypeId}{m k x:Operand}{m' k' Z:O}{Y:Nat}{q:List (cU)}(ho:o.op=.mapUpdate T m k x)(hT:P.underlying T=some (.map K E))(hm:cO m=some m')(hk:cO k=some k')(hx:cO x=some Z)(S:oG P K=some Y)
  {ob:Prop} {r:V} {J':ak} (h:dE fr J (.FK Y q m' k' Z)=some (ob,r,J')) (C:ob):zR P o a B w0 w J μ r J':=by
 have h1:=fu hF hm;have s:=fu hF hk;have n:=fu hF hx
 have aa:qd Y (ev fr k')=true:=by
  simp only[dE]at h;split at h
  .split at h
   .split at h<;>simp only[ae,aQ,reduceCtorEq]at h<;>(obtain⟨rfl,_⟩:=h;exact C.1)
   .simp at h
  .simp at h
 simp only[dE]at h;generalize U:eS q (ev fr Z)=xv at h
 have z:VR w J μ xv (a.eval x):=by
  rw[<- U];unfold eS;split
  .rename_i xs hp;rw[hp]at n;obtain⟨vs,I,hl,Eu⟩:=n.mi;rw[I];exact CR.AD (xs:=xs) q ⟨hl,Eu⟩
  .exact n
 split at h
 .rename_i id hp;rw[hp]at h1;obtain⟨v,I,pQ,_⟩:=h1.AQ;split at h
  .rename_i K' H L N;obtain⟨r',b,clock,p,hB,G,j⟩:=hS.obj id _ N;rw[pQ]at p;simp only[Value.map.injEq,ae]at p;subst p;have fk:id<J.length:=(ah.1 N).1;have tm:v<w.heap.size:=(cg.1 G).1;have hg:∀(M:bD),M.heap[v]?=some (.map b clock)->(getObj v).run P M=.ok (.map b clock) M:=λM h=>by simp[getObj,Sem.run,h]
   have B2:=run_checkKey (P:=P) (w:=w) S false 9998 s aa
   have A:∀(f:List (V×V)) (d:Array MapEntry) (c:Nat),(execOp a.eval o).run P w=.ok .skip { w with heap:=w.heap.setIfInBounds v (.map d c) }->C6 w J μ f d c ->
     (H=H->L.length<=f.length/\(f.length=L.length->c=clock/\∀(i:Nat) (D:MapEntry),d[i]?=some D->∃e,b[i]?=some e/\e.born=D.born) /\
      ∀(i:Nat) (e:MapEntry),b[i]?=some e->∃D,d[i]?=some D/\D.born=e.born)->zR P o a B w0 w J μ .u (J.set id (.map K' H f)):=by
    intro f d c hr YY ab;have wg:=hS.lu N pQ G H f d c YY (aD _) ab;exact⟨undef,_,μ,.inr ⟨hr,rfl⟩,wg.1,.u _,wg.2⟩
   have pP:∀l,(setObj v l).run P w=.ok () { w with heap:=w.heap.setIfInBounds v l }:=λl=>by simp[setObj,Sem.run,G]
   split at h
   .rename_i hf;simp only[ae,aQ]at h;obtain⟨rfl,rfl,rfl⟩:=h
    have X:=pr S s L b.toList none (by rw[bh];exact j.1) (λi a x W=>by
     obtain⟨_,_,e,n,g,t⟩:=j.2.1 i a x W;exact⟨e,by simpa using n,g,t⟩) hf
    have F:(Instr.findKey K (a.eval k) b.toList).run P w=.ok none w:=by
     rcases X with⟨_,h⟩|⟨i,x,e,a2,h,_⟩
     .exact h
     .simp at h
    refine A _ (b.push { key:=a.eval k,val:=a.eval x,born:=clock }) (clock+1) ?_ (j.push s z (CS C.1) C.2) (Mu j _ _ _);simp[execOp,ho,I,Instr.mapUpdate,run_underlying hT,hg w G,B2,F,pP]
   .rename_i i0 x0 hf;simp only[ae,aQ]at h;obtain⟨rfl,rfl,rfl⟩:=h
    have X:=pr S s L b.toList _ (by rw[bh];exact j.1) (λi a x W=>by
     obtain⟨_,_,e,n,g,t⟩:=j.2.1 i a x W;exact⟨e,by simpa using n,g,t⟩) hf
    rcases X with⟨g,_⟩|⟨i,y,e,a2,g,t,h6,h7,h8⟩
    .simp at g
    .simp only[ae,aQ]at g;obtain⟨rfl,rfl⟩:=g;obtain⟨_,_,e2,h9,AU,_⟩:=j.2.1 i0 a2 x0 t
     have Q:e2=e:=by
      have:b[i0]?=some e:=by simpa using h6
      rw[h9]at this;simpa using this
     subst Q;have R:=VR.sameBits hF hS s AU h7;refine A _ (b.modify i0 λe=>{ e with key:=a.eval k,val:=a.eval x }) clock ?_ (j.modify h9 (ah.1 t).1 s z (CS C.1) C.2) (AM (λe:MapEntry=>{ e with key:=a.eval k,val:=a.eval x }) (λ_=>rfl) (by simp));simp[execOp,ho,I,Instr.mapUpdate,run_underlying hT,hg w G,B2,h8,h9,Instr.keyThatStays,R,pP]
   .simp at h
  .simp at h
 .simp at h
omit hF hS in
theorem VR.Nt{k a:V}{d:Nat}{kv c:Value}(b:VR w J μ k kv)(e:VR w J μ a c)(h:dD d k a=some true):VR w J μ a kv:=by
 rw[<- Au h];exact b
omit hF hS in
theorem lj.mm(hS:lj P B w0 w J μ){id K E d clock c:Nat}{b:List (V×V)}{a:Array MapEntry}{e:MapEntry}(f:J[id]?=some (.map K E b))(j:μ id=.map (some d))(i:w.heap[d]?=some (.map a clock))(k:a[c]?=some e):
  lj P B w0 w (J++[.iter true id E b.length [] (some c)]) (yO μ J.length (.int .i64 e.born))/\s7 w J μ w (J++[.iter true id E b.length [] (some c)]) (yO μ J.length (.int .i64 e.born)):=by
 have h:id<J.length:=(ah.1 f).1;refine hS.z6 _ _ (grownBy_refl w none) (by simp[lZ]) λl=>⟨e.born,rfl,d,?_,K,E,b,a,clock,?_,i,aD _,λ_=>⟨aD _,λm g=>?_⟩⟩
 .rw[sI _ _ _ _ (by omega)];exact j
 .rw[ay h];exact f
 .simp only[ae]at g;subst g;exact⟨e,k,rfl⟩
theorem ai5{T K E:TypeId}{m k:Operand}{m' k':O}{kd:Nat}{z:V}(ho:o.op=.mapEntry T m k)(hT:P.underlying T=some (.map K E))(hm:cO m=some m')(hk:cO k=some k')(N:oG P K=some kd)(hz:zeroV P E=some z)
  {ob:Prop} {r:V} {J':ak} (h:dE fr J (.Oi kd z m' k')=some (ob,r,J')) (R:ob):zR P o a B w0 w J μ r J':=by
 have h1:=fu hF hm;have s:=fu hF hk;obtain⟨L,X,G⟩:=Pv (w:=w) (J:=J) (μ:=μ) hz;simp only[dE]at h;split at h
 .rename_i id hp;rw[hp]at h1;obtain⟨p,hv,F,_⟩:=h1.AQ;split at h
  .rename_i K' U g C;obtain⟨r',b,clock,u,hB,I,j⟩:=hS.obj id _ C;rw[F]at u;simp only[Value.map.injEq,ae]at u;subst u;have fk:id<J.length:=(ah.1 C).1;have tm:p<w.heap.size:=(cg.1 I).1;have hg:(getObj p).run P w=.ok (.map b clock) w:=by simp[getObj,Sem.run,I]
   have pP:∀t,(setObj p t).run P w=.ok () { w with heap:=w.heap.setIfInBounds p t }:=λt=>by simp[setObj,Sem.run,I]
   split at h
   .rename_i hf;simp only[ae,aQ]at h;obtain⟨rfl,rfl,rfl⟩:=h;have B2:=run_checkKey (P:=P) (w:=w) N false 9998 s R.1
    have EA:=pr N s g b.toList none (by rw[bh];exact j.1) (λi a x Z=>by
     obtain⟨_,_,e,Y,l,v⟩:=j.2.1 i a x Z;exact⟨e,by simpa using Y,l,v⟩) hf
    have H:(Instr.findKey K (a.eval k) b.toList).run P w=.ok none w:=by
     rcases EA with⟨_,h⟩|⟨i,x,e,Q,h,_⟩
     .exact h
     .simp at h
    have YY:=j.push s G (CS R.1) R.2;have n:=hS.lu C F I U (g++[(ev fr k',z)]) (b.push { key:=a.eval k,val:=L,born:=clock }) (clock+1) YY (aD _) (Mu j _ _ _);have A:(w.heap.setIfInBounds p (.map (b.push { key:=a.eval k,val:=L,born:=clock }) (clock+1)))[p]?=some (.map (b.push { key:=a.eval k,val:=L,born:=clock }) (clock+1)):=by simp[tm]
    have q:=n.1.mm (c:=g.length) (e:={ key:=a.eval k,val:=L,born:=clock }) (aL fk) F A (by rw[<- j.1];exact uR);simp only[aj,ai,al,aY,fq]at q;refine⟨.tuple #[L,.int .i64 clock],_,_,.inl ?_,q.1,?_,n.2.trans q.2⟩
    .simp[execOp,ho,hv,Instr.mapEntry,run_underlying hT,hg,B2,H,pP,X,goInt]
    .refine .iQ _ _ rfl λi x d=>?_
     match i with
     |0=>simp only[aM,ae]at d;subst d;exact(G.mono n.2).mono q.2
     |1=>simp only[bX,aM,ae]at d;subst d;exact .it _ _ ⟨_,_,_,_,_,_,by rw[aU (by simp)];simp;exact⟨rfl,rfl,rfl,rfl,rfl,rfl⟩⟩ (by simp[yO])
     |i+2=>simp at d
   .rename_i f x0 hf;simp only[ae,aQ]at h;obtain⟨rfl,rfl,rfl⟩:=h;have B2:=run_checkKey (P:=P) (w:=w) N false 9998 s R
    have EA:=pr N s g b.toList _ (by rw[bh];exact j.1) (λi a x Z=>by
     obtain⟨_,_,e,Y,l,v⟩:=j.2.1 i a x Z;exact⟨e,by simpa using Y,l,v⟩) hf
    rcases EA with⟨l,_⟩|⟨i,y,e,Q,l,v,h6,h7,h8⟩
    .simp at l
    .simp only[ae,aQ]at l;obtain⟨rfl,rfl⟩:=l;obtain⟨tn,K5,D,M,AU,Hz⟩:=j.2.1 f Q x0 v
     have S:D=e:=by
      have:b[f]?=some e:=by simpa using h6
      rw[M]at this;simpa using this
     subst S;have wh:=(ah.1 v).1;have W:=VR.sameBits hF hS s AU h7
     have YY:C6 w J μ g (b.modify f λe=>{ e with key:=a.eval k }) clock:=by
      have:=j.modify (k:=Q) (x:=x0) (kv:=a.eval k) (xv:=D.val) M wh (VR.Nt s AU h7) Hz tn K5;rw[show g.set f (Q,x0)=g by obtain⟨hq,e⟩:=ah.1 v;rw[<- e];exact yR hq]at this
      have e3:(b.modify f λe=>{ e with key:=a.eval k,val:=D.val })=b.modify f λe=>{ e with key:=a.eval k }:=by
       apply UH;intro i;rw[dp,dp];split
       .rename_i OK;subst OK;rw[M];rfl
       .rfl
      rwa [e3]at this
     have n:=hS.lu C F I U g (b.modify f λe=>{ e with key:=a.eval k }) clock YY (aD _) (AM (λe:MapEntry=>{ e with key:=a.eval k }) (λ_=>rfl) rfl);have aa:J.set id (.map K' U g)=J:=by obtain⟨hq,e⟩:=ah.1 C;rw[<- e];exact yR hq
     rw[aa]at n;have A:(w.heap.setIfInBounds p (.map (b.modify f λe=>{ e with key:=a.eval k }) clock))[p]?=some (.map (b.modify f λe=>{ e with key:=a.eval k }) clock):=by simp[tm]
     have q:=n.1.mm (c:=f) (e:={ D with key:=a.eval k }) C F A (by rw[dp,az rfl,M];rfl);refine⟨.tuple #[D.val,.int .i64 D.born],_,_,.inl ?_,q.1,?_,n.2.trans q.2⟩
     .simp[execOp,ho,hv,Instr.mapEntry,run_underlying hT,hg,B2,h8,M,Instr.keyThatStays,W,pP,goInt]
     .refine .iQ _ _ rfl λi x d=>?_
      match i with
      |0=>simp only[aM,ae]at d;subst d;exact(Hz.mono n.2).mono q.2
      |1=>simp only[bX,aM,ae]at d;subst d;exact .it _ _ ⟨_,_,_,_,_,_,by simp;exact⟨rfl,rfl,rfl,rfl,rfl,rfl⟩⟩ (by simp[yO])
      |i+2=>simp at d
   .simp at h
  .simp at h
 .simp at h
theorem ai4{T K E:TypeId}{m q x:Operand}{m' q' W:O}{t:List (cU)}(ho:o.op=.entryStore T m q x)(hm:cO m=some m')(hq:cO q=some q')(hx:cO x=some W)
  {ob:Prop} {r:V} {J':ak} (h:dE fr J (.Oh t m' q' W)=some (ob,r,J')) (fR:ob):zR P o a B w0 w J μ r J':=by
 have h1:=fu hF hm;have h2:=fu hF hq;have I:=fu hF hx;simp only[dE]at h;generalize H:eS t (ev fr W)=xv at h
 have L:VR w J μ xv (a.eval x):=by
  rw[<- H];unfold eS;split
  .rename_i xs X;rw[X]at I;obtain⟨vs,M,hl,Eu⟩:=I.mi;rw[M];exact CR.AD (xs:=xs) t ⟨hl,Eu⟩
  .exact I
 split at h
 .rename_i id j X Ah;rw[X]at h1;rw[Ah]at h2;obtain⟨C,M,D,_⟩:=h1.AQ;split at h
  .rename_i K' E' es Y E2 n ps c z hj;split at h
   .rename_i hc;obtain⟨rfl,rfl⟩:=hc;split at h
    .rename_i S y0 JX;simp only[ae,aQ]at h;obtain⟨rfl,rfl,rfl⟩:=h;obtain⟨r',b,clock,p,hB,v,Z⟩:=hS.obj _ _ z;rw[D]at p;simp only[Value.map.injEq,ae]at p;subst p;obtain⟨f,F,bm,s,K3,E3,ad,Q,A,U,N,q3,q4⟩:=hS.obj _ _ hj;rw[z]at U;simp only[ae,Ob.map.injEq]at U;obtain⟨rfl,rfl,rfl⟩:=U;rw[D]at s;simp only[Value.map.injEq,ae]at s;subst s;rw[v]at N;simp only[ae,Obj.map.injEq]at N;obtain⟨rfl,rfl⟩:=N;obtain⟨_,q5⟩:=q4 rfl;obtain⟨y,d,aa⟩:=q5 c rfl;have fk:Y<J.length:=(ah.1 z).1;have tm:C<w.heap.size:=(cg.1 v).1;have bn:c<es.length:=(ah.1 JX).1;obtain⟨tn,_,e1,l,sD,_⟩:=Z.2.1 c S y0 JX;rw[d]at l;simp only[ae]at l;subst l;have YY:=Z.modify (k:=S) (x:=xv) (kv:=y.key) (xv:=a.eval x) d bn sD L tn fR
     have e3:(b.modify c λe=>{ e with key:=y.key,val:=a.eval x })=b.modify c λe=>{ e with val:=a.eval x }:=by
      apply UH;intro i;rw[dp,dp];split
      .rename_i OK;subst OK;rw[d];rfl
      .rfl
     rw[e3]at YY;have wg:=hS.lu z D v _ (es.set c (S,xv)) (b.modify c λe=>{ e with val:=a.eval x }) clock YY (aD _) (AM (λe:MapEntry=>{ e with val:=a.eval x }) (λ_=>rfl) (by simp));have hg:(getObj C).run P w=.ok (.map b clock) w:=by simp[getObj,Sem.run,v]
     have pP:∀g,(setObj C g).run P w=.ok () { w with heap:=w.heap.setIfInBounds C g }:=λg=>by simp[setObj,Sem.run,v]
     have G:a.eval q=.int .i64 f:=by rw[h2.TM.1,F]
     have MW:b.findIdx? (λe=>(e.born:Int)==f)=some c:=by
      have pN:c<b.size:=(cg.1 d).1;have ab:b[c]=y:=(cg.1 d).2;rw[Array.findIdx?_eq_some_iff_getElem];refine⟨pN,by rw[ab];simp[aa],λj ac=>?_⟩;have R:j<b.size:=by omega
      simp only[Bool.not_eq_true,di,fc,dm,YK];intro T5;have:=Z.2.2.2 j c b[j] y (bO R) d (by omega);omega
     refine⟨undef,_,μ,.inr ⟨?_,rfl⟩,wg.1,.u _,wg.2⟩;simp[execOp,ho,M,Instr.entryStore,hg,G,asInt,asIntOf,MW,pP]
    .simp at h
   .simp at h
  .simp at h
 .simp at h
theorem ai6{T K E K2:TypeId}{m k:Operand}{m' k':O}{kd:Nat}(Y:o.op=.call { callee:=.builtin .delete,args:=#[m,k],argTypes:=#[T,K2] })(hT:P.underlying T=some (.map K E))(hm:cO m=some m')(hk:cO k=some k')(F:oG P K=some kd)
  {X:Prop} {r:V} {J':ak} (h:dE fr J (.Lx kd m' k')=some (X,r,J')) (fR:X):zR P o a B w0 w J μ r J':=by
 have h1:=fu hF hm;have D:=fu hF hk;simp only[dE]at h;split at h
 .rename_i id hp;rw[hp]at h1;obtain⟨G,Z,I,_⟩:=h1.AQ;split at h
  .rename_i K' L p s;obtain⟨r',b,clock,n,hB,C,d⟩:=hS.obj id _ s;rw[I]at n;simp only[Value.map.injEq,ae]at n;subst n;have fk:id<J.length:=(ah.1 s).1;have tm:G<w.heap.size:=(cg.1 C).1;have hg:(getObj G).run P w=.ok (.map b clock) w:=by simp[getObj,Sem.run,C]
   have pP:∀g,(setObj G g).run P w=.ok () { w with heap:=w.heap.setIfInBounds G g }:=λg=>by simp[setObj,Sem.run,C]
   split at h
   .rename_i U;simp only[ae,aQ]at h;obtain⟨rfl,rfl,rfl⟩:=h;have Q:=run_checkKey (P:=P) (w:=w) F b.isEmpty 9998 D fR
    have R:=pr F D p b.toList none (by rw[bh];exact d.1) (λi a x l=>by
     obtain⟨_,_,e,M,f,z⟩:=d.2.1 i a x l;exact⟨e,by simpa using M,f,z⟩) U
    have A:(Instr.findKey K (a.eval k) b.toList).run P w=.ok none w:=by
     rcases R with⟨_,h⟩|⟨i,x,e,a2,h,_⟩
     .exact h
     .simp at h
    have q:=hS.lu s I C L p b clock d (aD _) (λ_=>⟨aD _,λ_=>⟨rfl,λi S h=>⟨S,h,rfl⟩⟩,λi e h=>⟨e,h,rfl⟩⟩);have N:J.set id (.map K' L p)=J:=by obtain⟨hq,e⟩:=ah.1 s;rw[<- e];exact yR hq
    rw[N]at q;refine⟨.tuple #[],_,μ,.inl ?_,q.1,.iQ _ _ rfl (by simp),q.2⟩;simp[execOp,Y,resolve,invoke,builtin,Z,Builtin.delete_,run_underlying hT,hg,Q,A,pP]
   .rename_i c x0 U;simp only[ae,aQ]at h;obtain⟨rfl,rfl,rfl⟩:=h;have Q:=run_checkKey (P:=P) (w:=w) F b.isEmpty 9998 D fR
    have R:=pr F D p b.toList _ (by rw[bh];exact d.1) (λi a x l=>by
     obtain⟨_,_,e,M,f,z⟩:=d.2.1 i a x l;exact⟨e,by simpa using M,f,z⟩) U
    rcases R with⟨f,_⟩|⟨i,y,e,a2,f,z,h6,h7,h8⟩
    .simp at f
    .simp only[ae,aQ]at f;obtain⟨rfl,rfl⟩:=f;have W:c<p.length:=(ah.1 z).1;have v:c<b.size:=by rw[d.1];exact W
     have H:∀i,(b.eraseIdxIfInBounds c)[i]?=b[if i<c then i else i+1]?:=by
      intro i;rw[<- Array.getElem?_toList,<- Array.getElem?_toList]
      have:(b.eraseIdxIfInBounds c).toList=b.toList.eraseIdx c:=by
       unfold Array.eraseIdxIfInBounds;rw[dif_pos v];simp
      rw[this,arH];split<;>rfl
     have YY:C6 w J μ (p.eraseIdx c) (b.eraseIdxIfInBounds c) clock:=by
      refine⟨?_,λi k x l=>?_,λi e u=>?_,λi j e S u t T6=>?_⟩
      .have:(b.eraseIdxIfInBounds c).size=b.size - 1:=by
        unfold Array.eraseIdxIfInBounds;rw[dif_pos v];simp
       rw[this,List.length_eraseIdx,az W,d.1]
      .rw[arH]at l;rw[H];split at l<;>rename_i hc<;>simp only[hc,aT,aS]<;>exact d.2.1 _ k x l
      .rw[H]at u;exact d.2.2.1 _ e u
      .rw[H]at u t;have:=d.2.2.2 _ _ e S u t T6;split at this<;>split at this<;>omega
     have q:=hS.lu s I C (L+1) (p.eraseIdx c) (b.eraseIdxIfInBounds c) clock YY (by omega) (λh=>by omega);refine⟨.tuple #[],_,μ,.inl ?_,q.1,.iQ _ _ rfl (by simp),q.2⟩;simp[execOp,Y,resolve,invoke,builtin,Z,Builtin.delete_,run_underlying hT,hg,Q,h8,pP]
   .simp at h
  .simp at h
 .simp at h
theorem afu{T K E:TypeId}{x:Operand}{s:O}(z:o.op=.range T x)(hT:P.underlying T=some (.map K E))(C:cO x=some s)
  {y:Prop} {r:V} {J':ak} (h:dE fr J (.range s)=some (y,r,J')):zR P o a B w0 w J μ r J':=by
 have q:=fu hF C;simp only[dE]at h;split at h
 .rename_i id g;rw[g]at q;obtain⟨d,F,m,_⟩:=q.AQ;split at h
  .rename_i I n l j;simp only[ae,aQ]at h;obtain⟨rfl,rfl,rfl⟩:=h;obtain⟨L,b,clock,f,M,k,G⟩:=hS.obj id _ j;rw[m]at f;simp only[Value.map.injEq,ae]at f;subst f;have u:id<J.length:=(ah.1 j).1;have D:d<w.heap.size:=(cg.1 k).1
   have v:(w.alloc (.mapIter (some d) clock #[] clock)).heap[d]?=some (.map b clock):=by
    rw[(World.grownBy_alloc w (.mapIter (some d) clock #[] clock) none).block d D (by simp)];exact k
   have t:=hS.z6 (w':=w.alloc (.mapIter (some d) clock #[] clock)) (.iter false id n l.length (List.range l.length) none) (.pointer (some ⟨w.heap.size,0,none⟩)) (World.grownBy_alloc w _ none) (by simp[lZ])
    (λg=>⟨w.heap.size,d,clock,#[],rfl,hS.base,heap_alloc_new w _,by rw[sI _ _ _ _ (by omega)];exact m,λp g=>by simpa using g,I,n,l,b,clock,by rw[ay u];exact j,v,aD _,
     λ_=>⟨aD _,λ_=>⟨rfl,λi e A=>by
      have:=(cg.1 A).1;rw[G.1]at this;simp[this],λc H=>by simp at H⟩⟩⟩)
   refine⟨_,_,_,.inl ?_,t.1,.it _ _ ⟨_,_,_,_,_,_,by simp;exact⟨rfl,rfl,rfl,rfl,rfl,rfl⟩⟩ (gR _ _ _),t.2⟩;simp[execOp,z,F,run_range_map (P:=P) w T K E d b clock hT k]
  .simp at h
 .simp at h
omit hS in
theorem ajN(hS:lj P B w0 w J μ){x:Operand}{M:O}(S:o.op=.entry x)(T:cO x=some M){Q:Prop}{y:V}(h:bT fr J (.ent M)=some (Q,y)):Yields P o a w J μ y:=by
 have L:=fu hF T;simp only[bT]at h;split at h
 .rename_i j hp;rw[hp]at L;split at h
  .rename_i m E n ps c W;split at h
   .rename_i K E' es G;split at h
    .rename_i Y;obtain⟨rfl,rfl⟩:=Y;split at h
     .rename_i k U A;simp only[ae,aQ]at h;obtain⟨_,rfl⟩:=h;obtain⟨r,bm,since,H,q1,_,R,q4,_,K3,E3,aa,b,clock,p,I,q7,q8⟩:=hS.obj _ _ W;rw[G]at p;simp only[ae,Ob.map.injEq]at p;obtain⟨rfl,rfl,rfl⟩:=p;obtain⟨q9,ab,q11⟩:=(q8 rfl).2 rfl;subst q9;obtain⟨e,g,D⟩:=q11 c rfl;obtain⟨r',q,l,d,_,C,N⟩:=hS.obj _ _ G;rw[q4]at d;simp only[Value.map.injEq,ae]at d;subst d;rw[I]at C;simp only[ae,Obj.map.injEq]at C;obtain⟨rfl,rfl⟩:=C;obtain⟨_,_,e2,u,Z,X⟩:=N.2.1 c k U A;rw[g]at u;simp only[ae]at u;subst u;have pN:c<b.size:=(cg.1 g).1;have F:b[c]=e:=(cg.1 g).2
      have s:b.find? (λx=>x.born==e.born)=some e:=by
       rw[Array.find?_eq_some_iff_getElem];refine⟨by simp,c,pN,F,λi hi=>?_⟩;have t:i<b.size:=by omega
       simp only[dm,di,fc];intro T5;have:=N.2.2.2 i c b[i] e (bO t) g T5;omega
      have LH:a.eval x=.pointer (some ⟨r,0,none⟩):=L.TM.1.trans q1;refine .pure (v:=.tuple #[e.key,e.val]) ?_ (.iQ _ _ rfl λi z f=>?_)
      .simp[execOp,S,LH,Instr.entry,getObj,Sem.run,R,I,D,s]
      .match i with
       |0=>simp only[aM,ae]at f;subst f;exact Z
       |1=>simp only[bX,aM,ae]at f;subst f;exact X
       |i+2=>simp at f
     .simp at h
    .simp at h
   .simp at h
  .simp at h
 .simp at h
theorem an7{T E:TypeId}{t:TypeInfo}{z:Value}{x:Operand}{x':O}{C:aB}{F:List (cU)}(ho:o.op=.call { callee:=.builtin .clear,args:=#[x],argTypes:=#[T] })(hT:P.underlying T=some (.slice E))(ht:P.info? E=some t)(hz:t.zero=some z)
  (jD:0<t.size) (qF:z.cells.size=t.size) (YP:mP z.cells.toList=some C) (hx:cO x=some x')
  {ob:Prop} {r:V} {J':ak} (h:dE fr J (.RZ t.size (eT F C) x')=some (ob,r,J')) (fR:ob):zR P o a B w0 w J μ r J':=by
 have h1:=fu hF hx;have D:CR w J μ (eT F C) z.cells:=(qQ YP).eT F;generalize eT F C=zs at h D;have Pj:zs.length=t.size:=by rw[D.1];exact qF
 simp only[dE]at h;split at h
 .rename_i id g c d hp;split at h
  .rename_i W sz N g' sh i A;split at h
   .rename_i hg;obtain⟨rfl,rfl,rfl⟩:=hg;simp only[ae,aQ]at h;obtain⟨rfl,rfl,rfl⟩:=h;rw[hp]at h1;obtain⟨a7,SB,hv⟩:=h1.wX A;have fk:id<J.length:=(ah.1 A).1;obtain⟨VT,aE,⟨LG,hw⟩,dd,af⟩:=hS.obj id _ A;have Z:VR w (J.set id (.row W t.size N g false (i.take c++List.replicate (d - c) zs++i.drop d))) μ (.iQ []) (.tuple #[]):=.iQ _ _ rfl (by simp)
    by_cases h0:c=d
    .subst h0
     have e1:J.set id (.row W t.size N g false (i.take c++List.replicate (c - c) zs++i.drop c))=J:=by
      simp only[jm,Su,bL,dZ];obtain⟨I,e⟩:=ah.1 A;rw[<- e];exact yR I
     have fD:(execOp a.eval o).run P w=.ok (.value (.tuple #[])) w:=by
      have Q:∃ad p,a.eval x=.slice ad 0 p:=by
       rw[hv];rcases hw with⟨M,_⟩|⟨b,p,l,M,_⟩
       .rw[M];exact⟨_,_,by simp only[pO,jm];rfl⟩
       .rw[M];exact⟨_,_,by simp only[pO,jm];rfl⟩
      obtain⟨ad,p,Q⟩:=Q;cases ad<;>simp[execOp,ho,resolve,invoke,builtin,Q,Builtin.clear_,run_underlying hT]
     rw[e1]at Z |-;exact⟨_,w,μ,.inl fD,hS,Z,s7.refl _ _ _⟩
    .rcases hw with⟨_,hn⟩|⟨b,p,l,M,hB,hh,Ez,Co,X,JJ⟩
     .omega
     .have iR:¬p=c:=by omega
      have TR:a.eval x=.slice (some ⟨b,c*t.size,none⟩) (d - c) (p - c):=by rw[hv,M];simp[pO,iR,Addr.add_lit]
      obtain⟨m,ac⟩:∃m,d - c=m+1:=⟨d - c - 1,by omega⟩;generalize bn:(Builtin.zeroCells z.cells (d - c)).toList=cl;have R:cl.length=(d - c)*t.size:=by rw[<- bn];simp[Builtin.zeroCells,qF]
      have Y:∀q,q<(d - c)*t.size->cl[q]?=some (z.cells.getD (q % t.size) undef):=by
       intro q I;rw[<- bn];have aa:q % t.size<z.cells.size:=by rw[qF];exact tc _ jD
       simp only[Builtin.zeroCells,mh,we,ck,qF,np I,cL];rw[rY _ _ aa]
      have H:c*t.size+(d - c)*t.size=d*t.size:=by rw[<- Nat.add_mul];congr 1;omega
      have a1:d*t.size<=i.length*t.size:=bI _ SB;have a5:i.length*t.size<=p*t.size:=bI _ Ez
      have JL:∀v∈cl,v.oneCell'=true:=by
       intro v ab;obtain⟨q,I⟩:=ed.1 ab;have HV:q<(d - c)*t.size:=by rw[<- R];exact(ah.1 I).1
       rw[Y q HV]at I;simp only[ae]at I;subst I;have hj:q % t.size<zs.length:=by rw[Pj];exact tc _ jD
       have:=D.2 (q % t.size) zs[q % t.size] (ax hj);exact(vU hS this (wI (fR _ (dC hj)))).1
      have ui:=run_storeCells_at P b (c*t.size) W cl 0 l w hh (by rw[R,X];omega) JL;generalize oC:(l.toList.take (c*t.size+0)++cl++l.toList.drop (c*t.size+0+cl.length)).toArray=arr at ui
      have fD:(execOp a.eval o).run P w=.ok (.value (.tuple #[])) (w.setRow b arr):=by
       rw[ac]at bn TR;simp[execOp,ho,resolve,invoke,builtin,TR,Builtin.clear_,run_underlying hT,zeroValue,typeInfo,ht,hz,bn,ui]
      have CW:∀j,arr.toList[j]?=if c*t.size<=j/\j<d*t.size then cl[j - c*t.size]? else l.toList[j]?:=by
       intro j;rw[<- oC];have:=zb l.toList cl (c*t.size) j (by rw[R,bh,X];omega);rw[R,H]at this;simpa[R,H]using this
      have J0:arr.size=l.size:=by
       rw[<- oC];simp only[eU,aj,aP,bA,bh,R,X,de];omega
      have S:(i.take c++List.replicate (d - c) zs++i.drop d).length=i.length:=by simp;omega
      have wg:=hS.update (w':=w.setRow b arr) (J':=J.set id (.row W t.size N g false (i.take c++List.replicate (d - c) zs++i.drop d))) (μ':=μ) id (some b)
       ⟨rfl,rfl,rfl,by simp,λk _ hk=>setRow_other w b k _ (λe=>hk (by simp[e]))⟩
       (λb2 mj=>⟨_,A,by simp,by simp only[ae]at mj;subst mj;simp[M,lZ]⟩)
       (by simp) (λj hj=>bz (λe=>hj e.symm)) (λ_ _=>rfl)
       (λb2 mj=>.inl ⟨_,A,by simp,mj⟩)
       (λb2 av v2 o2 s _ h4 _ f=>absurd ⟨id,o2,s,h4,by rw[A]at s;simp only[ae]at s;subst s;intro hf;simp at hf⟩ f)
       (λT2 a6 s=>by rw[A]at s;simp at s)
       (λK E es s=>by rw[A]at s;simp at s)
       (λE2 a0 a2 g2 a4 a3 _ s=>by
        simp only[aL fk,ae,Ob.row.injEq]at s;obtain⟨rfl,rfl,rfl,rfl,rfl,rfl⟩:=s;exact⟨g,false,i,A,aD _,λ_=>⟨S.symm,rfl⟩⟩)
       (λAh o2 s=>by
        simp only[aL fk,ae]at s;subst s;refine⟨VT,arr.toList.take (i.length*t.size),⟨?_,.inr ⟨b,p,arr,by rw[S];exact M,hB,setRow_heap w b l arr W (0,0) hh,by rw[S];exact Ez,Co,by rw[J0,X],by rw[S]⟩⟩,?_,?_⟩
        .rw[S];simp only[aP,bh,J0,X];omega
        .intro r U;simp only[bP,List.mem_replicate]at U;rcases U with(f|⟨_,rfl⟩)|f
         .exact dd r (cF f)
         .exact Pj
         .exact dd r (cH f)
        .intro n G y hy;obtain⟨r,f,h6⟩:=jz hy;have Pt:n<i.length:=by have:=(ah.1 f).1;rw[S]at this;exact this
         have MR:=zb i (List.replicate (d - c) zs) c n (by rw[yS];omega);rw[yS,show c+(d - c)=d by omega]at MR;rw[MR]at f
         have tm:r.length=t.size:=by
          by_cases L:c<=n/\n<d
          .rw[az L,wu,az (by omega)]at f;simp only[ae]at f;rw[<- f];exact Pj
          .rw[an L]at f;exact dd r (bE f)
         have ap:G<t.size:=by rw[<- tm];exact(ah.1 h6).1
         have Hu:n*t.size+G<i.length*t.size:=by
          have:(n+1)*t.size<=i.length*t.size:=bI _ Pt;rw[cJ,ir]at this;omega
         by_cases L:c<=n/\n<d
         .rw[az L,wu,az (by omega)]at f;simp only[ae]at f;subst f;have XX:c*t.size<=n*t.size:=bI _ L.1;have pJ:(n+1)*t.size<=d*t.size:=bI _ L.2;rw[cJ,ir]at pJ;refine⟨fR y (bE h6),z.cells.getD G undef,?_,(D.2 G y h6).mono Ah⟩;rw[cz Hu,CW,az (by omega),Y _ (by omega)]
          have e2:n*t.size+G - c*t.size=G+t.size*(n - c):=by
           rw[kD t.size,s9];omega
          rw[e2,Nat.add_mul_mod_self_left,HI ap]
         .rw[an L]at f;have ft:gj i n G=some y:=by rw[vW f];exact h6
          obtain⟨am,u,h7,h8⟩:=af n G y ft;refine⟨am,u,?_,h8.mono Ah⟩;rw[cz Hu,CW,an ?_]
          .rw[<- JJ,cz Hu]at h7;exact h7
          .rintro⟨h9,AU⟩;rcases kE n c with Hz|Hz
           .have:(n+1)*t.size<=c*t.size:=bI _ Hz;rw[cJ,ir]at this;omega
           .have:d*t.size<=n*t.size:=bI _ (by omega);omega)
      exact⟨_,_,μ,.inl fD,wg.1,.iQ _ _ rfl (by simp),wg.2⟩
   .simp at h
  .simp at h
 .simp at h
end Q5
end Go.Pm

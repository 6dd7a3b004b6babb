/- A part of a proof; the claim's last text says of what. -/
import Derived.Laws.Externs
import Derived.Test.YtlakkaamfadipaaGreatDoorM10
set_option linter.all false
open Option renaming some->N,none->Y

namespace Go.Pm
open Go Go.RowKit
def IW{P:aM}{T:TypeId}{t:TypeInfo}{q:Bool}(h:fO P T=N q):(((if q then N t.size else Y):bP)=Y/\fO P T=N false)\/(((if q then N t.size else Y):bP)=N t.size/\fO P T=N true):=by
 cases q;.exact .inl ⟨rfl,h⟩
 exact .inr ⟨rfl,h⟩
section
variable {P:aM} {o:Oper} {i:I} {a:Act} {B:Nat} {w0 w:aT} {J:ag} {μ:Mem} {fr:ao}
def CD{w:aT}{J:ag}{μ:Mem}{fr:ao}{a:Act}(h:FR w J μ fr a):∀(b:List Operand) (c:List O),Uv b=N c->c.length=b.length/\∀(i:Nat) (y:V),(c.map (ev fr))[i]?=N y->VR w J μ y ((b.map a.eval).getD i undef)
 |[],c,hc=>by simp only[Uv,aa]at hc;subst hc;simp
 |x::b,c,hc=>by simp only[Uv]at hc;split at hc<;>simp only[aa,reduceCtorEq]at hc;rename_i y zs f g;subst hc;obtain⟨j,e⟩:=CD h b zs g;refine⟨by simp[j],λi z d=>?_⟩;cases i with|zero =>simp only[aC,aH,aa]at d;subst d;simpa using dp h f|succ i=>simpa using e i z (by simpa using d)
def abi{f:Nat}{first b:Array Operand}{c:List O}(l:FR w J μ fr a)(e:o.op=.makeFunc (.func f) first b)(h0:first.size=0)(h:Uv b.toList=N c):Yields P o a w J μ (.fn f (c.map (ev fr))):=by
 obtain⟨j,g⟩:=CD l _ _ h;have d:first=#[]:=rW h0;subst d;refine .pure (v:=.func (.func f) #[] (b.map a.eval)) ?_ (.fn f _ _ (by simp[j]) λi x k=>?_);.simp[execOp,e,Instr.makeFunc]
 have:=g i x k;simpa[aq]using this
def Q3:Array Value->Sem Value:=(Extern.MathBitsCarry.rows.getD 1 ("",λ_=>pure undef)).2
def Kn(P:aM)(x y:Nat)(w:aT):(Q3 #[.int .u64 x,.int .u64 y,.int .u64 ((0:Nat):Int)]).run P w = .ok (.tuple #[.int .u64 (((x+18446744073709551616 - y - 0) % 18446744073709551616:Nat):Int),.int .u64 ((if x<y+0 then 1 else 0:Nat):Int)]) w:=rfl
def LI{a:Func}(b:a.name = "math/bits.Sub64"):Extern.find a=N Q3:=by unfold Extern.find;rw[b];kernel_rfl
def Ck{a:Func}(b:a.name = "math/bits.Sub64") (c:a.origin = ""):Extern.findNext a=Y:=by unfold Extern.findNext;rw[b,c];kernel_rfl
def Uy(E:FR w J μ fr a){f:Nat}{g:Func}{args:Array Operand}{R:Array TypeId}{x y:O}(I:o.op=.call { callee:=.value (.func f),args,argTypes:=R })(H:P.funcs[f]?=N g) (B:g.body.isNone=true) (r:g.name = "math/bits.Sub64") (L:g.origin = "") (M:Uv args.toList=N [x,y,.c (.i .u64 0)]) {p q:Int} (G:ev fr x=.i .u64 p) (C:ev fr y=.i .u64 q) (h0:0<=p) (h1:0<=q/\q<2^64) : Yields P o a w J μ (.gy [.i .u64 ((p+18446744073709551616 - q) % 18446744073709551616),.i .u64 (if p<q then 1 else 0)]):=by
 obtain⟨K,s⟩:=CD E _ _ M;have h:=s 0 _ rfl;have k:=s 1 _ rfl;have j:=s 2 _ rfl;obtain⟨l⟩:=args;match l,K with
 |[X,b,d],_ =>
  rw[G]at h;rw[C]at k;have j:VR w J μ (.i .u64 0) (a.eval d):=j;simp only[aC,bI,aO,aZ]at h k;generalize t:a.eval X=vx at h;generalize u:a.eval b=vy at k;generalize z:a.eval d=vz at j;cases h;cases k;cases j;obtain⟨p,rfl⟩:=Aj h0;obtain⟨q,rfl⟩:=Aj h1.1;have n:(g.name == "runtime.NumGoroutine")=false:=by rw[r];decide
  have m:=run_callFunc_extern (P:=P) H n B (Ck r L) (LI r) #[.int .u64 p,.int .u64 q,.int .u64 ((0:Nat):Int)] w;rw[Kn P p q w]at m;have Q:(((p+18446744073709551616 - q - 0) % 18446744073709551616:Nat):Int)=((p:Int)+18446744073709551616 - q) % 18446744073709551616:=by omega
  have D:(((if p<q+0 then 1 else 0:Nat)):Int)=if(p:Int)<q then 1 else 0:=by split<;>split<;>omega
  rw[Q,D]at m;refine .pure (v:=.tuple #[.int .u64 (((p:Int)+18446744073709551616 - q) % 18446744073709551616),.int .u64 (if(p:Int)<q then 1 else 0)]) ?_ (.gy _ _ rfl λi y e=>?_);.simp only[execOp,I,resolve,Act.eval,Deferred.ofValue,invoke,Sem.run_bind,Sem.run_pure,Result.andThen_ok,L9,Ma,List.map_toArray,aC,bI];simp only[Act.eval]at t u z;rw[t,u,z];exact m
  match i,e with|0,e=>cases iE e;exact .i _ _|1,e=>cases iE e;exact .i _ _
def Ij(b:compile P o=N i)(u:FR w J μ fr a)(C:gU P B w0 w J μ){ob:Prop}{y:V}(h:ba fr J i=N (ob,y))(I:ob):Yields P o a w J μ y:=by
 cases g:o.op with
 |move x =>simp only[compile,g,al]at b;obtain⟨v,j,rfl⟩:=b;simp only[ba,aa,aB]at h;obtain⟨_,rfl⟩:=h;exact Xw u (.inl g) j
 |assign x =>simp only[compile,g,al]at b;obtain⟨v,j,rfl⟩:=b;simp only[ba,aa,aB]at h;obtain⟨_,rfl⟩:=h;exact Xw u (.inr g) j
 |pick c x z =>simp only[compile,g]at b;split at b<;>simp only[aa,reduceCtorEq]at b;rename_i c' v z' ad j G;subst b;simp only[ba]at h;split at h<;>simp only[aa,aB,reduceCtorEq]at h;rename_i p Q;obtain⟨_,rfl⟩:=h;exact Yl u g ad j G Q
 |box T x =>simp only[compile,g,al]at b;obtain⟨v,j,rfl⟩:=b;simp[ba]at h
 |alloc T =>simp only[compile,g]at b;split at b<;>(try simp only[reduceCtorEq]at b);split at b<;>(try simp only[reduceCtorEq]at b);simp only[al]at b;obtain⟨zs,_,rfl⟩:=b;simp[ba]at h
 |build T parts =>
  simp only[compile,g]at b;split at b<;>(try simp only[reduceCtorEq]at b);.rename_i t fs D hu;split at b<;>(try simp only[reduceCtorEq]at b);rename_i z G;split at b<;>(try simp only[reduceCtorEq]at b);rename_i zs places nP CZ;simp only[al]at b;obtain⟨ps,U,rfl⟩:=b;exact UB u C g D hu G nP CZ U h I
  rename_i t n E D hu;split at b<;>(try simp only[reduceCtorEq]at b);rename_i z te G am;split at b<;>(try simp only[reduceCtorEq]at b);rename_i zs nP;simp only[al]at b;obtain⟨ps,U,rfl⟩:=b;exact QK u C g D hu G am nP U h I
 |buildSlice T len parts =>
  simp only[compile,g]at b;split at b<;>(try simp only[reduceCtorEq]at b);rename_i E hT;split at b<;>(try simp only[reduceCtorEq]at b);rename_i t D;split at b<;>(try simp only[reduceCtorEq]at b);rename_i z G;split at b<;>(try simp only[reduceCtorEq]at b);rename_i L;simp only[al]at b;obtain⟨xs,U,rfl⟩:=b;split at h;.simp[ba]at h
  exact QL u C g hT D G L.1 L.2.1 L.2.2.1 L.2.2.2 U h I
 |load T x =>
  simp only[compile,g]at b;split at b<;>simp only[aa,reduceCtorEq]at b;.rename_i v t j S D;subst b;exact QJ u C g j D (.inr ⟨rfl,S⟩) h I
  rename_i v t j S D;subst b;exact QJ u C g j D (.inl ⟨rfl,S⟩) h I
 |store T x z =>simp only[compile,g]at b;split at b<;>simp only[aa,reduceCtorEq]at b;subst b;simp[ba]at h
 |nilCheck x =>simp only[compile,g,al]at b;obtain⟨v,j,rfl⟩:=b;exact UA u C g j h
 |binOp op T x z yT =>
  simp only[compile,g]at b;split at b<;>(try simp only[reduceCtorEq]at b);rename_i v z' j G;split at b
  .rename_i hq;split at b;.simp only[aa]at b;subst b;exact Xx u g j G h I
   split at b
   .rename_i hb;simp only[aa]at b;subst b;have hT:P.underlying T=N .bool:=by
     unfold TU at hb;split at hb;.assumption
     simp at hb
    exact abk u g hq hT j G h
   simp only[al]at b;obtain⟨ks,M,rfl⟩:=b;exact abj u g hq M j G h
  simp only[aa]at b;subst b;exact Xx u g j G h I
 |unOp op T x =>simp only[compile,g,al]at b;obtain⟨v,j,rfl⟩:=b;exact afU u g j h
 |convert s d x =>
  simp only[compile,g]at b;split at b<;>(try simp only[reduceCtorEq,aa]at b);.rename_i k0 k v hs hd j;subst b;simp only[ba]at h;split at h<;>simp only[aa,aB,reduceCtorEq]at h;rename_i k1 n Q;obtain⟨_,rfl⟩:=h;exact abh u g hs hd j Q
  rename_i e v hs hd j;split at b<;>simp only[reduceCtorEq,aa]at b;rename_i he;subst b;exact abl u C g hs he hd j h
 |slice T x lo hi mx =>
  cases mx with
  |some m =>
   cases lo with
   |some lo=>simp[compile,g]at b
   |none =>
   cases hi with
   |none=>simp[compile,g]at b
   |some hi =>simp only[compile,g]at b;split at b<;>(try simp only[reduceCtorEq]at b);rename_i E v h' m' hT j O hm;split at b<;>simp only[reduceCtorEq,aa]at b;rename_i t D;subst b;exact Yq u C g hT D j O hm h I
  |none =>
  simp only[compile,g]at b;split at b<;>(try simp only[reduceCtorEq,aa]at b);.rename_i v af ac hT j W O;subst b;exact QI u C g hT j W O h I
  .rename_i E v af ac hT j W O;split at b<;>simp only[reduceCtorEq,aa]at b;rename_i t D;subst b;exact Uz u C g hT D j W O h I
  rename_i n E v hT j W O;split at b<;>(try simp only[reduceCtorEq]at b);rename_i t D;split at b<;>simp only[reduceCtorEq,aa]at b;rename_i L;subst b;have R:lo=Y:=by cases lo<;>simp[uw]at W |-
  have e2:hi=Y:=by cases hi<;>simp[uw]at O |-
  subst R;subst e2;exact abm u C g hT D L.1 j h I
 |fieldAddr T x f =>simp only[compile,g]at b;split at b<;>(try simp only[reduceCtorEq]at b);rename_i fs v hT j;split at b<;>(try simp only[reduceCtorEq]at b);rename_i fd hf;split at b<;>(try simp only[reduceCtorEq]at b);rename_i t D;split at b<;>simp only[reduceCtorEq,aa]at b;rename_i gv;subst b;exact abe u (λid o ho=>⟨B,C.obj id o ho⟩) g j hT hf D gv h
 |indexAddr T x k =>
  simp only[compile,g]at b;split at b<;>(try simp only[reduceCtorEq]at b);.rename_i E v k' hT j M;split at b<;>simp only[reduceCtorEq,aa]at b;rename_i t D;subst b;exact abd u C g hT D j M h I
  rename_i n E v k' hT j M;split at b<;>simp only[reduceCtorEq,aa]at b;rename_i t D;subst b;exact Yr u C g hT D j M h I
 |index T x k =>
  simp only[compile,g]at b;split at b<;>(try simp only[reduceCtorEq,aa]at b);.rename_i v k' hT j M;subst b;exact Yk u C g hT j M h I
  rename_i n E v k' hT j M;split at b<;>simp only[reduceCtorEq,aa]at b;rename_i L;subst b;exact Yh u C g hT L.1 L.2 j M h I
 |field T x f =>simp only[compile,g]at b;split at b<;>(try simp only[reduceCtorEq]at b);rename_i fs v hT j;split at b<;>(try simp only[reduceCtorEq]at b);rename_i fd hf;split at b<;>simp only[reduceCtorEq,aa]at b;rename_i S;subst b;exact Yi u C g hT hf S j h
 |extract x k =>simp only[compile,g,al]at b;obtain⟨v,j,rfl⟩:=b;simp only[ba]at h;split at h<;>(try simp only[reduceCtorEq]at h);rename_i xs Q;split at h<;>simp only[aa,aB,reduceCtorEq]at h;rename_i z G;obtain⟨_,rfl⟩:=h;exact abf u g j Q G
 |makeSlice T l c =>
  simp only[compile,g]at b;split at b<;>(try simp only[reduceCtorEq]at b);split at b<;>(try simp only[reduceCtorEq]at b);split at b<;>(try simp only[reduceCtorEq]at b);.split at b<;>simp only[reduceCtorEq,aa]at b;subst b;simp[ba]at h
  split at b<;>(try simp only[reduceCtorEq]at b);simp only[al]at b;obtain⟨zs,_,rfl⟩:=b;simp[ba]at h
 |lookup T m k ok =>simp only[compile,g]at b;split at b<;>(try simp only[reduceCtorEq]at b);rename_i K E m' k' hT hm M;split at b<;>simp only[reduceCtorEq,aa]at b;rename_i kd z rJ G;subst b;exact Yp u C g hT hm M rJ G h I
 |mapUpdate T m k x =>simp only[compile,g]at b;split at b<;>(try simp only[reduceCtorEq]at b);simp only[al]at b;obtain⟨kd,_,rfl⟩:=b;simp[ba]at h
 |mapEntry T m k =>simp only[compile,g]at b;split at b<;>(try simp only[reduceCtorEq]at b);split at b<;>simp only[reduceCtorEq,aa]at b;subst b;simp[ba]at h
 |entryStore T m q x =>simp only[compile,g]at b;split at b<;>simp only[reduceCtorEq,aa]at b;subst b;simp[ba]at h
 |range T x =>simp only[compile,g]at b;split at b<;>simp only[reduceCtorEq,aa]at b;subst b;simp[ba]at h
 |next x q =>
  cases q with
  |true=>simp[compile,g]at b
  |false =>simp only[compile,g,al]at b;obtain⟨v,_,rfl⟩:=b;simp[ba]at h
 |entry x =>simp only[compile,g,al]at b;obtain⟨v,j,rfl⟩:=b;exact abg u C g j h
 |makeMap T r =>
  cases r with
  |some r=>simp[compile,g]at b
  |none =>simp only[compile,g]at b;split at b<;>simp only[reduceCtorEq,aa]at b;subst b;simp[ba]at h
 |call c =>
  simp only[compile,g]at b;obtain⟨callee,H,argTypes⟩:=c;unfold kQ at b;dsimp only at b;split at b
  .rename_i x T R e2;have X:H=#[x]:=by cases H;simp_all
   have et:argTypes=#[T]:=by cases argTypes;simp_all
   subst X;subst et;split at b<;>simp only[reduceCtorEq,aa]at b;.rename_i v hT j;subst b;exact Yj u C g hT j h
   .rename_i E v hT j;subst b;exact abc u C g hT j h
   rename_i K E v hT j;subst b;exact Ym u C g hT j h
  .rename_i x z R;have X:H=#[x,z]:=by cases H;simp_all
   subst X;split at b<;>simp only[reduceCtorEq,aa]at b;rename_i v z' j G;subst b;exact Yo u C g j G h rfl
  .rename_i x z R;have X:H=#[x,z]:=by cases H;simp_all
   subst X;split at b<;>simp only[reduceCtorEq,aa]at b;rename_i v z' j G;subst b;exact Yn u C g j G h
  .split at b<;>(try simp only[reduceCtorEq]at b);split at b<;>(try simp only[reduceCtorEq]at b);split at b<;>(try simp only[reduceCtorEq]at b);split at b;.split at b<;>simp only[reduceCtorEq,aa]at b;subst b;simp[ba]at h
   split at b<;>(try simp only[reduceCtorEq]at b);split at b<;>simp only[reduceCtorEq,aa]at b;subst b;simp[ba]at h
  .split at b<;>(try simp only[reduceCtorEq]at b);split at b<;>(try simp only[reduceCtorEq]at b);simp only[al]at b;obtain⟨kd,_,rfl⟩:=b;simp[ba]at h
  .split at b<;>(try simp only[reduceCtorEq]at b);split at b<;>(try simp only[reduceCtorEq]at b);split at b<;>(try simp only[reduceCtorEq]at b);split at b<;>(try simp only[reduceCtorEq]at b);simp only[al]at b;obtain⟨zs,_,rfl⟩:=b;simp[ba]at h
  .rename_i f R;split at b<;>(try simp only[reduceCtorEq]at b);rename_i fn BX;split at b;.simp only[al]at b;obtain⟨zs,_,rfl⟩:=b;simp[ba]at h
   split at b<;>(try simp only[reduceCtorEq]at b);rename_i L;split at b<;>simp only[reduceCtorEq,aa]at b;rename_i x y j;subst b;simp only[ba]at h;split at h<;>simp only[reduceCtorEq,aa,aB]at h;rename_i p q Q hq;obtain⟨rfl,rfl⟩:=h;exact Uy u g BX L.1 L.2.1 L.2.2 j Q hq I.1 ⟨I.2.1,by omega⟩
  .simp only[al]at b;obtain⟨zs,_,rfl⟩:=b;simp[ba]at h
  simp at b
 |makeFunc fn first ap =>
  cases fn with
  |func f =>simp only[compile,g]at b;split at b<;>simp only[al,reduceCtorEq]at b;rename_i h0;obtain⟨ys,Aw,rfl⟩:=b;simp only[ba,aa,aB]at h;obtain⟨_,rfl⟩:=h;exact abi u g h0 Aw
  |_=>simp[compile,g]at b
 |_=>simp[compile,g]at b
def Hr(b:compile P o=N i)(u:FR w J μ fr a)(v:gU P B w0 w J μ){ob:Prop}{y:V}{J':ag}(h:cc fr J i=N (ob,y,J'))(G:ob):rT P o a B w0 w J μ y J':=by
 cases e:o.op with
 |move x =>simp only[compile,e,al]at b;obtain⟨D,g,rfl⟩:=b;simp[cc]at h
 |assign x =>simp only[compile,e,al]at b;obtain⟨D,g,rfl⟩:=b;simp[cc]at h
 |pick c x z =>simp only[compile,e]at b;split at b<;>simp only[aa,reduceCtorEq]at b;subst b;simp[cc]at h
 |box T x =>simp only[compile,e,al]at b;obtain⟨D,g,rfl⟩:=b;exact ae4 u v e g h G
 |alloc T =>simp only[compile,e]at b;split at b<;>(try simp only[reduceCtorEq]at b);rename_i t C;split at b<;>(try simp only[reduceCtorEq]at b);rename_i z p;simp only[al]at b;obtain⟨zs,H,rfl⟩:=b;exact Xf u v e C p H h
 |build T parts =>
  simp only[compile,e]at b;split at b<;>(try simp only[reduceCtorEq]at b);all_goals
   split at b<;>(try simp only[reduceCtorEq]at b);split at b<;>(try simp only[reduceCtorEq]at b);simp only[al]at b;obtain⟨ps,mD,rfl⟩:=b;simp[cc]at h
 |buildSlice T len parts =>
  simp only[compile,e]at b;split at b<;>(try simp only[reduceCtorEq]at b);rename_i E hT;split at b<;>(try simp only[reduceCtorEq]at b);rename_i t C;split at b<;>(try simp only[reduceCtorEq]at b);rename_i z p;split at b<;>(try simp only[reduceCtorEq]at b);rename_i n;simp only[al]at b;obtain⟨xs,mD,rfl⟩:=b;split at h;.exact aaG u v e hT C p n.1 n.2.1 n.2.2.1 n.2.2.2 mD h G
  simp[cc]at h
 |load T x =>simp only[compile,e]at b;split at b<;>simp only[aa,reduceCtorEq]at b<;>(subst b;simp[cc]at h)
 |store T x z =>simp only[compile,e]at b;split at b<;>simp only[aa,reduceCtorEq]at b;rename_i D z' t g p C;subst b;exact Xc u v e C g p h G
 |nilCheck x =>simp only[compile,e,al]at b;obtain⟨D,g,rfl⟩:=b;simp[cc]at h
 |binOp op T x z yT =>
  simp only[compile,e]at b;split at b<;>(try simp only[reduceCtorEq]at b);split at b
  .split at b;.simp only[aa]at b;subst b;simp[cc]at h
   split at b;.simp only[aa]at b;subst b;simp[cc]at h
   simp only[al]at b;obtain⟨ks,L,rfl⟩:=b;simp[cc]at h
  simp only[aa]at b;subst b;simp[cc]at h
 |unOp op T x =>simp only[compile,e,al]at b;obtain⟨D,g,rfl⟩:=b;simp[cc]at h
 |convert s d x =>
  simp only[compile,e]at b;split at b<;>(try simp only[reduceCtorEq,aa]at b);.subst b;simp[cc]at h
  split at b<;>simp only[reduceCtorEq,aa]at b;subst b;simp[cc]at h
 |slice T x lo hi mx =>
  cases mx with
  |some m =>
   cases lo with
   |some lo=>simp[compile,e]at b
   |none =>
   cases hi with
   |none=>simp[compile,e]at b
   |some hi =>simp only[compile,e]at b;split at b<;>(try simp only[reduceCtorEq]at b);split at b<;>simp only[reduceCtorEq,aa]at b;subst b;simp[cc]at h
  |none =>
  simp only[compile,e]at b;split at b<;>(try simp only[reduceCtorEq,aa]at b);.subst b;simp[cc]at h
  .split at b<;>simp only[reduceCtorEq,aa]at b;subst b;simp[cc]at h
  split at b<;>(try simp only[reduceCtorEq]at b);split at b<;>simp only[reduceCtorEq,aa]at b;subst b;simp[cc]at h
 |fieldAddr T x f =>simp only[compile,e]at b;split at b<;>(try simp only[reduceCtorEq]at b);split at b<;>(try simp only[reduceCtorEq]at b);split at b<;>(try simp only[reduceCtorEq]at b);split at b<;>simp only[reduceCtorEq,aa]at b;subst b;simp[cc]at h
 |indexAddr T x k =>
  simp only[compile,e]at b;split at b<;>(try simp only[reduceCtorEq]at b);all_goals
   split at b<;>simp only[reduceCtorEq,aa]at b;subst b;simp[cc]at h
 |index T x k =>
  simp only[compile,e]at b;split at b<;>(try simp only[reduceCtorEq,aa]at b);.subst b;simp[cc]at h
  split at b<;>simp only[reduceCtorEq,aa]at b;subst b;simp[cc]at h
 |field T x f =>simp only[compile,e]at b;split at b<;>(try simp only[reduceCtorEq]at b);split at b<;>(try simp only[reduceCtorEq]at b);split at b<;>simp only[reduceCtorEq,aa]at b;subst b;simp[cc]at h
 |extract x k =>simp only[compile,e,al]at b;obtain⟨D,g,rfl⟩:=b;simp[cc]at h
 |makeSlice T l c =>
  simp only[compile,e]at b;split at b<;>(try simp only[reduceCtorEq]at b);rename_i E hT;split at b<;>(try simp only[reduceCtorEq]at b);rename_i t C;split at b<;>(try simp only[reduceCtorEq]at b);.rename_i l' c' p S R;split at b<;>simp only[reduceCtorEq,aa]at b;rename_i DD;subst b;exact ae2 u v e hT C p DD S R h G
  rename_i z l' c' tj p S R;split at b<;>(try simp only[reduceCtorEq]at b);rename_i n;simp only[al]at b;obtain⟨zs,H,rfl⟩:=b;exact ah6 u v e hT C p n.1 n.2 H S R h G
 |lookup T m k ok =>simp only[compile,e]at b;split at b<;>(try simp only[reduceCtorEq]at b);split at b<;>simp only[reduceCtorEq,aa]at b;subst b;simp[cc]at h
 |mapUpdate T m k x =>simp only[compile,e]at b;split at b<;>(try simp only[reduceCtorEq]at b);rename_i K E X k' D hT I L g;simp only[al]at b;obtain⟨kd,M,rfl⟩:=b;exact aaC u v e hT I L g M h G
 |mapEntry T m k =>simp only[compile,e]at b;split at b<;>(try simp only[reduceCtorEq]at b);rename_i K E X k' hT I L;split at b<;>simp only[reduceCtorEq,aa]at b;rename_i kd z M p;subst b;exact aaE u v e hT I L M p h G
 |entryStore T m q x =>simp only[compile,e]at b;split at b<;>simp only[reduceCtorEq,aa]at b;rename_i K E X q' D hT I hq g;subst b;exact aaD (T:=T) (K:=K) (E:=E) u v e I hq g h G
 |range T x =>simp only[compile,e]at b;split at b<;>simp only[reduceCtorEq,aa]at b;rename_i K E D hT g;subst b;exact Xd u v e hT g h
 |next x q =>
  cases q with
  |true=>simp[compile,e]at b
  |false =>simp only[compile,e,al]at b;obtain⟨D,_,rfl⟩:=b;simp[cc]at h
 |entry x =>simp only[compile,e,al]at b;obtain⟨D,g,rfl⟩:=b;simp[cc]at h
 |makeMap T r =>
  cases r with
  |some r=>simp[compile,e]at b
  |none =>simp only[compile,e]at b;split at b<;>simp only[reduceCtorEq,aa]at b;subst b;exact Xe v u e h
 |call c =>
  simp only[compile,e]at b;obtain⟨callee,j,argTypes⟩:=c;unfold kQ at b;dsimp only at b;split at b;.split at b<;>simp only[reduceCtorEq,aa]at b<;>(subst b;simp[cc]at h)
  .split at b<;>simp only[reduceCtorEq,aa]at b;subst b;simp[cc]at h
  .split at b<;>simp only[reduceCtorEq,aa]at b;subst b;simp[cc]at h
  .rename_i x z T U e1 e2;have O:j=#[x,z]:=by cases j;simp_all
   have Q:argTypes=#[T,U]:=by cases argTypes;simp_all
   subst O;subst Q;split at b<;>(try simp only[reduceCtorEq]at b);rename_i E D z' hT g p;split at b<;>(try simp only[reduceCtorEq]at b);rename_i t C;split at b<;>(try simp only[reduceCtorEq]at b);rename_i zv Zm;split at b;.rename_i W;subst W;split at b<;>simp only[reduceCtorEq,aa]at b;rename_i n;subst b;exact ae5 v u e hT C Zm n.1 n.2 g p h G
   split at b<;>(try simp only[reduceCtorEq]at b);rename_i hU;split at b<;>simp only[reduceCtorEq,aa]at b;rename_i n;subst b;have H:zv.cells.size=t.size:=by obtain⟨h1,_,h2⟩:=n;rw[h1];cases zv<;>first|rfl|simp[IV]at h2
   exact aaH v u e hT hU C Zm n.1 n.2.1 H g p h G
  .rename_i m k T K2 e1 e2;have O:j=#[m,k]:=by cases j;simp_all
   have Q:argTypes=#[T,K2]:=by cases argTypes;simp_all
   subst O;subst Q;split at b<;>(try simp only[reduceCtorEq]at b);rename_i K E X k' hT I L;split at b<;>(try simp only[reduceCtorEq]at b);simp only[al]at b;obtain⟨kd,M,rfl⟩:=b;exact aaF u v e hT I L M h G
  .rename_i x T e1 e2;have O:j=#[x]:=by cases j;simp_all
   have Q:argTypes=#[T]:=by cases argTypes;simp_all
   subst O;subst Q;split at b<;>(try simp only[reduceCtorEq]at b);rename_i E D hT g;split at b<;>(try simp only[reduceCtorEq]at b);rename_i t C;split at b<;>(try simp only[reduceCtorEq]at b);rename_i z p;split at b<;>(try simp only[reduceCtorEq]at b);rename_i n;simp only[al]at b;obtain⟨zs,H,rfl⟩:=b;exact ae3 u v e hT C p n.1 n.2 H g h G
  .split at b<;>(try simp only[reduceCtorEq]at b);split at b;.simp only[al]at b;obtain⟨zs,_,rfl⟩:=b;simp[cc]at h
   split at b<;>(try simp only[reduceCtorEq]at b);split at b<;>simp only[reduceCtorEq,aa]at b;subst b;simp[cc]at h
  .simp only[al]at b;obtain⟨zs,_,rfl⟩:=b;simp[cc]at h
  simp at b
 |makeFunc fn first ac =>
  cases fn with
  |func f =>simp only[compile,e]at b;split at b<;>simp only[al,reduceCtorEq]at b;obtain⟨ys,_,rfl⟩:=b;simp[cc]at h
  |_=>simp[compile,e]at b
 |_=>simp[compile,e]at b
end
end Go.Pm

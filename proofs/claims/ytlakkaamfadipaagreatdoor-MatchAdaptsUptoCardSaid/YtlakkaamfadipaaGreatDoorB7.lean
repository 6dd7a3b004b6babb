/- A part of a proof; the claim's last text says of what. -/
import Derived.Laws.Externs
import Derived.Orders
import Derived.Test.YtlakkaamfadipaaGreatDoorB6
set_option linter.all false

namespace Go.Pm
open Go Go.RowKit
def Ri{P:bo}{T:TypeId}{t:TypeInfo}{q:Bool}(h:jC P T=some q):(((if q then some t.size else none):cU)=none/\jC P T=some false)\/(((if q then some t.size else none):cU)=some t.size/\jC P T=some true):=by
 cases q
 .exact .inl ⟨rfl,h⟩
 .exact .inr ⟨rfl,h⟩
section
variable {P:bo} {o:Oper} {i:I} {a:Act} {B:Nat} {w0 w:bD} {J:ak} {μ:Mem} {fr:aB}
def KC{w:bD}{J:ak}{μ:Mem}{fr:aB}{a:Act}(h:FR w J μ fr a):∀(xs:List Operand) (ys:List O),cOs xs=some ys->ys.length=xs.length/\∀(i:Nat) (y:V),(ys.map (ev fr))[i]?=some y->VR w J μ y ((xs.map a.eval).getD i undef)
 |[],ys,hc=>by simp only[cOs,ae]at hc;subst hc;simp
 |x::xs,ys,hc=>by
  simp only[cOs]at hc;split at hc<;>simp only[ae,reduceCtorEq]at hc;rename_i y zs d e;subst hc;obtain⟨f,c⟩:=KC h xs zs e;refine⟨by simp[f],λi z b=>?_⟩;cases i with
  |zero =>
   simp only[aH,aM,ae]at b;subst b;simpa using fu h d
  |succ i=>simpa using c i z (by simpa using b)
def ajP{f:Nat}{first b:Array Operand}{ys:List O}(k:FR w J μ fr a)(d:o.op=.makeFunc (.func f) first b)(h0:first.size=0)(g:cOs b.toList=some ys):Yields P o a w J μ (.fn f (ys.map (ev fr))):=by
 obtain⟨h,e⟩:=KC k _ _ g;have c:first=#[]:=zU h0
 subst c;refine .pure (v:=.func (.func f) #[] (b.map a.eval)) ?_ (.fn f _ _ (by simp[h]) λi x j=>?_)
 .simp[execOp,d,Instr.makeFunc]
 .have:=e i x j;simpa[aq]using this
def Zp:Array Value->Sem Value:=(Extern.MathBitsCarry.rows.getD 1 ("",λ_=>pure undef)).2
def SU(P:bo)(x y:Nat)(w:bD):(Zp #[.int .u64 x,.int .u64 y,.int .u64 ((0:Nat):Int)]).run P w =
  .ok (.tuple #[.int .u64 (((x+18446744073709551616 - y - 0) % 18446744073709551616:Nat):Int),.int .u64 ((if x<y+0 then 1 else 0:Nat):Int)]) w:=rfl
def Uh{a:Func}(b:a.name = "math/bits.Sub64"):Extern.find a=some Zp:=by
 unfold Extern.find;rw[b];kernel_rfl
def Kd{a:Func}(b:a.name = "math/bits.Sub64") (c:a.origin = ""):Extern.findNext a=none:=by
 unfold Extern.findNext;rw[b,c];kernel_rfl
def acW(B:FR w J μ fr a){f:Nat}{d:Func}{args:Array Operand}{K:Array TypeId}{x y:O}(E:o.op=.call { callee:=.value (.func f),args,argTypes:=K })(D:P.funcs[f]?=some d)
  (u:d.body.isNone=true) (m:d.name = "math/bits.Sub64") (G:d.origin = "") (H:cOs args.toList=some [x,y,.c (.i .u64 0)]) {p q:Int} (C:ev fr x=.i .u64 p) (z:ev fr y=.i .u64 q) (h0:0<=p) (h1:0<=q/\q<2^64) :
  Yields P o a w J μ (.iQ [.i .u64 ((p+18446744073709551616 - q) % 18446744073709551616),.i .u64 (if p<q then 1 else 0)]):=by
 obtain⟨F,n⟩:=KC B _ _ H;have e:=n 0 _ rfl;have h:=n 1 _ rfl;have g:=n 2 _ rfl;obtain⟨l⟩:=args
 match l,F with
 |[X,Y,Z],_ =>
  rw[C]at e;rw[z]at h;have g:VR w J μ (.i .u64 0) (a.eval Z):=g;simp only[aH,bR,aA,aR]at e h;generalize r:a.eval X=vx at e;generalize s:a.eval Y=vy at h;generalize t:a.eval Z=vz at g;cases e;cases h;cases g;obtain⟨p,rfl⟩:=HK h0;obtain⟨q,rfl⟩:=HK h1.1;have k:(d.name == "runtime.NumGoroutine")=false:=by rw[m];decide
  have j:=run_callFunc_extern (P:=P) D k u (Kd m G) (Uh m) #[.int .u64 p,.int .u64 q,.int .u64 ((0:Nat):Int)] w;rw[SU P p q w]at j;have I:(((p+18446744073709551616 - q - 0) % 18446744073709551616:Nat):Int)=((p:Int)+18446744073709551616 - q) % 18446744073709551616:=by omega
  have A:(((if p<q+0 then 1 else 0:Nat)):Int)=if(p:Int)<q then 1 else 0:=by split<;>split<;>omega
  rw[I,A]at j;refine .pure (v:=.tuple #[.int .u64 (((p:Int)+18446744073709551616 - q) % 18446744073709551616),.int .u64 (if(p:Int)<q then 1 else 0)]) ?_ (.iQ _ _ rfl λi y b=>?_)
  .simp only[execOp,E,resolve,Act.eval,Deferred.ofValue,invoke,Sem.run_bind,Sem.run_pure,Result.andThen_ok,UI,UJ,List.map_toArray,aH,bR];simp only[Act.eval]at r s t;rw[r,s,t];exact j
  .match i,b with
   |0,b=>cases gy b;exact .i _ _
   |1,b=>cases gy b;exact .i _ _
def Qw(b:compile P o=some i)(u:FR w J μ fr a)(A:lj P B w0 w J μ){ob:Prop}{y:V}(h:bT fr J i=some (ob,y))(G:ob):Yields P o a w J μ y:=by
 cases g:o.op with
 |move x =>
  simp only[compile,g,aF]at b;obtain⟨v,j,rfl⟩:=b;simp only[bT,ae,aQ]at h;obtain⟨_,rfl⟩:=h;exact afN u (.inl g) j
 |assign x =>
  simp only[compile,g,aF]at b;obtain⟨v,j,rfl⟩:=b;simp only[bT,ae,aQ]at h;obtain⟨_,rfl⟩:=h;exact afN u (.inr g) j
 |pick c x z =>
  simp only[compile,g]at b;split at b<;>simp only[ae,reduceCtorEq]at b;rename_i c' v z' ab j D;subst b;simp only[bT]at h;split at h<;>simp only[ae,aQ,reduceCtorEq]at h;rename_i p M;obtain⟨_,rfl⟩:=h;exact agN u g ab j D M
 |box T x =>
  simp only[compile,g,aF]at b;obtain⟨v,j,rfl⟩:=b;simp[bT]at h
 |alloc T =>
  simp only[compile,g]at b;split at b<;>(try simp only[reduceCtorEq]at b);split at b<;>(try simp only[reduceCtorEq]at b);simp only[aF]at b;obtain⟨zs,_,rfl⟩:=b;simp[bT]at h
 |build T parts =>
  simp only[compile,g]at b;split at b<;>(try simp only[reduceCtorEq]at b)
  .rename_i t fs C hu;split at b<;>(try simp only[reduceCtorEq]at b);rename_i z D;split at b<;>(try simp only[reduceCtorEq]at b);rename_i zs places qF sr;simp only[aF]at b;obtain⟨ps,O,rfl⟩:=b;exact acZ u A g C hu D qF sr O h G
  .rename_i t n E C hu;split at b<;>(try simp only[reduceCtorEq]at b);rename_i z te D ad;split at b<;>(try simp only[reduceCtorEq]at b);rename_i zs qF;simp only[aF]at b;obtain⟨ps,O,rfl⟩:=b;exact Y3 u A g C hu D ad qF O h G
 |buildSlice T len parts =>
  simp only[compile,g]at b;split at b<;>(try simp only[reduceCtorEq]at b);rename_i E hT;split at b<;>(try simp only[reduceCtorEq]at b);rename_i t C;split at b<;>(try simp only[reduceCtorEq]at b);rename_i z D;split at b<;>(try simp only[reduceCtorEq]at b);rename_i H;simp only[aF]at b;obtain⟨xs,O,rfl⟩:=b;split at h
  .simp[bT]at h
  .exact Y4 u A g hT C D H.1 H.2.1 H.2.2.1 H.2.2.2 O h G
 |load T x =>
  simp only[compile,g]at b;split at b<;>simp only[ae,reduceCtorEq]at b
  .rename_i v t j Q C;subst b;exact Y2 u A g j C (.inr ⟨rfl,Q⟩) h G
  .rename_i v t j Q C;subst b;exact Y2 u A g j C (.inl ⟨rfl,Q⟩) h G
 |store T x z =>
  simp only[compile,g]at b;split at b<;>simp only[ae,reduceCtorEq]at b;subst b;simp[bT]at h
 |nilCheck x =>
  simp only[compile,g,aF]at b;obtain⟨v,j,rfl⟩:=b;exact acY u A g j h
 |binOp op T x z yT =>
  simp only[compile,g]at b;split at b<;>(try simp only[reduceCtorEq]at b);rename_i v z' j D;split at b
  .rename_i Y;split at b
   .simp only[ae]at b;subst b;exact afO u g j D h G
   .split at b
    .rename_i Z;simp only[ae]at b;subst b
     have hT:P.underlying T=some .bool:=by
      unfold ach at Z;split at Z
      .assumption
      .simp at Z
     exact ajR u g Y hT j D h
    .simp only[aF]at b;obtain⟨ks,I,rfl⟩:=b;exact ajQ u g Y I j D h
  .simp only[ae]at b;subst b;exact afO u g j D h G
 |unOp op T x =>
  simp only[compile,g,aF]at b;obtain⟨v,j,rfl⟩:=b;exact ao2 u g j h
 |convert s d x =>
  simp only[compile,g]at b;split at b<;>(try simp only[reduceCtorEq,ae]at b)
  .rename_i k0 k v hs hd j;subst b;simp only[bT]at h;split at h<;>simp only[ae,aQ,reduceCtorEq]at h;rename_i k1 n M;obtain⟨_,rfl⟩:=h;exact ajO u g hs hd j M
  .rename_i e v hs hd j;split at b<;>simp only[reduceCtorEq,ae]at b;rename_i he;subst b;exact ajS u A g hs he hd j h
 |slice T x U X mx =>
  cases mx with
  |some m =>
   cases U with
   |some U=>simp[compile,g]at b
   |none =>
    cases X with
    |none=>simp[compile,g]at b
    |some X =>
     simp only[compile,g]at b;split at b<;>(try simp only[reduceCtorEq]at b);rename_i E v h' m' hT j L hm;split at b<;>simp only[reduceCtorEq,ae]at b;rename_i t C;subst b;exact agS u A g hT C j L hm h G
  |none =>
   simp only[compile,g]at b;split at b<;>(try simp only[reduceCtorEq,ae]at b)
   .rename_i v ac aa hT j R L;subst b;exact Y1 u A g hT j R L h G
   .rename_i E v ac aa hT j R L;split at b<;>simp only[reduceCtorEq,ae]at b;rename_i t C;subst b;exact acX u A g hT C j R L h G
   .rename_i n E v hT j R L;split at b<;>(try simp only[reduceCtorEq]at b);rename_i t C;split at b<;>simp only[reduceCtorEq,ae]at b;rename_i H;subst b;have N:U=none:=by cases U<;>simp[B6]at R |-
    have e2:X=none:=by cases X<;>simp[B6]at L |-
    subst N;subst e2;exact ajT u A g hT C H.1 j h G
 |fieldAddr T x f =>
  simp only[compile,g]at b;split at b<;>(try simp only[reduceCtorEq]at b);rename_i fs v hT j;split at b<;>(try simp only[reduceCtorEq]at b);rename_i fd hf;split at b<;>(try simp only[reduceCtorEq]at b);rename_i t C;split at b<;>simp only[reduceCtorEq,ae]at b;rename_i jD;subst b;exact ajL u (λid o ho=>⟨B,A.obj id o ho⟩) g j hT hf C jD h
 |indexAddr T x k =>
  simp only[compile,g]at b;split at b<;>(try simp only[reduceCtorEq]at b)
  .rename_i E v W hT j I;split at b<;>simp only[reduceCtorEq,ae]at b;rename_i t C;subst b;exact ajK u A g hT C j I h G
  .rename_i n E v W hT j I;split at b<;>simp only[reduceCtorEq,ae]at b;rename_i t C;subst b;exact agT u A g hT C j I h G
 |index T x k =>
  simp only[compile,g]at b;split at b<;>(try simp only[reduceCtorEq,ae]at b)
  .rename_i v W hT j I;subst b;exact agM u A g hT j I h G
  .rename_i n E v W hT j I;split at b<;>simp only[reduceCtorEq,ae]at b;rename_i H;subst b;exact agJ u A g hT H.1 H.2 j I h G
 |field T x f =>
  simp only[compile,g]at b;split at b<;>(try simp only[reduceCtorEq]at b);rename_i fs v hT j;split at b<;>(try simp only[reduceCtorEq]at b);rename_i fd hf;split at b<;>simp only[reduceCtorEq,ae]at b;rename_i Q;subst b;exact agK u A g hT hf Q j h
 |extract x k =>
  simp only[compile,g,aF]at b;obtain⟨v,j,rfl⟩:=b;simp only[bT]at h;split at h<;>(try simp only[reduceCtorEq]at h);rename_i xs M;split at h<;>simp only[ae,aQ,reduceCtorEq]at h;rename_i z D;obtain⟨_,rfl⟩:=h;exact ajM u g j M D
 |makeSlice T l c =>
  simp only[compile,g]at b;split at b<;>(try simp only[reduceCtorEq]at b);split at b<;>(try simp only[reduceCtorEq]at b);split at b<;>(try simp only[reduceCtorEq]at b)
  .split at b<;>simp only[reduceCtorEq,ae]at b;subst b;simp[bT]at h
  .split at b<;>(try simp only[reduceCtorEq]at b);simp only[aF]at b;obtain⟨zs,_,rfl⟩:=b;simp[bT]at h
 |lookup T m k ok =>
  simp only[compile,g]at b;split at b<;>(try simp only[reduceCtorEq]at b);rename_i K E m' W hT hm I;split at b<;>simp only[reduceCtorEq,ae]at b;rename_i kd z zD D;subst b;exact agR u A g hT hm I zD D h G
 |mapUpdate T m k x =>
  simp only[compile,g]at b;split at b<;>(try simp only[reduceCtorEq]at b);simp only[aF]at b;obtain⟨kd,_,rfl⟩:=b;simp[bT]at h
 |mapEntry T m k =>
  simp only[compile,g]at b;split at b<;>(try simp only[reduceCtorEq]at b);split at b<;>simp only[reduceCtorEq,ae]at b;subst b;simp[bT]at h
 |entryStore T m q x =>
  simp only[compile,g]at b;split at b<;>simp only[reduceCtorEq,ae]at b;subst b;simp[bT]at h
 |range T x =>
  simp only[compile,g]at b;split at b<;>simp only[reduceCtorEq,ae]at b;subst b;simp[bT]at h
 |next x q =>
  cases q with
  |true=>simp[compile,g]at b
  |false =>
   simp only[compile,g,aF]at b;obtain⟨v,_,rfl⟩:=b;simp[bT]at h
 |entry x =>
  simp only[compile,g,aF]at b;obtain⟨v,j,rfl⟩:=b;exact ajN u A g j h
 |makeMap T r =>
  cases r with
  |some r=>simp[compile,g]at b
  |none =>
   simp only[compile,g]at b;split at b<;>simp only[reduceCtorEq,ae]at b;subst b;simp[bT]at h
 |call c =>
  simp only[compile,g]at b;obtain⟨callee,F,argTypes⟩:=c;unfold pw at b;dsimp only at b;split at b
  .rename_i x T N e2;have S:F=#[x]:=by cases F;simp_all
   have et:argTypes=#[T]:=by cases argTypes;simp_all
   subst S;subst et;split at b<;>simp only[reduceCtorEq,ae]at b
   .rename_i v hT j;subst b;exact agL u A g hT j h
   .rename_i E v hT j;subst b;exact ajJ u A g hT j h
   .rename_i K E v hT j;subst b;exact agO u A g hT j h
  .rename_i x z N;have S:F=#[x,z]:=by cases F;simp_all
   subst S;split at b<;>simp only[reduceCtorEq,ae]at b;rename_i v z' j D;subst b;exact agQ u A g j D h rfl
  .rename_i x z N;have S:F=#[x,z]:=by cases F;simp_all
   subst S;split at b<;>simp only[reduceCtorEq,ae]at b;rename_i v z' j D;subst b;exact agP u A g j D h
  .split at b<;>(try simp only[reduceCtorEq]at b);split at b<;>(try simp only[reduceCtorEq]at b);split at b<;>(try simp only[reduceCtorEq]at b);split at b
   .split at b<;>simp only[reduceCtorEq,ae]at b;subst b;simp[bT]at h
   .split at b<;>(try simp only[reduceCtorEq]at b);split at b<;>simp only[reduceCtorEq,ae]at b;subst b;simp[bT]at h
  .split at b<;>(try simp only[reduceCtorEq]at b);split at b<;>(try simp only[reduceCtorEq]at b);simp only[aF]at b;obtain⟨kd,_,rfl⟩:=b;simp[bT]at h
  .split at b<;>(try simp only[reduceCtorEq]at b);split at b<;>(try simp only[reduceCtorEq]at b);split at b<;>(try simp only[reduceCtorEq]at b);split at b<;>(try simp only[reduceCtorEq]at b);simp only[aF]at b;obtain⟨zs,_,rfl⟩:=b;simp[bT]at h
  .rename_i f N;split at b<;>(try simp only[reduceCtorEq]at b);rename_i fn EA;split at b
   .simp only[aF]at b;obtain⟨zs,_,rfl⟩:=b;simp[bT]at h
   .split at b<;>(try simp only[reduceCtorEq]at b);rename_i H;split at b<;>simp only[reduceCtorEq,ae]at b;rename_i x y j;subst b;simp only[bT]at h;split at h<;>simp only[reduceCtorEq,ae,aQ]at h;rename_i p q M Y;obtain⟨rfl,rfl⟩:=h;exact acW u g EA H.1 H.2.1 H.2.2 j M Y G.1 ⟨G.2.1,by omega⟩
  .simp only[aF]at b;obtain⟨zs,_,rfl⟩:=b;simp[bT]at h
  .simp at b
 |makeFunc fn first af =>
  cases fn with
  |func f =>
   simp only[compile,g]at b;split at b<;>simp only[aF,reduceCtorEq]at b;rename_i h0;obtain⟨ys,GY,rfl⟩:=b;simp only[bT,ae,aQ]at h;obtain⟨_,rfl⟩:=h;exact ajP u g h0 GY
  |_=>simp[compile,g]at b
 |_=>simp[compile,g]at b
def Pw(b:compile P o=some i)(u:FR w J μ fr a)(v:lj P B w0 w J μ){W:Prop}{y:V}{J':ak}(h:dE fr J i=some (W,y,J'))(D:W):zR P o a B w0 w J μ y J':=by
 cases e:o.op with
 |move x =>
  simp only[compile,e,aF]at b;obtain⟨C,g,rfl⟩:=b;simp[dE]at h
 |assign x =>
  simp only[compile,e,aF]at b;obtain⟨C,g,rfl⟩:=b;simp[dE]at h
 |pick c x z =>
  simp only[compile,e]at b;split at b<;>simp only[ae,reduceCtorEq]at b;subst b;simp[dE]at h
 |box T x =>
  simp only[compile,e,aF]at b;obtain⟨C,g,rfl⟩:=b;exact an8 u v e g h D
 |alloc T =>
  simp only[compile,e]at b;split at b<;>(try simp only[reduceCtorEq]at b);rename_i t A;split at b<;>(try simp only[reduceCtorEq]at b);rename_i z p;simp only[aF]at b;obtain⟨zs,F,rfl⟩:=b;exact afw u v e A p F h
 |build T parts =>
  simp only[compile,e]at b;split at b<;>(try simp only[reduceCtorEq]at b)
  all_goals
   split at b<;>(try simp only[reduceCtorEq]at b);split at b<;>(try simp only[reduceCtorEq]at b);simp only[aF]at b;obtain⟨ps,pU,rfl⟩:=b;simp[dE]at h
 |buildSlice T len parts =>
  simp only[compile,e]at b;split at b<;>(try simp only[reduceCtorEq]at b);rename_i E hT;split at b<;>(try simp only[reduceCtorEq]at b);rename_i t A;split at b<;>(try simp only[reduceCtorEq]at b);rename_i z p;split at b<;>(try simp only[reduceCtorEq]at b);rename_i n;simp only[aF]at b;obtain⟨xs,pU,rfl⟩:=b;split at h
  .exact ai7 u v e hT A p n.1 n.2.1 n.2.2.1 n.2.2.2 pU h D
  .simp[dE]at h
 |load T x =>
  simp only[compile,e]at b;split at b<;>simp only[ae,reduceCtorEq]at b<;>(subst b;simp[dE]at h)
 |store T x z =>
  simp only[compile,e]at b;split at b<;>simp only[ae,reduceCtorEq]at b;rename_i C z' t g p A;subst b;exact aft u v e A g p h D
 |nilCheck x =>
  simp only[compile,e,aF]at b;obtain⟨C,g,rfl⟩:=b;simp[dE]at h
 |binOp op T x z yT =>
  simp only[compile,e]at b;split at b<;>(try simp only[reduceCtorEq]at b);split at b
  .split at b
   .simp only[ae]at b;subst b;simp[dE]at h
   .split at b
    .simp only[ae]at b;subst b;simp[dE]at h
    .simp only[aF]at b;obtain⟨ks,H,rfl⟩:=b;simp[dE]at h
  .simp only[ae]at b;subst b;simp[dE]at h
 |unOp op T x =>
  simp only[compile,e,aF]at b;obtain⟨C,g,rfl⟩:=b;simp[dE]at h
 |convert s d x =>
  simp only[compile,e]at b;split at b<;>(try simp only[reduceCtorEq,ae]at b)
  .subst b;simp[dE]at h
  .split at b<;>simp only[reduceCtorEq,ae]at b;subst b;simp[dE]at h
 |slice T x lo Z mx =>
  cases mx with
  |some m =>
   cases lo with
   |some lo=>simp[compile,e]at b
   |none =>
    cases Z with
    |none=>simp[compile,e]at b
    |some Z =>
     simp only[compile,e]at b;split at b<;>(try simp only[reduceCtorEq]at b);split at b<;>simp only[reduceCtorEq,ae]at b;subst b;simp[dE]at h
  |none =>
   simp only[compile,e]at b;split at b<;>(try simp only[reduceCtorEq,ae]at b)
   .subst b;simp[dE]at h
   .split at b<;>simp only[reduceCtorEq,ae]at b;subst b;simp[dE]at h
   .split at b<;>(try simp only[reduceCtorEq]at b);split at b<;>simp only[reduceCtorEq,ae]at b;subst b;simp[dE]at h
 |fieldAddr T x f =>
  simp only[compile,e]at b;split at b<;>(try simp only[reduceCtorEq]at b);split at b<;>(try simp only[reduceCtorEq]at b);split at b<;>(try simp only[reduceCtorEq]at b);split at b<;>simp only[reduceCtorEq,ae]at b;subst b;simp[dE]at h
 |indexAddr T x k =>
  simp only[compile,e]at b;split at b<;>(try simp only[reduceCtorEq]at b)
  all_goals
   split at b<;>simp only[reduceCtorEq,ae]at b;subst b;simp[dE]at h
 |index T x k =>
  simp only[compile,e]at b;split at b<;>(try simp only[reduceCtorEq,ae]at b)
  .subst b;simp[dE]at h
  .split at b<;>simp only[reduceCtorEq,ae]at b;subst b;simp[dE]at h
 |field T x f =>
  simp only[compile,e]at b;split at b<;>(try simp only[reduceCtorEq]at b);split at b<;>(try simp only[reduceCtorEq]at b);split at b<;>simp only[reduceCtorEq,ae]at b;subst b;simp[dE]at h
 |extract x k =>
  simp only[compile,e,aF]at b;obtain⟨C,g,rfl⟩:=b;simp[dE]at h
 |makeSlice T l c =>
  simp only[compile,e]at b;split at b<;>(try simp only[reduceCtorEq]at b);rename_i E hT;split at b<;>(try simp only[reduceCtorEq]at b);rename_i t A;split at b<;>(try simp only[reduceCtorEq]at b)
  .rename_i l' c' p O R;split at b<;>simp only[reduceCtorEq,ae]at b;rename_i AS;subst b;exact an6 u v e hT A p AS O R h D
  .rename_i z l' c' qg p O R;split at b<;>(try simp only[reduceCtorEq]at b);rename_i n;simp only[aF]at b;obtain⟨zs,F,rfl⟩:=b;exact arl u v e hT A p n.1 n.2 F O R h D
 |lookup T m k ok =>
  simp only[compile,e]at b;split at b<;>(try simp only[reduceCtorEq]at b);split at b<;>simp only[reduceCtorEq,ae]at b;subst b;simp[dE]at h
 |mapUpdate T m k x =>
  simp only[compile,e]at b;split at b<;>(try simp only[reduceCtorEq]at b);rename_i K E S X C hT G H g;simp only[aF]at b;obtain⟨kd,I,rfl⟩:=b;exact ai3 u v e hT G H g I h D
 |mapEntry T m k =>
  simp only[compile,e]at b;split at b<;>(try simp only[reduceCtorEq]at b);rename_i K E S X hT G H;split at b<;>simp only[reduceCtorEq,ae]at b;rename_i kd z I p;subst b;exact ai5 u v e hT G H I p h D
 |entryStore T m q x =>
  simp only[compile,e]at b;split at b<;>simp only[reduceCtorEq,ae]at b;rename_i K E S q' C hT G hq g;subst b;exact ai4 (T:=T) (K:=K) (E:=E) u v e G hq g h D
 |range T x =>
  simp only[compile,e]at b;split at b<;>simp only[reduceCtorEq,ae]at b;rename_i K E C hT g;subst b;exact afu u v e hT g h
 |next x q =>
  cases q with
  |true=>simp[compile,e]at b
  |false =>
   simp only[compile,e,aF]at b;obtain⟨C,_,rfl⟩:=b;simp[dE]at h
 |entry x =>
  simp only[compile,e,aF]at b;obtain⟨C,g,rfl⟩:=b;simp[dE]at h
 |makeMap T r =>
  cases r with
  |some r=>simp[compile,e]at b
  |none =>
   simp only[compile,e]at b;split at b<;>simp only[reduceCtorEq,ae]at b;subst b;exact afv v u e h
 |call c =>
  simp only[compile,e]at b;obtain⟨callee,j,argTypes⟩:=c;unfold pw at b;dsimp only at b;split at b
  .split at b<;>simp only[reduceCtorEq,ae]at b<;>(subst b;simp[dE]at h)
  .split at b<;>simp only[reduceCtorEq,ae]at b;subst b;simp[dE]at h
  .split at b<;>simp only[reduceCtorEq,ae]at b;subst b;simp[dE]at h
  .rename_i x z T U e1 Y;have M:j=#[x,z]:=by cases j;simp_all
   have N:argTypes=#[T,U]:=by cases argTypes;simp_all
   subst M;subst N;split at b<;>(try simp only[reduceCtorEq]at b);rename_i E C z' hT g p;split at b<;>(try simp only[reduceCtorEq]at b);rename_i t A;split at b<;>(try simp only[reduceCtorEq]at b);rename_i zv L;split at b
   .rename_i Q;subst Q;split at b<;>simp only[reduceCtorEq,ae]at b;rename_i n;subst b;exact an9 v u e hT A L n.1 n.2 g p h D
   .split at b<;>(try simp only[reduceCtorEq]at b);rename_i hU;split at b<;>simp only[reduceCtorEq,ae]at b;rename_i n;subst b
    have F:zv.cells.size=t.size:=by
     obtain⟨h1,_,h2⟩:=n;rw[h1];cases zv<;>first|rfl|simp[Rh]at h2
    exact ai8 v u e hT hU A L n.1 n.2.1 F g p h D
  .rename_i m k T K2 e1 Y;have M:j=#[m,k]:=by cases j;simp_all
   have N:argTypes=#[T,K2]:=by cases argTypes;simp_all
   subst M;subst N;split at b<;>(try simp only[reduceCtorEq]at b);rename_i K E S X hT G H;split at b<;>(try simp only[reduceCtorEq]at b);simp only[aF]at b;obtain⟨kd,I,rfl⟩:=b;exact ai6 u v e hT G H I h D
  .rename_i x T e1 Y;have M:j=#[x]:=by cases j;simp_all
   have N:argTypes=#[T]:=by cases argTypes;simp_all
   subst M;subst N;split at b<;>(try simp only[reduceCtorEq]at b);rename_i E C hT g;split at b<;>(try simp only[reduceCtorEq]at b);rename_i t A;split at b<;>(try simp only[reduceCtorEq]at b);rename_i z p;split at b<;>(try simp only[reduceCtorEq]at b);rename_i n;simp only[aF]at b;obtain⟨zs,F,rfl⟩:=b;exact an7 u v e hT A p n.1 n.2 F g h D
  .split at b<;>(try simp only[reduceCtorEq]at b);split at b
   .simp only[aF]at b;obtain⟨zs,_,rfl⟩:=b;simp[dE]at h
   .split at b<;>(try simp only[reduceCtorEq]at b);split at b<;>simp only[reduceCtorEq,ae]at b;subst b;simp[dE]at h
  .simp only[aF]at b;obtain⟨zs,_,rfl⟩:=b;simp[dE]at h
  .simp at b
 |makeFunc fn first aa =>
  cases fn with
  |func f =>
   simp only[compile,e]at b;split at b<;>simp only[aF,reduceCtorEq]at b;obtain⟨ys,_,rfl⟩:=b;simp[dE]at h
  |_=>simp[compile,e]at b
 |_=>simp[compile,e]at b
end
structure Pi where
 d:cU
 g:fJ
 i:I
def zm(d x:Nat):Pi:=⟨some d,[],.gm (.t x)⟩
def zl(d x:Nat):Pi:=⟨some d,[],.load none (.t x)⟩
def zL(d k x:Nat):Pi:=⟨some d,[],.load (some k) (.t x)⟩
def zf(d o x:Nat):Pi:=⟨some d,[],.pq o (.t x)⟩
def z(d:Nat)(i:I):Pi:=⟨some d,[],i⟩
def zs(i:I):Pi:=⟨none,[],i⟩
def E4(ops:Array Oper):Nat->Option (Nat×Bool)->Option (fJ)
 |_,none=>some []
 |0,some _=>none
 |f+1,some (j,b)=>match ops[j]? with
  |some o=>match o.dst,E4 ops f o.guard with
   |some t,some a=>some (a++[(t,b)])
   |_,_=>none
  |none=>none
def cPi(P:bo)(ops:Array Oper)(o:Oper):Option Pi :=
 match E4 ops 8 o.guard with
 |some g=>some ⟨o.dst,g,(compile P o).getD .stop⟩
 |none=>none
def zN(P:bo)(ops:Array Oper):List Oper->Option (List Pi)
 |[]=>some []
 |o::os=>match cPi P ops o,zN P ops os with
  |some p,some a=>some (p::a)
  |_,_=>none
def fX(fr:aB):cU->V->aB
 |none,_=>fr
 |some n,v=>fr.set n v
def QZ(P:bo)(f:Nat):Bool:=match P.funcs[f]? with
 |some a=>a.body.isSome&&a.name != "runtime.NumGoroutine"
 |none=>false
def nQ(P:bo)(p:Pi)(K:ca)(a:St):Prop :=
 match p.i with
 |.call f args=>PC P f (args.map (ev a.fr)) a.J (λr c=>K ⟨fX a.fr p.d r,c⟩)
 |.uD x args=>match ev a.fr x with
  |.fn f caps=>QZ P f=true/\PC P f (args.map (ev a.fr)++caps) a.J (λr c=>K ⟨fX a.fr p.d r,c⟩)
  |_=>False
 |.next x=>match Jh a.J (ev a.fr x)with
  |some (j,m,E,n,e)=>(e=[]->K ⟨fX a.fr p.d (.iQ [.b false]),a.J⟩)/\∀q∈e,K ⟨fX a.fr p.d (.iQ [.b true,.u,.u]),a.J.set j (.iter false m E n (e.filter λi=>i != q) (some q))⟩
  |none=>False
 |i=>match bT a.fr a.J i with
  |some (g,v)=>g/\K ⟨fX a.fr p.d v,a.J⟩
  |none=>match dE a.fr a.J i with
   |some (g,v,c)=>g/\K ⟨fX a.fr p.d v,c⟩
   |none=>False
def FR.put{w:bD}{J:ak}{μ:Mem}{fr:aB}{a:Act}(h:FR w J μ fr a)(d:cU){x:V}{v:Value}(j:VR w J μ x v):FR w J μ (fX fr d x) (a.put d v):=by
 cases d with
 |none=>exact h
 |some n =>
  obtain⟨k,f,g⟩:=h;refine⟨k,by simp[Act.put,fX,f],λi y b=>?_⟩;simp only[fX]at b;simp only[Act.put]
  by_cases c:n=i
  .subst c
   by_cases e:n<fr.length
   .rw[aL e]at b;simp only[ae]at b;subst b;have:n<a.tmps.size:=by omega
    simpa[this]using j
   .rw[cI (by simp;omega)]at b;simp at b
  .rw[bz c]at b;have:=g i y b;simp only[cx,eH c]at this |-;exact this
def Uu{P:bo}{o:Oper}{a:Act}{w:bD}{f:Nat}{args:Array Operand}{e:Array TypeId}{b:Func}(d:o.op=.call { callee:=.value (.func f),args,argTypes:=e })(c:P.funcs[f]?=some b)(k:b.body.isSome=true)(i:b.name ≠ "runtime.NumGoroutine") :
  (execOp a.eval o).run P w=.ok (.enter f (args.map a.eval)) w:=by
 have h:(b.name == "runtime.NumGoroutine")=false:=by simpa using i
 have g:b.body.isNone=false:=by cases j:b.body<;>simp_all
 simp only[execOp,d,resolve,Act.eval,Deferred.ofValue,invoke,callFunc,Sem.run_bind,Sem.run_pure,Result.andThen_ok,run_program,c,h,g,aI,aS,UI,UJ]
def Sb{P:bo}{o:Oper}{a:Act}{w:bD}{t f:Nat}{args:Array Operand}{h:Array TypeId}{c:Array Value}(e:o.op=.call { callee:=.value (.tmp t),args,argTypes:=h })(j:a.tmps.getD t undef=.func (.func f) #[] c)(b:QZ P f=true):
  (execOp a.eval o).run P w=.ok (.enter f (args.map a.eval++c)) w:=by
 unfold QZ at b;split at b
 .rename_i d l;simp only[aJ,qT,fc]at b;have k:(d.name == "runtime.NumGoroutine")=false:=by simpa using b.2
  have i:d.body.isNone=false:=by cases m:d.body<;>simp_all
  have g:a.eval (.tmp t)=.func (.func f) #[] c:=j;simp only[execOp,e,resolve,g,Deferred.ofValue,invoke,callFunc,Sem.run_bind,Sem.run_pure,Result.andThen_ok,run_program,l,k,i,aI,aS,UI]
 .simp at b
def Ts{J:ak}{x:V}{j m E n:Nat}{b:dK}(h:Jh J x=some (j,m,E,n,b)):x=.it j/\∃c K a,J[j]?=some (.iter false m E n b c)/\J[m]?=some (.map K E a)/\a.length=n:=by
 unfold Jh at h;split at h
 .rename_i i;split at h
  .rename_i l o k d c f;split at h
   .rename_i K p a e;split at h
    .rename_i g;obtain⟨rfl,rfl⟩:=g;simp only[ae,aQ]at h;obtain⟨rfl,rfl,rfl,rfl,rfl⟩:=h;exact⟨rfl,c,K,a,f,e,rfl⟩
    .simp at h
   .simp at h
  .simp at h
 .simp at h
def Tr{P:bo}{o:Oper}{K:ca}{z:St}{d:cU}{B:Nat}{w0 w:bD}{μ:Mem}{a:Act}{x0:Operand}{x:O}(iG:o.op=.next x0 false)(hx:cO x0=some x)(hd:o.dst=d){j m E n:Nat}{A:dK}(hn:Jh z.J (ev z.fr x)=some (j,m,E,n,A))
  (h:(A=[]->K ⟨fX z.fr d (.iQ [.b false]),z.J⟩)/\∀q∈A,K ⟨fX z.fr d (.iQ [.b true,.u,.u]),z.J.set j (.iter false m E n (A.filter λi=>i != q) (some q))⟩)
  (hS:lj P B w0 w z.J μ) (hF:FR w z.J μ z.fr a) {Q:Exit->Act->bD->Prop} :
  o.wp P a w (λa' w'=>∃s μ',K s/\lj P B w0 w' s.J μ'/\FR w' s.J μ' s.fr a'/\uc w z.J μ w' s.J μ'/\(∃v,a'=a.put o.dst v)/\∃r,s.fr=fX z.fr d r) Q:=by
 obtain⟨h0,h3⟩:=h;obtain⟨av,c,K0,es,F,I,D⟩:=Ts hn;have h1:=fu hF hx;rw[av]at h1;obtain⟨r,M,since,g,Z,q2,W,q4,q5,K3,E3,a8,f,clock,q6,N,q8,q9⟩:=hS.obj _ _ F;rw[I]at q6;simp only[ae,Ob.map.injEq]at q6;obtain⟨rfl,rfl,rfl⟩:=q6;obtain⟨aE,q11,a1⟩:=(q9 rfl).2 D;subst aE;obtain⟨r',aa,Y,G,_,hh,hR⟩:=hS.obj _ _ I;rw[q4]at G;simp only[Value.map.injEq,ae]at G;subst G;rw[N]at hh;simp only[ae,Obj.map.injEq]at hh;obtain⟨rfl,rfl⟩:=hh;have LH:a.eval x0=.pointer (some ⟨r,0,none⟩):=h1.TM.1.trans Z
 have S:=run_next_at (P:=P) w o.type r M clock clock g f clock W N (λy l=>by
  obtain⟨i,t⟩:=ed.1 l;exact hR.2.2.1 i y (by simpa using t)) (aD _)
 have pR:j<z.J.length:=(ah.1 F).1;have tm:r<w.heap.size:=(cg.1 W).1;have ac:m≠j:=by rintro rfl;rw[F]at I;simp at I
 have ad:M≠r:=by
  rintro rfl;rw[W]at N;simp at N
 unfold Oper.wp;rcases S with⟨hz,S⟩|⟨e,he,w1,HU,S⟩
 .have pU:A=[]:=by
   cases A with
   |nil=>rfl
   |cons p A =>
    exfalso;have hp:=q5 p (by simp);have T:p<f.size:=by rw[hR.1,D];exact hp
    have:=(q11 p f[p] (bO T)).2 (by simp)
    have pj:f[p]∈leftOf f g:=by
     simp only[leftOf,Array.mem_filter];exact⟨Array.getElem_mem T,by rw[this];rfl⟩
    have iR:leftOf f g=#[]:=zU hz;rw[iR]at pj;simp at pj
  have vH:(execOp a.eval o).run P w=.ok (.value (.tuple #[.bool false])) w:=by simp[execOp,iG,LH,S]
  rw[vH];simp only[Oper.upon];refine⟨_,μ,h0 pU,hS,?_,uc.refl _ _ _,⟨_,rfl⟩,_,rfl⟩;rw[hd]
  exact hF.put d (.iQ _ _ rfl λi y l=>by
   cases i with
   |zero=>simp only[aM,ae]at l;subst l;exact .b _
   |succ i=>simp at l)
 .have L:e∈f/\g.contains e.born=false:=by
   have:e∈leftOf f g:=by simpa using he
   simp only[leftOf,Array.mem_filter]at this;exact⟨this.1,by simpa using this.2⟩
  obtain⟨q,am,ab⟩:=Array.mem_iff_getElem.1 L.1;have C:f[q]?=some e:=by rw[bO am,ab]
  have ap:q∈A:=(q11 q e C).1 L.2;have vH:(execOp a.eval o).run P w=.ok (.value (.tuple #[.bool true,e.key,e.val])) (ChangeMaps.setBlock w1 r (.mapIter (some M) clock (g.push e.born) clock)):=by simp[execOp,iG,LH,S]
  rw[vH];simp only[Oper.upon];have R:w1.heap=w.heap:=by rcases HU with rfl|rfl<;>rfl
  have wg:=hS.update (w':=ChangeMaps.setBlock w1 r (.mapIter (some M) clock (g.push e.born) clock)) (J':=z.J.set j (.iter false m E n (A.filter λi=>i != q) (some q))) (μ':=μ) j (some r)
   (by
    rcases HU with rfl|rfl
    .exact⟨rfl,rfl,rfl,by simp[ChangeMaps.setBlock],λi _ t=>by simp only[ChangeMaps.setBlock];rw[eH (λe=>t (by rw[e]))]⟩
    .exact⟨rfl,rfl,rfl,by simp[ChangeMaps.setBlock],λi _ t=>by simp only[ChangeMaps.setBlock];rw[eH (λe=>t (by rw[e]))];rfl⟩)
   (λb X=>⟨_,F,by simp,by simp only[ae]at X;subst X;simp[Z,lZ]⟩)
   (by simp) (λi t=>bz (λe=>t e.symm)) (λ_ _=>rfl)
   (λb X=>.inl ⟨_,F,by simp,X⟩)
   (λb a5 v2 o2 k _ H U _=>by
    simp only[Z,lZ,ae]at H;subst H;simp[World.cell?,W]at U)
   (λT2 ba k=>by rw[F]at k;simp at k)
   (λK2 E2 a2 k=>by rw[F]at k;simp at k)
   (λE2 a0 a3 g2 a7 a4 _ k=>by simp[pR]at k)
   (λAh o2 k=>by
    simp only[aL pR,ae]at k;subst k;refine⟨r,M,clock,g.push e.born,Z,q2,by simp[ChangeMaps.setBlock,R,tm],q4,λp hp=>q5 p (cZ.1 hp).1,_,E,_,f,clock,(bz (λe=>ac e.symm)).trans I,?_,aD _,λ_=>⟨by omega,λ_=>⟨rfl,λi e2 t=>?_,λc hc=>?_⟩⟩⟩
    .simp only[ChangeMaps.setBlock,R];rw[eH (λe=>ad e.symm)];exact N
    .have:=q11 i e2 t;rw[contains_push,iv,this];simp only[cZ,qT,fc,di];constructor
     .rintro⟨H,U⟩;refine⟨H,λaf=>U ?_⟩;subst af;rw[C]at t;simp only[ae]at t;rw[t]
     .rintro⟨H,U⟩;refine⟨H,λV=>U (hR.2.2.2 i q e2 e t C ?_)⟩
      first|exact V|exact V.symm
    .simp only[ae]at hc;subst hc;exact⟨e,C,by simp⟩)
   (λa9 m2 E2 n2 a6 c2 k=>by
    rw[F]at k;simp only[ae,Ob.iter.injEq]at k;obtain⟨rfl,rfl,rfl,rfl,rfl,rfl⟩:=k;exact⟨⟨_,_,aL pR⟩,rfl⟩)
  refine⟨_,μ,h3 q ap,wg.1,?_,wg.2.jF,⟨_,rfl⟩,_,rfl⟩;rw[hd]
  exact(hF.jF wg.2.jF).put d (.iQ _ _ rfl λi y l=>by
   match i with
   |0=>simp only[aM,ae]at l;subst l;exact .b _
   |1=>simp only[bX,aM,ae]at l;subst l;exact .u _
   |2=>simp only[bX,aM,ae]at l;subst l;exact .u _
   |i+3=>simp at l)
def PU{P:bo}{o:Oper}{p:Pi}{K:ca}{G:St}{B:Nat}{w0 w:bD}{μ:Mem}{a:Act}(b:compile P o=some p.i)(M:o.dst=p.d)(h:nQ P p K G)(R:lj P B w0 w G.J μ)(C:FR w G.J μ G.fr a){Q:Exit->Act->bD->Prop}:
  o.wp P a w (λa' w'=>∃z μ',K z/\lj P B w0 w' z.J μ'/\FR w' z.J μ' z.fr a'/\uc w G.J μ w' z.J μ'/\(∃v,a'=a.put o.dst v)/\∃r,z.fr=fX G.fr p.d r) Q:=by
 unfold nQ at h;split at h
 .
  rename_i f U S;rw[S]at b;cases l:o.op with
  |call c =>
   simp only[compile,l]at b;obtain⟨callee,g,argTypes⟩:=c;unfold pw at b;dsimp only at b;split at b
   .split at b<;>simp at b
   .split at b<;>simp at b
   .split at b<;>simp at b
   .split at b<;>(try simp at b;done);split at b<;>(try simp at b;done);split at b<;>(try simp at b;done);split at b
    .split at b<;>simp at b
    .split at b<;>(try simp at b;done)
   . (repeat' split at b)<;>(simp at b;done)
   . (repeat' split at b)<;>(simp at b;done)
   .rename_i f' e1;split at b<;>(try simp only[reduceCtorEq]at b);rename_i fn EA;split at b
    rotate_left
    . (repeat' split at b)<;>(simp at b;done)
    rename_i jZ;simp only[aF,I.call.injEq]at b;obtain⟨ys,GY,rfl,rfl⟩:=b;have Y:=Uu (P:=P) (a:=a) (w:=w) l EA jZ.1 jZ.2;unfold Oper.wp;rw[Y];simp only[Oper.upon];obtain⟨N,W⟩:=KC C _ _ GY;refine(h B w0 w μ (g.map a.eval) R ⟨by simp[N],λi y O=>?_⟩).mono ?_
    .have:=W i y O;simpa[aq]using this
    .rintro e w' ⟨r,v,J',μ',rfl,D,k,A,V⟩;refine⟨_,μ',D,k,?_,V,⟨_,rfl⟩,_,rfl⟩;rw[M];exact(C.jF V).put p.d A
   .simp at b
   .simp at b
  |buildSlice T len parts =>
   exfalso;simp only[compile,l]at b
   (repeat' split at b)<;>(try (simp only[reduceCtorEq]at b;done))
   simp only[aF]at b;obtain⟨xs,_,s⟩:=b;split at s<;>simp at s
  |_ =>
   exfalso;simp only[compile,l]at b
   (repeat' split at b)<;>first|(simp at b;done)|(simp_all;done)
 .
  rename_i x U S;split at h
  rotate_left
  .exact h.elim
  rename_i f aa s;obtain⟨ll,h⟩:=h;rw[S]at b;cases l:o.op with
  |call c =>
   simp only[compile,l]at b;obtain⟨callee,g,argTypes⟩:=c;unfold pw at b;dsimp only at b;split at b
   .split at b<;>simp at b
   .split at b<;>simp at b
   .split at b<;>simp at b
   .split at b<;>(try simp at b;done);split at b<;>(try simp at b;done);split at b<;>(try simp at b;done);split at b
    .split at b<;>simp at b
    .split at b<;>(try simp at b;done)
   . (repeat' split at b)<;>(simp at b;done)
   . (repeat' split at b)<;>(simp at b;done)
   . (repeat' split at b)<;>(simp at b;done)
   .rename_i t;simp only[aF,I.uD.injEq]at b;obtain⟨ys,GY,rfl,rfl⟩:=b;have A:=C.at t;simp only[ev]at s;rw[s]at A;generalize Z:a.tmps.getD t undef=u at A;cases A with
    |fn _ _ vs hl Eu =>
     have Y:=Sb (P:=P) (a:=a) (w:=w) l Z ll;unfold Oper.wp;rw[Y];simp only[Oper.upon];obtain⟨N,W⟩:=KC C _ _ GY;refine(h B w0 w μ (g.map a.eval++vs) R ⟨by simp[N,hl],λi y O=>?_⟩).mono ?_
     .rcases kE i (ys.map (ev G.fr)).length with fk|XX
      .rw[ay fk]at O;have X:=W i y O;have H:i<g.size:=by simpa[N]using fk
       simpa[cx,lC,H,aq]using X
      .rw[aU XX]at O;have X:=Eu _ y O;have H:g.size<=i:=by simpa[N]using XX
       simpa[cx,Array.getElem?_append_right,H,N]using X
     .rintro e w' ⟨r,v,J',μ',rfl,D,k,A,V⟩;refine⟨_,μ',D,k,?_,V,⟨_,rfl⟩,_,rfl⟩;rw[M];exact(C.jF V).put p.d A
   .simp at b
  |buildSlice T len parts =>
   exfalso;simp only[compile,l]at b
   (repeat' split at b)<;>(try (simp only[reduceCtorEq]at b;done))
   simp only[aF]at b;obtain⟨xs,_,s⟩:=b;split at s<;>simp at s
  |_ =>
   exfalso;simp only[compile,l]at b
   (repeat' split at b)<;>first|(simp at b;done)|(simp_all;done)
 .
  rename_i x S;split at h
  rotate_left
  .exact h.elim
  rename_i j m E n ps hn;rw[S]at b;cases l:o.op with
  |next x0 q =>
   cases q with
   |true=>simp[compile,l]at b
   |false =>
    simp only[compile,l,aF,I.next.injEq]at b;obtain⟨x',s,rfl⟩:=b;exact Tr l s M hn h R C
  |call c =>
   exfalso;simp only[compile,l]at b;unfold pw at b
   (repeat' split at b)<;>(simp at b;done)
  |buildSlice T len parts =>
   exfalso;simp only[compile,l]at b
   (repeat' split at b)<;>(try (simp only[reduceCtorEq]at b;done))
   simp only[aF]at b;obtain⟨xs,_,s⟩:=b;split at s<;>simp at s
  |_ =>
   exfalso;simp only[compile,l]at b
   (repeat' split at b)<;>first|(simp at b;done)|(simp_all;done)
 .rename_i i iR ab ac;split at h
  .rename_i ob v hp;obtain⟨fR,D⟩:=h;obtain⟨u,w',L,Z,A⟩:=Qw b C R hp fR;obtain⟨k,F⟩:=R.grown Z;unfold Oper.wp;rw[L];simp only[Oper.upon];exact⟨_,μ,D,k,by rw[M];exact(C.jF F.jF).put p.d A,F.jF,⟨_,rfl⟩,_,rfl⟩
  .split at h
   .rename_i ob v J' s;obtain⟨fR,D⟩:=h;obtain⟨u,w',μ',L,k,A,F⟩:=Pw b C R s fR;unfold Oper.wp;rcases L with L|⟨L,rfl⟩
    .rw[L];simp only[Oper.upon];exact⟨_,μ',D,k,by rw[M];exact(C.jF F.jF).put p.d A,F.jF,⟨_,rfl⟩,_,rfl⟩
    .rw[L];simp only[Oper.upon];exact⟨_,μ',D,k,by rw[M];exact(C.jF F.jF).put p.d (.u _),F.jF,⟨_,rfl⟩,_,rfl⟩
   .exact h.elim
end Go.Pm

/- A part of a proof; the claim's last text says of what. -/
import Derived.IntWalk
import Derived.Test.YtfeddmfijllgmaaGreatDoorB7
set_option linter.all false
open Option renaming some->S,none->Z
open Bool renaming true->θ,false->G
open List renaming length->Y

namespace Go.Pm
open Go Go.RowKit
variable(v:Nat)(m:aj){q:Array Value}{p:Bool}{w:List O}{s:List Rs}{f L e:Nat}{H:St}{r:V}{N:V->aj->Prop}{U F:aB}{Q:aJ}{T M:aj}{P:bG}{R:bL}{d:dE}{D:fx}
def uu:Nat->aB->aB|0,l=>l|n+1,l=>.u::uu n l
def fj:Nat->((aB->Prop)->Prop)->(aB->Prop)->Prop|0,c,p=>c p|n+1,c,p=>∀j,fj n c λl=>p (j::l)
def fh(x:V)(c:(aB->Prop)->Prop)(p:aB->Prop):Prop:=c λl=>p (x::l)
def fo(p:aB->Prop):Prop:=p []
def Hd(R:ck)(K:bL):bL|.normal=>R|e=>K e
def Rq{R:ck}{K:bL}:Hd R K .normal=R:=rfl
def abA{R:ck}{K:bL}:Hd R K .ret=K .ret:=rfl
def YJ{R:ck}{K:bL}{id:Nat}:Hd R K (.exit id)=K (.exit id):=rfl
def az(h:∀a:ck,(∀b,gw f P Q R L b->a b)->G7 f P Q (Hd a R) H):gw f P Q R (L+1) H:=by
 refine abz ?_;have:=h (gw f P Q R L) λ_ h=>h;have e:Hd (gw f P Q R L) R=ane f P Q R L:=by funext e;cases e<;>rfl
 rw[<- e];exact this
def ub{a fr':aB}{J J':aj}(h:Wk P f a J fr' J')(k:gw f P Q R L ⟨fr',J'⟩):gw f P Q R L ⟨a,J⟩:=by cases L with|zero=>exact k.elim|succ L=>exact cB.wk h k
def vj(a:f<=Y T)(b:bT T)(d:rk U F)(c:jt T.length F)(k:gw f P Q R L ⟨F,T⟩):gw f P Q R L ⟨U,T++M⟩ :=ub ((Wk.fw d).trans (Wk.lS a b (ed.1 c))) k
def bX{a fr':aB}(b:rk a fr')(k:gw f P Q R L ⟨fr',T⟩):gw f P Q R L ⟨a,T⟩ :=ub (Wk.fw b) k
def xr(h:f<2^63):IntKind.i64.wrap (f:Int)=f:=IntWalk.i64_in _ (by omega)
def da{n:Nat}(h:n+1<2^63):IntKind.i64.wrap ((n:Int)+1)=((n+1:Nat):Int):=by rw[IntWalk.i64_in _ (by omega)];omega
def dD{α:Type _}(a:List α)(b:α)(h:Y a+1<2^63):IntKind.i64.wrap ((Y a:Int)+1)=((Y (a++[b]):Nat):Int):=by rw[da h];simp
def dL{α:Type _}{a b:List α}(h:a=b++[]):a=b:=by simpa using h
def gY{α:Type _}{a b r:List α}{x:α}(h:a=b++x::r):Y a=Y b+(Y r+1):=by rw[h];simp
def dR{α:Type}{f:α->aB}{b a:List α}{x:α}{d:aB}:(List.map f (b++x::a)).getD b.length d=f x:=by simp[aA]
def qK{α:Type}{f:α->aB}{b a:List α}{x:α}{j:Nat}:gv (List.map f (b++x::a)) b.length j=(f x)[j]?:=by simp[gv]
def bK{e:Exit}(b:e=.normal\/e=.ret)(c:mS ⟨U,T⟩ s=S F)(a:N (one F) T): zy P T.length s N e ⟨U,T⟩:=dS b c (Wk.refl _ _) rfl a
def qP(h:(V.sl f D).Wf):Y D<2^63:=by cases h with|sl _ _ h=>simp only[maxLen]at h;omega
def Ld{l:aR}(h:(V.s l).Wf):Y l<2^63:=by cases h with|s _ h=>simp only[maxLen]at h;omega
def cB.bX{a fr':aB}(b:rk a fr')(N:Nat)(h:gw f P Q R N ⟨fr',T⟩):cB f P (.loop Q) R ⟨a,T⟩ :=cB.wk (Wk.fw b) (cB.kT N h)
def Qt{a b:Bool}:(bif a then θ else b)=(a||b):=by cases a<;>rfl
def aet{a b:Bool}:(bif a then b else G)=(a&&b):=by cases a<;>rfl
def ana{b a:aR}{x:UInt8}{d:UInt8}:(b++x::a).getD b.length d=x:=by simp[aA]
def aiB{K:ck}{J σ1 b:aj}{zs:aB}(g:Wk P J.length (w.map (ev U)) J zs σ1)(h:PC P f zs σ1 (λa e=>a=r/\e=b))(c:K ⟨iM U d r,b⟩): gI P ⟨d,[],.call f w⟩ K ⟨U,J⟩ :=al (PC.wk g h) rfl c
def iN{K:ck}{zs:aB}(b:rk (w.map (ev U)) zs)(h:PC P f zs T (λa e=>a=r/\e=M))(c:K ⟨iM U d r,M⟩): gI P ⟨d,[],.call f w⟩ K ⟨U,T⟩ :=al (PC.wk (Wk.fw b) h) rfl c
def cN(n:Int):aB:=[.i .i64 n]
def aew{p:Prop}{v w:V}:(∃c,S (p,v)=S (c,w)/\c)=(v=w/\p):=by simp only[ab,bm,amr];exact⟨λ⟨_,⟨a,b⟩,d⟩=>⟨b,a.2 d⟩,λ⟨a,b⟩=>⟨p,⟨QK,a⟩,b⟩⟩
def aex{p:Prop}{v:V}:(∃a r,S (p,v)=S (a,r)/\a)=p:=by simp only[ab,bm,amr];exact⟨λ⟨_,_,⟨c,_⟩,b⟩=>c.2 b,λh=>⟨p,v,⟨QK,rfl⟩,h⟩⟩
def v8{l:bU}(h:f<Y l):gv (l.map cN) f 0=S (.i .i64 (l.getD f 0)):=by simp[gv,cN,h]
def iw{P:bG}{i:List Rs}{Q:V->aj->Prop}{e:Exit}{h:aB}{J b:aj}{f:aB}(k:Nat){E d c g:Nat}{o:Bool}{a:fx}(p:bT J)(j:e=.normal\/e=.ret)(m:mS ⟨h,J++b⟩ i=S f) (l:b[k]?=S (.row E d c g o a)) (q:jt J.length (f.map (fz (Y J+k) g d a))) (n:Q (one (f.map (fz (Y J+k) g d a))) J):zy P J.length i Q e ⟨h,J++b⟩:=by refine dS j m ((Wk.fz (Y J+k) (by rw[kO];exact l)).trans ?_) (by simp) n;rw[kf];exact Wk.yQ p q
def tiB(P:bG)(E b a:Nat):Bool :=
 match P.info? E with
 |some t=>match t.zero with
  |some z=>decide (0<b)&&(t.size==b&&(t.bytes==a&&z.cells.size==b))
  |none=>G
 |none=>G
def o8(h:tiB P f L e=θ):Ti P f L e:=by
 unfold tiB at h;split at h
 .rename_i t b;split at h;.rename_i z a;simp only[aZ,bE,ez]at h;exact⟨h.1,t,z,b,a,h.2.1,h.2.2.1,h.2.2.2⟩
  simp at h
 simp at h
def PC.PB(h:∀(w:bQ) (b:Mem) (c:Array Value),VRs w T b U c->∃u,Calls P f c w (λe d=>e=.returned u/\d=w)/\VR w T b r u): PC P f U T (λa k=>a=r/\k=T):=by intro B m w b c i j;obtain⟨u,g,l⟩:=h w b c j;refine g.mono ?_;rintro e d ⟨rfl,rfl⟩;exact⟨r,u,T,b,rfl,⟨rfl,rfl⟩,i,l,uS.refl _ _ _⟩
def vs1(h:q.size=1):q=#[q.getD 0 undef]:=by
 apply Array.ext;.simpa using h
 intro i a b;have:i=0:=by omega
 subst this;simp[a]
def vs2(h:q.size=2):q=#[q.getD 0 undef,q.getD 1 undef]:=by
 apply Array.ext;.simpa using h
 intro i a b;have:i=0\/i=1:=by omega
 rcases this with rfl|rfl<;>simp[a]
def cj{J l:aj}(h:bT J)(f:∀o∈l,match o with|.box _ b=>jt (Y J+Y l) b|_=>True):bT (J++l):=by
 intro id T b a j x c;rw[ah];rcases jP id (Y J) with e|d;.rw[bg e]at a;exact(h id T b a j x c).mono (aeZ _ _)
 rw[bn d]at a;have:=f _ (aS a);simp only at this;exact ed.1 this j x c
def cn{b fr':aB}(a:aj)(c:bT (T++m))(e:rk b fr')(d:jt (Y T+Y m) fr')(k:gw T.length P Q R f ⟨fr',T++m⟩):gw T.length P Q R f ⟨b,T++(m++a)⟩:=by rw[<- List.append_assoc];exact ub ((Wk.fw e).trans (Wk.lS (by simp) c (by rw[ah];exact ed.1 d))) k
def Wk.ph{P:bG}{n:Nat}{J:aj}{k E b a:Nat}(c:Ti P E b a)(d:U[k]?=S .nil):Wk P n U (J++m) (U.set k (.own (Y J+Y m) 0)) (J++(m++[.row E b a 0 G []])):=by have:=Wk.k9 (P:=P) (n:=n) (J:=J++m) c d;rwa [ah,aO]at this
def iB:∀(l:aR),bytesOf (aN l)=S l|[]=>rfl|c::l=>by have ih:=iB l;simp only[aN,aI,bytesOf,yf]at ih |-;rw[ih];simp
def gp{a b:aR}:aN a++aN b=aN (a++b):=by simp[aN]
def bM{a:aR}:Y (aN a)=Y a:=by simp[aN]
def unV:UnOp->V->Option (Prop×V)|.not,.b p=>S (True,.b (!p))|.neg,.i k n=>S (True,.i k (k.wrap (0 - n)))|_,_=>Z
def ai6(a:aB)(J:aj)(c:UnOp)(x:O):ct a J (.un c x)=unV c (ev a x):=by show(match c,ev a x with|.not,.b p=>S (True,V.b (!p))|.neg,.i k n=>S (True,V.i k (k.wrap (0 - n)))|_,_=>Z)=_;rfl
set_option linter.defProp false in
def UE:=aH @uu.eq_1 @uu.eq_2
set_option linter.defProp false in
def JE:=aH (aH @fj.eq_1 @fj.eq_2) (aH @fh.eq_1 @fo.eq_1)
set_option linter.defProp false in
def EV:=(aH (aH (aH (aH (aH (aH @ct.eq_1 @ct.eq_2) (aH @ct.eq_3 @ct.eq_4)) (aH (aH @ct.eq_5 @ct.eq_6) (aH @ct.eq_7 @ct.eq_8))) (aH (aH (aH @ct.eq_9 @ai6) (aH @unV.eq_1 (aH @unV.eq_2 @unV.eq_3))) (aH (aH @ct.eq_13 @ct.eq_14) (aH @ct.eq_15 (aH @ct.eq_16 @ct.eq_17))))) (aH (aH (aH (aH @ct.eq_18 @ct.eq_19) (aH @ct.eq_20 @ct.eq_21)) (aH (aH @ct.eq_22 @ct.eq_23) (aH @ct.eq_24 @ct.eq_25))) (aH (aH (aH @ct.eq_26 @ct.eq_27) (aH @ct.eq_28 @ct.eq_29)) (aH (aH @ct.eq_30 @ct.eq_31) (aH @ct.eq_32 (aH @eZ.eq_1 @eZ.eq_2)))))) (aH (aH (aH (aH (aH @eZ.eq_3 @eZ.eq_4) (aH @eZ.eq_5 @eZ.eq_6)) (aH (aH @eZ.eq_7 @eZ.eq_8) (aH @eZ.eq_9 @eZ.eq_10))) (aH (aH (aH @lI.eq_1 @lI.eq_2) (aH @lI.eq_3 @lI.eq_4)) (aH (aH @lI.eq_5 @lI.eq_6) (aH @lI.eq_7 (aH @lI.eq_8 @lI.eq_9))))) (aH (aH (aH (aH @lI.eq_10 @lI.eq_11) (aH @lI.eq_12 @lI.eq_13)) (aH (aH @lI.eq_14 @lI.eq_15) (aH @lI.eq_16 @lI.eq_17))) (aH (aH (aH @lI.eq_18 @lI.eq_19) (aH @lI.eq_20 @lI.eq_21)) (aH (aH @lI.eq_22 @lI.eq_23) (aH @lI.eq_24 (aH @lI.eq_25 @lI.eq_26)))))))
set_option linter.defProp false in
def W:=aH UE <| aH EV <| aH (aH (aH @zm.eq_1 @zl.eq_1) (aH (aH @zL.eq_1 @zf.eq_1) (aH @z.eq_1 @zs.eq_1))) (aH (aH (aH (aH (aH (aH (aH @G7.eq_1 (aH @G7.eq_2 @G7.eq_3)) (aH (aH @G7.eq_4 @G7.eq_5) (aH @G7.eq_6 @G7.eq_7))) (aH (aH (aH @G7.eq_8 (aH @G7.eq_9 (aH (aH @G7.eq_10 @Ya.eq_1) (aH (aH (aH @G7.eq_11 @V4.eq_1) (aH @V4.eq_2 (aH (aH @abv (aH @YC @YD)) (aH (aH (aH @anb.eq_1 (aH (aH @adR @ZV) (aH @Vz (aH @VA @Vy)))) @am7.eq_1) (aH @am6.eq_1 @aje.eq_1))))) (aH (aH @aeB @aav) (aH (aH @aaf @VM) (aH @abo @Yz))))))) (aH @YF @abx)) (aH (aH @YE @abw) (aH @Rk @abq)))) (aH (aH (aH (aH @YA @TK) (aH @aeF @aax)) (aH (aH @aay @Rq) (aH @abA @YJ))) (aH (aH (aH @alU @ah3) (aH @ad2 @Z4)) (aH (aH @ah9 @ad0) (aH @al3 @al4))))) (aH (aH (aH (aH @al5 (aH @arI @alZ)) (aH (aH @al6 @adZ) (aH @Z2 @alX))) (aH (aH (aH @alW @ah2) (aH @alY @alV)) (aH (aH @ah7 @ah6) (aH @ah8 @ah5)))) (aH (aH (aH (aH @al2 @ad3) (aH @adY @al8)) (aH (aH @aib (aH @arJ @aia)) (aH @ad1 (aH (aH (aH @al1 @al0) (aH @aic @al7)) (aH @ah4 (aH @ahg (aH @ahf @ahe))))))) (aH (aH (aH @alI @ahU) (aH @adV @ZX)) (aH (aH @ahZ @adU) (aH @alO @alP)))))) (aH (aH (aH (aH (aH @alQ (aH @arH @alN)) (aH (aH @alR @adT) (aH @ZW @alL))) (aH (aH (aH @alK @ahT) (aH @alM @alJ)) (aH (aH @ahX @ahW) (aH @ahY (aH @ahV @ah0))))) (aH (aH (aH (aH @V.pure.eq_1 @V.pure.eq_2) (aH @V.pure.eq_3 @V.pure.eq_4)) (aH (aH @V.pure.eq_5 @amh.eq_1) (aH @KO.eq_1 @aew))) (aH (aH (aH @aex @afQ) (aH @afm @afN)) (aH (aH @gX.eq_1 @gX.eq_2) (aH @chainB.eq_1 @chainB.eq_2))))) (aH (aH (aH (aH @ct.eq_1 (aH @ct.eq_2 @ct.eq_3)) (aH (aH @ct.eq_4 @ct.eq_5) (aH @ct.eq_6 @ct.eq_7))) (aH (aH (aH @ct.eq_8 @ct.eq_9) (aH @ai6 @unV.eq_1)) (aH (aH (aH @unV.eq_2 @unV.eq_3) @ct.eq_13) (aH @ct.eq_14 @ct.eq_15)))) (aH (aH (aH (aH @ct.eq_16 @ct.eq_17) (aH @ct.eq_18 @ct.eq_19)) (aH (aH @ct.eq_20 @ct.eq_21) (aH @ct.eq_22 @ct.eq_23))) (aH (aH (aH @ct.eq_24 @ct.eq_25) (aH @ct.eq_26 @ct.eq_27)) (aH (aH @ct.eq_28 @ct.eq_29) (aH @eZ.eq_1 @eZ.eq_2))))))) (aH (aH (aH (aH (aH (aH @eZ.eq_3 (aH @eZ.eq_4 @eZ.eq_5)) (aH (aH @eZ.eq_6 @eZ.eq_7) (aH @eZ.eq_8 @eZ.eq_9))) (aH (aH (aH @ev.eq_1 @ev.eq_2) (aH @iM.eq_1 @iM.eq_2)) (aH (aH @Ty.eq_1 @ja.{0,0}) (aH @bH.{0,0} @aX.{0})))) (aH (aH (aH (aH @bB.{0} @cC.{0}) (aH @cT.{0} @jC.eq_1)) (aH (aH @jC.eq_2 @lf.eq_1) (aH @lf.eq_2 @kZ.eq_1))) (aH (aH (aH @kZ.eq_2 @kZ.eq_3) (aH @kZ.eq_4 @kZ.eq_5)) (aH (aH @kZ.eq_6 @kZ.eq_7) (aH @fu.eq_1 @fu.eq_2))))) (aH (aH (aH (aH @tL.eq_1 (aH @tL.eq_2 @tL.eq_3)) (aH (aH @CA.eq_1 @CA.eq_2) (aH @gF.{0} @K3.{0}))) (aH (aH (aH @ar7 @dB) (aH @dp @km)) (aH (aH @cK @cG) (aH @jD @kO)))) (aH (aH (aH (aH @s8 @kf) (aH @aeL @ae.{0})) (aH (aH @ai.{0} @aC.{0}) (aH @bY.{0} @List.getElem?_nil.{0}))) (aH (aH (aH @cu @aG) (aH @aM @lI.eq_1)) (aH (aH @lI.eq_2 @lI.eq_3) (aH @lI.eq_4 @lI.eq_5)))))) (aH (aH (aH (aH (aH @lI.eq_6 (aH @lI.eq_7 @lI.eq_8)) (aH (aH @lI.eq_9 @lI.eq_10) (aH @lI.eq_11 @lI.eq_12))) (aH (aH (aH @lI.eq_13 @lI.eq_14) (aH @lI.eq_15 @lI.eq_16)) (aH (aH @lI.eq_17 @lI.eq_18) (aH @lI.eq_19 @lI.eq_20)))) (aH (aH (aH (aH @lI.eq_21 @lI.eq_22) (aH @lI.eq_23 @lI.eq_24)) (aH (aH @lI.eq_25 @lI.eq_26) (aH @ak @jE.{0}))) (aH (aH (aH @ar2.{0} @fe.{0}) (aH @oL.{0} @ar5.{0})) (aH (aH @kQ.{0} @ay.{0}) (aH @aF.{0} @bI.{0}))))) (aH (aH (aH (aH @aO.{0} (aH @aI.{0,0} @ar.{0,0})) (aH (aH (aH @forall_const.{0} @forall_const.{1}) @imp_self) (aH @beq_self_eq_true.{0} @bF.{0}))) (aH (aH (aH @eq_self.{1} @bD.{0}) (aH @cA (aH @implies_true.{0} @implies_true.{1}))) (aH (aH @k7 @nc) (aH @cond_true.{1} @cond_false.{1})))) (aH (aH (aH (aH @Qt @aet) (aH @ana @dR)) (aH (aH @qK @rowsOf.eq_1) (aH @rowsOf.eq_2 @rowsOf.eq_3))) (aH (aH (aH @rowsOf.eq_4 @rowsOf.eq_5) (aH @rowsOf.eq_6 @EE.eq_1)) (aH (aH @EE.eq_2 @EE.eq_3) (aH @EE.eq_4 @EE.eq_5))))))))
set_option linter.defProp false in
def VV:=aH W (aH (aH (aH @eZ.eq_10 (aH @Bool.true_or @ow)) (aH (aH @Bool.or_true @Bool.or_false) (aH @eV @dI))) (aH (aH @B3 (aH @bytesOf.eq_1 @bytesOf.eq_2)) (aH @yf.eq_1 (aH @yf.eq_2 @UInt8.ofNat_toNat))))
set_option linter.defProp false in
def SS:=(aH (aH @ae.{0} (aH @ai.{0} @List.replicate_zero.{0})) (aH @TT.{0} (aH @aF.{0} @ay.{0})))
set_option linter.defProp false in
def RS:=aH (aH (aH @mS.eq_1 @mS.eq_2) (aH @yy.eq_1 @yy.eq_2)) VV
set_option linter.defProp false in
def LW:=aH UE (aH (aH (aH (aH @jt.eq_1 (aH @jt.eq_2 @aX.{0})) (aH @bB.{0} (aH @as5 @as6))) (aH (aH @akj (aH @aqu @akh)) (aH @aki (aH @Az @aqy)))) (aH (aH (aH @Zi (aH @Zh @akg)) (aH @ake (aH @akf @aqv))) (aH (aH @aqw (aH @akk @akd)) (aH @cK (aH @km @cG)))))
def VR.ajb{w:bQ}{U:Mem}{A:Mem}{v:Value}(h:VR w T U r v){m:Nat}(B:m<=Y M) (V:∀b q,wr M A b q->wr T U b q) (H:∀id,id<m->M[id]?=T[id]?) (J:∀id,id<m->A id=U id) (e:r.Lt m):VR w M A r v:=by
 induction h with
 |u v=>exact .u v
 |b r=>exact .b r
 |i k n=>exact .i k n
 |s l r p B=>exact .s l r p B
 |nil=>exact .nil
 |FX t=>exact .FX t
 |sle t a=>exact .sle t a
 |sl t x b o X f O pU P y C ih =>exact .sl t x b o X f O pU P (λi j r e=>⟨(y i j r e).1,λh=>(y i j r e).2.1 (V _ _ h),(y i j r e).2.2⟩) (λi j r e=>ih i j r e (oE (y i j r e).2.2 m))
 |PO t=>exact .PO t
 |lit t x b o f pU P y C ih =>exact .lit t x b o f pU P (λi j r e=>⟨(y i j r e).1,λh=>(y i j r e).2.1 (V _ _ h),(y i j r e).2.2⟩) (λi j r e=>ih i j r e (oE (y i j r e).2.2 m))
 |own id g v F h =>
  cases e with
  |own _ _ p=>exact .own id g v (by omega) λE t z Q I x N=>by rw[J id p];exact h E t z Q I x (H id p▸N)
 |sub id g lo R v F h =>
  cases e with
  |sub _ _ _ _ p=>exact .sub id g lo R v (by omega) λE t z Q I x N=>by rw[J id p];exact h E t z Q I x (H id p▸N)
 |ptr id q b h B =>
  cases e with
  |ptr _ _ p =>obtain⟨c,cs,W⟩:=h;exact .ptr id q b ⟨c,cs,(H id p).trans W⟩ ((J id p).trans B)
 |ep t x i q b o f R P y C ih =>exact .ep t x i q b o f R P (λj r e=>⟨(y j r e).1,λh=>(y j r e).2.1 (V _ _ h),(y j r e).2.2⟩) (λj r e=>ih j r e (oE (y j r e).2.2 m))
 |rp id g i q v F h =>
  cases e with
  |rp _ _ _ _ p=>exact .rp id g i q v (by omega) λE t z Q I x N=>by rw[J id p];exact h E t z Q I x (H id p▸N)
 |mp id d h B =>
  cases e with
  |mp _ p =>obtain⟨K,E,es,W⟩:=h;exact .mp id d ⟨K,E,es,(H id p).trans W⟩ ((J id p).trans B)
 |l0=>exact .l0
 |mV=>exact .mV
 |fn f L D p C ih =>
  cases e with
  |fn _ _ h=>exact .fn f L D p λi r e=>ih i r e (h i r e)
 |agg x D p C ih =>
  cases e with
  |agg _ h=>exact .agg x D p λi r e=>ih i r e (h i r e)
 |jg x D p C ih =>cases e with|jg _ h=>exact .jg x D p λi r e=>ih i r e (h i r e)
def mv1(k:Nat):V->V|.own id g=>if id=v+k then .own v 0 else .own id g|.mp id=>.mp (if id=v+k then v else id)|x=>x
def Ob.gen:Ob->Nat|.row _ _ _ g _ _=>g|_=>0
def Ob.fresh:Ob->Ob|.row E sz by' _ sh xs=>.row E sz by' 0 sh xs|o=>o
def LC(k a:Nat):V->Prop|.own id g=>(id=v+k/\g=a)\/id<v|.mp id=>id=v+k\/id<v|x=>x.Lt v
def Ob.flat:Ob->Bool
 |.row _ _ _ _ _ _|.map _ _ _=>θ
 |_=>G
def Wk.aqF{o:Ob}(bc:bT T)(hk:M[v]?=S o)(ho:o.flat=θ)(hx:∀x∈U,LC T.length v o.gen x): Wk P T.length U (T++M) (U.map (mv1 T.length v)) (T++[o.fresh]):=by
 intro B w0 w O vs N hC;have vO:v<Y M:=(ag.1 hk).1;let p:Mem:=λj=>if j=Y T then O (Y T+v)else O j;have yI:∀id,id<Y T->p id=O id:=λid h=>by simp only[p];rw[aw (by omega)]
 have V:p (Y T)=O (Y T+v):=by simp[p]
 have dz:∀id,id<Y T->(T++[o.fresh])[id]?=(T++M)[id]?:=λid h=>by rw[bg h,bg h]
 have h0:(T++[o.fresh])[Y T]?=S o.fresh:=by simp
 have z:(T++M)[Y T+v]?=S o:=by rw[bn (by omega),ee];exact hk
 have d:∀{id F},(T++[o.fresh])[id]?=S F->(id<Y T/\(T++M)[id]?=S F/\p id=O id)\/(id=Y T/\F=o.fresh):=by
  intro id F h;rcases jP id (Y T) with Q|hg;.exact .inl ⟨Q,dz id Q▸h,yI id Q⟩
  right;have eW:=(ag.1 h).1;simp at eW;have:id=Y T:=by omega
  subst this;rw[h0]at h;exact⟨rfl,(fO h).symm⟩
 have hw:∀b J,wr (T++[o.fresh]) p b J->wr (T++M) O b J:=by
  rintro b J ⟨id,F,l,n,k⟩;rcases d l with⟨f,t,q⟩|⟨rfl,rfl⟩;.exact⟨id,F,t,q▸n,k⟩
  exact⟨Y T+v,o,z,V▸n,by cases o<;>exact k⟩
 have A:∀{x a},VR w (T++M) O x a->x.Lt (Y T)->VR w (T++[o.fresh]) p x a:=λh Q=>h.ajb (m:=Y T) (by simp) hw dz yI Q;refine⟨p,⟨N.below,N.base,λid F s=>?_,λi j oi oj b hi H l n k f=>?_⟩,⟨by simp[hC.1],λi y hy=>?_⟩,λx a L Q=>A L Q⟩
 .rcases d s with⟨f,t,q⟩|⟨rfl,rfl⟩
  .have R:=N.obj id F t;rw[q];cases F with
   |dead=>trivial
   |box c cs =>obtain⟨b,us,l,n,k,ad,ap⟩:=R;have qF:=bc id c cs (by rwa [bg f]at t);exact⟨b,us,l,n,k,ad,λj x H=>let ⟨u,q,h7⟩:=ap j x H;⟨u,q,A h7 (qF j x H)⟩⟩
   |row E sz X g sh I =>obtain⟨l,C,n,k⟩:=R;exact⟨l,C,n,k.1,λi j x H=>let ⟨f,u,t,q⟩:=k.2 i j x H;⟨f,u,t,A q (oE f _)⟩⟩
   |map K E es =>obtain⟨r,D,clock,l,n,k,f⟩:=R;exact⟨r,D,clock,l,n,k,f.1,λi v x hi=>let ⟨t,q,e,h7,h8,h9⟩:=f.2.1 i v x hi;⟨t,q,e,h7,A h8 (Bu t _),A h9 (Bs q _)⟩,f.2.2⟩
  have R:=N.obj (Y T+v) o z;rw[V];cases o with
  |dead=>trivial
  |box c cs=>simp[Ob.flat]at ho
  |row E sz X g sh I =>obtain⟨l,C,n,k⟩:=R;exact⟨l,C,n,k.1,λi j x H=>let ⟨f,u,t,q⟩:=k.2 i j x H;⟨f,u,t,A q (oE f _)⟩⟩
  |map K E es =>obtain⟨r,D,clock,l,n,k,f⟩:=R;exact⟨r,D,clock,l,n,k,f.1,λi v x hi=>let ⟨t,q,e,h7,h8,h9⟩:=f.2.1 i v x hi;⟨t,q,e,h7,A h8 (Bu t _),A h9 (Bs q _)⟩,f.2.2⟩
 .rcases d hi with⟨i1,i2,i3⟩|⟨rfl,rfl⟩<;>rcases d H with⟨j1,j2,j3⟩|⟨rfl,rfl⟩;.exact N.sep i j oi oj b i2 j2 l n (i3▸k) (j3▸f)
  .have:=N.sep i (Y T+v) oi o b i2 z l (by rintro rfl;exact n rfl) (i3▸k) (V▸f);omega
  .have:=N.sep (Y T+v) j o oj b z j2 (by rintro rfl;exact l rfl) n (V▸k) (j3▸f);omega
  rfl
 rw[bR,aL]at hy;obtain⟨x,zw,rfl⟩:=hy;have L:=hC.2 i x zw;have W:=hx x (aS zw);cases x with
 |own id g =>
  simp only[mv1];split
  .rename_i e;subst e;have hg:g=o.gen:=by simp only[LC,km]at W;omega
   cases o with
   |row E sz X g' sh I =>have au:g'=g:=hg.symm;subst au;have l:=L.nv z;refine .own _ _ _ (by simp) λE2 ac an g2 am af s=>?_;rw[h0]at s;simp only[Ob.fresh,ab,Ob.row.injEq]at s;rw[V];exact⟨jK _,λ_=>l⟩
   |_=>exact .own _ _ _ (by simp) λE2 ac an g2 am af s=>by rw[h0]at s;simp[Ob.fresh]at s
  rename_i e;simp only[LC,e,rq,pW]at W;exact A L (.own _ _ W)
 |mp id =>
  simp only[mv1];split;.rename_i e;subst e;obtain⟨r,l,n,K,E,es,k⟩:=L.PV;rw[l];refine .mp _ r ⟨K,E,es,?_⟩ (V.trans n);rw[h0];have f:=z.symm.trans k;simp only[ab]at f;subst f;rfl
  rename_i e;simp only[LC,e,pW]at W;exact A L (.mp _ W)
 |_=>exact A L W
def DB{e:Exit}{o:Ob}(f:bT T)(a:e=.normal\/e=.ret)(g:mS ⟨U,T++M⟩ s=S F) (d:M[v]?=S o) (b:o.flat=θ) (h:∀x∈F,LC T.length v o.gen x) (c:N (one (F.map (mv1 T.length v))) (T++[o.fresh])):zy P T.length s N e ⟨U,T++M⟩ :=dS a g (Wk.aqF v f d b h) (by simp) c
def PC.post{b:aj}{g:V}(h:PC P f U T (λa d=>a=r/\d=M))(A:Wk P T.length [r] M [g] b):PC P f U T (λa d=>a=g/\d=b):=by intro B m w l q n p;have y:∀x u,VR w T l x u->x.Lt (Y T):=λx u h=>h.lt;refine(h B m w l q n p).mono ?_;rintro e o ⟨a,v,d,k,C,⟨rfl,rfl⟩,D,s,t⟩;obtain⟨j,E,z,F⟩:=A B m o k #[v] D ⟨rfl,λi x c=>by cases i with|zero=>simp only[aC,ab]at c;subst c;simpa using s|succ i=>simp at c⟩;exact⟨g,v,b,j,C,⟨rfl,rfl⟩,E,by have:=z.2 0 g rfl;simpa using this,λx u c=>F x u (t x u c) (y x u c)⟩
def PC.fz{P:bG}{J:aj}{E sz by' g:Nat}{sh:Bool}{rows:fx}(b:bT J) (h:PC P f U J (λr a=>r=.own J.length g/\a=J++[.row E sz by' g sh rows])):PC P f U J (λr a=>r=.sl sz rows/\a=J):=by refine h.post ?_;refine(Wk.fz J.length (by simp;exact⟨rfl,rfl,rfl,rfl,rfl,rfl⟩)).trans ?_;rw[dX _ _ (aM _),iP];simp only[aI,ar,Pm.fz,kE,cG,aU];exact Wk.yQ b (by simp only[jt,Az,cG])
def tv{K:ck}{zs:aB}(id:Nat){b g:Nat}(i:T[id]?=S (.row L e b g p D)) (h:PC P f zs (T.set id (.row L e b g θ D)) (λa k=>a=r/\k=M)) (c:(w.map (ev U)).map (fz id g e D)=zs) (j:K ⟨iM U d r,M⟩) : gI P ⟨d,[],.call f w⟩ K ⟨U,T⟩:=by subst c;exact al (PC.wk (Wk.fz id i) h) rfl j
def PC.closed(h:bT T->PC P f U T N):PC P f U T N :=λB e w b c a d=>h a.closed B e w b c a d
def Wk.cell{P:bG}{n:Nat}{xs:aB}{J:aj}{id T j:Nat}{cs:aB}{x y:V}(a:J[id]?=S (.box T cs))(C:cs[j]?=S x) (H:∀(w:bQ) (d:Mem) (v:Value),(∀i o,J[i]?=S o->∃P B,Ma P B w J d (d i) o)->VR w J d x v->VR w J d y v):Wk P n xs J xs (J.set id (.box T (cs.set j y))):=by
 intro B w0 w d vs m s;have q:id<J.length:=(ag.1 a).1;have D:j<cs.length:=(ag.1 C).1;have h:=m.update (w':=w) (J':=J.set id (.box T (cs.set j y))) (μ':=d) id Z (grownBy_refl w Z) (by simp) (by simp) (λk g=>bN (λe=>g e.symm)) (λk g=>rfl)
  (λb l=>.inl ⟨_,a,by simp,l⟩)
  (λb F v o c hd l hc R=>⟨hc,λo' Q O ha=>R ⟨id,o,c,l,by
   rw[a]at c;cases c;trivial⟩⟩)
  (λT' U h=>by rw[a]at h;cases h;exact⟨⟨_,by rw[aT q]⟩,rfl⟩)
  (λK E es h=>by rw[a]at h;cases h)
  (λE sz X g' sh ys _ h=>by rw[aT q]at h;simp at h)
  (λA o c=>by
   rw[aT q]at c;simp only[ab]at c;subst c;obtain⟨b,I,W,M,N,h4,t⟩:=m.obj id _ a;refine⟨b,I,W,M,N,by simpa using h4,λk z f=>?_⟩;by_cases g:j=k;.subst g;rw[aT D]at f;simp only[ab]at f;subst f;obtain⟨u,r,p⟩:=t j x C;exact⟨u,r,(H w d u (λi o c=>⟨P,B,m.obj i o c⟩) p).mono A⟩
   rw[bN g]at f;obtain⟨u,r,p⟩:=t k z f;exact⟨u,r,p.mono A⟩);exact⟨d,h.1,⟨s.1,λi x L=>(s.2 i x L).mono h.2⟩,h.2.eY.Ua⟩
def Wk.anf{id a j idr E l c g:Nat}(C:T[id]?=S (.box a F))(hj:F[j]?=S .nil)(s:T[idr]?=S (.row E l c g p D)): Wk P f U T U ((T.set idr (.row E l c (g+1) G [])).set id (.box a (F.set j (.own idr (g+1))))):=by
 have jw:id≠idr:=λe=>by subst e;rw[C]at s;cases s
 intro B w0 w μ vs V W;have r:idr<Y T:=(ag.1 s).1;obtain⟨hT,_⟩:=V.obj idr _ s;have h:=V.update (w':=w) (J':=T.set idr (.row E l c (g+1) G [])) (μ':=Bh μ idr (.slice Z 0 0)) idr Z (grownBy_refl w Z) (by simp) (by simp) (λk m=>bN (λe=>m e.symm)) (λk m=>xw _ _ _ _ m)
  (λb n=>by rw[iy]at n;simp[nQ]at n)
  (λb H v o d hd n N hw=>⟨N,λo' J q=>by rw[iy]at q;simp[nQ]at q⟩)
  (λT' M h=>by rw[s]at h;cases h)
  (λK E es h=>by rw[s]at h;cases h)
  (λE2 af ad g' ac ys _ h=>by
   rw[aT r]at h;simp only[ab,Ob.row.injEq]at h;obtain⟨rfl,rfl,rfl,rfl,rfl,rfl⟩:=h;exact⟨g,p,D,s,by omega,λe=>by omega⟩)
  (λL o d=>by rw[aT r]at d;simp only[ab]at d;subst d;rw[iy];exact⟨hT,[],World.ownsRow_nil w B E l,by simp,by simp[gv]⟩);have t:(T.set idr (.row E l c (g+1) G []))[id]?=S (.box a F):=by rw[bN (λe=>jw e.symm)];exact C
 have Q:(T.set idr (.row E l c (g+1) G []))[idr]?=S (.row E l c (g+1) G []):=by rw[aT r]
 have R:id<Y (T.set idr (.row E l c (g+1) G [])):=(ag.1 t).1;have tY:j<Y F:=(ag.1 hj).1;have A:=h.1.update (w':=w) (J':=(T.set idr (.row E l c (g+1) G [])).set id (.box a (F.set j (.own idr (g+1))))) (μ':=Bh μ idr (.slice Z 0 0)) id Z (grownBy_refl w Z) (by simp) (by simp) (λk m=>bN (λe=>m e.symm)) (λk m=>rfl)
  (λb n=>.inl ⟨_,t,by simp,n⟩)
  (λb H v o d hd n N hw=>⟨N,λo' J q ha=>hw ⟨id,o,d,n,by
   rw[t]at d;cases d;trivial⟩⟩)
  (λT' M h=>by rw[t]at h;cases h;exact⟨⟨_,by rw[aT R]⟩,rfl⟩)
  (λK E es h=>by rw[t]at h;cases h)
  (λE l c g' p ys _ h=>by rw[aT R]at h;simp at h)
  (λL o d=>by
   rw[aT R]at d;simp only[ab]at d;subst d;obtain⟨b,us,h1,A,h3,h4,X⟩:=h.1.obj id _ t;refine⟨b,us,h1,A,h3,by simpa using h4,λk z y=>?_⟩;by_cases m:j=k;.subst m;rw[aT tY]at y;simp only[ab]at y;subst y;obtain⟨u,O,I⟩:=X j .nil hj;have hu:=I.pJ;subst hu;have:=(VR.ue (w:=w) (μ:=Bh μ idr (.slice Z 0 0)) Q);rw[iy]at this;exact⟨_,O,this.mono L⟩
   rw[bN m]at y;obtain⟨u,O,I⟩:=X k z y;exact⟨u,O,I.mono L⟩);exact⟨_,A.1,⟨W.1,λi x hx=>((W.2 i x hx).mono h.2).mono A.2⟩,λx v hv hl=>(hv.mono h.2).mono A.2⟩
def Wk.tV{P:bG}{n:Nat}{xs:aB}{J:aj}{id T j E c a:Nat}{cs:aB}(I:Ti P E c a)(m:J[id]?=S (.box T cs))(H:cs[j]?=S .nil): Wk P n xs J xs ((J.set id (.box T (cs.set j (.own J.length 0))))++[.row E c a 0 G []]):=by
 intro B w0 w μ vs M A;have F:id<Y J:=(ag.1 m).1;have q:=M.Aw (w':=w) (.row E c a 0 G []) (.slice Z 0 0) (grownBy_refl w Z) (by simp[nQ]) (λ_=>⟨I,[],World.ownsRow_nil w B E c,by simp,by simp[gv]⟩);have hr:(J++[.row E c a 0 G []])[Y J]?=S (.row E c a 0 G []):=by simp
 have p:(J++[.row E c a 0 G []])[id]?=S (.box T cs):=by rw[bg F];exact m
 have y:id<Y (J++[Ob.row E c a 0 G []]):=by simp;omega
 have L:j<Y cs:=(ag.1 H).1;have he:(J.set id (.box T (cs.set j (.own J.length 0))))++[Ob.row E c a 0 G []]=(J++[Ob.row E c a 0 G []]).set id (.box T (cs.set j (.own J.length 0))):=by rw[jm _ _ F]
 rw[he];have l:=q.1.update (w':=w) (J':=(J++[Ob.row E c a 0 G []]).set id (.box T (cs.set j (.own J.length 0)))) (μ':=Bh μ J.length (.slice Z 0 0)) id Z (grownBy_refl w Z) (by simp) (by simp) (λk g=>bN (λe=>g e.symm)) (λk g=>rfl)
  (λb r=>.inl ⟨_,p,by simp,r⟩)
  (λb N v o d hd r hc X=>⟨hc,λo' W V ha=>X ⟨id,o,d,r,by
   rw[p]at d;cases d;trivial⟩⟩)
  (λT' ac h=>by rw[p]at h;cases h;exact⟨⟨_,by rw[aT y]⟩,rfl⟩)
  (λK E es h=>by rw[p]at h;cases h)
  (λE c a g' sh ys _ h=>by rw[aT y]at h;simp at h)
  (λD o d=>by
   rw[aT y]at d;simp only[ab]at d;subst d;obtain⟨b,Q,h1,l,U,h4,C⟩:=q.1.obj id _ p;refine⟨b,Q,h1,l,U,by simpa using h4,λk z f=>?_⟩;by_cases g:j=k;.subst g;rw[aT L]at f;simp only[ab]at f;subst f;obtain⟨u,t,s⟩:=C j .nil H;have hu:=s.pJ;subst hu;have:=(VR.ue (w:=w) (μ:=Bh μ J.length (.slice Z 0 0)) hr);rw[iy]at this;exact⟨_,t,this.mono D⟩
   rw[bN g]at f;obtain⟨u,t,s⟩:=C k z f;exact⟨u,t,s.mono D⟩);exact⟨_,l.1,⟨A.1,λi x R=>((A.2 i x R).mono q.2).mono l.2⟩,λx v O hl=>(O.mono q.2).mono l.2⟩
def cB.cut{b:aJ}(h:∀a:ck,(∀c,cB f P b R c->a c)->G7 f P Q (Hd a R) H):cB f P (.seq Q b) R H:=by refine cB.seq ?_;refine(aq (h (cB f P b R) λ_ h=>h)).mono λe c d=>?_;cases e<;>exact d
def cB.fw{a fr':aB}(k:cB f P Q R ⟨fr',T⟩)(b:rk a fr'):cB f P Q R ⟨a,T⟩:=cB.wk (Wk.fw b) k
def cB.drop{n:Nat}{P:bG}{J:aj}(a:aj)(c:n<=Y J+Y m)(d:bT (J++m))(b:rk U F)(e:jt (Y J+Y m) F)(k:cB n P Q R ⟨F,J++m⟩):cB n P Q R ⟨U,J++(m++a)⟩:=by rw[<- List.append_assoc];exact cB.wk ((Wk.fw b).trans (Wk.lS (by rw[ah];exact c) d (by rw[ah];exact ed.1 e))) k
def GZ{c:aj}(h:bT (T++M))(k:Y M<=Y c)(g:∀o∈c,match o with|.box _ d=>jt (Y T+Y c) d|_=>True):bT (T++c):=by
 intro id a d b j x f;rw[ah];rcases jP id (Y T) with e|i;.rw[bg e]at b;have:=h id a d (by rw[bg e];exact b) j x f;rw[ah]at this;exact this.mono (by omega)
 rw[bn i]at b;have:=g _ (aS b);simp only at this;exact ed.1 this j x f
def FY{id:Nat}{o:Ob}(h:T[id]?=S o):T.set id o=T:=by
 apply kR;intro j;by_cases a:id=j;.subst a;rw[aT (ag.1 h).1,h]
 rw[bN a]
def PC.fzs{P:bG}{b zs:aB}(id:Nat){d g:Nat}(i:T[id]?=S (.row L e d g θ D))
  (h:PC P f zs T (λa c=>a=r/\c=T)) (k:b.map (Pm.fz id g e D)=zs):PC P f b T (λa c=>a=r/\c=T):=by have j:=Wk.fz (P:=P) (n:=Y T) (xs:=b) id i;rw[FY i,k]at j;exact PC.wk j h
def Wk.ajO{P:bG}{n:Nat}{xs:aB}{J:aj}{E sz by' g:Nat}{sh:Bool}{rows:fx}:Wk P n xs (J++[.row E sz by' g sh rows]) xs (J++[.row E sz by' g θ rows]):=by have:=Wk.share (P:=P) (n:=n) (xs:=xs) (J:=J++[.row E sz by' g sh rows]) (id:=Y J) (E:=E) (sz:=sz) (by':=by') (g:=g) (sh:=sh) (rows:=rows) (by simp);rwa [dX _ _ (aM _),iP]at this
def E7(h:∀a:ck,(∀b,gw f P Q R L b->a b)->cB f P Q (Hd a R) H):gw f P Q R (L+1) H:=by simp only[gw];exact(h (gw f P Q R L) λ_ h=>h).mono λe b c=>by cases e<;>exact c
def cB.aep{b:aJ}(h:∀a:ck,(∀c,cB f P b R c->a c)->cB f P Q (Hd a R) H):cB f P (.seq Q b) R H:=by refine cB.seq ?_;refine(h (cB f P b R) λ_ h=>h).mono λe c d=>?_;cases e<;>exact d
def cB.nQ{id:Nat}(h:cB f P Q (HA id R) H):cB f P (.block id Q) R H :=cB.block (h.mono λe d a=>by cases e with|exit b =>simp only[HA]at a;simp only[FJ];split at a<;>rename_i c<;>simp only[c,aU,bw]<;>exact a|_=>exact a)
def cB.atP{c:O}{x y:aJ}(a:ev H.fr c=.b θ)(h:cB f P x R H):cB f P (.ite c x y) R H :=cB.ite a (λ_=>h) (λh=>by cases h)
def cB.atQ{c:O}{x y:aJ}(a:ev H.fr c=.b G)(h:cB f P y R H):cB f P (.ite c x y) R H :=cB.ite a (λh=>by cases h) (λ_=>h)
inductive Mv (n:Nat) (loc:aj) (ks:fb):V->V->Prop
 |own (i k E sz by' g:Nat) (sh:Bool) (rows:fx) (hk:ks[i]?=some k) (ho:loc[k]?=some (.row E sz by' g sh rows)):Mv n loc ks (.own (n+k) g) (.own (n+i) 0)
 |eY (x:V) (h:x.Lt n):Mv n loc ks x x
 |forget (x:V):Mv n loc ks x .u
 |agg (xs ys:aB) (hl:ys.length=xs.length) (h:∀(i:Nat) (x y:V),xs[i]?=some x->ys[i]?=some y->Mv n loc ks x y):Mv n loc ks (.agg xs) (.agg ys)
inductive Mvs (n:Nat) (loc:aj) (ks:fb):aB->aB->Prop
 |nil:Mvs n loc ks [] []
 |cons {x y xs ys} (h:Mv n loc ks x y) (t:Mvs n loc ks xs ys):Mvs n loc ks (x::xs) (y::ys)
def Mvs.at{n:Nat}{a:aj}{f:fb}{c b:aB}(h:Mvs n a f c b):Y b=Y c/\∀(i:Nat) (x y:V),c[i]?=S x->b[i]?=S y->Mv n a f x y:=by
 induction h with
 |nil=>simp
 |cons h t ih =>refine⟨by simp[ih.1],λi x y d e=>?_⟩;cases i with|zero=>simp only[aC,ab]at d e;subst d;subst e;exact h|succ i=>exact ih.2 i x y (by simpa using d) (by simpa using e)
def Wk.SI{P:bG}{xs ys:aB}{J loc os:aj}(M:fb)(bc:bT J)(S1:M.Nodup)(Q:Y os=Y M) (S0:∀(i k:Nat),M[i]?=S k->∃o,loc[k]?=S o/\o.flat=θ/\os[i]?=S o.fresh) (hx:Mvs J.length loc M xs ys):Wk P J.length xs (J++loc) ys (J++os):=by
 intro B w0 w O vs N hC;let n:Mem:=λj=>if j<Y J then O j else O (Y J+M.getD (j - Y J) 0);have yI:∀id,id<Y J->n id=O id:=λid h=>by simp only[n];rw[aQ h]
 have ac:∀i k,M[i]?=S k->n (Y J+i)=O (Y J+k):=λi k F=>by simp only[n];rw[aw (by omega),ee,aA,F];rfl
 have dz:∀id,id<Y J->(J++os)[id]?=(J++loc)[id]?:=λid h=>by rw[bg h,bg h]
 have Ht:∀i,(J++os)[Y J+i]?=os[i]?:=λi=>by rw[bn (by omega),ee]
 have vP:∀i,(J++loc)[Y J+i]?=loc[i]?:=λi=>by rw[bn (by omega),ee]
 have a:∀{id s},(J++os)[id]?=S s->(id<Y J/\(J++loc)[id]?=S s/\n id=O id) \/(∃i k o,id=Y J+i/\M[i]?=S k/\(J++loc)[Y J+k]?=S o/\o.flat=θ/\s=o.fresh/\n id=O (Y J+k)):=by
  intro id s h;rcases jP id (Y J) with D|hg;.exact .inl ⟨D,dz id D▸h,yI id D⟩
  right;obtain⟨i,rfl⟩:∃i,id=Y J+i:=⟨id - Y J,by omega⟩;rw[Ht]at h;have U:i<Y M:=by rw[<- Q];exact(ag.1 h).1
  obtain⟨k,F⟩:∃k,M[i]?=S k:=⟨_,aD U⟩;obtain⟨o,d,f,c⟩:=S0 i k F;rw[h]at c;exact⟨i,k,o,rfl,F,by rw[vP];exact d,f,fO c,ac i k F⟩
 have hw:∀b V,wr (J++os) n b V->wr (J++loc) O b V:=by
  rintro b V ⟨id,s,d,f,c⟩;rcases a d with⟨l,q,p⟩|⟨i,k,o,rfl,_,q,p,rfl,L⟩;.exact⟨id,s,q,p▸f,c⟩
  exact⟨Y J+k,o,q,L▸f,by cases o<;>exact c⟩
 have H:∀{x v},VR w (J++loc) O x v->x.Lt (Y J)->VR w (J++os) n x v:=λh D=>h.ajb (m:=Y J) (by simp) hw dz yI D;obtain⟨BC,am⟩:=hx.at;refine⟨n,⟨N.below,N.base,λid s I=>?_,λi j oi oj b U t d f c l=>?_⟩,⟨by rw[BC];exact hC.1,λi y hy=>?_⟩,λx v X D=>H X D⟩
 .rcases a I with⟨l,q,p⟩|⟨i,k,o,rfl,_,q,p,rfl,L⟩
  .have W:=N.obj id s q;rw[p];cases s with
   |dead=>trivial
   |box T cs =>obtain⟨b,us,d,f,c,ad,af⟩:=W;have qF:=bc id T cs (by rwa [bg l]at q);exact⟨b,us,d,f,c,ad,λj x t=>let ⟨u,p,L⟩:=af j x t;⟨u,p,H L (qF j x t)⟩⟩
   |row E sz R g sh C =>obtain⟨d,z,f,c⟩:=W;exact⟨d,z,f,c.1,λi j x t=>let ⟨l,u,q,p⟩:=c.2 i j x t;⟨l,u,q,H p (oE l _)⟩⟩
   |map K E es =>obtain⟨r,A,clock,d,f,c,l⟩:=W;exact⟨r,A,clock,d,f,c,l.1,λi k x U=>let ⟨q,p,e,L,h8,h9⟩:=l.2.1 i k x U;⟨q,p,e,L,H h8 (Bu q _),H h9 (Bs p _)⟩,l.2.2⟩
  have W:=N.obj (Y J+k) o q;rw[L];cases o with
  |dead=>trivial
  |box T cs=>simp[Ob.flat]at p
  |row E sz R g sh C =>obtain⟨d,z,f,c⟩:=W;exact⟨d,z,f,c.1,λi j x t=>let ⟨l,u,q,p⟩:=c.2 i j x t;⟨l,u,q,H p (oE l _)⟩⟩
  |map K E es =>obtain⟨r,A,clock,d,f,c,l⟩:=W;exact⟨r,A,clock,d,f,c,l.1,λi k x U=>let ⟨q,p,e,L,h8,h9⟩:=l.2.1 i k x U;⟨q,p,e,L,H h8 (Bu q _),H h9 (Bs p _)⟩,l.2.2⟩
 .have nd:∀{o:Ob},o.fresh≠.dead->o≠.dead:=λh e=>h (by rw[e];rfl);rcases a U with⟨i1,i2,i3⟩|⟨i',k,o,rfl,ik,i5,_,rfl,i7⟩<;>rcases a t with⟨j1,j2,j3⟩|⟨j',k',s,rfl,jk,j5,_,rfl,j7⟩;.exact N.sep i j oi oj b i2 j2 d f (i3▸c) (j3▸l)
  .have:=N.sep i (Y J+k') oi s b i2 j5 d (nd f) (i3▸c) (j7▸l);omega
  .have:=N.sep (Y J+k) j o oj b i5 j2 (nd d) f (i7▸c) (j3▸l);omega
  have e:=N.sep (Y J+k) (Y J+k') o s b i5 j5 (nd d) (nd f) (i7▸c) (j7▸l);have e:k=k':=by omega
  subst e;have e2:i'=j':=by obtain⟨l1,g1⟩:=ag.1 ik;obtain⟨l2,g2⟩:=ag.1 jk;exact(List.getElem_inj S1).1 (g1.trans g2.symm)
  rw[e2]
 have pR:i<Y xs:=by rw[<- BC];exact(ag.1 hy).1
 obtain⟨x,zw⟩:∃x,xs[i]?=S x:=⟨_,aD pR⟩;have X:=hC.2 i x zw;have hm:=am i x y zw hy;clear zw hy pR;generalize vs.getD i undef=v at X |-;induction hm generalizing v with
 |own i' k E sz R g sh C F ho =>
  have an:(J++loc)[Y J+k]?=S (.row E sz R g sh C):=by rw[vP];exact ho
  have d:=X.nv an;have aK:i'<Y os:=by rw[Q];exact(ag.1 F).1
  obtain⟨o,q1,_,q3⟩:=S0 i' k F;rw[ho]at q1;simp only[ab]at q1;subst q1;refine .own _ _ _ (by simp;omega) λE2 ap aE g2 av au I=>?_;rw[Ht,q3]at I;simp only[Ob.fresh,ab,Ob.row.injEq]at I;rw[ac i' k F];exact⟨jK _,λ_=>d⟩
 |eY x h=>exact H X h
 |forget x=>exact .u _
 |agg as bs D h ih =>
 obtain⟨us,rfl,d,f⟩:=X.wO;refine .agg bs us (by rw[D,d]) λj y t=>?_;have tY:j<Y as:=by rw[<- D];exact(ag.1 t).1
 exact ih j _ y (aD tY) t _ (f j _ (aD tY))
def Mv.iV{a:fb}(h:Mvs f T a U F):Mv f T a (.agg U) (.agg F):=.agg U F h.at.1 h.at.2
def Wk.cellS{P:bG}{n:Nat}{xs:aB}{J:aj}{id T j:Nat}{cs:aB}{x y:V}(a:J[id]?=S (.box T cs))(D:cs[j]?=S x) (I:∀(B:Nat) (q w:bQ) (c:Mem) (v:Value),l8 P B q w J c->VR w J c x v->VR w J c y v):Wk P n xs J xs (J.set id (.box T (cs.set j y))):=by
 intro B q w c vs m t;have r:id<J.length:=(ag.1 a).1;have F:j<cs.length:=(ag.1 D).1;have h:=m.update (w':=w) (J':=J.set id (.box T (cs.set j y))) (μ':=c) id Z (grownBy_refl w Z) (by simp) (by simp) (λk g=>bN (λe=>g e.symm)) (λk g=>rfl)
  (λb l=>.inl ⟨_,a,by simp,l⟩)
  (λb H v o d hd l hc U=>⟨hc,λo' R Q ha=>U ⟨id,o,d,l,by
   rw[a]at d;cases d;trivial⟩⟩)
  (λT' W h=>by rw[a]at h;cases h;exact⟨⟨_,by rw[aT r]⟩,rfl⟩)
  (λK E es h=>by rw[a]at h;cases h)
  (λE sz ac g' sh ys _ h=>by rw[aT r]at h;simp at h)
  (λC o d=>by
   rw[aT r]at d;simp only[ab]at d;subst d;obtain⟨b,L,X,N,O,h4,A⟩:=m.obj id _ a;refine⟨b,L,X,N,O,by simpa using h4,λk z f=>?_⟩;by_cases g:j=k;.subst g;rw[aT F]at f;simp only[ab]at f;subst f;obtain⟨u,s,p⟩:=A j x D;exact⟨u,s,(I B q w c u m p).mono C⟩
   rw[bN g]at f;obtain⟨u,s,p⟩:=A k z f;exact⟨u,s,p.mono C⟩);exact⟨c,h.1,⟨t.1,λi x M=>(t.2 i x M).mono h.2⟩,h.2.eY.Ua⟩
def Wk.HZ{P:bG}{n:Nat}{xs:aB}{J:aj}{id T j idr E sz by' g:Nat}{cs:aB}{rows:fx}(a:J[id]?=S (.box T cs))(d:cs[j]?=S (.own idr g)) (b:J[idr]?=S (.row E sz by' g θ rows)):Wk P n xs J xs (J.set id (.box T (cs.set j (.sl sz rows)))) :=
 Wk.cellS a d λB f w e v c h=>by rw[h.nv b];have:=VR.Av c b 0 rows.length (by omega) (aM _);rw[Ih c b]at this;simpa using this
def lA(k a b c:Nat)(K A B C:Ob):aj:=(((m.set a A).set b B).set c C).set k K
structure yj (J:aj) (k a b c:Nat):Prop where
 lk:k<J.length
 la:a<J.length
 lb:b<J.length
 lc:c<J.length
 nka:k≠a
 nkb:k≠b
 nkc:k≠c
 nab:a≠b
 nac:a≠c
 nbc:b≠c
section
variable {J:aj} {k a b c:Nat} {K A B C X:Ob} {l:aj} {j:Nat}
def pE:Y (lA J k a b c K A B C)=Y J:=by simp[lA]
def Ik:(lA J k a b c K A B C++l)[Y J+j]?=l[j]?:=by rw[bn (by rw[pE];omega),pE];congr 1;omega
def Ij:(lA J k a b c K A B C++l).set (Y J+j) X=lA J k a b c K A B C++l.set j X:=by rw[dX _ _ (by rw[pE];omega),pE];congr 2;omega
def yj.gk0(h:yj J k a b c):(lA J k a b c K A B C)[k]?=S K:=by rw[lA,aT (by simpa using h.lk)]
def yj.ga0(h:yj J k a b c):(lA J k a b c K A B C)[a]?=S A:=by rw[lA,bN h.nka,bN h.nac.symm,bN h.nab.symm,aT h.la]
def yj.gb0(h:yj J k a b c):(lA J k a b c K A B C)[b]?=S B:=by rw[lA,bN h.nkb,bN h.nbc.symm,aT (by simpa using h.lb)]
def yj.gc0(h:yj J k a b c):(lA J k a b c K A B C)[c]?=S C:=by rw[lA,bN h.nkc,aT (by simpa using h.lc)]
def yj.sk0(_h:yj J k a b c):(lA J k a b c K A B C).set k X=lA J k a b c X A B C:=by simp[lA]
def yj.sa0(h:yj J k a b c):(lA J k a b c K A B C).set a X=lA J k a b c K X B C:=by simp only[lA];rw[ru _ _ h.nka,ru _ _ h.nac.symm,ru _ _ h.nab.symm,l9]
def yj.sb0(h:yj J k a b c):(lA J k a b c K A B C).set b X=lA J k a b c K A X C:=by simp only[lA];rw[ru _ _ h.nkb,ru _ _ h.nbc.symm,l9]
def yj.sc0(h:yj J k a b c):(lA J k a b c K A B C).set c X=lA J k a b c K A B X:=by simp only[lA];rw[ru _ _ h.nkc,l9]
def zb{J l:aj}{k:Nat}{X:Ob}(h:J[k]?=S X):(J++l)[k]?=S X:=by rw[bg (ag.1 h).1,h]
def za{J a l:aj}{k:Nat}{X:Ob}(b:k<Y J)(h:J.set k X=a):(J++l).set k X=a++l:=by rw[jm _ _ b,h]
def yj.all(h:yj J k a b c):((∀K A B C,(lA J k a b c K A B C)[k]?=S K)/\(∀K A B C,(lA J k a b c K A B C)[a]?=S A)/\(∀K A B C,(lA J k a b c K A B C)[b]?=S B)/\(∀K A B C,(lA J k a b c K A B C)[c]?=S C)) /\((∀K A B C l,(lA J k a b c K A B C++l)[k]?=S K)/\(∀K A B C l,(lA J k a b c K A B C++l)[a]?=S A)/\(∀K A B C l,(lA J k a b c K A B C++l)[b]?=S B)/\(∀K A B C l,(lA J k a b c K A B C++l)[c]?=S C)) /\((∀K A B C X,(lA J k a b c K A B C).set k X=lA J k a b c X A B C)/\(∀K A B C X,(lA J k a b c K A B C).set a X=lA J k a b c K X B C)/\(∀K A B C X,(lA J k a b c K A B C).set b X=lA J k a b c K A X C)/\(∀K A B C X,(lA J k a b c K A B C).set c X=lA J k a b c K A B X)) /\((∀K A B C l X,(lA J k a b c K A B C++l).set k X=lA J k a b c X A B C++l)/\(∀K A B C l X,(lA J k a b c K A B C++l).set a X=lA J k a b c K X B C++l)/\(∀K A B C l X,(lA J k a b c K A B C++l).set b X=lA J k a b c K A X C++l)/\(∀K A B C l X,(lA J k a b c K A B C++l).set c X=lA J k a b c K A B X++l)) /\(∀K A B C,Y (lA J k a b c K A B C)=Y J)/\(∀K A B C l,Y (lA J k a b c K A B C++l)=Y J+Y l) /\(∀K A B C l j,(lA J k a b c K A B C++l)[Y J+j]?=l[j]?)/\(∀K A B C l,(lA J k a b c K A B C++l)[Y J]?=l[0]?) /\(∀K A B C l j X,(lA J k a b c K A B C++l).set (Y J+j) X=lA J k a b c K A B C++l.set j X)/\(∀K A B C l X,(lA J k a b c K A B C++l).set J.length X=lA J k a b c K A B C++l.set 0 X) :=
 have L:∀{K A B C:Ob} {j:Nat},j<Y J->j<Y (lA J k a b c K A B C):=λh=>by rw[pE];exact h
 ⟨⟨λ_ _ _ _=>h.gk0,λ_ _ _ _=>h.ga0,λ_ _ _ _=>h.gb0,λ_ _ _ _=>h.gc0⟩,⟨λ_ _ _ _ _=>zb h.gk0,λ_ _ _ _ _=>zb h.ga0,λ_ _ _ _ _=>zb h.gb0,λ_ _ _ _ _=>zb h.gc0⟩,
  ⟨λ_ _ _ _ _=>h.sk0,λ_ _ _ _ _=>h.sa0,λ_ _ _ _ _=>h.sb0,λ_ _ _ _ _=>h.sc0⟩,⟨λ_ _ _ _ _ _=>za (L h.lk) h.sk0,λ_ _ _ _ _ _=>za (L h.la) h.sa0,λ_ _ _ _ _ _=>za (L h.lb) h.sb0,λ_ _ _ _ _ _=>za (L h.lc) h.sc0⟩,
  λ_ _ _ _=>pE,λ_ _ _ _ _=>by rw[ah,pE],λ_ _ _ _ _ _=>Ik,λ_ _ _ _ _=>Ik (j:=0),λ_ _ _ _ _ _ _=>Ij,λ_ _ _ _ _ _=>Ij (j:=0)⟩
def ua{d l:aj}{k a b c:Nat}{K A B C:Ob}:lA (d++l) (Y d+k) (Y d+a) (Y d+b) (Y d+c) K A B C=d++(((l.set a A).set b B).set c C).set k K:=by simp only[lA,kf]
def oJ(n:Nat):Ob->Prop|.box _ cs=>∀(j:Nat) (x:V),cs[j]?=S x->x.Lt n|_=>True
def Ii{p m i l:Ob}(v:bT (lA J k a b c p m i l))(u:oJ J.length K)(t:oJ J.length A)(s:oJ J.length B)(r:oJ J.length C):bT (lA J k a b c K A B C):=by
 intro id T o d j x f;rw[pE];by_cases e:k=id
 .subst e;simp only[lA,jR,aU,fT]at d;split at d;.simp only[ab]at d;subst d;exact u j x f
  cases d
 by_cases g:c=id
 .subst g;simp only[lA,jR,e,aU,bw,fT]at d;split at d;.simp only[ab]at d;subst d;exact r j x f
  cases d
 by_cases h:b=id
 .subst h;simp only[lA,jR,e,g,aU,bw,fT]at d;split at d;.simp only[ab]at d;subst d;exact s j x f
  cases d
 by_cases n:a=id
 .subst n;simp only[lA,jR,e,h,g,aU,bw]at d;split at d;.simp only[ab]at d;subst d;exact t j x f
  cases d
 have q:(lA J k a b c p m i l)[id]?=S (.box T o):=by simp only[lA,jR,e,n,h,g,bw]at d |-;exact d
 have:=v id T o q j x f;rwa [pE]at this
end
variable{P:bG}
def l8.back{B:Nat}{M w:bQ}{J l:aj}{z:Mem}(bc:bT J)(y:l8 P B M w (J++l) z):l8 P B M w J z:=by
 have H:∀{id:Nat} {o:Ob},J[id]?=S o->id<Y J/\(J++l)[id]?=S o:=by intro id o h;have C:=(ag.1 h).1;exact⟨C,by rw[bg C];exact h⟩
 have A:∀{x:V} {v:Value},VR w (J++l) z x v->x.Lt (Y J)->VR w J z x v:=λh C=>by have:=h.take (m:=Y J) (by simp) C;simpa using this
 refine⟨y.below,y.base,λid o N=>?_,λi j oi U b D q f d c a=>y.sep i j oi U b (H D).2 (H q).2 f d c a⟩;obtain⟨X,L⟩:=H N;have I:=y.obj id o L;cases o with
 |dead=>trivial
 |box T cs =>obtain⟨b,R,f,d,c,a,n⟩:=I;exact⟨b,R,f,d,c,a,λj x q=>let ⟨u,p,F⟩:=n j x q;⟨u,p,A F (bc id T cs N j x q)⟩⟩
 |row E sz ac g sh O =>obtain⟨f,s,d,c⟩:=I;exact⟨f,s,d,c.1,λi j x q=>let ⟨a,u,n,p⟩:=c.2 i j x q;⟨a,u,n,A p (oE a _)⟩⟩
 |map K E es =>obtain⟨r,t,clock,f,d,c,a⟩:=I;exact⟨r,t,clock,f,d,c,a.1,λi k x D=>let ⟨n,p,e,F,Q,W⟩:=a.2.1 i k x D;⟨n,p,e,F,A Q (Bu n _),A W (Bs p _)⟩,a.2.2⟩
inductive Bv (n k:Nat) (cs:aB):V->V->Prop
 |ptr (off:Nat):Bv n k cs (.ptr (n+k) off) (.ep cs.length [cs] 0 off)
 |eY (x:V) (h:x.Lt n):Bv n k cs x x
 |forget (x:V):Bv n k cs x .u
inductive Bvs (n k:Nat) (cs:aB):aB->aB->Prop
 |nil:Bvs n k cs [] []
 |cons {x y xs ys} (h:Bv n k cs x y) (t:Bvs n k cs xs ys):Bvs n k cs (x::xs) (y::ys)
def Bvs.at{n k:Nat}{e b a:aB}(h:Bvs n k e b a):Y a=Y b/\∀(i:Nat) (x y:V),b[i]?=S x->a[i]?=S y->Bv n k e x y:=by
 induction h with
 |nil=>simp
 |cons h t ih =>refine⟨by simp[ih.1],λi x y c d=>?_⟩;cases i with|zero=>simp only[aC,ab]at c d;subst c;subst d;exact h|succ i=>exact ih.2 i x y (by simpa using c) (by simpa using d)
def Wk.arW{n T:Nat}{p ys cs:aB}{J d:aj}(k:Nat)(hn:n<=Y J)(bc:bT J)(Q:d[k]?=S (.box T cs))(K:∀c∈cs,c.pure=θ)(U:Bvs J.length k cs p ys):Wk P n p (J++d) ys J:=by
 intro B w0 w μ vs t E;have C:∀{x:V} {v:Value},VR w (J++d) μ x v->x.Lt (Y J)->VR w J μ x v:=λh g=>by have:=h.take (m:=Y J) (by simp) g;simpa using this
 obtain⟨O,s⟩:=U.at;refine⟨μ,t.back bc,⟨by rw[O];exact E.1,λi y N=>?_⟩,λx v e g=>C e (g.mono hn)⟩;have pR:i<Y p:=by rw[<- O];exact(ag.1 N).1
 have D:=aD pR;have e:=E.2 i _ D;generalize p[i]=x at D e;have hm:=s i x y D N;cases hm with
 |eY _ h=>exact C e h
 |forget _=>exact .u _
 |ptr r =>
 obtain⟨b,I,q,_⟩:=e.yG;have f:(J++d)[Y J+k]?=S (.box T cs):=by rw[bn (by omega),ee];exact Q
 obtain⟨b',z,A,h2,W,h4,M⟩:=t.obj _ _ f;rw[I]at A;simp only[Value.pointer.injEq,ab,Addr.mk.injEq,cK]at A;subst A;rw[q];have H:∀j x,gv [cs] 0 j=S x->cs[j]?=S x:=λj x h=>by simpa[gv]using h
 have:=VR.ep (w:=w) (J:=J) (μ:=μ) cs.length [cs] 0 r b 0 (λj=>z.getD j undef) (by simp) (by simp) (λj x a=>by
   have a:=H j x a;obtain⟨u,l,F⟩:=M j x a;refine⟨?_,?_,K x (aS a)⟩
   .have:z.getD j undef=u:=by simp[cZ,l]
    rw[this];simp[World.cell?,W,l]
   rintro⟨id,o,L,X,R⟩;have g:=(ag.1 L).1;have:=t.sep id (Y J+k) o (.box T cs) b (by rw[bg g];exact L) f (by rintro rfl;exact R) (by simp) X (by simp[I,nQ]);omega)
  (λj x a=>by
   have a:=H j x a;obtain⟨u,l,F⟩:=M j x a;have:z.getD j undef=u:=by simp[cZ,l]
   rw[this];exact C F (oE (K x (aS a)) _));simpa using this
end Go.Pm
namespace Go.Pm
open Go
variable(U:Nat){D:List (Nat×gd)}{n:Nat}{p:Pi}{T:St}{M N L:aJ}{P:bG}{R:bL}
inductive TS:aJ->aJ->aJ->Prop
 |one (a b:aJ):TS (.seq a b) a b
 |more {a b c r:aJ} (h:TS b c r):TS (.seq a b) (.seq a c) r
def cB.amf(d:TS M N L):∀{b:St},G7 n P N (Hd (cB n P L R) R) b->cB n P M R b:=by
 induction d with
 |one N L =>intro b h;refine cB.seq (cB.mono (aq h) λe c a=>?_);cases e<;>exact a
 |more _ ih =>intro b h;simp only[G7]at h;refine cB.seq (cB.mono (aq h) λe c a=>?_);cases e with|normal=>exact ih a|_=>exact a
def cB.cutAt(c:TS M N L)(h:∀a:ck,(∀b,cB n P L R b->a b)->G7 n P N (Hd a R) T):cB n P M R T :=cB.amf c (h _ λ_ h=>h)
open Go.RowKit
def Wk.px{P:bG}{n:Nat}{xs:aB}{J loc:aj}{E sz by' g:Nat}{sh:Bool}{rows:fx}(a:loc[U]?=S (.row E sz by' g sh rows)):
  Wk P n xs (J++loc) (xs.map (Pm.fz (Y J+U) g sz rows)) (J++loc.set U (.row E sz by' g θ rows)):=by have:=Wk.fz (P:=P) (n:=n) (xs:=xs) (J:=J++loc) (Y J+U) (by rw[kO];exact a);rwa [kf]at this
def ZA{D:List (Nat×gd)}(h:∀e∈D,e.2=[])(t:Nat):wK D t=[]:=by
 rcases Bz (D:=D) (t:=t)with a|a;.exact a
 exact h _ a
def MU(h:∀e∈D,e.2=[])(c:p.g=[]):Sq D p=θ:=by
 simp only[Sq,c,ZA h,List.getLast?_nil,aZ,df];refine⟨⟨λ_ _=>rfl,trivial⟩,?_⟩;split;.rfl
 simp only[K3,dp,df];intro e b q a;rw[h e b]at a;simp at a
def TP(h:∀e∈D,e.2=[])(b:p.g=[]):∀e∈aeR D p,e.2=[]:=by
 intro e a;simp only[aeR]at a;split at a
 .rcases bd.1 a with rfl|a;.exact b
  exact h e a
 exact h e a
def PA:∀(a:List Pi) (D:List (Nat×gd)),(∀e∈D,e.2=[])->(∀p∈a,p.g=[])->Lx D a []=θ|[],D,h,_=>by simp only[Lx,df];intro e b;rw[h e b];rfl|p::a,D,h,hp=>by simp only[Lx,aZ];exact⟨MU h (hp p (by simp)),PA a _ (TP h (hp p (by simp))) λq c=>hp q (by simp[c])⟩
def Rn{P:bG}{ops:Array Oper}{n B:Nat}{w0 ws:bQ}{σs:aj}{μs:Mem}{K:ck}{Q:Exit->Act->bQ->Prop}{bs:List Pi}(I:∀p∈bs,p.g=[]) (W:∀e w c a,K e->l8 P B w0 w e.J c->FR w e.J c e.fr a->jI n ws σs μs w e.J c->Q .normal a w) : ∀(l:List Oper) (k:Nat) (i:List Pi) (u:aB) (J:aj) (w:bQ) (c:Mem) (a:Act),(∀j,l[j]?=ops[k+j]?)->wu P ops l=S (i++bs)->(∀p∈i,p.g=[]) ->oC P [] i (λe=>∃b f,Wk P n e.fr e.J b f/\oC P [] bs K ⟨b,f⟩) ⟨u,J⟩->l8 P B w0 w J c->FR w J c u a->jI n ws σs μs w J c ->wpOps P ops Q ((List.range (Y l)).map (k+·)) a w:=by
 intro l k i;induction i generalizing l k with
 |nil =>intro u J w c a z h _ t C m D;obtain⟨b,f,T,t⟩:=t;obtain⟨d,E,v,y⟩:=T B w0 w c a.tmps C ⟨m.2.1.symm,m.2.2⟩;have F:FR w f d b a:=⟨m.1,v.1.symm,v.2⟩;exact CJ W l k bs [] b f w d a z h (PA bs [] (by simp) I) t E F.toI (D.trans y)
 |cons p i ih =>
 intro u J w c a z h H t C m D;cases l with
 |nil=>simp[wu]at h
 |cons o l =>
 simp only[wu]at h;split at h<;>simp only[ab,reduceCtorEq,aF,fF]at h;rename_i p' qs R A;obtain⟨rfl,rfl⟩:=h;have V:ops[k]?=S o:=by have:=z 0;simpa using this.symm
 have U:(List.range (Y (o::l))).map (k+·)=k::(List.range (Y l)).map (k+1+·):=by rw[ae,xl,aI,jQ];simp only[cu];congr 1;apply dA;intro x _;simp only[Function.comp];omega
 rw[U];simp only[wpOps,V];have s:=H p' (by simp);refine opG R C m.toI (Jt (MU (by simp) s)) t ?_;intro r f d N L E v y X;rw[ET]at y;have O:=y.ends (gs:=[]) (PA [] _ (TP (by simp) s) (by simp));exact ih l (k+1) _ f L d N (λj=>by have:=z (j+1);rw[bY]at this;rw[this];congr 1;omega) A (λq M=>H q (by simp[M])) E v O (D.trans X.Ua)
def cB.as0{n:Nat}{P:bG}{K:bL}{c:List Pi}(r:∀p∈c,p.g=[]) (h:∀R:ck,(∀i J b f,Wk P n i J b f->oC P [] (c.drop U) (K .normal) ⟨b,f⟩->R ⟨i,J⟩)->oC P [] (c.take U) R T):cB n P (.ij [] c) K T:=by
 intro d e;cases d;case region id ops draw =>
  cases draw
  .simp only[jx]at e;obtain⟨A,t,D,s⟩:=mD e;simp only[aJ.ij.injEq]at s;obtain⟨_,rfl⟩:=s;intro B w0 w m a u v;refine wp_region ?_;have:=Rn (P:=P) (ops:=ops) (n:=n) (B:=B) (w0:=w0) (ws:=w) (σs:=T.J) (μs:=m) (K:=K .normal) (Q:=arZ P n B w0 w T.J m K) (bs:=c.drop U) (λp k=>r p (eO k))
    (λq z l C o j x y=>⟨q,l,o,j,x,y⟩) ops.toList 0 (c.take U) T.fr T.J w m a (λU=>by simp) (by rw[fC];exact t) (λp k=>r p (dY k))
    (h _ λi J b f o j=>⟨b,f,o,j⟩) u v (jI.refl _ _ _ _);simp only[aG,List.map_id',bf]at this;exact this
  simp only[jx]at e;rcases lz e with⟨_,_,_,_,h,_⟩|⟨_,_,h,_⟩|⟨_,_,_,_,_,_,h,_⟩<;>simp at h
 all_goals first|(exfalso;revert e;simp only[jx];try ((repeat' split)<;>simp);done)
def Wk.am1{xs:aB}{J:aj}{id E sz by' g c:Nat}{a:fx}(m:J[id]?=S (.row E sz by' g G a))(j:Nat)(U:xs[j]?=S (.sub id g 0 c)): Wk P n xs J (xs.set j (.own id (g+1))) (J.set id (.row E sz by' (g+1) G (a.take c))):=by
 intro B w0 w μ vs Q A;have M:id<J.length:=(ag.1 m).1;have hv:=A.2 j _ U;obtain⟨_,TX,I⟩:=hv.wM m;have L:(a.take c).length=c:=by simp;omega
 have R:=Q.obj id _ m;have D:=Q.update (w':=w) (J':=J.set id (.row E sz by' (g+1) G (a.take c))) (μ':=Bh μ id (pS (μ id) 0 c sz)) id Z (grownBy_refl w Z) (by simp) (by simp) (λk z=>bN (λe=>z e.symm)) (λk z=>xw _ _ _ _ z)
  (λb f=>by
   rw[iy]at f;refine .inl ⟨_,m,by simp,?_⟩;obtain⟨_,l,⟨_,H⟩,_⟩:=R;rcases H with⟨q,_⟩|⟨b2,y,t,q,_⟩;.rw[q]at f;simp only[pS]at f;split at f<;>simp[nQ]at f
   rw[q]at f |-;simp only[pS]at f;split at f<;>simpa[nQ,Addr.add_lit]using f)
  (λb ac u o d _ s C v=>absurd ⟨id,o,d,s,by rw[m]at d;simp only[ab]at d;subst d;intro hf;simp at hf⟩ v)
  (λT cs h=>by rw[m]at h;simp at h) (λK E es h=>by rw[m]at h;simp at h)
  (λE2 an am g2 af ad _ h=>by
   simp only[aT M,ab,Ob.row.injEq]at h;obtain⟨rfl,rfl,rfl,rfl,rfl,rfl⟩:=h;exact⟨g,G,a,m,by omega,λe=>by omega⟩)
  (λhp o h=>by
   simp only[aT M,ab]at h;subst h;rw[iy];obtain⟨hT,l,⟨hl,H⟩,X,hr⟩:=R;have N:c*sz<=a.length*sz:=cg _ TX;refine⟨hT,l.take (c*sz),⟨by rw[L,bj,hl];omega,?_⟩,λr O=>X r (dY O),λi k x p=>?_⟩
   .rw[L];rcases H with⟨q,hn⟩|⟨b,y,t,q,d,s,C,v,F,h6⟩
    .have:c=0:=by omega
     subst this;exact .inl ⟨by rw[q];simp[pS],rfl⟩
    refine .inr ⟨b,y,t,?_,d,s,by omega,v,F,?_⟩;.rw[q];simp only[pS,B3];split<;>simp[Addr.add_lit]
    rw[<- h6,oK,fP N]
   obtain⟨r,d,s⟩:=ln p;have V:i<c:=by have:=(ag.1 d).1;rw[L]at this;exact this
   rw[cD V]at d;obtain⟨C,u,v,F⟩:=hr i k x (by rw[v7 d];exact s);refine⟨C,u,?_,F.mono hp⟩;have z:k<sz:=by rw[<- X r (aS d)];exact(ag.1 s).1
   rw[cD ?_];.exact v
   have:(i+1)*sz<=c*sz:=cg _ V;rw[dK,jL]at this;omega);refine⟨_,D.1,⟨by simp[A.1],λi x p=>?_⟩,D.2.eY.Ua⟩;by_cases W:j=i;.subst W;rw[aT (ag.1 U).1]at p;simp only[ab]at p;subst p;rw[I];have:=VR.ue (w:=w) (J:=J.set id (.row E sz by' (g+1) G (a.take c))) (μ:=Bh μ id (pS (μ id) 0 c sz)) (id:=id) (E:=E) (sz:=sz) (by':=by') (g:=g+1) (sh:=G) (xs:=a.take c) (aT M);rwa [iy]at this
 rw[bN W]at p;exact(A.2 i x p).mono D.2
def itT{a b:Prop}:((θ=θ->a)/\(θ=G->b))=a:=by simp
def itF{a b:Prop}:((G=θ->a)/\(G=G->b))=b:=by simp
def IT:=aH @itT @itF
def bb:(θ==θ)=θ/\(G==θ)=G/\(θ==G)=G/\(G==G)=θ:=⟨rfl,rfl,rfl,rfl⟩
def st2(J:aj)(k b:Nat)(K B:Ob):aj:=(J.set b B).set k K
structure Pl2 (J:aj) (k b:Nat):Prop where
 lk:k<J.length
 lb:b<J.length
 ne:k≠b
section
variable {J:aj} {k b:Nat}
def uA{K B:Ob}:Y (st2 J k b K B)=Y J:=by simp[st2]
def Pl2.all(h:Pl2 J k b):((∀K B,(st2 J k b K B)[k]?=S K)/\(∀K B,(st2 J k b K B)[b]?=S B)/\(∀K B l,(st2 J k b K B++l)[k]?=S K)/\(∀K B l,(st2 J k b K B++l)[b]?=S B)) /\((∀K B X,(st2 J k b K B).set k X=st2 J k b X B)/\(∀K B X,(st2 J k b K B).set b X=st2 J k b K X)/\(∀K B l X,(st2 J k b K B++l).set k X=st2 J k b X B++l)/\(∀K B l X,(st2 J k b K B++l).set b X=st2 J k b K X++l)) /\(∀K B,Y (st2 J k b K B)=Y J)/\(∀K B l,Y (st2 J k b K B++l)=Y J+Y l) /\(∀K B l j,(st2 J k b K B++l)[Y J+j]?=l[j]?)/\(∀K B l,(st2 J k b K B++l)[Y J]?=l[0]?) /\(∀K B l j X,(st2 J k b K B++l).set (Y J+j) X=st2 J k b K B++l.set j X)/\(∀K B l X,(st2 J k b K B++l).set J.length X=st2 J k b K B++l.set 0 X):=by
 have L:∀{K B:Ob} {j:Nat},j<Y J->j<Y (st2 J k b K B):=λh=>by rw[uA];exact h
 have g:∀K B,(st2 J k b K B)[k]?=S K:=λK B=>by rw[st2,aT (by simpa using h.lk)]
 have e:∀K B,(st2 J k b K B)[b]?=S B:=λK B=>by rw[st2,bN h.ne,aT h.lb]
 have d:∀K B X,(st2 J k b K B).set k X=st2 J k b X B:=λK B X=>by simp[st2]
 have a:∀K B X,(st2 J k b K B).set b X=st2 J k b K X:=λK B X=>by simp only[st2];rw[ru _ _ h.ne,l9]
 have f:∀K B l j,(st2 J k b K B++l)[Y J+j]?=l[j]?:=λK B l j=>by rw[bn (by rw[uA];omega),uA];congr 1;omega
 have c:∀K B l j X,(st2 J k b K B++l).set (Y J+j) X=st2 J k b K B++l.set j X:=λK B l j X=>by rw[dX _ _ (by rw[uA];omega),uA];congr 2;omega
 exact⟨⟨g,e,λK B l=>zb (g K B),λK B l=>zb (e K B)⟩,⟨d,a,λK B l X=>za (L h.lk) (d K B X),λK B l X=>za (L h.lb) (a K B X)⟩,
  λ_ _=>uA,λ_ _ _=>by rw[ah,uA],f,λK B l=>f K B l 0,c,λK B l X=>c K B l 0 X⟩
def at1{a:Nat}(h:a<Y J):((∀X,(J.set a X)[a]?=S X)/\(∀X l,(J.set a X++l)[a]?=S X)/\(∀X b,(J.set a X).set a b=J.set a b)/\(∀X b l,(J.set a X++l).set a b=J.set a b++l)) /\(∀X,Y (J.set a X)=Y J)/\(∀X l,Y (J.set a X++l)=Y J+Y l) /\(∀X l j,(J.set a X++l)[Y J+j]?=l[j]?)/\(∀X l,(J.set a X++l)[Y J]?=l[0]?) /\(∀X l j b,(J.set a X++l).set (Y J+j) b=J.set a X++l.set j b)/\(∀X l b,(J.set a X++l).set J.length b=J.set a X++l.set 0 b):=by
 have g:∀X,(J.set a X)[a]?=S X:=λX=>aT h;have s:∀X b,(J.set a X).set a b=J.set a b:=λX b=>by simp
 have d:∀X l j,(J.set a X++l)[Y J+j]?=l[j]?:=λX l j=>by rw[bn (by simp),fT];congr 1;omega
 have c:∀X l j b,(J.set a X++l).set (Y J+j) b=J.set a X++l.set j b:=λX l j b=>by rw[dX _ _ (by simp),fT];congr 2;omega
 exact⟨⟨g,λX l=>zb (g X),s,λX b l=>za (by simpa using h) (s X b)⟩,λX=>fT ..,λX l=>by simp,d,λX l=>d X l 0,c,λX l b=>c X l 0 b⟩
end
end Go.Pm
namespace Go.Bt
open Go Go.Pm
section
variable {α β:Type} [DecidableEq α]
def wS(a:α):List (α×β)->Nat->Option (Nat×β)|[],_=>Z|p::l,k=>if a=p.1 then S (k,p.2)else wS a l (k+1)
def jM(a:α)(l:List (α×β)):Option β:=(wS a l 0).map (·.2)
def oN(l:List (α×β))(a:α)(b:β):List (α×β) :=
 match l with|[]=>[(a,b)]|p::l=>if a=p.1 then(a,b)::l else p::oN l a b
def emap(ke:α->V)(ve:β->V)(l:List (α×β)):List (V×V):=l.map λp=>(ke p.1,ve p.2)
def AU(a:α):∀(l:List (α×β)) (k:Nat),(wS a l k).map (·.2)=jM a l
 |[],_=>rfl
 |p::l,k=>by
  simp only[jM,wS];split;.rfl
  rw[AU a l (k+1),AU a l (0+1)]
def r6(a:α):jM a ([]:List (α×β))=Z:=rfl
def rf(a:α)(p:α×β)(l:List (α×β)):jM a (p::l)=if a=p.1 then S p.2 else jM a l:=by
 simp only[jM,wS];split;.rfl
 rw[AU a l (0+1)];rfl
def xZ(l:List (α×β))(a:α)(b:β)(x:α):jM x (oN l a b)=if x=a then S b else jM x l:=by
 induction l with
 |nil=>simp only[oN,rf,r6]
 |cons p l ih =>
 simp only[oN];split
 .rename_i h;simp only[rf];by_cases c:x=a;.simp[c]
  have:¬x=p.1:=λd=>c (d.trans h.symm);simp[c,this]
 rename_i h;simp only[rf,ih];by_cases c:x=p.1
 .have:¬x=a:=λd=>h (d.symm.trans c);simp only[this,bw,c,aU];split;.rename_i e;exact absurd e.symm h
  rfl
 simp[c]
def Q3(l:List (α×β))(a:α)(b:β):Y (oN l a b)<=Y l+1:=by induction l with|nil=>simp[oN]|cons p l ih =>simp only[oN];split<;>simp<;>omega
def Yk{l:List (α×β)}{a:α}{b:β}(h:jM a l=Z):oN l a b=l++[(a,b)]:=by
 induction l with
 |nil=>rfl
 |cons p l ih =>
 rw[rf]at h;split at h;.simp at h
 rename_i c;simp only[oN,c,bw,aF];rw[ih h]
variable {kd:Nat} {ke:α->V} {ve:β->V}
def C4(c:∀a b,eQ kd (ke a) (ke b)=S (decide (a=b)))(a:α):∀(l:List (α×β)) (k:Nat),kL kd (ke a) (emap ke ve l) k=S ((wS a l k).map λp=>(p.1,ve p.2))
 |[],k=>rfl
 |p::l,k=>by
  have ih:=C4 c a l (k+1);simp only[emap,aI,kL,c,wS]at ih |-;by_cases h:a=p.1;.simp[h]
  simp only[h,bZ,bw];exact ih
def Tn(a:α)(b:β):∀(l:List (α×β)) (k i:Nat) (d:β),wS a l k=S (k+i,d)->(emap ke ve l).set i (ke a,ve b)=emap ke ve (oN l a b)
 |[],k,i,d,h=>by simp[wS]at h
 |p::l,k,i,d,h=>by
  simp only[wS]at h;by_cases c:a=p.1
  .simp only[c,aU,ab,bm]at h;have:i=0:=by omega
   subst this;simp[emap,oN,c]
  simp only[c,bw]at h;have e:∃j,i=j+1:=by
   refine⟨i - 1,?_⟩;have:∀(l:List (α×β)) (k n:Nat) (x:β),wS a l k=S (n,x)->k<=n:=by
    intro l;induction l with
    |nil=>intro k n x h;simp[wS]at h
    |cons q l ih =>
    intro k n x h;simp only[wS]at h;split at h;.simp at h;omega
    have:=ih _ _ _ h;omega
   have:=this _ _ _ _ h;omega
  obtain⟨j,rfl⟩:=e;have:=Tn a b l (k+1) j d (by rw[h];congr 2;omega);simp only[emap,aI,cT,oN,c,bw]at this |-;rw[this]
def C5(e:∀a b,eQ kd (ke a) (ke b)=S (decide (a=b)))(l:List (α×β))(a:α): (jM a l=Z/\kL kd (ke a) (emap ke ve l) 0=S Z/\∀b,emap ke ve l++[(ke a,ve b)]=emap ke ve (oN l a b)) \/(∃i c,jM a l=S c/\kL kd (ke a) (emap ke ve l) 0=S (S (i,ve c))/\∀b,(emap ke ve l).set i (ke a,ve b)=emap ke ve (oN l a b)):=by
 cases h:wS a l 0 with
 |none =>
  have d:jM a l=Z:=by simp[jM,h]
  refine .inl ⟨d,by rw[C4 e,h];rfl,λb=>?_⟩;rw[Yk d];simp[emap]
 |some p =>obtain⟨i,c⟩:=p;refine .inr ⟨i,c,by simp[jM,h],by rw[C4 e,h];rfl,λb=>?_⟩;exact Tn a b l 0 i c (by rw[h];congr 2;omega)
end
variable(n:Int)
def keI:V:=.i .i64 n
def keS(s:aR):V:=.s s
def ac4(b:Int):eQ 0 (keI n) (keI b)=S (decide (n=b)):=by simp[eQ,keI];rfl
def akL(a b:aR):eQ 1 (keS a) (keS b)=S (decide (a=b)):=by simp only[eQ,keS,ab];rw[eD];simp
end Go.Bt
namespace Go.Pm
open Go
variable(o:Option nR)
def wJ:aJ->List aJ|.seq a b=>wJ a++wJ b|.ite _ a b=>wJ a++wJ b|.block _ c=>wJ c|.loop c=>wJ c++[c]|_=>[]
def Km:aJ->List aJ->aJ×List aJ|.seq a b,d=>let p:=Km a d;let q:=Km b p.2;(.seq p.1 q.1,q.2)|.ite c a b,d=>let p:=Km a d;let q:=Km b p.2;(.ite c p.1 q.1,q.2)|.block i c,d=>let p:=Km c d;(.block i p.1,p.2)|.loop c,d=>let n:=Y (wJ c);(.loop (d.getD n .skip),d.drop (n+1))|c,d=>(c,d)
def gU(b:List aJ):nR:=match o with|some a=>⟨a.nt,a.rs,(Km a.c b).1⟩|none=>⟨0,[],.skip⟩
def gg(n:Nat)(a:List aJ):aJ:=match o with|some b=>(Km ((wJ b.c).getD n .skip) a).1|none=>.skip
abbrev Nf{α:Type}(a:α):Type:={x // a=x}
abbrev bl(P:Program)(f:Func):Type:={x//gK P f=S x}
def sub:Code->fb->Code|.seq a _,0::r=>sub a r|.seq _ b,_::r=>sub b r|.cond _ a _,0::r=>sub a r|.cond _ _ b,_::r=>sub b r|.block _ c,_::r=>sub c r|.loop c,_::r=>sub c r|c,_=>c
def sc(P:bG)(a:Func)(r:fb):aJ:=match a.body with
  |some c=>match jx P (sub c r)with
    |some p=>p
    |none=>.skip
  |none=>.skip
end Go.Pm

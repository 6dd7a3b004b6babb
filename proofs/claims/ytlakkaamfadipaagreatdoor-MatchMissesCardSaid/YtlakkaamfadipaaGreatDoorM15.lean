/- A part of a proof; the claim's last text says of what. -/
import Derived.IntWalk
import Derived.Test.YtlakkaamfadipaaGreatDoorM14
set_option linter.all false
open Option renaming some->N,none->Y
open Bool renaming true->A,false->Z
open List renaming length->F

namespace Go.Pm
open Go Go.RowKit
variable(R:Nat)(w:ag)(q:ag){G:Array Value}{D:Bool}{H:List (V×V)}{M:List O}{L:List Rs}{f m C s:Nat}{S:St}{v:V}{Q:V->ag->Prop}{a:aJ}{P:aM}{J l e:ag}{X U:ao}{c:bH}{d:bP}{K:bj}{B:bk}{T:cD}
def uu:Nat->ao->ao|0,l=>l|n+1,l=>.u::uu n l
def fj:Nat->((ao->Prop)->Prop)->(ao->Prop)->Prop|0,c,p=>c p|n+1,c,p=>∀j,fj n c λl=>p (j::l)
def fh(x:V)(c:(ao->Prop)->Prop)(p:ao->Prop):Prop:=c λl=>p (x::l)
def fo(p:ao->Prop):Prop:=p []
def Dj(R:bk)(K:bj):bj|.normal=>R|e=>K e
def HY{R:bk}{K:bj}:Dj R K .normal=R:=rfl
def Rk{R:bk}{K:bj}:Dj R K .ret=K .ret:=rfl
def Ot{R:bk}{K:bj}{id:Nat}:Dj R K (.exit id)=K (.exit id):=rfl
def aF(h:∀R:bk,(∀a,fS f P c K m a->R a)->zM f P c (Dj R K) S):fS f P c K (m+1) S:=by
 refine Rj ?_;have:=h (fS f P c K m) λ_ h=>h;have e:Dj (fS f P c K m) K=abE f P c K m:=by funext e;cases e<;>rfl
 rw[<- e];exact this
def u6{a fr':ao}{J J':ag}(h:Wk P f a J fr' J')(k:fS f P c K m ⟨fr',J'⟩):fS f P c K m ⟨a,J⟩:=by cases m with|zero=>exact k.elim|succ m=>exact cd.wk h k
def oK(a:f<=F J)(e:bT J)(b:pe X U)(d:fY (F J) U)(k:fS f P c K m ⟨U,J⟩):fS f P c K m ⟨X,J++l⟩ :=u6 ((Wk.gW b).trans (Wk.xe a e (fi.1 d))) k
def aX{a fr':ao}(b:pe a fr')(k:fS f P c K m ⟨fr',J⟩):fS f P c K m ⟨a,J⟩ :=u6 (Wk.gW b) k
def AL(h:f<2^63):IntKind.i64.wrap (f:Int)=f:=IntWalk.i64_in _ (by omega)
def cq{n:Nat}(h:n+1<2^63):IntKind.i64.wrap ((n:Int)+1)=((n+1:Nat):Int):=by rw[IntWalk.i64_in _ (by omega)];omega
def dY{α:Type _}(a:List α)(b:α)(h:F a+1<2^63):IntKind.i64.wrap ((F a:Int)+1)=((F (a++[b]):Nat):Int):=by rw[cq h];simp
def db{α:Type _}{a b:List α}(h:a=b++[]):a=b:=by simpa using h
def uY{α:Type _}{a b r:List α}{x:α}(h:a=b++x::r):F a=F b+(F r+1):=by rw[h];simp
def xU{α:Type}{f:α->ao}{pre a:List α}{x:α}{d:ao}:(List.map f (pre++x::a)).getD (F pre) d=f x:=by simp[aq]
def tH{α:Type}{f:α->ao}{pre a:List α}{x:α}{j:Nat}:gp (List.map f (pre++x::a)) (F pre) j=(f x)[j]?:=by simp[gp]
def aY{e:Exit}(b:e=.normal\/e=.ret)(c:lg ⟨X,J⟩ L=N U)(a:Q (one U) J): rv P (F J) L Q e ⟨X,J⟩:=fv b c (Wk.refl _ _) rfl a
def pw(h:(V.sl f T).Wf):F T<2^63:=by cases h with|sl _ _ h=>simp only[maxLen]at h;omega
def Da(h:(V.s a).Wf):F a<2^63:=by cases h with|s _ h=>simp only[maxLen]at h;omega
def cd.aX{b fr':ao}(d:pe b fr')(a:Nat)(h:fS f P c K a ⟨fr',J⟩):cd f P (.loop c) K ⟨b,J⟩ :=cd.wk (Wk.gW d) (cd.xA a h)
def Xk{a b:Bool}:(bif a then A else b)=(a||b):=by cases a<;>rfl
def TE{a b:Bool}:(bif a then b else Z)=(a&&b):=by cases a<;>rfl
def UO{pre a:aJ}{x:UInt8}{d:UInt8}:(pre++x::a).getD (F pre) d=x:=by simp[aq]
def Xp{J σ1 a:ag}{zs:ao}(b:Wk P (F J) (M.map (ev X)) J zs σ1)(h:PC P f zs σ1 (λr c=>r=v/\c=a))(e:B ⟨ek X d v,a⟩): gI P ⟨d,[],.call f M⟩ B ⟨X,J⟩ :=aA (PC.wk b h) rfl e
def mu{zs:ao}(b:pe (M.map (ev X)) zs)(h:PC P f zs J (λr c=>r=v/\c=l))(a:B ⟨ek X d v,l⟩): gI P ⟨d,[],.call f M⟩ B ⟨X,J⟩ :=aA (PC.wk (Wk.gW b) h) rfl a
def cg(n:Int):ao:=[.i .i64 n]
def TM{p:Prop}{v w:V}:(∃c,N (p,v)=N (c,w)/\c)=(v=w/\p):=by simp only[aa,aB,aaV];exact⟨λ⟨_,⟨b,a⟩,d⟩=>⟨a,b.2 d⟩,λ⟨b,a⟩=>⟨p,⟨Hp,b⟩,a⟩⟩
def TN{p:Prop}{v:V}:(∃a r,N (p,v)=N (a,r)/\a)=p:=by simp only[aa,aB,aaV];exact⟨λ⟨_,_,⟨b,_⟩,c⟩=>b.2 c,λh=>⟨p,v,⟨Hp,rfl⟩,h⟩⟩
def tG{l:bG}(h:f<F l):gp (l.map cg) f 0=N (.i .i64 (l.getD f 0)):=by simp[gp,cg,h]
def ru{e:Exit}(g:bT J)(d:e=.normal\/e=.ret)(h:lg ⟨X,J++l⟩ L=N U) (a:l[R]?=N (.row f m C s D T)) (b:fY (F J) (U.map (fz (F J+R) s m T))) (c:Q (one (U.map (fz (F J+R) s m T))) J):rv P (F J) L Q e ⟨X,J++l⟩:=by refine fv d h ((Wk.fz (F J+R) (by rw[xt];exact a)).trans ?_) (by simp) c;rw[CH];exact Wk.DM g b
def tiB(P:aM)(E a b:Nat):Bool :=
 match P.info? E with
 |some t=>match t.zero with
  |some z=>decide (0<a)&&(t.size==a&&(t.bytes==b&&z.cells.size==a))
  |none=>Z
 |none=>Z
def nQ(h:tiB P f m C=A):Ti P f m C:=by
 unfold tiB at h;split at h
 .rename_i t a;split at h;.rename_i z b;simp only[aP,a7,b9]at h;exact⟨h.1,t,z,a,b,h.2.1,h.2.2.1,h.2.2.2⟩
  simp at h
 simp at h
def PC.Gn(h:∀(w:aT) (a:Mem) (b:Array Value),Uw w J a X b->∃u,Calls P f b w (λe c=>e=.returned u/\c=w)/\VR w J a v u): PC P f X J (λr d=>r=v/\d=J):=by intro B l w a b i g;obtain⟨u,k,j⟩:=h w a b g;refine k.mono ?_;rintro e c ⟨rfl,rfl⟩;exact⟨v,u,J,a,rfl,⟨rfl,rfl⟩,i,j,nM.refl _ _ _⟩
def vs1(h:G.size=1):G=#[G.getD 0 undef]:=by
 apply Array.ext;.simpa using h
 intro i a b;have:i=0:=by omega
 subst this;simp[a]
def vs2(h:G.size=2):G=#[G.getD 0 undef,G.getD 1 undef]:=by
 apply Array.ext;.simpa using h
 intro i a b;have:i=0\/i=1:=by omega
 rcases this with rfl|rfl<;>simp[a]
def Mp{o:Ob}(h:match o with|.box _ b=>fY f b|.map _ _ d=>fY f (d.map (·.2))|.iter _ m _ _ _ _=>m<f|_=>True):∀(j:Nat) (x:V),o.refs[j]?=N x->x.Lt f:=by
 cases o with
 |box T b=>exact fi.1 h
 |map K E d=>exact fi.1 h
 |iter g m E k e c =>
  intro j x a;cases j with
  |zero=>simp only[Ob.refs,aH,aa]at a;subst a;exact .mp _ h
  |succ j=>simp[Ob.refs]at a
 |_=>intro j x a;simp[Ob.refs]at a
def OL:Ob->Prop|.box _ cs=>fY R cs|.map _ _ es=>fY R (es.map (·.2))|.iter _ m _ _ _ _=>m<R|_=>True
def Qe(e:bT J){id n:Nat}{o:Ob}(h:J[id]?=N o)(d:F J<=n):OL n o:=by
 have a:=e id o h;cases o with
 |box T l=>exact fi.2 λj x b=>(a j x b).mono d
 |map K E f=>exact fi.2 λj x b=>(a j x b).mono d
 |iter g m E k i c =>have:=a 0 (.mp m) rfl;cases this;show m<n;omega
 |_=>trivial
def OL.mono{o:Ob}(h:OL f o)(a:f<=m):OL m o:=by
 cases o with
 |box T e=>exact fi.2 λj x b=>(fi.1 h j x b).mono a
 |map K E g=>exact fi.2 λj x b=>(fi.1 h j x b).mono a
 |iter i k E l d c=>exact dq h a
 |_=>trivial
def o8(h:∀x∈H,x.2.Lt f):fY f (H.map (·.2)):=fi.2 λj x a=>by rw[bu,al]at a;obtain⟨b,c,rfl⟩:=a;exact h b (bc c)
def cL{J l:ag}(h:bT J)(e:∀o∈l,match o with|.box _ cs=>fY (F J+F l) cs|.map _ _ es=>fY (F J+F l) (es.map (·.2))|.iter _ m _ _ _ _=>m<F J+F l|_=>True):bT (J++l):=by
 intro id o a j x b;rw[ai];rcases gF id (F J) with d|c;.rw[aj d]at a;exact(h id o a j x b).mono (Uc _ _)
 rw[aD c]at a;exact Mp (e _ (bc a)) j x b
def cC{P:aM}{K:bj}{J:ag}(d:bT (J++w))(b:pe X U)(a:fY (F J+F w) U)(k:fS (F J) P c K f ⟨U,J++w⟩):fS (F J) P c K f ⟨X,J++(w++q)⟩:=by rw[<- List.append_assoc];exact u6 ((Wk.gW b).trans (Wk.xe (by simp) d (by rw[ai];exact fi.1 a))) k
def Wk.mV{P:aM}{n:Nat}{J:ag}{k E b a:Nat}(hT:Ti P E b a)(c:X[k]?=N .nil):Wk P n X (J++w) (X.set k (.own (F J+F w) 0)) (J++(w++[.row E b a 0 Z []])):=by have:=Wk.jV (P:=P) (n:=n) (J:=J++w) hT c;rwa [ai,aS]at this
def mw:∀(l:aJ),bytesOf (ee l)=N l|[]=>rfl|c::l=>by have ih:=mw l;simp only[ee,aC,bytesOf,qV]at ih |-;rw[ih];simp
def jz{b:aJ}:ee a++ee b=ee (a++b):=by simp[ee]
def eP:F (ee a)=F a:=by simp[ee]
def Yu:UnOp->V->Option (Prop×V)|.not,.b p=>N (True,.b (!p))|.neg,.i k n=>N (True,.i k (k.wrap (0 - n)))|_,_=>Y
def XD(c:ao)(J:ag)(a:UnOp)(x:O):ba c J (.un a x)=Yu a (ev c x):=by show(match a,ev c x with|.not,.b p=>N (True,V.b (!p))|.neg,.i k n=>N (True,V.i k (k.wrap (0 - n)))|_,_=>Y)=_;rfl
set_option linter.defProp false in
def UE:=ak @uu.eq_1 @uu.eq_2
set_option linter.defProp false in
def JE:=ak (ak @fj.eq_1 @fj.eq_2) (ak @fh.eq_1 @fo.eq_1)
set_option linter.defProp false in
def EV:=(ak (ak (ak (ak (ak (ak @ba.eq_1 @ba.eq_2) (ak @ba.eq_3 @ba.eq_4)) (ak (ak @ba.eq_5 @ba.eq_6) (ak @ba.eq_7 @ba.eq_8))) (ak (ak (ak @ba.eq_9 @XD) (ak @Yu.eq_1 (ak @Yu.eq_2 @Yu.eq_3))) (ak (ak @ba.eq_13 @ba.eq_14) (ak @ba.eq_15 (ak @ba.eq_16 @ba.eq_17))))) (ak (ak (ak (ak @ba.eq_18 @ba.eq_19) (ak @ba.eq_20 @ba.eq_21)) (ak (ak @ba.eq_22 @ba.eq_23) (ak @ba.eq_24 @ba.eq_25))) (ak (ak (ak @ba.eq_26 @ba.eq_27) (ak @ba.eq_28 @ba.eq_29)) (ak (ak @ba.eq_30 @ba.eq_31) (ak @ba.eq_32 (ak @cc.eq_1 @cc.eq_2)))))) (ak (ak (ak (ak (ak @cc.eq_3 @cc.eq_4) (ak @cc.eq_5 @cc.eq_6)) (ak (ak @cc.eq_7 @cc.eq_8) (ak @cc.eq_9 @cc.eq_10))) (ak (ak (ak @gK.eq_1 @gK.eq_2) (ak @gK.eq_3 @gK.eq_4)) (ak (ak @gK.eq_5 @gK.eq_6) (ak @gK.eq_7 (ak @gK.eq_8 @gK.eq_9))))) (ak (ak (ak (ak @gK.eq_10 @gK.eq_11) (ak @gK.eq_12 @gK.eq_13)) (ak (ak @gK.eq_14 @gK.eq_15) (ak @gK.eq_16 @gK.eq_17))) (ak (ak (ak @gK.eq_18 @gK.eq_19) (ak @gK.eq_20 @gK.eq_21)) (ak (ak @gK.eq_22 @gK.eq_23) (ak @gK.eq_24 (ak @gK.eq_25 @gK.eq_26)))))))
set_option linter.defProp false in
def W:=ak UE <| ak EV <| ak (ak (ak @zm.eq_1 @zl.eq_1) (ak (ak @zL.eq_1 @zf.eq_1) (ak @z.eq_1 @zs.eq_1))) (ak (ak (ak (ak (ak (ak (ak @zM.eq_1 (ak @zM.eq_2 @zM.eq_3)) (ak (ak @zM.eq_4 @zM.eq_5) (ak @zM.eq_6 @zM.eq_7))) (ak (ak (ak @zM.eq_8 (ak @zM.eq_9 (ak (ak @zM.eq_10 @NA.eq_1) (ak (ak (ak @zM.eq_11 @L1.eq_1) (ak @L1.eq_2 (ak (ak @Rf (ak @Og @Oh)) (ak (ak (ak @abC.eq_1 (ak (ak @S7 @PL) (ak @LA (ak @LB @Ly)))) @abA.eq_1) (ak @abz.eq_1 @XL.eq_1))))) (ak (ak @TS @Qf) (ak (ak @P7 @LP) (ak @Q9 @Oa))))))) (ak @Oj @Rh)) (ak (ak @Oi @Rg) (ak @HS @Rc)))) (ak (ak (ak (ak @Oc @JL) (ak @TV @Qg)) (ak (ak @Qh @HY) (ak @Rk @Ot))) (ak (ak (ak @aaf @WL) (ak @Tm @PV)) (ak (ak @WW @Tk) (ak @aaq @aar))))) (ak (ak (ak (ak @aas (ak @aeX @aam)) (ak (ak @aat @Th) (ak @PT @aaj))) (ak (ak (ak @aai @WK) (ak @aak @aah)) (ak (ak @WU @WQ) (ak @WV @WO)))) (ak (ak (ak (ak @aap @Tn) (ak @Tg @aav)) (ak (ak @WZ (ak @aeY @WY)) (ak @Tl (ak (ak (ak @aao @aan) (ak @W0 @aau)) (ak (ak (ak (ak (ak @aal (ak @WJ (ak @WI (ak @WX (ak @Tf @aag))))) @WT) (ak @WS @WR)) (ak (ak @Tj @WM) (ak @Va (ak @VQ @VP)))) (ak @WN (ak @VU (ak @VT @VS)))))))) (ak (ak (ak @Z1 @Wz) (ak @Tc @PQ)) (ak (ak @WE @Ta) (ak @Z7 @Z8)))))) (ak (ak (ak (ak (ak @Z9 (ak @aeW @Z6)) (ak (ak @aaa @S9) (ak @PO @Z4))) (ak (ak (ak @Z3 @Wy) (ak @Z5 @Z2)) (ak (ak @WC @WB) (ak @WD (ak @WA @WG))))) (ak (ak (ak (ak @V.pure.eq_1 @V.pure.eq_2) (ak @V.pure.eq_3 @V.pure.eq_4)) (ak (ak @V.pure.eq_5 @aaL.eq_1) (ak @CC.eq_1 @TM))) (ak (ak (ak @TN @U3) (ak @UC @UU)) (ak (ak @gX.eq_1 @gX.eq_2) (ak @chainB.eq_1 @chainB.eq_2))))) (ak (ak (ak (ak @ba.eq_1 (ak @ba.eq_2 @ba.eq_3)) (ak (ak @ba.eq_4 @ba.eq_5) (ak @ba.eq_6 @ba.eq_7))) (ak (ak (ak @ba.eq_8 @ba.eq_9) (ak @XD @Yu.eq_1)) (ak (ak (ak @Yu.eq_2 @Yu.eq_3) @ba.eq_13) (ak @ba.eq_14 @ba.eq_15)))) (ak (ak (ak (ak @ba.eq_16 @ba.eq_17) (ak @ba.eq_18 @ba.eq_19)) (ak (ak @ba.eq_20 @ba.eq_21) (ak @ba.eq_22 @ba.eq_23))) (ak (ak (ak @ba.eq_24 @ba.eq_25) (ak @ba.eq_26 @ba.eq_27)) (ak (ak @ba.eq_28 (ak (ak @ba.eq_29 @ba.eq_30) (ak @ba.eq_31 (ak (ak @ba.eq_32 @ba.eq_33) (ak @ba.eq_34 (ak @ba.eq_35 @ba.eq_36)))))) (ak @cc.eq_1 @cc.eq_2))))))) (ak (ak (ak (ak (ak (ak @cc.eq_3 (ak @cc.eq_4 @cc.eq_5)) (ak (ak @cc.eq_6 @cc.eq_7) (ak @cc.eq_8 (ak @cc.eq_9 (ak (ak @cc.eq_11 @cc.eq_12) (ak @cc.eq_13 (ak @cc.eq_14 (ak @cc.eq_15 @BH.eq_1)))))))) (ak (ak (ak @ev.eq_1 @ev.eq_2) (ak @ek.eq_1 @ek.eq_2)) (ak (ak @Hn.eq_1 @vE.{0,0}) (ak @dK.{0,0} @aO.{0})))) (ak (ak (ak (ak @aZ.{0} @lT.{0}) (ak @kf.{0} @fH.eq_1)) (ak (ak @fH.eq_2 @gD.eq_1) (ak @gD.eq_2 @gA.eq_1))) (ak (ak (ak @gA.eq_2 @gA.eq_3) (ak @gA.eq_4 @gA.eq_5)) (ak (ak @gA.eq_6 (ak @gA.eq_7 (ak @gA.eq_8 @gA.eq_9))) (ak @cZ.eq_1 @cZ.eq_2))))) (ak (ak (ak (ak @nE.eq_1 (ak @nE.eq_2 @nE.eq_3)) (ak (ak @uS.eq_1 @uS.eq_2) (ak @jJ.{0} @Qs.{0}))) (ak (ak (ak @yP @dM) (ak @cY @gL)) (ak (ak @lq @lu) (ak @iP @xt)))) (ak (ak (ak (ak @Qi @CH) (ak @TZ @ah.{0})) (ak (ak @az.{0} @aH.{0}) (ak @bS.{0} @List.getElem?_nil.{0}))) (ak (ak (ak @dQ @bq) (ak @ax @gK.eq_1)) (ak (ak @gK.eq_2 @gK.eq_3) (ak @gK.eq_4 @gK.eq_5)))))) (ak (ak (ak (ak (ak @gK.eq_6 (ak @gK.eq_7 @gK.eq_8)) (ak (ak @gK.eq_9 @gK.eq_10) (ak @gK.eq_11 @gK.eq_12))) (ak (ak (ak @gK.eq_13 @gK.eq_14) (ak @gK.eq_15 @gK.eq_16)) (ak (ak @gK.eq_17 @gK.eq_18) (ak @gK.eq_19 @gK.eq_20)))) (ak (ak (ak (ak @gK.eq_21 @gK.eq_22) (ak @gK.eq_23 @gK.eq_24)) (ak (ak @gK.eq_25 @gK.eq_26) (ak @aG @qe.{0}))) (ak (ak (ak @afd.{0} @iw.{0}) (ak @qf.{0} @aff.{0})) (ak (ak @nT.{0} @bg.{0}) (ak @bo.{0} @bM.{0}))))) (ak (ak (ak (ak @aS.{0} (ak @aC.{0,0} @bI.{0,0})) (ak (ak (ak @forall_const.{0} @forall_const.{1}) @imp_self) (ak @beq_self_eq_true.{0} @nv.{0}))) (ak (ak (ak @eq_self.{1} @fK.{0}) (ak @yM (ak @implies_true.{0} @implies_true.{1}))) (ak (ak @fL @iq) (ak @cond_true.{1} @cond_false.{1})))) (ak (ak (ak (ak @Xk @TE) (ak @UO @xU)) (ak (ak @tH @rowsOf.eq_1) (ak @rowsOf.eq_2 @rowsOf.eq_3))) (ak (ak (ak @rowsOf.eq_4 @rowsOf.eq_5) (ak @rowsOf.eq_6 @xu.eq_1)) (ak (ak @xu.eq_2 @xu.eq_3) (ak @xu.eq_4 @xu.eq_5))))))))
set_option linter.defProp false in
def VV:=ak W (ak (ak (ak @cc.eq_10 (ak @Bool.true_or @ia)) (ak (ak @Bool.or_true @Bool.or_false) (ak @ir @eA))) (ak (ak @qd (ak @bytesOf.eq_1 @bytesOf.eq_2)) (ak @qV.eq_1 (ak @qV.eq_2 @UInt8.ofNat_toNat))))
set_option linter.defProp false in
def SS:=(ak (ak @ah.{0} (ak @az.{0} @JW.{0})) (ak @uk.{0} (ak @bo.{0} @bg.{0})))
set_option linter.defProp false in
def RS:=ak (ak (ak @lg.eq_1 @lg.eq_2) (ak @u7.eq_1 @u7.eq_2)) VV
set_option linter.defProp false in
def LW:=ak UE (ak (ak (ak (ak @fY.eq_1 (ak @fY.eq_2 @aO.{0})) (ak @aZ.{0} (ak @af2 @af3))) (ak (ak @Ve (ak @YS @YV)) (ak @YW (ak @zk @adE)))) (ak (ak (ak @OW (ak @OV @YU)) (ak @YR (ak @YT @adB))) (ak (ak (ak @adC @adD) (ak @RL @YQ)) (ak @lq (ak @gL @lu)))))
def VR.XH{w:aT}{μ:Mem}{I:Mem}{e:Value}(h:VR w J μ v e){m:Nat}(C:m<=F l) (X:∀b x,wr l I b x->wr J μ b x) (D:∀id,id<m->l[id]?=J[id]?) (H:∀id,id<m->I id=μ id) (p:v.Lt m):VR w l I v e:=by
 induction h with
 |u e=>exact .u e
 |b v=>exact .b v
 |i k n=>exact .i k n
 |s d v q C=>exact .s d v q C
 |nil=>exact .nil
 |Dh t=>exact .Dh t
 |sle t a=>exact .sle t a
 |sl t y b o ac f O mj Q z R ih =>exact .sl t y b o ac f O mj Q (λi j v p=>⟨(z i j v p).1,λh=>(z i j v p).2.1 (X _ _ h),(z i j v p).2.2⟩) (λi j v p=>ih i j v p (lK (z i j v p).2.2 m))
 |Gt t=>exact .Gt t
 |lit t y b o f mj Q z R ih =>exact .lit t y b o f mj Q (λi j v p=>⟨(z i j v p).1,λh=>(z i j v p).2.1 (X _ _ h),(z i j v p).2.2⟩) (λi j v p=>ih i j v p (lK (z i j v p).2.2 m))
 |own id g e S h =>
  cases p with
  |own _ _ q=>exact .own id g e (by omega) λE t B M U y P=>by rw[H id q];exact h E t B M U y (D id q▸P)
 |sub id g lo hi e S h =>
  cases p with
  |sub _ _ _ _ q=>exact .sub id g lo hi e (by omega) λE t B M U y P=>by rw[H id q];exact h E t B M U y (D id q▸P)
 |ptr id x b h C =>
  cases p with
  |ptr _ _ q =>obtain⟨T,W,G⟩:=h;exact .ptr id x b ⟨T,W,(D id q).trans G⟩ ((H id q).trans C)
 |ep t y i x b o f hi Q z R ih =>exact .ep t y i x b o f hi Q (λj v p=>⟨(z j v p).1,λh=>(z j v p).2.1 (X _ _ h),(z j v p).2.2⟩) (λj v p=>ih j v p (lK (z j v p).2.2 m))
 |rp id g i x e S h =>
  cases p with
  |rp _ _ _ _ q=>exact .rp id g i x e (by omega) λE t B M U y P=>by rw[H id q];exact h E t B M U y (D id q▸P)
 |mp id r h C =>
  cases p with
  |mp _ q =>obtain⟨K,E,es,G⟩:=h;exact .mp id r ⟨K,E,es,(D id q).trans G⟩ ((H id q).trans C)
 |it id e h C =>
  cases p with
  |it _ q =>obtain⟨st,m',E,n,ps,c,G⟩:=h;exact .it id e ⟨st,m',E,n,ps,c,(D id q).trans G⟩ ((H id q).trans C)
 |sy id n b h C =>
  cases p with
  |sy _ _ q =>obtain⟨T,W,G⟩:=h;exact .sy id n b ⟨T,W,(D id q).trans G⟩ ((H id q).trans C)
 |eE=>exact .eE
 |gO=>exact .gO
 |fn f V L q R ih =>
  cases p with
  |fn _ _ h=>exact .fn f V L q λi v p=>ih i v p (h i v p)
 |agg y L q R ih =>
  cases p with
  |agg _ h=>exact .agg y L q λi v p=>ih i v p (h i v p)
 |gy y L q R ih =>cases p with|gy _ h=>exact .gy y L q λi v p=>ih i v p (h i v p)
def RJ(k:Nat):V->V|.own id g=>if id=R+k then .own R 0 else .own id g|.mp id=>.mp (if id=R+k then R else id)|x=>x
def Ob.gen:Ob->Nat|.row _ _ _ g _ _=>g|_=>0
variable{o:Ob}
def Ob.fresh:Ob->Ob|.row E sz by' _ sh xs=>.row E sz by' 0 sh xs|o=>o
def zT(k a:Nat):V->Prop|.own id g=>(id=R+k/\g=a)\/id<R|.mp id=>id=R+k\/id<R|x=>x.Lt R
def Ob.flat:Ob->Bool
 |.row _ _ _ _ _ _=>A
 |.map _ _ es=>es.all λa=>a.2.pure
 |_=>Z
def Nx(h:(Ob.map f m H).flat=A)(a:Nat)(j:Nat)(x:V)(b:(H.map (·.2))[j]?=N x):x.Lt a:=by rw[bu,al]at b;obtain⟨d,c,rfl⟩:=b;simp only[Ob.flat,cv]at h;exact lK (h d (bc c)) a
def Wk.adH(bn:bT J)(hk:l[R]?=N o)(ho:o.flat=A)(hx:∀x∈X,zT (F J) R o.gen x): Wk P (F J) X (J++l) (X.map (RJ (F J) R)) (J++[o.fresh]):=by
 intro B w0 w O vs hS hC;have sC:R<F l:=(ab.1 hk).1;let q:Mem:=λj=>if j=F J then O (F J+R)else O j;have ma:∀id,id<F J->q id=O id:=λid h=>by simp only[q];rw[au (by omega)]
 have PF:q (F J)=O (F J+R):=by simp[q]
 have fG:∀id,id<F J->(J++[o.fresh])[id]?=(J++l)[id]?:=λid h=>by rw[aj h,aj h]
 have h0:(J++[o.fresh])[F J]?=N o.fresh:=by simp
 have z:(J++l)[F J+R]?=N o:=by rw[aD (by omega),dD];exact hk
 have d:∀{id I},(J++[o.fresh])[id]?=N I->(id<F J/\(J++l)[id]?=N I/\q id=O id)\/(id=F J/\I=o.fresh):=by
  intro id I h;rcases gF id (F J) with V|hg;.exact .inl ⟨V,fG id V▸h,ma id V⟩
  right;have dC:=(ab.1 h).1;simp at dC;have:id=F J:=by omega
  subst this;rw[h0]at h;exact⟨rfl,(iE h).symm⟩
 have hw:∀b Q,wr (J++[o.fresh]) q b Q->wr (J++l) O b Q:=by
  rintro b Q ⟨id,I,k,p,f⟩;rcases d k with⟨a,s,C⟩|⟨rfl,rfl⟩;.exact⟨id,I,s,C▸p,f⟩
  exact⟨F J+R,o,z,PF▸p,by cases o<;>exact f⟩
 have G:∀{x v},VR w (J++l) O x v->x.Lt (F J)->VR w (J++[o.fresh]) q x v:=λh V=>h.XH (m:=F J) (by simp) hw fG ma V;refine⟨q,⟨hS.below,hS.base,λid I t=>?_,λi j oi oj b W M k p f a=>?_⟩,⟨by simp[hC.1],λi y hy=>?_⟩,λx v hv V=>G hv V⟩
 .rcases d t with⟨a,s,C⟩|⟨rfl,rfl⟩
  .have U:=hS.obj id I s;rw[C];cases I with
   |dead=>trivial
   |box T cs =>obtain⟨b,us,k,p,f,aE,S⟩:=U;have mE:=bn id _ (by rwa [aj a]at s);exact⟨b,us,k,p,f,aE,λj x M=>let ⟨u,C,h7⟩:=S j x M;⟨u,C,G h7 (mE j x M)⟩⟩
   |row E sz ad g sh L =>obtain⟨k,H,p,f⟩:=U;exact⟨k,H,p,f.1,λi j x M=>let ⟨a,u,s,C⟩:=f.2 i j x M;⟨a,u,s,G C (lK a _)⟩⟩
   |map K E es =>have S:=s;have ac:=a;obtain⟨r,D,clock,k,p,f,a⟩:=U;exact⟨r,D,clock,k,p,f,a.1,λi R x W=>let ⟨s,C,e,h7,h8,h9⟩:=a.2.1 i R x W;⟨s,C,e,h7,G h8 (wy s _),G h9 (map_lt (bn id (.map K E es) (by rwa [aj ac]at S)) W)⟩,a.2.2⟩
   |iter st m E n ps c =>
   have dC:m<F J:=by have:=bn id _ (by rwa [aj a]at s) 0 (.mp m) rfl;cases this;assumption
   exact yo U (fG m dC) (ma m dC)
  have U:=hS.obj (F J+R) o z;rw[PF];cases o with
  |dead=>trivial
  |box T cs=>simp[Ob.flat]at ho
  |row E sz ad g sh L =>obtain⟨k,H,p,f⟩:=U;exact⟨k,H,p,f.1,λi j x M=>let ⟨a,u,s,C⟩:=f.2 i j x M;⟨a,u,s,G C (lK a _)⟩⟩
  |map K E es =>obtain⟨r,D,clock,k,p,f,a⟩:=U;exact⟨r,D,clock,k,p,f,a.1,λi R x W=>let ⟨s,C,e,h7,h8,h9⟩:=a.2.1 i R x W;⟨s,C,e,h7,G h8 (wy s _),G h9 (map_lt (Nx ho _) W)⟩,a.2.2⟩
  |iter st m E n ps c=>simp[Ob.flat]at ho
 .rcases d W with⟨i1,i2,i3⟩|⟨rfl,rfl⟩<;>rcases d M with⟨j1,j2,j3⟩|⟨rfl,rfl⟩;.exact hS.sep i j oi oj b i2 j2 k p (i3▸f) (j3▸a)
  .have:=hS.sep i (F J+R) oi o b i2 z k (by rintro rfl;exact p rfl) (i3▸f) (PF▸a);omega
  .have:=hS.sep (F J+R) j o oj b z j2 (by rintro rfl;exact k rfl) p (PF▸f) (j3▸a);omega
  rfl
 rw[bu,al]at hy;obtain⟨x,zV,rfl⟩:=hy;have hv:=hC.2 i x zV;have jf:=hx x (bc zV);cases x with
 |own id g =>
  simp only[RJ];split
  .rename_i e;subst e;have hg:g=o.gen:=by simp only[zT,gL]at jf;omega
   cases o with
   |row E sz ad g' sh L =>have V8:g'=g:=hg.symm;subst V8;have k:=hv.kE z;refine .own _ _ _ (by simp) λE2 af am g2 av ap t=>?_;rw[h0]at t;simp only[Ob.fresh,aa,Ob.row.injEq]at t;rw[PF];exact⟨eR _,λ_=>k⟩
   |_=>exact .own _ _ _ (by simp) λE2 af am g2 av ap t=>by rw[h0]at t;simp[Ob.fresh]at t
  rename_i e;simp only[zT,e,false_and,qb]at jf;exact G hv (.own _ _ jf)
 |mp id =>
  simp only[RJ];split;.rename_i e;subst e;obtain⟨r,k,p,K,E,es,f⟩:=hv.ta;rw[k];refine .mp _ r ⟨K,E,es,?_⟩ (PF.trans p);rw[h0];have a:=z.symm.trans f;simp only[aa]at a;subst a;rfl
  rename_i e;simp only[zT,e,qb]at jf;exact G hv (.mp _ jf)
 |_=>exact G hv jf
def rq{e:Exit}(g:bT J)(f:e=.normal\/e=.ret)(h:lg ⟨X,J++l⟩ L=N U) (a:l[R]?=N o) (b:o.flat=A) (c:∀x∈U,zT (F J) R o.gen x) (d:Q (one (U.map (RJ (F J) R))) (J++[o.fresh])):rv P (F J) L Q e ⟨X,J++l⟩ :=fv f h (Wk.adH R g a b c) (by simp) d
def PC.post{d:V}(h:PC P f X J (λr g=>r=v/\g=l))(z:Wk P (F J) [v] l [d] e):PC P f X J (λr g=>r=d/\g=e):=by intro B n w m q I G;have D:∀x u,VR w J m x u->x.Lt (F J):=λx u h=>h.lt;refine(h B n w m q I G).mono ?_;rintro b o ⟨r,a,g,j,H,⟨rfl,rfl⟩,t,p,C⟩;obtain⟨k,s,y,E⟩:=z B n o j #[a] t ⟨rfl,λi x c=>by cases i with|zero=>simp only[aH,aa]at c;subst c;simpa using p|succ i=>simp at c⟩;exact⟨d,a,e,k,H,⟨rfl,rfl⟩,s,by have:=y.2 0 d rfl;simpa using this,λx u c=>E x u (C x u c) (D x u c)⟩
def PC.fz{P:aM}{J:ag}{E sz by' g:Nat}{sh:Bool}{rows:cD}(b:bT J) (h:PC P f X J (λr a=>r=.own (F J) g/\a=J++[.row E sz by' g sh rows])):PC P f X J (λr a=>r=.sl sz rows/\a=J):=by refine h.post ?_;refine(Wk.fz (F J) (by simp;exact⟨rfl,rfl,rfl,rfl,rfl,rfl⟩)).trans ?_;rw[b8 _ _ (ax _),fA];simp only[aC,bI,Pm.fz,sk,lu,aU];exact Wk.DM b (by simp only[fY,zk,lu])
def pQ{zs:ao}(id:Nat){g:Nat}(b:J[id]?=N (.row m C s g D T)) (h:PC P f zs (J.set id (.row m C s g A T)) (λr a=>r=v/\a=l)) (e:(M.map (ev X)).map (fz id g C T)=zs) (c:B ⟨ek X d v,l⟩) : gI P ⟨d,[],.call f M⟩ B ⟨X,J⟩:=by subst e;exact aA (PC.wk (Wk.fz id b) h) rfl c
def PC.closed(h:bT J->PC P f X J Q):PC P f X J Q :=λB b w d c a e=>h a.closed B b w d c a e
def Wk.cell{id T j:Nat}{x y:V}(a:J[id]?=N (.box T U))(D:U[j]?=N x) (hv:∀(w:aT) (d:Mem) (v:Value),(∀i o,J[i]?=N o->∃P B,Ad P B w J d (d i) o)->VR w J d x v->VR w J d y v):Wk P f X J X (J.set id (.box T (U.set j y))):=by
 intro B w0 w d vs q s;have r:id<F J:=(ab.1 a).1;have R:j<F U:=(ab.1 D).1;have h:=q.update (w':=w) (J':=J.set id (.box T (U.set j y))) (μ':=d) id Y (grownBy_refl w Y) (by simp) (by simp) (λk g=>aN (λe=>g e.symm)) (λk g=>rfl)
  (λb m=>.inl ⟨_,a,by simp,m⟩)
  (λb O v o c hd m hc M=>⟨hc,λo' S ac ha=>M ⟨id,o,c,m,by
   rw[a]at c;cases c;trivial⟩⟩)
  (λT' Q h=>by rw[a]at h;cases h;exact⟨⟨_,by rw[aw r]⟩,rfl⟩)
  (λK E es h=>by rw[a]at h;cases h)
  (λE sz L g' sh ys _ h=>by rw[aw r]at h;simp at h)
  (λC o c=>by
   rw[aw r]at c;simp only[aa]at c;subst c;obtain⟨b,us,I,G,W,H,t⟩:=q.obj id _ a;refine⟨b,us,I,G,W,by simpa using H,λk z l=>?_⟩;by_cases g:j=k;.subst g;rw[aw R]at l;simp only[aa]at l;subst l;obtain⟨u,p,n⟩:=t j x D;exact⟨u,p,(hv w d u (λi o c=>⟨P,B,q.obj i o c⟩) n).mono C⟩
   rw[aN g]at l;obtain⟨u,p,n⟩:=t k z l;exact⟨u,p,n.mono C⟩);exact⟨d,h.1,⟨s.1,λi x hx=>(s.2 i x hx).mono h.2⟩,h.2.fU.NW⟩
def Wk.abF{id a j idr E l c g:Nat}(y:J[id]?=N (.box a U))(S:U[j]?=N .nil)(p:J[idr]?=N (.row E l c g D T)): Wk P f X J X ((J.set idr (.row E l c (g+1) Z [])).set id (.box a (U.set j (.own idr (g+1))))):=by
 have gn:id≠idr:=λe=>by subst e;rw[y]at p;cases p
 intro B w0 w μ vs hS V;have Q:idr<F J:=(ab.1 p).1;obtain⟨hT,_⟩:=hS.obj idr _ p;have h:=hS.update (w':=w) (J':=J.set idr (.row E l c (g+1) Z [])) (μ':=r7 μ idr (.slice Y 0 0)) idr Y (grownBy_refl w Y) (by simp) (by simp) (λk m=>aN (λe=>m e.symm)) (λk m=>mQ _ _ _ _ m)
  (λb n=>by rw[eH]at n;simp[js]at n)
  (λb I v o d hd n R hw=>⟨R,λo' M q=>by rw[eH]at q;simp[js]at q⟩)
  (λT' L h=>by rw[p]at h;cases h)
  (λK E es h=>by rw[p]at h;cases h)
  (λE2 ac af g' ad ys _ h=>by
   rw[aw Q]at h;simp only[aa,Ob.row.injEq]at h;obtain⟨rfl,rfl,rfl,rfl,rfl,rfl⟩:=h;exact⟨g,D,T,p,by omega,λe=>by omega⟩)
  (λH o d=>by rw[aw Q]at d;simp only[aa]at d;subst d;rw[eH];exact⟨hT,[],World.ownsRow_nil w B E l,by simp,by simp[gp]⟩);have r:(J.set idr (.row E l c (g+1) Z []))[id]?=N (.box a U):=by rw[aN (λe=>gn e.symm)];exact y
 have th:(J.set idr (.row E l c (g+1) Z []))[idr]?=N (.row E l c (g+1) Z []):=by rw[aw Q]
 have C:id<F (J.set idr (.row E l c (g+1) Z [])):=(ab.1 r).1;have lz:j<F U:=(ab.1 S).1;have s:=h.1.update (w':=w) (J':=(J.set idr (.row E l c (g+1) Z [])).set id (.box a (U.set j (.own idr (g+1))))) (μ':=r7 μ idr (.slice Y 0 0)) id Y (grownBy_refl w Y) (by simp) (by simp) (λk m=>aN (λe=>m e.symm)) (λk m=>rfl)
  (λb n=>.inl ⟨_,r,by simp,n⟩)
  (λb I v o d hd n R hw=>⟨R,λo' M q ha=>hw ⟨id,o,d,n,by
   rw[r]at d;cases d;trivial⟩⟩)
  (λT' L h=>by rw[r]at h;cases h;exact⟨⟨_,by rw[aw C]⟩,rfl⟩)
  (λK E es h=>by rw[r]at h;cases h)
  (λE l c g' D ys _ h=>by rw[aw C]at h;simp at h)
  (λH o d=>by
   rw[aw C]at d;simp only[aa]at d;subst d;obtain⟨b,us,h1,s,h3,h4,W⟩:=h.1.obj id _ r;refine⟨b,us,h1,s,h3,by simpa using h4,λk z t=>?_⟩;by_cases m:j=k;.subst m;rw[aw lz]at t;simp only[aa]at t;subst t;obtain⟨u,O,G⟩:=W j .nil S;have hu:=G.nz;subst hu;have:=(VR.nR (w:=w) (μ:=r7 μ idr (.slice Y 0 0)) th);rw[eH]at this;exact⟨_,O,this.mono H⟩
   rw[aN m]at t;obtain⟨u,O,G⟩:=W k z t;exact⟨u,O,G.mono H⟩);exact⟨_,s.1,⟨V.1,λi x hx=>((V.2 i x hx).mono h.2).mono s.2⟩,λx v hv hl=>(hv.mono h.2).mono s.2⟩
def Wk.Cm{P:aM}{n:Nat}{xs:ao}{J:ag}{id T j E c a:Nat}{cs:ao}(hT:Ti P E c a)(p:J[id]?=N (.box T cs))(C:cs[j]?=N .nil): Wk P n xs J xs ((J.set id (.box T (cs.set j (.own (F J) 0))))++[.row E c a 0 Z []]):=by
 intro B w0 w μ vs hS D;have I:id<F J:=(ab.1 p).1;have q:=hS.sb (w':=w) (.row E c a 0 Z []) (.slice Y 0 0) (grownBy_refl w Y) (by simp[js]) (λ_=>⟨hT,[],World.ownsRow_nil w B E c,by simp,by simp[gp]⟩);have S:(J++[.row E c a 0 Z []])[F J]?=N (.row E c a 0 Z []):=by simp
 have m:(J++[.row E c a 0 Z []])[id]?=N (.box T cs):=by rw[aj I];exact p
 have s:id<F (J++[Ob.row E c a 0 Z []]):=by simp;omega
 have U:j<F cs:=(ab.1 C).1;have he:(J.set id (.box T (cs.set j (.own (F J) 0))))++[Ob.row E c a 0 Z []]=(J++[Ob.row E c a 0 Z []]).set id (.box T (cs.set j (.own (F J) 0))):=by rw[eT _ _ I]
 rw[he];have f:=q.1.update (w':=w) (J':=(J++[Ob.row E c a 0 Z []]).set id (.box T (cs.set j (.own (F J) 0)))) (μ':=r7 μ (F J) (.slice Y 0 0)) id Y (grownBy_refl w Y) (by simp) (by simp) (λk g=>aN (λe=>g e.symm)) (λk g=>rfl)
  (λb r=>.inl ⟨_,m,by simp,r⟩)
  (λb Q v o d hd r hc O=>⟨hc,λo' V ac ha=>O ⟨id,o,d,r,by
   rw[m]at d;cases d;trivial⟩⟩)
  (λT' R h=>by rw[m]at h;cases h;exact⟨⟨_,by rw[aw s]⟩,rfl⟩)
  (λK E es h=>by rw[m]at h;cases h)
  (λE c a g' sh ys _ h=>by rw[aw s]at h;simp at h)
  (λH o d=>by
   rw[aw s]at d;simp only[aa]at d;subst d;obtain⟨b,us,M,f,W,L,G⟩:=q.1.obj id _ m;refine⟨b,us,M,f,W,by simpa using L,λk z l=>?_⟩;by_cases g:j=k;.subst g;rw[aw U]at l;simp only[aa]at l;subst l;obtain⟨u,y,t⟩:=G j .nil C;have X:=t.nz;subst X;have:=(VR.nR (w:=w) (μ:=r7 μ (F J) (.slice Y 0 0)) S);rw[eH]at this;exact⟨_,y,this.mono H⟩
   rw[aN g]at l;obtain⟨u,y,t⟩:=G k z l;exact⟨u,y,t.mono H⟩);exact⟨_,f.1,⟨D.1,λi x hx=>((D.2 i x hx).mono q.2).mono f.2⟩,λx v hv hl=>(hv.mono q.2).mono f.2⟩
def cd.cut{b:bH}(h:∀R:bk,(∀a,cd f P b K a->R a)->zM f P c (Dj R K) S):cd f P (.seq c b) K S:=by refine cd.seq ?_;refine(ay (h (cd f P b K) λ_ h=>h)).mono λe a d=>?_;cases e<;>exact d
def cd.gW{a fr':ao}(k:cd f P c K ⟨fr',J⟩)(b:pe a fr'):cd f P c K ⟨a,J⟩:=cd.wk (Wk.gW b) k
def cd.drop{n:Nat}{P:aM}{J:ag}(e:n<=F J+F w)(d:bT (J++w))(a:pe X U)(b:fY (F J+F w) U)(k:cd n P c K ⟨U,J++w⟩):cd n P c K ⟨X,J++(w++q)⟩:=by rw[<- List.append_assoc];exact cd.wk ((Wk.gW a).trans (Wk.xe (by rw[ai];exact e) d (by rw[ai];exact fi.1 b))) k
def zD(h:bT (J++l))(g:F l<=F e)(f:∀o∈e,match o with|.box _ cs=>fY (F J+F e) cs|.map _ _ es=>fY (F J+F e) (es.map (·.2))|.iter _ m _ _ _ _=>m<F J+F e|_=>True):bT (J++e):=by
 intro id o a j x c;rw[ai];rcases gF id (F J) with b|d;.rw[aj b]at a;have:=h id o (by rw[aj b];exact a) j x c;rw[ai]at this;exact this.mono (by omega)
 rw[aD d]at a;exact Mp (f _ (bc a)) j x c
def itT{a b:Prop}:((A=A->a)/\(A=Z->b))=a:=by simp
def itF{a b:Prop}:((Z=A->a)/\(Z=Z->b))=b:=by simp
def IT:=ak @itT @itF
def bb:(A==A)=A/\(Z==A)=Z/\(A==Z)=Z/\(Z==Z)=A:=⟨rfl,rfl,rfl,rfl⟩
def Wk.abq{xs:ao}{J:ag}{id E sz by' g c:Nat}(n:J[id]?=N (.row E sz by' g Z T))(j:Nat)(W:xs[j]?=N (.sub id g 0 c)): Wk P f xs J (xs.set j (.own id (g+1))) (J.set id (.row E sz by' (g+1) Z (T.take c))):=by
 intro B w0 w μ vs X C;have M:id<F J:=(ab.1 n).1;have hv:=C.2 j _ W;obtain⟨_,J1,wL⟩:=hv.pJ n;have I:F (T.take c)=c:=by simp;omega
 have R:=X.obj id _ n;have O:=X.update (w':=w) (J':=J.set id (.row E sz by' (g+1) Z (T.take c))) (μ':=r7 μ id (lk (μ id) 0 c sz)) id Y (grownBy_refl w Y) (by simp) (by simp) (λk z=>aN (λe=>z e.symm)) (λk z=>mQ _ _ _ _ z)
  (λb l=>by
   rw[eH]at l;refine .inl ⟨_,n,by simp,?_⟩;obtain⟨_,m,⟨_,H⟩,_⟩:=R;rcases H with⟨q,_⟩|⟨b2,v,y,q,_⟩;.rw[q]at l;simp only[lk]at l;split at l<;>simp[js]at l
   rw[q]at l |-;simp only[lk]at l;split at l<;>simpa[js,Addr.add_lit]using l)
  (λb af u o d _ s L t=>absurd ⟨id,o,d,s,by rw[n]at d;simp only[aa]at d;subst d;intro hf;simp at hf⟩ t)
  (λa cs h=>by rw[n]at h;simp at h) (λK E es h=>by rw[n]at h;simp at h)
  (λE2 ac ap g2 am ad _ h=>by
   simp only[aw M,aa,Ob.row.injEq]at h;obtain⟨rfl,rfl,rfl,rfl,rfl,rfl⟩:=h;exact⟨g,Z,T,n,by omega,λe=>by omega⟩)
  (λhp o h=>by
   simp only[aw M,aa]at h;subst h;rw[eH];obtain⟨hT,m,⟨hl,H⟩,U,hr⟩:=R;have Q:c*sz<=F T*sz:=bL _ J1;refine⟨hT,m.take (c*sz),⟨by rw[I,bB,hl];omega,?_⟩,λr D=>U r (dv D),λi k x p=>?_⟩
   .rw[I];rcases H with⟨q,hn⟩|⟨b,v,y,q,d,s,L,t,G,h6⟩
    .have:c=0:=by omega
     subst this;exact .inl ⟨by rw[q];simp[lk],rfl⟩
    refine .inr ⟨b,v,y,?_,d,s,by omega,t,G,?_⟩;.rw[q];simp only[lk,qd];split<;>simp[Addr.add_lit]
    rw[<- h6,vC,jA Q]
   obtain⟨r,d,s⟩:=iD p;have S:i<c:=by have:=(ab.1 d).1;rw[I]at this;exact this
   rw[bF S]at d;obtain⟨L,u,t,G⟩:=hr i k x (by rw[o7 d];exact s);refine⟨L,u,?_,G.mono hp⟩;have z:k<sz:=by rw[<- U r (bc d)];exact(ab.1 s).1
   rw[bF ?_];.exact t
   have:(i+1)*sz<=c*sz:=bL _ S;rw[cN,gN]at this;omega);refine⟨_,O.1,⟨by simp[C.1],λi x p=>?_⟩,O.2.fU.NW⟩;by_cases V:j=i;.subst V;rw[aw (ab.1 W).1]at p;simp only[aa]at p;subst p;rw[wL];have:=VR.nR (w:=w) (J:=J.set id (.row E sz by' (g+1) Z (T.take c))) (μ:=r7 μ id (lk (μ id) 0 c sz)) (id:=id) (E:=E) (sz:=sz) (by':=by') (g:=g+1) (sh:=Z) (xs:=T.take c) (aw M);rwa [eH]at this
 rw[aN V]at p;exact(C.2 i x p).mono O.2
def sN{id:Nat}(h:J[id]?=N o):J.set id o=J:=by
 apply jw;intro j;by_cases a:id=j;.subst a;rw[aw (ab.1 h).1,h]
 rw[aN a]
def PC.fzs{P:aM}{a zs:ao}(id:Nat){g:Nat}(d:J[id]?=N (.row m C s g A T))
  (h:PC P f zs J (λr b=>r=v/\b=J)) (e:a.map (Pm.fz id g C T)=zs):PC P f a J (λr b=>r=v/\b=J):=by have c:=Wk.fz (P:=P) (n:=F J) (xs:=a) id d;rw[sN d,e]at c;exact PC.wk c h
def Wk.YG{P:aM}{n:Nat}{xs:ao}{J:ag}{E sz by' g:Nat}{sh:Bool}{rows:cD}:Wk P n xs (J++[.row E sz by' g sh rows]) xs (J++[.row E sz by' g A rows]):=by have:=Wk.share (P:=P) (n:=n) (xs:=xs) (J:=J++[.row E sz by' g sh rows]) (id:=F J) (E:=E) (sz:=sz) (by':=by') (g:=g) (sh:=sh) (rows:=rows) (by simp);rwa [b8 _ _ (ax _),fA]at this
def xW(h:∀R:bk,(∀a,fS f P c K m a->R a)->cd f P c (Dj R K) S):fS f P c K (m+1) S:=by simp only[fS];exact(h (fS f P c K m) λ_ h=>h).mono λe a b=>by cases e<;>exact b
def cd.P8{b:bH}(h:∀R:bk,(∀a,cd f P b K a->R a)->cd f P c (Dj R K) S):cd f P (.seq c b) K S:=by refine cd.seq ?_;refine(h (cd f P b K) λ_ h=>h).mono λe a d=>?_;cases e<;>exact d
def cd.js{id:Nat}(h:cd f P c (xr id K) S):cd f P (.block id c) K S :=cd.block (h.mono λe b a=>by cases e with|exit g =>simp only[xr]at a;simp only[yI];split at a<;>rename_i d<;>simp only[d,aU,aQ]<;>exact a|_=>exact a)
def cd.adJ{c:O}{x y:bH}(a:ev S.fr c=.b A)(h:cd f P x K S):cd f P (.ite c x y) K S :=cd.ite a (λ_=>h) (λh=>by cases h)
def cd.adK{c:O}{x y:bH}(a:ev S.fr c=.b Z)(h:cd f P y K S):cd f P (.ite c x y) K S :=cd.ite a (λh=>by cases h) (λ_=>h)
def Wk.ae1{P:aM}{n:Nat}{xs:ao}{J a:ag}{E sz by' g:Nat}{sh:Bool}{rows:cD}(b:a[R]?=N (.row E sz by' g sh rows)):
  Wk P n xs (J++a) (xs.map (Pm.fz (F J+R) g sz rows)) (J++a.set R (.row E sz by' g A rows)):=by have:=Wk.fz (P:=P) (n:=n) (xs:=xs) (J:=J++a) (F J+R) (by rw[xt];exact b);rwa [CH]at this
inductive Mv (n:Nat) (loc:ag) (ks:cy):V->V->Prop
 |own (i k E sz by' g:Nat) (sh:Bool) (rows:cD) (hk:ks[i]?=some k) (ho:loc[k]?=some (.row E sz by' g sh rows)):Mv n loc ks (.own (n+k) g) (.own (n+i) 0)
 |fU (x:V) (h:x.Lt n):Mv n loc ks x x
 |forget (x:V):Mv n loc ks x .u
 |agg (xs ys:ao) (hl:ys.length=xs.length) (h:∀(i:Nat) (x y:V),xs[i]?=some x->ys[i]?=some y->Mv n loc ks x y):Mv n loc ks (.agg xs) (.agg ys)
inductive Ye (n:Nat) (loc:ag) (ks:cy):ao->ao->Prop
 |nil:Ye n loc ks [] []
 |cons {x y xs ys} (h:Mv n loc ks x y) (t:Ye n loc ks xs ys):Ye n loc ks (x::xs) (y::ys)
def Ye.at{n:Nat}{a:ag}{f:cy}{d b:ao}(h:Ye n a f d b):F b=F d/\∀(i:Nat) (x y:V),d[i]?=N x->b[i]?=N y->Mv n a f x y:=by
 induction h with
 |nil=>simp
 |cons h t ih =>refine⟨by simp[ih.1],λi x y e c=>?_⟩;cases i with|zero=>simp only[aH,aa]at e c;subst e;subst c;exact h|succ i=>exact ih.2 i x y (by simpa using e) (by simpa using c)
def Wk.adG{P:aM}{xs ys:ao}{J loc os:ag}(R:cy)(bn:bT J)(nB:R.Nodup)(U:F os=F R) (am:∀(i k:Nat),R[i]?=N k->∃o,loc[k]?=N o/\o.flat=A/\os[i]?=N o.fresh) (hx:Ye (F J) loc R xs ys):Wk P (F J) xs (J++loc) ys (J++os):=by
 intro B w0 w V vs W hC;let s:Mem:=λj=>if j<F J then V j else V (F J+R.getD (j - F J) 0);have ma:∀id,id<F J->s id=V id:=λid h=>by simp only[s];rw[aK h]
 have af:∀i k,R[i]?=N k->s (F J+i)=V (F J+k):=λi k L=>by simp only[s];rw[au (by omega),dD,aq,L];rfl
 have fG:∀id,id<F J->(J++os)[id]?=(J++loc)[id]?:=λid h=>by rw[aj h,aj h]
 have Wu:∀i,(J++os)[F J+i]?=os[i]?:=λi=>by rw[aD (by omega),dD]
 have Wt:∀i,(J++loc)[F J+i]?=loc[i]?:=λi=>by rw[aD (by omega),dD]
 have a:∀{id z},(J++os)[id]?=N z->(id<F J/\(J++loc)[id]?=N z/\s id=V id) \/(∃i k o,id=F J+i/\R[i]?=N k/\(J++loc)[F J+k]?=N o/\o.flat=A/\z=o.fresh/\s id=V (F J+k)):=by
  intro id z h;rcases gF id (F J) with I|hg;.exact .inl ⟨I,fG id I▸h,ma id I⟩
  right;obtain⟨i,rfl⟩:∃i,id=F J+i:=⟨id - F J,by omega⟩;rw[Wu]at h;have O:i<F R:=by rw[<- U];exact(ab.1 h).1
  obtain⟨k,L⟩:∃k,R[i]?=N k:=⟨_,an O⟩;obtain⟨o,l,p,f⟩:=am i k L;rw[h]at f;exact⟨i,k,o,rfl,L,by rw[Wt];exact l,p,iE f,af i k L⟩
 have hw:∀b X,wr (J++os) s b X->wr (J++loc) V b X:=by
  rintro b X ⟨id,z,l,p,f⟩;rcases a l with⟨d,q,t⟩|⟨i,k,o,rfl,_,q,t,rfl,S⟩;.exact⟨id,z,q,t▸p,f⟩
  exact⟨F J+k,o,q,S▸p,by cases o<;>exact f⟩
 have Q:∀{x v},VR w (J++loc) V x v->x.Lt (F J)->VR w (J++os) s x v:=λh I=>h.XH (m:=F J) (by simp) hw fG ma I;obtain⟨ub,aE⟩:=hx.at;refine⟨s,⟨W.below,W.base,λid z M=>?_,λi j oi oj b O D l p f d=>?_⟩,⟨by rw[ub];exact hC.1,λi y hy=>?_⟩,λx v hv I=>Q hv I⟩
 .rcases a M with⟨d,q,t⟩|⟨i,k,o,rfl,_,q,t,rfl,S⟩
  .have dP:=W.obj id z q;rw[t];cases z with
   |dead=>trivial
   |box T cs =>obtain⟨b,us,l,p,f,aV,ac⟩:=dP;have mE:=bn id _ (by rwa [aj d]at q);exact⟨b,us,l,p,f,aV,λj x D=>let ⟨u,t,S⟩:=ac j x D;⟨u,t,Q S (mE j x D)⟩⟩
   |row E sz ad g sh C =>obtain⟨l,H,p,f⟩:=dP;exact⟨l,H,p,f.1,λi j x D=>let ⟨d,u,q,t⟩:=f.2 i j x D;⟨d,u,q,Q t (lK d _)⟩⟩
   |map K E es =>have ac:=q;have ap:=d;obtain⟨r,G,clock,l,p,f,d⟩:=dP;exact⟨r,G,clock,l,p,f,d.1,λi k x O=>let ⟨q,t,e,S,h8,h9⟩:=d.2.1 i k x O;⟨q,t,e,S,Q h8 (wy q _),Q h9 (map_lt (bn id (.map K E es) (by rwa [aj ap]at ac)) O)⟩,d.2.2⟩
   |iter st m E n ps c =>
   have dC:m<F J:=by have:=bn id _ (by rwa [aj d]at q) 0 (.mp m) rfl;cases this;assumption
   exact yo dP (fG m dC) (ma m dC)
  have dP:=W.obj (F J+k) o q;rw[S];cases o with
  |dead=>trivial
  |box T cs=>simp[Ob.flat]at t
  |row E sz ad g sh C =>obtain⟨l,H,p,f⟩:=dP;exact⟨l,H,p,f.1,λi j x D=>let ⟨d,u,q,t⟩:=f.2 i j x D;⟨d,u,q,Q t (lK d _)⟩⟩
  |map K E es =>have uq:=t;obtain⟨r,G,clock,l,p,f,d⟩:=dP;exact⟨r,G,clock,l,p,f,d.1,λi k x O=>let ⟨q,t,e,S,h8,h9⟩:=d.2.1 i k x O;⟨q,t,e,S,Q h8 (wy q _),Q h9 (map_lt (Nx uq _) O)⟩,d.2.2⟩
  |iter st m E n ps c=>simp[Ob.flat]at t
 .have nd:∀{o:Ob},o.fresh≠.dead->o≠.dead:=λh e=>h (by rw[e];rfl);rcases a O with⟨i1,i2,i3⟩|⟨i',k,o,rfl,ik,i5,_,rfl,i7⟩<;>rcases a D with⟨j1,j2,j3⟩|⟨j',k',z,rfl,jk,j5,_,rfl,j7⟩;.exact W.sep i j oi oj b i2 j2 l p (i3▸f) (j3▸d)
  .have:=W.sep i (F J+k') oi z b i2 j5 l (nd p) (i3▸f) (j7▸d);omega
  .have:=W.sep (F J+k) j o oj b i5 j2 (nd l) p (i7▸f) (j3▸d);omega
  have e:=W.sep (F J+k) (F J+k') o z b i5 j5 (nd l) (nd p) (i7▸f) (j7▸d);have e:k=k':=by omega
  subst e;have e2:i'=j':=by obtain⟨l1,g1⟩:=ab.1 ik;obtain⟨l2,g2⟩:=ab.1 jk;exact(List.getElem_inj nB).1 (g1.trans g2.symm)
  rw[e2]
 have vK:i<F xs:=by rw[<- ub];exact(ab.1 hy).1
 obtain⟨x,zV⟩:∃x,xs[i]?=N x:=⟨_,an vK⟩;have hv:=hC.2 i x zV;have hm:=aE i x y zV hy;clear zV hy vK;generalize vs.getD i undef=v at hv |-;induction hm generalizing v with
 |own i' k E sz ad g sh C L ho =>
  have av:(J++loc)[F J+k]?=N (.row E sz ad g sh C):=by rw[Wt];exact ho
  have l:=hv.kE av;have a1:i'<F os:=by rw[U];exact(ab.1 L).1
  obtain⟨o,q1,_,q3⟩:=am i' k L;rw[ho]at q1;simp only[aa]at q1;subst q1;refine .own _ _ _ (by simp;omega) λE2 a0 a2 g2 a4 a3 M=>?_;rw[Wu,q3]at M;simp only[Ob.fresh,aa,Ob.row.injEq]at M;rw[af i' k L];exact⟨eR _,λ_=>l⟩
 |fU x h=>exact Q hv h
 |forget x=>exact .u _
 |agg as bs I h ih =>
 obtain⟨us,rfl,l,p⟩:=hv.iZ;refine .agg bs us (by rw[I,l]) λj y D=>?_;have lz:j<F as:=by rw[<- I];exact(ab.1 D).1
 exact ih j _ y (an lz) D _ (p j _ (an lz))
def Mv.T7{a:cy}(h:Ye f J a X U):Mv f J a (.agg X) (.agg U):=.agg X U h.at.1 h.at.2
end Go.Pm
namespace Go.Bt
open Go Go.Pm
section
variable {α β:Type} [DecidableEq α]
def eO(a:α):List (α×β)->Nat->Option (Nat×β)|[],_=>Y|p::l,k=>if a=p.1 then N (k,p.2)else eO a l (k+1)
def bZ(a:α)(l:List (α×β)):Option β:=(eO a l 0).map (·.2)
def fZ(l:List (α×β))(a:α)(b:β):List (α×β) :=
 match l with|[]=>[(a,b)]|p::l=>if a=p.1 then(a,b)::l else p::fZ l a b
def emap(ke:α->V)(ve:β->V)(l:List (α×β)):List (V×V):=l.map λp=>(ke p.1,ve p.2)
def kP(a:α):∀(l:List (α×β)) (k:Nat),(eO a l k).map (·.2)=bZ a l
 |[],_=>rfl
 |p::l,k=>by
  simp only[bZ,eO];split;.rfl
  rw[kP a l (k+1),kP a l (0+1)]
def Je(a:α):bZ a ([]:List (α×β))=Y:=rfl
def jj(a:α)(p:α×β)(l:List (α×β)):bZ a (p::l)=if a=p.1 then N p.2 else bZ a l:=by
 simp only[bZ,eO];split;.rfl
 rw[kP a l (0+1)];rfl
def gf(l:List (α×β))(a:α)(b:β)(x:α):bZ x (fZ l a b)=if x=a then N b else bZ x l:=by
 induction l with
 |nil=>simp only[fZ,jj,Je]
 |cons p l ih =>
 simp only[fZ];split
 .rename_i h;simp only[jj];by_cases c:x=a;.simp[c]
  have:¬x=p.1:=λd=>c (d.trans h.symm);simp[c,this]
 rename_i h;simp only[jj,ih];by_cases c:x=p.1
 .have:¬x=a:=λd=>h (d.symm.trans c);simp only[this,aQ,c,aU];split;.rename_i e;exact absurd e.symm h
  rfl
 simp[c]
def Hv(l:List (α×β))(a:α)(b:β):F (fZ l a b)<=F l+1:=by induction l with|nil=>simp[fZ]|cons p l ih =>simp only[fZ];split<;>simp<;>omega
def NT{l:List (α×β)}{a:α}{b:β}(h:bZ a l=Y):fZ l a b=l++[(a,b)]:=by
 induction l with
 |nil=>rfl
 |cons p l ih =>
 rw[jj]at h;split at h;.simp at h
 rename_i c;simp only[fZ,c,aQ,bo];rw[ih h]
variable {kd:Nat} {ke:α->V} {ve:β->V}
def vm(c:∀a b,cA kd (ke a) (ke b)=N (decide (a=b)))(a:α):∀(l:List (α×β)) (k:Nat),eL kd (ke a) (emap ke ve l) k=N ((eO a l k).map λp=>(p.1,ve p.2))
 |[],k=>rfl
 |p::l,k=>by
  have ih:=vm c a l (k+1);simp only[emap,aC,eL,c,eO]at ih |-;by_cases h:a=p.1;.simp[h]
  simp only[h,uy,aQ];exact ih
def Jq(a:α)(b:β):∀(l:List (α×β)) (k i:Nat) (c:β),eO a l k=N (k+i,c)->(emap ke ve l).set i (ke a,ve b)=emap ke ve (fZ l a b)
 |[],k,i,c,h=>by simp[eO]at h
 |p::l,k,i,c,h=>by
  simp only[eO]at h;by_cases d:a=p.1
  .simp only[d,aU,aa,aB]at h;have:i=0:=by omega
   subst this;simp[emap,fZ,d]
  simp only[d,aQ]at h;have e:∃j,i=j+1:=by
   refine⟨i - 1,?_⟩;have:∀(l:List (α×β)) (k n:Nat) (x:β),eO a l k=N (n,x)->k<=n:=by
    intro l;induction l with
    |nil=>intro k n x h;simp[eO]at h
    |cons q l ih =>
    intro k n x h;simp only[eO]at h;split at h;.simp at h;omega
    have:=ih _ _ _ h;omega
   have:=this _ _ _ _ h;omega
  obtain⟨j,rfl⟩:=e;have:=Jq a b l (k+1) j c (by rw[h];congr 2;omega);simp only[emap,aC,kf,fZ,d,aQ]at this |-;rw[this]
def ka(d:∀a b,cA kd (ke a) (ke b)=N (decide (a=b)))(l:List (α×β))(a:α): (bZ a l=Y/\eL kd (ke a) (emap ke ve l) 0=N Y/\∀b,emap ke ve l++[(ke a,ve b)]=emap ke ve (fZ l a b)) \/(∃i c,bZ a l=N c/\eL kd (ke a) (emap ke ve l) 0=N (N (i,ve c))/\∀b,(emap ke ve l).set i (ke a,ve b)=emap ke ve (fZ l a b)):=by
 cases h:eO a l 0 with
 |none =>
  have e:bZ a l=Y:=by simp[bZ,h]
  refine .inl ⟨e,by rw[vm d,h];rfl,λb=>?_⟩;rw[NT e];simp[emap]
 |some p =>obtain⟨i,c⟩:=p;refine .inr ⟨i,c,by simp[bZ,h],by rw[vm d,h];rfl,λb=>?_⟩;exact Jq a b l 0 i c (by rw[h];congr 2;omega)
end
variable(a:Int)
def keI:V:=.i .i64 a
def K9(b:Int):cA 0 (keI a) (keI b)=N (decide (a=b)):=by simp[cA,keI];rfl
end Go.Bt

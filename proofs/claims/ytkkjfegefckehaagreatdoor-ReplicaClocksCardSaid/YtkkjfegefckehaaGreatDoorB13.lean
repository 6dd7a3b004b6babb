/- A part of the proof of the statement of the last text of this claim; its conditions stand there. -/
import Derived.IntWalk
import Derived.Test.YtkkjfegefckehaaGreatDoorB12
set_option linter.all false

namespace Go.Pm
open Go Go.RowKit
def CD(R:St→Prop)(K:Exit→St→Prop):Exit→St→Prop
 | .normal=>R
 | e=>K e
theorem Jy{R:St→Prop}{K:Exit→St→Prop}:CD R K .normal=R:=rfl
theorem RU{R:St→Prop}{K:Exit→St→Prop}:CD R K .ret=K .ret:=rfl
theorem Pe{R:St→Prop}{K:Exit→St→Prop}{id:Nat}:CD R K (.exit id)=K (.exit id):=rfl
theorem ax{n:Nat}{P:Program}{c:bw}{K:Exit→St→Prop}{N:Nat}{st:St}(h:∀ R:St→Prop,(∀ st',fO n P c K N st'→R st')→BE n P c (CD R K) st):fO n P c K (N+1) st:=by
 refine RT ?_;have:=h (fO n P c K N) fun _ h=>h;have e:CD (fO n P c K N) K=abD n P c K N:=by funext e;cases e<;>rfl
 rw[← e];exact this
theorem GP{n:Nat}{P:Program}{c:bw}{K:Exit→St→Prop}{N:Nat}{fr fr':List V}{σ σ':ag}(h:Wk P n fr σ fr' σ')(k:fO n P c K N ⟨fr',σ'⟩):fO n P c K N ⟨fr,σ⟩:=by
 cases N with
 | zero=>exact k.elim
 | succ N=>exact bA.wk h k
theorem rF{n:Nat}{P:Program}{c:bw}{K:Exit→St→Prop}{N:Nat}{fr fr':List V}{σ loc:ag}(hn:n≤σ.length)(aQ:bP σ)(hc:pH fr fr')(hl:gM σ.length fr')(k:fO n P c K N ⟨fr',σ⟩):fO n P c K N ⟨fr,σ++loc⟩ :=
 GP ((Wk.ej hc).trans (Wk.r3 hn aQ (eX.1 hl))) k
theorem aW{n:Nat}{P:Program}{c:bw}{K:Exit→St→Prop}{N:Nat}{fr fr':List V}{σ:ag}(hc:pH fr fr')(k:fO n P c K N ⟨fr',σ⟩):fO n P c K N ⟨fr,σ⟩ :=
 GP (Wk.ej hc) k
theorem ll{n:Nat}(h:n<2^63):IntKind.i64.wrap (n:Int)=n:=IntWalk.i64_in _ (by omega)
theorem aV{n:Nat}(h:n+1<2^63):IntKind.i64.wrap ((n:Int)+1)=((n+1:Nat):Int):=by rw[IntWalk.i64_in _ (by omega)];omega
theorem ki{α:Type}{f:α→List V}{pre rest:List α}{x:α}{d:List V}:(List.map f (pre++x::rest)).getD pre.length d=f x:=by
 simp[List.getD_eq_getElem?_getD]
theorem lU{α:Type}{f:α→List V}{pre rest:List α}{x:α}{j:Nat}:fe (List.map f (pre++x::rest)) pre.length j=(f x)[j]?:=by
 simp[fe]
theorem aO{P:Program}{rs:List Rs}{Q:V→ag→Prop}{e:Exit}{fr:List V}{σ:ag}{xs:List V}(he:e=.normal∨e=.ret)(hx:kO ⟨fr,σ⟩ rs=some xs)(hQ:Q (one xs) σ):
  BI P σ.length rs Q e ⟨fr,σ⟩:=ed he hx (Wk.refl _ _) rfl hQ
theorem lD{sz:Nat}{xs:List (List V)}(h:(V.sl sz xs).Wf):xs.length<2^63:=by
 cases h with
 | sl _ _ h=>simp only[maxLen]at h;omega
theorem Er{l:List UInt8}(h:(V.s l).Wf):l.length<2^63:=by
 cases h with
 | s _ h=>simp only[maxLen]at h;omega
theorem bA.aW{n:Nat}{P:Program}{c:bw}{K:Exit→St→Prop}{fr fr':List V}{σ:ag}(hc:pH fr fr')(N:Nat)(h:fO n P c K N ⟨fr',σ⟩):bA n P (.loop c) K ⟨fr,σ⟩ :=
 bA.wk (Wk.ej hc) (bA.pd N h)
theorem Xu{a b:Bool}:(bif a then true else b)=(a||b):=by cases a<;>rfl
theorem T6{a b:Bool}:(bif a then b else false)=(a&&b):=by cases a<;>rfl
theorem abB{pre rest:List UInt8}{x:UInt8}{d:UInt8}:(pre++x::rest).getD pre.length d=x:=by
 simp[List.getD_eq_getElem?_getD]
theorem OL{P:Program}{d:Option Nat}{f:Nat}{args:List O}{K:St→Prop}{fr:List V}{σ σ1 σ2:ag}{zs:List V}{v:V}(hw:Wk P σ.length (args.map (ev fr)) σ zs σ1)(h:PC P f zs σ1 (fun r σ'=>r=v∧σ'=σ2))(hK:K ⟨fu fr d v,σ2⟩):
  gI P ⟨d,[],.call f args⟩ K ⟨fr,σ⟩ :=
 ai (PC.wk hw h) rfl hK
theorem ic{P:Program}{d:Option Nat}{f:Nat}{args:List O}{K:St→Prop}{fr:List V}{σ σ2:ag}{zs:List V}{v:V}(hw:pH (args.map (ev fr)) zs)(h:PC P f zs σ (fun r σ'=>r=v∧σ'=σ2))(hK:K ⟨fu fr d v,σ2⟩):
  gI P ⟨d,[],.call f args⟩ K ⟨fr,σ⟩ :=
 ai (PC.wk (Wk.ej hw) h) rfl hK
def bj(n:Int):List V:=[.i .i64 n]
theorem T9{p:Prop}{v w:V}:(∃ ob,some (p,v)=some (ob,w)∧ob)=(v=w∧p):=by
 simp only[aa,aI,eq_iff_iff];exact⟨fun⟨_,⟨h1,h2⟩,h3⟩=>⟨h2,h1.2 h3⟩,fun⟨h1,h2⟩=>⟨p,⟨IT,h1⟩,h2⟩⟩
theorem Ua{p:Prop}{v:V}:(∃ ob r,some (p,v)=some (ob,r)∧ob)=p:=by
 simp only[aa,aI,eq_iff_iff];exact⟨fun⟨_,_,⟨h1,_⟩,h3⟩=>h1.2 h3,fun h=>⟨p,v,⟨IT,rfl⟩,h⟩⟩
theorem qv{l:List Int}{i:Nat}(h:i<l.length):fe (l.map bj) i 0=some (.i .i64 (l.getD i 0)):=by
 simp[fe,bj,h]
theorem gg{P:Program}{rs:List Rs}{Q:V→ag→Prop}{e:Exit}{fr:List V}{σ loc:ag}{xs:List V}(k:Nat){E sz by' g:Nat}{sh:Bool}{rows:List (List V)}(aQ:bP σ)(he:e=.normal∨e=.ret)(hx:kO ⟨fr,σ++loc⟩ rs=some xs)
  (hk:loc[k]?=some (.row E sz by' g sh rows)) (hl:gM σ.length (xs.map (fz (σ.length+k) g sz rows))) (hQ:Q (one (xs.map (fz (σ.length+k) g sz rows))) σ):BI P σ.length rs Q e ⟨fr,σ++loc⟩:=by
 refine ed he hx ((Wk.fz (σ.length+k) (by rw[nC];exact hk)).trans ?_) (by simp) hQ;rw[kb];exact Wk.Fb aQ hl
def tiB(P:Program)(E sz by':Nat):Bool :=
 match P.info? E with
 | some t=>match t.zero with
  | some z=>decide (0<sz)&&(t.size==sz&&(t.bytes==by'&&z.cells.size==sz))
  | none=>false
 | none=>false
theorem nR{P:Program}{E sz by':Nat}(h:tiB P E sz by'=true):Ti P E sz by':=by
 unfold tiB at h;split at h
 ·rename_i t ht;split at h
  ·rename_i z hz;simp only[aC,decide_eq_true_eq,beq_iff_eq]at h;exact⟨h.1,t,z,ht,hz,h.2.1,h.2.2.1,h.2.2.2⟩
  ·simp at h
 ·simp at h
theorem PC.B5{P:Program}{f:Nat}{args:List V}{σ:ag}{v:V}(h:∀ (w:World) (μ:Mem) (vs:Array Value),Yh w σ μ args vs→∃ u,Calls P f vs w (fun e w'=>e=.returned u∧w'=w)∧VR w σ μ v u):
  PC P f args σ (fun r σ'=>r=v∧σ'=σ):=by
 intro B w0 w μ vs hS hv;obtain⟨u,h1,h2⟩:=h w μ vs hv;refine h1.mono ?_;rintro e w' ⟨rfl,rfl⟩;exact⟨v,u,σ,μ,rfl,⟨rfl,rfl⟩,hS,h2,pG.refl _ _ _⟩
theorem Ro{vs:Array Value}(h:vs.size=1):vs=#[vs.getD 0 undef]:=by
 apply Array.ext
 ·simpa using h
 ·intro i h1 h2;have:i=0:=by omega
  subst this;simp[h1]
theorem vs2{vs:Array Value}(h:vs.size=2):vs=#[vs.getD 0 undef,vs.getD 1 undef]:=by
 apply Array.ext
 ·simpa using h
 ·intro i h1 h2;have:i=0∨i=1:=by omega
  rcases this with rfl | rfl<;>simp[h1]
theorem bU{σ l:ag}(h:bP σ)(hl:∀ o∈l,match o with | .box _ cs=>gM (σ.length+l.length) cs | _=>True):bP (σ++l):=by
 intro id T cs hid j x hx;rw[List.length_append];rcases fV id σ.length with fk | OA
 ·rw[aH fk]at hid;exact(h id T cs hid j x hx).mono (Uu _ _)
 ·rw[aN OA]at hid;have:=hl _ (bh hid);simp only at this;exact eX.1 this j x hx
theorem cH{P:Program}{c:bw}{K:Exit→St→Prop}{N:Nat}{fr fr':List V}{σ:ag}(l loc:ag)(aQ:bP (σ++l))(hc:pH fr fr')(hl:gM (σ.length+l.length) fr')(k:fO σ.length P c K N ⟨fr',σ++l⟩):fO σ.length P c K N ⟨fr,σ++(l++loc)⟩:=by
 rw[← List.append_assoc];exact GP ((Wk.ej hc).trans (Wk.r3 (by simp) aQ (by rw[List.length_append];exact eX.1 hl))) k
theorem Wk.nV{P:Program}{n:Nat}{xs:List V}{σ:ag}(loc:ag){k E sz by':Nat}(hT:Ti P E sz by')(hk:xs[k]?=some .nil):Wk P n xs (σ++loc) (xs.set k (.own (σ.length+loc.length) 0)) (σ++(loc++[.row E sz by' 0 false []])):=by
 have:=Wk.gZ (P:=P) (n:=n) (σ:=σ++loc) hT hk
 rwa [List.length_append,List.append_assoc]at this
theorem gK:∀ (l:List UInt8),bytesOf (al l)=some l
 | []=>rfl
 | c::l=>by
  have ih:=gK l;simp only[al,ay,bytesOf,r6]at ih ⊢;rw[ih];simp
theorem dO{a b:List UInt8}:al a++al b=al (a++b):=by simp[al]
theorem aL{a:List UInt8}:(al a).length=a.length:=by simp[al]
def Yv:UnOp→V→Option (Prop×V)
 | .not,.b p=>some (True,.b (!p))
 | .neg,.i k n=>some (True,.i k (k.wrap (0 - n)))
 | _,_=>none
theorem XK(fr:List V)(σ:ag)(op:UnOp)(x:O):bm fr σ (.un op x)=Yv op (ev fr x):=by
 show(match op,ev fr x with
  | .not,.b p=>some (True,V.b (!p))
  | .neg,.i k n=>some (True,V.i k (k.wrap (0 - n)))
  | _,_=>none)=_
 rfl
set_option linter.defProp false in
def EV:=(And.intro (And.intro (And.intro (And.intro (And.intro (And.intro @bm.eq_1 @bm.eq_2) (And.intro @bm.eq_3 @bm.eq_4)) (And.intro (And.intro @bm.eq_5 @bm.eq_6) (And.intro @bm.eq_7 @bm.eq_8))) (And.intro (And.intro (And.intro @bm.eq_9 @XK) (And.intro @Yv.eq_1 (And.intro @Yv.eq_2 @Yv.eq_3))) (And.intro (And.intro @bm.eq_13 @bm.eq_14) (And.intro @bm.eq_15 (And.intro @bm.eq_16 @bm.eq_17))))) (And.intro (And.intro (And.intro (And.intro @bm.eq_18 @bm.eq_19) (And.intro @bm.eq_20 @bm.eq_21)) (And.intro (And.intro @bm.eq_22 @bm.eq_23) (And.intro @bm.eq_24 @bm.eq_25))) (And.intro (And.intro (And.intro @bm.eq_26 @bm.eq_27) (And.intro @bm.eq_28 @bm.eq_29)) (And.intro (And.intro @bm.eq_30 @bm.eq_31) (And.intro @bm.eq_32 (And.intro @cE.eq_1 @cE.eq_2)))))) (And.intro (And.intro (And.intro (And.intro (And.intro @cE.eq_3 @cE.eq_4) (And.intro @cE.eq_5 @cE.eq_6)) (And.intro (And.intro @cE.eq_7 @cE.eq_8) (And.intro @cE.eq_9 @cE.eq_10))) (And.intro (And.intro (And.intro @iE.eq_1 @iE.eq_2) (And.intro @iE.eq_3 @iE.eq_4)) (And.intro (And.intro @iE.eq_5 @iE.eq_6) (And.intro @iE.eq_7 (And.intro @iE.eq_8 @iE.eq_9))))) (And.intro (And.intro (And.intro (And.intro @iE.eq_10 @iE.eq_11) (And.intro @iE.eq_12 @iE.eq_13)) (And.intro (And.intro @iE.eq_14 @iE.eq_15) (And.intro @iE.eq_16 @iE.eq_17))) (And.intro (And.intro (And.intro @iE.eq_18 @iE.eq_19) (And.intro @iE.eq_20 @iE.eq_21)) (And.intro (And.intro @iE.eq_22 @iE.eq_23) (And.intro @iE.eq_24 (And.intro @iE.eq_25 @iE.eq_26)))))))
set_option linter.defProp false in
def W:=And.intro EV <| And.intro (And.intro (And.intro @zm.eq_1 @zl.eq_1) (And.intro (And.intro @zL.eq_1 @zf.eq_1) (And.intro @z.eq_1 @zs.eq_1))) (And.intro (And.intro (And.intro (And.intro (And.intro (And.intro (And.intro @BE.eq_1
 (And.intro @BE.eq_2
 @BE.eq_3))
 (And.intro (And.intro @BE.eq_4
 @BE.eq_5)
 (And.intro @BE.eq_6
 @BE.eq_7)))
 (And.intro (And.intro (And.intro @BE.eq_8
 (And.intro @BE.eq_9 (And.intro (And.intro @BE.eq_10 @OI.eq_1) (And.intro (And.intro (And.intro @BE.eq_11 @Nj.eq_1) (And.intro @Nj.eq_2 (And.intro (And.intro @RN (And.intro @O6 @O7)) (And.intro (And.intro (And.intro @abC.eq_1 (And.intro (And.intro @Tz @Qp) (And.intro @MN (And.intro @MO @MM)))) @aby.eq_1) (And.intro @abx.eq_1 @XU.eq_1))))) (And.intro (And.intro @Uf @QR) (And.intro (And.intro @QI @M3) (And.intro @RI @O3)))))))
 (And.intro @O9
 @RP))
 (And.intro (And.intro @O8
 @RO)
 (And.intro @Js
 @RJ))))
 (And.intro (And.intro (And.intro (And.intro @O4
 @Lj)
 (And.intro @Uh
 @QS))
 (And.intro (And.intro @QT
 @Jy)
 (And.intro @RU
 @Pe)))
 (And.intro (And.intro (And.intro @aaq
 @W1)
 (And.intro @TL
 @Qx))
 (And.intro (And.intro @W7
 @TJ)
 (And.intro @aay
 @aaz)))))
 (And.intro (And.intro (And.intro (And.intro @aaA
 (And.intro @afe
 @aav))
 (And.intro (And.intro @aaB
 @TI)
 (And.intro @Qv
 @aat)))
 (And.intro (And.intro (And.intro @aas
 @W0)
 (And.intro @aau
 @aar))
 (And.intro (And.intro @W5
 @W4)
 (And.intro @W6
 @W3))))
 (And.intro (And.intro (And.intro (And.intro @aax
 @TM)
 (And.intro @TH
 @aaD))
 (And.intro (And.intro @W9
 (And.intro @aff @W8))
 (And.intro @TK
 (And.intro (And.intro @aaw (And.intro @Xa @aaC)) (And.intro @W2 (And.intro @We (And.intro @Wd @Wc)))))))
 (And.intro (And.intro (And.intro @aad
 @WT)
 (And.intro @TE
 @Qs))
 (And.intro (And.intro @WY
 @TD)
 (And.intro @aaj
 @aak))))))
 (And.intro (And.intro (And.intro (And.intro (And.intro @aal
 (And.intro @afd
 @aai))
 (And.intro (And.intro @aam
 @TC)
 (And.intro @Qr
 @aag)))
 (And.intro (And.intro (And.intro @aaf
 @WS)
 (And.intro @aah
 @aae))
 (And.intro (And.intro @WW
 @WV)
 (And.intro @WX
 @WU))))
 (And.intro (And.intro (And.intro (And.intro @V.pure.eq_1
 @V.pure.eq_2)
 (And.intro @V.pure.eq_3
 @V.pure.eq_4))
 (And.intro (And.intro @V.pure.eq_5
 @aaM.eq_1)
 (And.intro @D7.eq_1
 @T9)))
 (And.intro (And.intro (And.intro @Ua
 @U9)
 (And.intro @UO
 @U7))
 (And.intro (And.intro @gX.eq_1
 @gX.eq_2)
 (And.intro @chainB.eq_1
 @chainB.eq_2)))))
 (And.intro (And.intro (And.intro (And.intro @bm.eq_1
 (And.intro @bm.eq_2
 @bm.eq_3))
 (And.intro (And.intro @bm.eq_4
 @bm.eq_5)
 (And.intro @bm.eq_6
 @bm.eq_7)))
 (And.intro (And.intro (And.intro @bm.eq_8
 @bm.eq_9)
 (And.intro @XK
 @Yv.eq_1))
 (And.intro (And.intro (And.intro @Yv.eq_2 @Yv.eq_3)
 @bm.eq_13)
 (And.intro @bm.eq_14
 @bm.eq_15))))
 (And.intro (And.intro (And.intro (And.intro @bm.eq_16
 @bm.eq_17)
 (And.intro @bm.eq_18
 @bm.eq_19))
 (And.intro (And.intro @bm.eq_20
 @bm.eq_21)
 (And.intro @bm.eq_22
 @bm.eq_23)))
 (And.intro (And.intro (And.intro @bm.eq_24
 @bm.eq_25)
 (And.intro @bm.eq_26
 @bm.eq_27))
 (And.intro (And.intro @bm.eq_28
 @bm.eq_29)
 (And.intro @cE.eq_1
 @cE.eq_2)))))))
 (And.intro (And.intro (And.intro (And.intro (And.intro (And.intro @cE.eq_3
 (And.intro @cE.eq_4
 @cE.eq_5))
 (And.intro (And.intro @cE.eq_6
 @cE.eq_7)
 (And.intro @cE.eq_8
 @cE.eq_9)))
 (And.intro (And.intro (And.intro @ev.eq_1
 @ev.eq_2)
 (And.intro @fu.eq_1
 @fu.eq_2))
 (And.intro (And.intro @Xv.eq_1
 @dB.{0,0})
 (And.intro @bd.{0,0}
 @aE.{0}))))
 (And.intro (And.intro (And.intro (And.intro @aT.{0}
 @dU.{0})
 (And.intro @fb.{0}
 @fI.eq_1))
 (And.intro (And.intro @fI.eq_2
 @hY.eq_1)
 (And.intro @hY.eq_2
 @jv.eq_1)))
 (And.intro (And.intro (And.intro @jv.eq_2
 @jv.eq_3)
 (And.intro @jv.eq_4
 @jv.eq_5))
 (And.intro (And.intro @jv.eq_6
 @jv.eq_7)
 (And.intro @dw.eq_1
 @dw.eq_2)))))
 (And.intro (And.intro (And.intro (And.intro @oK.eq_1
 (And.intro @oK.eq_2
 @oK.eq_3))
 (And.intro (And.intro @wK.eq_1
 @wK.eq_2)
 (And.intro @kM.{0}
 @Ef.{0})))
 (And.intro (And.intro (And.intro @afz
 @gW)
 (And.intro @dM
 @true_and))
 (And.intro (And.intro @and_true
 @and_self)
 (And.intro @gr
 @nC))))
 (And.intro (And.intro (And.intro (And.intro @QU
 @kb)
 (And.intro @Un
 @ab.{0}))
 (And.intro (And.intro @ah.{0}
 @ao.{0})
 (And.intro @bQ.{0}
 @List.getElem?_nil.{0})))
 (And.intro (And.intro (And.intro @bC
 @aK)
 (And.intro @aB
 @iE.eq_1))
 (And.intro (And.intro @iE.eq_2
 @iE.eq_3)
 (And.intro @iE.eq_4
 @iE.eq_5))))))
 (And.intro (And.intro (And.intro (And.intro (And.intro @iE.eq_6
 (And.intro @iE.eq_7
 @iE.eq_8))
 (And.intro (And.intro @iE.eq_9
 @iE.eq_10)
 (And.intro @iE.eq_11
 @iE.eq_12)))
 (And.intro (And.intro (And.intro @iE.eq_13
 @iE.eq_14)
 (And.intro @iE.eq_15
 @iE.eq_16))
 (And.intro (And.intro @iE.eq_17
 @iE.eq_18)
 (And.intro @iE.eq_19
 @iE.eq_20))))
 (And.intro (And.intro (And.intro (And.intro @iE.eq_21
 @iE.eq_22)
 (And.intro @iE.eq_23
 @iE.eq_24))
 (And.intro (And.intro @iE.eq_25
 @iE.eq_26)
 (And.intro @an
 @fJ.{0})))
 (And.intro (And.intro (And.intro @afv.{0}
 @cC.{0})
 (And.intro @mg.{0}
 @afx.{0}))
 (And.intro (And.intro @gN.{0}
 @ak.{0})
 (And.intro @aq.{0}
 @bf.{0})))))
 (And.intro (And.intro (And.intro (And.intro @List.append_assoc.{0}
 (And.intro @ay.{0,0}
 @az.{0,0}))
 (And.intro (And.intro (And.intro @forall_const.{0} @forall_const.{1})
 @imp_self)
 (And.intro @beq_self_eq_true.{0}
 @bV.{0})))
 (And.intro (And.intro (And.intro @eq_self.{1}
 @bD.{0})
 (And.intro @false_imp_iff
 (And.intro @implies_true.{0} @implies_true.{1})))
 (And.intro (And.intro @gU
 @jS)
 (And.intro @cond_true.{1}
 @cond_false.{1}))))
 (And.intro (And.intro (And.intro (And.intro @Xu
 @T6)
 (And.intro @abB
 @ki))
 (And.intro (And.intro @lU
 @rowsOf.eq_1)
 (And.intro @rowsOf.eq_2
 @rowsOf.eq_3)))
 (And.intro (And.intro (And.intro @rowsOf.eq_4
 @rowsOf.eq_5)
 (And.intro @rowsOf.eq_6
 @zJ.eq_1))
 (And.intro (And.intro @zJ.eq_2
 @zJ.eq_3)
 (And.intro @zJ.eq_4
 @zJ.eq_5))))))))
set_option linter.defProp false in
def VV:=And.intro W (And.intro (And.intro (And.intro @cE.eq_10 (And.intro @Bool.true_or @kN)) (And.intro (And.intro @Bool.or_true @Bool.or_false) (And.intro @yf @gV)))
 (And.intro (And.intro @QZ (And.intro @bytesOf.eq_1 @bytesOf.eq_2)) (And.intro @r6.eq_1 (And.intro @r6.eq_2 @UInt8.ofNat_toNat))))
set_option linter.defProp false in
def SS:=(And.intro (And.intro @ab.{0} (And.intro @ah.{0} @List.replicate_zero.{0})) (And.intro @Lq.{0} (And.intro @aq.{0} @ak.{0})))
set_option linter.defProp false in
def RS:=And.intro (And.intro (And.intro @kO.eq_1 @kO.eq_2) (And.intro @sj.eq_1 @sj.eq_2)) VV
set_option linter.defProp false in
def LW:=(And.intro (And.intro (And.intro (And.intro @gM.eq_1 (And.intro @gM.eq_2 @aE.{0})) (And.intro @aT.{0} (And.intro @aec @aeh))) (And.intro (And.intro @Vs (And.intro @aed @Y1)) (And.intro @Y2 (And.intro @uG @aeg)))) (And.intro (And.intro (And.intro @PT (And.intro @PS @Y0)) (And.intro @YZ (And.intro @Sx @aee))) (And.intro (And.intro @aef (And.intro @Y3 @YY)) (And.intro @and_true (And.intro @true_and @and_self)))))
theorem VR.XP{w:World}{σ:ag}{μ:Mem}{σ':ag}{μ':Mem}{x:V}{v:Value}(h:VR w σ μ x v){m:Nat}(hm:m≤σ'.length)
  (hw:∀ b off,wr σ' μ' b off→wr σ μ b off) (dY:∀ id,id<m→σ'[id]?=σ[id]?) (zi:∀ id,id<m→μ' id=μ id) (hx:x.Lt m):VR w σ' μ' x v:=by
 induction h with
 | u v=>exact .u v
 | b x=>exact .b x
 | i k n=>exact .i k n
 | s l x hl hm=>exact .s l x hl hm
 | nil=>exact .nil
 | yq sz=>exact .yq sz
 | sle sz a=>exact .sle sz a
 | sl sz xs b o cap f hlen nI cP hc hv ih =>
  exact .sl sz xs b o cap f hlen nI cP (fun i j x hx=>⟨(hc i j x hx).1,fun h=>(hc i j x hx).2.1 (hw _ _ h),(hc i j x hx).2.2⟩) (fun i j x hx=>ih i j x hx (kY (hc i j x hx).2.2 m))
 | HY sz=>exact .HY sz
 | lit sz xs b o f nI cP hc hv ih =>
  exact .lit sz xs b o f nI cP (fun i j x hx=>⟨(hc i j x hx).1,fun h=>(hc i j x hx).2.1 (hw _ _ h),(hc i j x hx).2.2⟩) (fun i j x hx=>ih i j x hx (kY (hc i j x hx).2.2 m))
 | own id g v hid h =>
  cases hx with
  | own _ _ hl=>exact .own id g v (by omega) fun E sz by' g' sh xs ho=>by rw[zi id hl];exact h E sz by' g' sh xs (dY id hl▸ho)
 | sub id g lo hi v hid h =>
  cases hx with
  | sub _ _ _ _ hl=>exact .sub id g lo hi v (by omega) fun E sz by' g' sh xs ho=>by rw[zi id hl];exact h E sz by' g' sh xs (dY id hl▸ho)
 | ptr id off b h hm =>
  cases hx with
  | ptr _ _ hl =>
   obtain⟨T,cs,h1⟩:=h;exact .ptr id off b ⟨T,cs,(dY id hl).trans h1⟩ ((zi id hl).trans hm)
 | ep sz xs i off b o f hi cP hc hv ih =>
  exact .ep sz xs i off b o f hi cP (fun j x hx=>⟨(hc j x hx).1,fun h=>(hc j x hx).2.1 (hw _ _ h),(hc j x hx).2.2⟩) (fun j x hx=>ih j x hx (kY (hc j x hx).2.2 m))
 | rp id g i off v hid h =>
  cases hx with
  | rp _ _ _ _ hl=>exact .rp id g i off v (by omega) fun E sz by' g' sh xs ho=>by rw[zi id hl];exact h E sz by' g' sh xs (dY id hl▸ho)
 | mp id r h hm =>
  cases hx with
  | mp _ hl =>
   obtain⟨K,E,es,h1⟩:=h;exact .mp id r ⟨K,E,es,(dY id hl).trans h1⟩ ((zi id hl).trans hm)
 | jc=>exact .jc
 | jO=>exact .jO
 | fn f caps vs hl hv ih =>
  cases hx with
  | fn _ _ h=>exact .fn f caps vs hl fun i x hx=>ih i x hx (h i x hx)
 | agg xs vs hl hv ih =>
  cases hx with
  | agg _ h=>exact .agg xs vs hl fun i x hx=>ih i x hx (h i x hx)
 | iK xs vs hl hv ih =>
  cases hx with
  | iK _ h=>exact .iK xs vs hl fun i x hx=>ih i x hx (h i x hx)
def Vp(n k:Nat):V→V
 | .own id g=>if id=n+k then .own n 0 else .own id g
 | .mp id=>.mp (if id=n+k then n else id)
 | x=>x
def Ob.gen:Ob→Nat
 | .row _ _ _ g _ _=>g
 | _=>0
def Ob.fresh:Ob→Ob
 | .row E sz by' _ sh xs=>.row E sz by' 0 sh xs
 | o=>o
def ES(n k g0:Nat):V→Prop
 | .own id g=>(id=n+k∧g=g0)∨id<n
 | .mp id=>id=n+k∨id<n
 | x=>x.Lt n
def Ob.flat:Ob→Bool
 | .row _ _ _ _ _ _ | .map _ _ _=>true
 | _=>false
theorem Wk.aem{P:Program}{xs:List V}{σ loc:ag}(k:Nat){o:Ob}(aQ:bP σ)(hk:loc[k]?=some o)(ho:o.flat=true)(hx:∀ x∈xs,ES σ.length k o.gen x):
  Wk P σ.length xs (σ++loc) (xs.map (Vp σ.length k)) (σ++[o.fresh]):=by
 intro B w0 w μ vs hS hC;have tJ:k<loc.length:=(ae.1 hk).1;let μ':Mem:=fun j=>if j=σ.length then μ (σ.length+k)else μ j
 have zi:∀ id,id<σ.length→μ' id=μ id:=fun id h=>by simp only[μ'];rw[if_neg (by omega)]
 have Ql:μ' σ.length=μ (σ.length+k):=by simp[μ']
 have dY:∀ id,id<σ.length→(σ++[o.fresh])[id]?=(σ++loc)[id]?:=fun id h=>by rw[aH h,aH h]
 have h0:(σ++[o.fresh])[σ.length]?=some o.fresh:=by simp
 have hk':(σ++loc)[σ.length+k]?=some o:=by rw[aN (by omega),cx];exact hk
 have cases0:∀ {id o'},(σ++[o.fresh])[id]?=some o'→(id<σ.length∧(σ++loc)[id]?=some o'∧μ' id=μ id)∨(id=σ.length∧o'=o.fresh):=by
  intro id o' h;rcases fV id σ.length with hl | hg
  ·exact .inl ⟨hl,dY id hl▸h,zi id hl⟩
  ·right;have fk:=(ae.1 h).1;simp at fk;have:id=σ.length:=by omega
   subst this;rw[h0]at h;exact⟨rfl,(dJ h).symm⟩
 have hw:∀ b off,wr (σ++[o.fresh]) μ' b off→wr (σ++loc) μ b off:=by
  rintro b off ⟨id,o',h1,h2,h3⟩;rcases cases0 h1 with⟨h4,h5,h6⟩ | ⟨rfl,rfl⟩
  ·exact⟨id,o',h5,h6▸h2,h3⟩
  ·exact⟨σ.length+k,o,hk',Ql▸h2,by cases o<;>exact h3⟩
 have mv:∀ {x v},VR w (σ++loc) μ x v→x.Lt σ.length→VR w (σ++[o.fresh]) μ' x v:=fun h hl=>h.XP (m:=σ.length) (by simp) hw dY zi hl;refine⟨μ',⟨hS.below,hS.base,fun id o' ho'=>?_,fun i j oi oj b hi hj h1 h2 h3 h4=>?_⟩,⟨by simp[hC.1],fun i y hy=>?_⟩,fun x v hv hl=>mv hv hl⟩
 ·rcases cases0 ho' with⟨h4,h5,h6⟩ | ⟨rfl,rfl⟩
  ·have ff:=hS.obj id o' h5;rw[h6];cases o' with
   | dead=>trivial
   | box T cs =>
    obtain⟨b,us,h1,h2,h3,h4',h5'⟩:=ff;have qV:=aQ id T cs (by rwa [aH h4]at h5);exact⟨b,us,h1,h2,h3,h4',fun j x hj=>let ⟨u,h6,h7⟩:=h5' j x hj;⟨u,h6,mv h7 (qV j x hj)⟩⟩
   | row E sz by' g sh rows =>
    obtain⟨h1,vals,h2,h3⟩:=ff;exact⟨h1,vals,h2,h3.1,fun i j x hj=>let ⟨h4,u,h5,h6⟩:=h3.2 i j x hj;⟨h4,u,h5,mv h6 (kY h4 _)⟩⟩
   | map K E es =>
    obtain⟨r,ents,clock,h1,h2,h3,h4⟩:=ff;exact⟨r,ents,clock,h1,h2,h3,h4.1,fun i k x hi=>let ⟨h5,h6,e,h7,h8,h9⟩:=h4.2.1 i k x hi;⟨h5,h6,e,h7,mv h8 (vP h5 _),mv h9 (vO h6 _)⟩,h4.2.2⟩
  ·have ff:=hS.obj (σ.length+k) o hk';rw[Ql];cases o with
   | dead=>trivial
   | box T cs=>simp[Ob.flat]at ho
   | row E sz by' g sh rows =>
    obtain⟨h1,vals,h2,h3⟩:=ff;exact⟨h1,vals,h2,h3.1,fun i j x hj=>let ⟨h4,u,h5,h6⟩:=h3.2 i j x hj;⟨h4,u,h5,mv h6 (kY h4 _)⟩⟩
   | map K E es =>
    obtain⟨r,ents,clock,h1,h2,h3,h4⟩:=ff;exact⟨r,ents,clock,h1,h2,h3,h4.1,fun i k x hi=>let ⟨h5,h6,e,h7,h8,h9⟩:=h4.2.1 i k x hi;⟨h5,h6,e,h7,mv h8 (vP h5 _),mv h9 (vO h6 _)⟩,h4.2.2⟩
 ·rcases cases0 hi with⟨i1,i2,i3⟩ | ⟨rfl,rfl⟩<;>rcases cases0 hj with⟨j1,j2,j3⟩ | ⟨rfl,rfl⟩
  ·exact hS.sep i j oi oj b i2 j2 h1 h2 (i3▸h3) (j3▸h4)
  ·have:=hS.sep i (σ.length+k) oi o b i2 hk' h1 (by rintro rfl;exact h2 rfl) (i3▸h3) (Ql▸h4);omega
  ·have:=hS.sep (σ.length+k) j o oj b hk' j2 (by rintro rfl;exact h1 rfl) h2 (Ql▸h3) (j3▸h4);omega
  ·rfl
 ·rw[aZ,ar]at hy;obtain⟨x,tC,rfl⟩:=hy;have hv:=hC.2 i x tC;have fD:=hx x (bh tC);cases x with
  | own id g =>
   simp only[Vp];split
   ·rename_i e;subst e
    have hg:g=o.gen:=by
     simp only[ES,true_and]at fD;omega
    cases o with
    | row E sz by' g' sh rows =>
     have hvv:g'=g:=hg.symm;subst hvv;have h1:=hv.lX hk';refine .own _ _ _ (by simp) fun E2 sz2 by2 g2 sh2 xs2 ho'=>?_;rw[h0]at ho';simp only[Ob.fresh,aa,Ob.row.injEq]at ho';rw[Ql];exact⟨iF _,fun _=>h1⟩
    | _=>exact .own _ _ _ (by simp) fun E2 sz2 by2 g2 sh2 xs2 ho'=>by rw[h0]at ho';simp[Ob.fresh]at ho'
   ·rename_i e;simp only[ES,e,false_and,false_or]at fD;exact mv hv (.own _ _ fD)
  | mp id =>
   simp only[Vp];split
   ·rename_i e;subst e;obtain⟨r,h1,h2,K,E,es,h3⟩:=hv.H8;rw[h1];refine .mp _ r ⟨K,E,es,?_⟩ (Ql.trans h2);rw[h0];have h4:=hk'.symm.trans h3;simp only[aa]at h4;subst h4;rfl
   ·rename_i e;simp only[ES,e,false_or]at fD;exact mv hv (.mp _ fD)
  | _=>exact mv hv fD
theorem yz{P:Program}{rs:List Rs}{Q:V→ag→Prop}{e:Exit}{fr:List V}{σ loc:ag}{xs:List V}(k:Nat){o:Ob}(aQ:bP σ)(he:e=.normal∨e=.ret)(hx:kO ⟨fr,σ++loc⟩ rs=some xs)
  (hk:loc[k]?=some o) (ho:o.flat=true) (hl:∀ x∈xs,ES σ.length k o.gen x) (hQ:Q (one (xs.map (Vp σ.length k))) (σ++[o.fresh])):BI P σ.length rs Q e ⟨fr,σ++loc⟩ :=
 ed he hx (Wk.aem k aQ hk ho hl) (by simp) hQ
theorem PC.post{P:Program}{f:Nat}{args:List V}{σ σ0 σ1:ag}{r0 r1:V}(h:PC P f args σ (fun r σ'=>r=r0∧σ'=σ0))(hw:Wk P σ.length [r0] σ0 [r1] σ1):PC P f args σ (fun r σ'=>r=r1∧σ'=σ1):=by
 intro B w0 w μ vs hS hv;have F0:∀ x u,VR w σ μ x u→x.Lt σ.length:=fun x u h=>h.lt;refine(h B w0 w μ vs hS hv).mono ?_;rintro e w' ⟨r,v,σ',μ',he,⟨rfl,rfl⟩,h1,h2,h3⟩
 obtain⟨μ2,h4,h5,h6⟩:=hw B w0 w' μ' #[v] h1 ⟨rfl,fun i x hx=>by
  cases i with
  | zero=>simp only[ao,aa]at hx;subst hx;simpa using h2
  | succ i=>simp at hx⟩
 exact⟨r1,v,σ1,μ2,he,⟨rfl,rfl⟩,h4,by have:=h5.2 0 r1 rfl;simpa using this,fun x u hx=>h6 x u (h3 x u hx) (F0 x u hx)⟩
theorem PC.fz{P:Program}{f:Nat}{args:List V}{σ:ag}{E sz by' g:Nat}{sh:Bool}{rows:List (List V)}(aQ:bP σ)
  (h:PC P f args σ (fun r σ'=>r=.own σ.length g∧σ'=σ++[.row E sz by' g sh rows])):PC P f args σ (fun r σ'=>r=.sl sz rows∧σ'=σ):=by
 refine h.post ?_;refine(Wk.fz σ.length (by simp;exact⟨rfl,rfl,rfl,rfl,rfl,rfl⟩)).trans ?_;rw[fT _ _ (aB _),iu];simp only[ay,az,Pm.fz,kc,and_self,if_true];exact Wk.Fb aQ (by simp only[gM,uG,and_self])
theorem oD{P:Program}{d:Option Nat}{f:Nat}{args:List O}{K:St→Prop}{fr:List V}{σ σ2:ag}{zs:List V}{v:V}(id:Nat){E sz by' g:Nat}{sh:Bool}{rows:List (List V)}(ho:σ[id]?=some (.row E sz by' g sh rows))
  (h:PC P f zs (σ.set id (.row E sz by' g true rows)) (fun r σ'=>r=v∧σ'=σ2)) (hz:(args.map (ev fr)).map (fz id g sz rows)=zs) (hK:K ⟨fu fr d v,σ2⟩) :
  gI P ⟨d,[],.call f args⟩ K ⟨fr,σ⟩:=by
 subst hz;exact ai (PC.wk (Wk.fz id ho) h) rfl hK
theorem PC.closed{P:Program}{f:Nat}{args:List V}{σ:ag}{Q:V→ag→Prop}(h:bP σ→PC P f args σ Q):PC P f args σ Q :=
 fun B w0 w μ vs hS hv=>h hS.closed B w0 w μ vs hS hv
theorem Wk.cell{P:Program}{n:Nat}{xs:List V}{σ:ag}{id T j:Nat}{cs:List V}{x y:V}(hid:σ[id]?=some (.box T cs))(hj:cs[j]?=some x)
  (hv:∀ (w:World) (μ:Mem) (v:Value),(∀ i o,σ[i]?=some o→∃ P B,Fm P B w σ μ (μ i) o)→VR w σ μ x v→VR w σ μ y v):Wk P n xs σ xs (σ.set id (.box T (cs.set j y))):=by
 intro B w0 w μ vs hS hC;have fk:id<σ.length:=(ae.1 hid).1;have xO:j<cs.length:=(ae.1 hj).1
 have h:=hS.update (w':=w) (σ':=σ.set id (.box T (cs.set j y))) (μ':=μ) id none (grownBy_refl w none) (by simp) (by simp) (fun k hk=>bn (fun e=>hk e.symm)) (fun k hk=>rfl)
  (fun b hb=>.inl ⟨_,hid,by simp,hb⟩)
  (fun b off v o ho hd hb hc hw=>⟨hc,fun o' ho' hb' ha=>hw ⟨id,o,ho,hb,by
   rw[hid]at ho;cases ho;trivial⟩⟩)
  (fun T' cs' h=>by rw[hid]at h;cases h;exact⟨⟨_,by rw[aF fk]⟩,rfl⟩)
  (fun K E es h=>by rw[hid]at h;cases h)
  (fun E sz by' g' sh ys _ h=>by rw[aF fk]at h;simp at h)
  (fun hp o ho=>by
   rw[aF fk]at ho;simp only[aa]at ho;subst ho;obtain⟨b,us,h1,h2,h3,h4,h5⟩:=hS.obj id _ hid;refine⟨b,us,h1,h2,h3,by simpa using h4,fun k z hz=>?_⟩
   by_cases hk:j=k
   ·subst hk;rw[aF xO]at hz;simp only[aa]at hz;subst hz;obtain⟨u,h6,h7⟩:=h5 j x hj;exact⟨u,h6,(hv w μ u (fun i o ho=>⟨P,B,hS.obj i o ho⟩) h7).mono hp⟩
   ·rw[bn hk]at hz;obtain⟨u,h6,h7⟩:=h5 k z hz;exact⟨u,h6,h7.mono hp⟩)
 exact⟨μ,h.1,⟨hC.1,fun i x hx=>(hC.2 i x hx).mono h.2⟩,h.2.bY.Nv⟩
theorem Wk.abE{P:Program}{n:Nat}{xs:List V}{σ:ag}{id T j idr E sz by' g:Nat}{cs:List V}{sh:Bool}{rows:List (List V)}(hid:σ[id]?=some (.box T cs))(hj:cs[j]?=some .nil)(hr:σ[idr]?=some (.row E sz by' g sh rows)):
  Wk P n xs σ xs ((σ.set idr (.row E sz by' (g+1) false [])).set id (.box T (cs.set j (.own idr (g+1))))):=by
 have iQ:id≠idr:=fun e=>by subst e;rw[hid]at hr;cases hr
 intro B w0 w μ vs hS hC;have hlr:idr<σ.length:=(ae.1 hr).1;obtain⟨hT,_⟩:=hS.obj idr _ hr
 have h:=hS.update (w':=w) (σ':=σ.set idr (.row E sz by' (g+1) false [])) (μ':=wu μ idr (.slice none 0 0)) idr none (grownBy_refl w none) (by simp) (by simp) (fun k hk=>bn (fun e=>hk e.symm)) (fun k hk=>vD _ _ _ _ hk)
  (fun b hb=>by rw[fo]at hb;simp[lf]at hb)
  (fun b off v o ho hd hb hc hw=>⟨hc,fun o' ho' hb'=>by rw[fo]at hb';simp[lf]at hb'⟩)
  (fun T' cs' h=>by rw[hr]at h;cases h)
  (fun K E es h=>by rw[hr]at h;cases h)
  (fun E2 sz2 by2 g' sh2 ys _ h=>by
   rw[aF hlr]at h;simp only[aa,Ob.row.injEq]at h;obtain⟨rfl,rfl,rfl,rfl,rfl,rfl⟩:=h;exact⟨g,sh,rows,hr,by omega,fun e=>by omega⟩)
  (fun hp o ho=>by
   rw[aF hlr]at ho;simp only[aa]at ho;subst ho;rw[fo];exact⟨hT,[],World.ownsRow_nil w B E sz,by simp,by simp[fe]⟩)
 have BS:(σ.set idr (.row E sz by' (g+1) false []))[id]?=some (.box T cs):=by rw[bn (fun e=>iQ e.symm)];exact hid
 have ZN:(σ.set idr (.row E sz by' (g+1) false []))[idr]?=some (.row E sz by' (g+1) false []):=by rw[aF hlr]
 have DB:id<(σ.set idr (.row E sz by' (g+1) false [])).length:=(ae.1 BS).1;have xO:j<cs.length:=(ae.1 hj).1
 have h2:=h.1.update (w':=w) (σ':=(σ.set idr (.row E sz by' (g+1) false [])).set id (.box T (cs.set j (.own idr (g+1))))) (μ':=wu μ idr (.slice none 0 0)) id none (grownBy_refl w none) (by simp) (by simp) (fun k hk=>bn (fun e=>hk e.symm)) (fun k hk=>rfl)
  (fun b hb=>.inl ⟨_,BS,by simp,hb⟩)
  (fun b off v o ho hd hb hc hw=>⟨hc,fun o' ho' hb' ha=>hw ⟨id,o,ho,hb,by
   rw[BS]at ho;cases ho;trivial⟩⟩)
  (fun T' cs' h=>by rw[BS]at h;cases h;exact⟨⟨_,by rw[aF DB]⟩,rfl⟩)
  (fun K E es h=>by rw[BS]at h;cases h)
  (fun E sz by' g' sh ys _ h=>by rw[aF DB]at h;simp at h)
  (fun hp o ho=>by
   rw[aF DB]at ho;simp only[aa]at ho;subst ho;obtain⟨b,us,h1,h2,h3,h4,h5⟩:=h.1.obj id _ BS;refine⟨b,us,h1,h2,h3,by simpa using h4,fun k z hz=>?_⟩
   by_cases hk:j=k
   ·subst hk;rw[aF xO]at hz;simp only[aa]at hz;subst hz;obtain⟨u,h6,h7⟩:=h5 j .nil hj;have hu:=h7.lG;subst hu;have:=(VR.qc (w:=w) (μ:=wu μ idr (.slice none 0 0)) ZN);rw[fo]at this;exact⟨_,h6,this.mono hp⟩
   ·rw[bn hk]at hz;obtain⟨u,h6,h7⟩:=h5 k z hz;exact⟨u,h6,h7.mono hp⟩)
 exact⟨_,h2.1,⟨hC.1,fun i x hx=>((hC.2 i x hx).mono h.2).mono h2.2⟩,fun x v hv hl=>(hv.mono h.2).mono h2.2⟩
theorem Wk.vd{P:Program}{n:Nat}{xs:List V}{σ:ag}{id T j E sz by':Nat}{cs:List V}(hT:Ti P E sz by')(hid:σ[id]?=some (.box T cs))(hj:cs[j]?=some .nil):
  Wk P n xs σ xs ((σ.set id (.box T (cs.set j (.own σ.length 0))))++[.row E sz by' 0 false []]):=by
 intro B w0 w μ vs hS hC;have fk:id<σ.length:=(ae.1 hid).1;have hn:=hS.uE (w':=w) (.row E sz by' 0 false []) (.slice none 0 0) (grownBy_refl w none) (by simp[lf]) (fun _=>⟨hT,[],World.ownsRow_nil w B E sz,by simp,by simp[fe]⟩);have hr:(σ++[.row E sz by' 0 false []])[σ.length]?=some (.row E sz by' 0 false []):=by simp
 have BS:(σ++[.row E sz by' 0 false []])[id]?=some (.box T cs):=by rw[aH fk];exact hid
 have DB:id<(σ++[Ob.row E sz by' 0 false []]).length:=by simp;omega
 have xO:j<cs.length:=(ae.1 hj).1;have he:(σ.set id (.box T (cs.set j (.own σ.length 0))))++[Ob.row E sz by' 0 false []]=(σ++[Ob.row E sz by' 0 false []]).set id (.box T (cs.set j (.own σ.length 0))):=by rw[IL _ _ fk]
 rw[he]
 have h2:=hn.1.update (w':=w) (σ':=(σ++[Ob.row E sz by' 0 false []]).set id (.box T (cs.set j (.own σ.length 0)))) (μ':=wu μ σ.length (.slice none 0 0)) id none (grownBy_refl w none) (by simp) (by simp) (fun k hk=>bn (fun e=>hk e.symm)) (fun k hk=>rfl)
  (fun b hb=>.inl ⟨_,BS,by simp,hb⟩)
  (fun b off v o ho hd hb hc hw=>⟨hc,fun o' ho' hb' ha=>hw ⟨id,o,ho,hb,by
   rw[BS]at ho;cases ho;trivial⟩⟩)
  (fun T' cs' h=>by rw[BS]at h;cases h;exact⟨⟨_,by rw[aF DB]⟩,rfl⟩)
  (fun K E es h=>by rw[BS]at h;cases h)
  (fun E sz by' g' sh ys _ h=>by rw[aF DB]at h;simp at h)
  (fun hp o ho=>by
   rw[aF DB]at ho;simp only[aa]at ho;subst ho;obtain⟨b,us,h1,h2,h3,h4,h5⟩:=hn.1.obj id _ BS;refine⟨b,us,h1,h2,h3,by simpa using h4,fun k z hz=>?_⟩
   by_cases hk:j=k
   ·subst hk;rw[aF xO]at hz;simp only[aa]at hz;subst hz;obtain⟨u,h6,h7⟩:=h5 j .nil hj;have hu:=h7.lG;subst hu;have:=(VR.qc (w:=w) (μ:=wu μ σ.length (.slice none 0 0)) hr);rw[fo]at this;exact⟨_,h6,this.mono hp⟩
   ·rw[bn hk]at hz;obtain⟨u,h6,h7⟩:=h5 k z hz;exact⟨u,h6,h7.mono hp⟩)
 exact⟨_,h2.1,⟨hC.1,fun i x hx=>((hC.2 i x hx).mono hn.2).mono h2.2⟩,fun x v hv hl=>(hv.mono hn.2).mono h2.2⟩
theorem bA.cut{n:Nat}{P:Program}{a b:bw}{K:Exit→St→Prop}{st:St}(h:∀ R:St→Prop,(∀ st',bA n P b K st'→R st')→BE n P a (CD R K) st):bA n P (.seq a b) K st:=by
 refine bA.seq ?_;refine(aj (h (bA n P b K) fun _ h=>h)).mono fun e st' hk=>?_;cases e<;>exact hk
theorem bA.ej{n:Nat}{P:Program}{c:bw}{K:Exit→St→Prop}{fr fr':List V}{σ:ag}(k:bA n P c K ⟨fr',σ⟩)(hc:pH fr fr'):bA n P c K ⟨fr,σ⟩:=bA.wk (Wk.ej hc) k
theorem bA.drop{n:Nat}{P:Program}{c:bw}{K:Exit→St→Prop}{fr fr':List V}{σ:ag}(l loc:ag)(hn:n≤σ.length+l.length)(aQ:bP (σ++l))(hc:pH fr fr')(hl:gM (σ.length+l.length) fr')(k:bA n P c K ⟨fr',σ++l⟩):bA n P c K ⟨fr,σ++(l++loc)⟩:=by
 rw[← List.append_assoc];exact bA.wk ((Wk.ej hc).trans (Wk.r3 (by rw[List.length_append];exact hn) aQ (by rw[List.length_append];exact eX.1 hl))) k
theorem Bu{σ l l':ag}(h:bP (σ++l))(hl:l.length≤l'.length)(hb:∀ o∈l',match o with | .box _ cs=>gM (σ.length+l'.length) cs | _=>True):bP (σ++l'):=by
 intro id T cs hid j x hx;rw[List.length_append];rcases fV id σ.length with fk | OA
 ·rw[aH fk]at hid;have:=h id T cs (by rw[aH fk];exact hid) j x hx;rw[List.length_append]at this;exact this.mono (by omega)
 ·rw[aN OA]at hid;have:=hb _ (bh hid);simp only at this;exact eX.1 this j x hx
theorem Af{n:Nat}{P:Program}{c:bw}{K:Exit→St→Prop}{N:Nat}{st:St}(h:∀ R:St→Prop,(∀ st',fO n P c K N st'→R st')→bA n P c (CD R K) st):fO n P c K (N+1) st:=by
 simp only[fO];exact(h (fO n P c K N) fun _ h=>h).mono fun e st' hk=>by cases e<;>exact hk
theorem bA.T0{n:Nat}{P:Program}{a b:bw}{K:Exit→St→Prop}{st:St}(h:∀ R:St→Prop,(∀ st',bA n P b K st'→R st')→bA n P a (CD R K) st):bA n P (.seq a b) K st:=by
 refine bA.seq ?_;refine(h (bA n P b K) fun _ h=>h).mono fun e st' hk=>?_;cases e<;>exact hk
theorem bA.lf{n:Nat}{P:Program}{id:Nat}{c:bw}{K:Exit→St→Prop}{st:St}(h:bA n P c (Ed id K) st):bA n P (.block id c) K st :=
 bA.block (h.mono fun e st' hk=>by
  cases e with
  | exit id' =>
   simp only[Ed]at hk;simp only[AO];split at hk<;>rename_i h1<;>simp only[h1,if_true,if_false]<;>exact hk
  | _=>exact hk)
theorem bA.ahZ{n:Nat}{P:Program}{c:O}{x y:bw}{K:Exit→St→Prop}{st:St}(hb:ev st.fr c=.b true)(h:bA n P x K st):bA n P (.ite c x y) K st :=
 bA.ite hb (fun _=>h) (fun h=>by cases h)
theorem bA.ah0{n:Nat}{P:Program}{c:O}{x y:bw}{K:Exit→St→Prop}{st:St}(hb:ev st.fr c=.b false)(h:bA n P y K st):bA n P (.ite c x y) K st :=
 bA.ite hb (fun h=>by cases h) (fun _=>h)
theorem Wk.TN{P:Program}{n:Nat}{xs:List V}{σ loc:ag}(k:Nat){E sz by' g:Nat}{sh:Bool}{rows:List (List V)}(hk:loc[k]?=some (.row E sz by' g sh rows)):
  Wk P n xs (σ++loc) (xs.map (Pm.fz (σ.length+k) g sz rows)) (σ++loc.set k (.row E sz by' g true rows)):=by
 have:=Wk.fz (P:=P) (n:=n) (xs:=xs) (σ:=σ++loc) (σ.length+k) (by rw[nC];exact hk)
 rwa [kb]at this
theorem Wk.cellS{P:Program}{n:Nat}{xs:List V}{σ:ag}{id T j:Nat}{cs:List V}{x y:V}(hid:σ[id]?=some (.box T cs))(hj:cs[j]?=some x)
  (hv:∀ (B:Nat) (w0 w:World) (μ:Mem) (v:Value),jw P B w0 w σ μ→VR w σ μ x v→VR w σ μ y v):Wk P n xs σ xs (σ.set id (.box T (cs.set j y))):=by
 intro B w0 w μ vs hS hC;have fk:id<σ.length:=(ae.1 hid).1;have xO:j<cs.length:=(ae.1 hj).1
 have h:=hS.update (w':=w) (σ':=σ.set id (.box T (cs.set j y))) (μ':=μ) id none (grownBy_refl w none) (by simp) (by simp) (fun k hk=>bn (fun e=>hk e.symm)) (fun k hk=>rfl)
  (fun b hb=>.inl ⟨_,hid,by simp,hb⟩)
  (fun b off v o ho hd hb hc hw=>⟨hc,fun o' ho' hb' ha=>hw ⟨id,o,ho,hb,by
   rw[hid]at ho;cases ho;trivial⟩⟩)
  (fun T' cs' h=>by rw[hid]at h;cases h;exact⟨⟨_,by rw[aF fk]⟩,rfl⟩)
  (fun K E es h=>by rw[hid]at h;cases h)
  (fun E sz by' g' sh ys _ h=>by rw[aF fk]at h;simp at h)
  (fun hp o ho=>by
   rw[aF fk]at ho;simp only[aa]at ho;subst ho;obtain⟨b,us,h1,h2,h3,h4,h5⟩:=hS.obj id _ hid;refine⟨b,us,h1,h2,h3,by simpa using h4,fun k z hz=>?_⟩
   by_cases hk:j=k
   ·subst hk;rw[aF xO]at hz;simp only[aa]at hz;subst hz;obtain⟨u,h6,h7⟩:=h5 j x hj;exact⟨u,h6,(hv B w0 w μ u hS h7).mono hp⟩
   ·rw[bn hk]at hz;obtain⟨u,h6,h7⟩:=h5 k z hz;exact⟨u,h6,h7.mono hp⟩)
 exact⟨μ,h.1,⟨hC.1,fun i x hx=>(hC.2 i x hx).mono h.2⟩,h.2.bY.Nv⟩
theorem Wk.IH{P:Program}{n:Nat}{xs:List V}{σ:ag}{id T j idr E sz by' g:Nat}{cs:List V}{rows:List (List V)}(hid:σ[id]?=some (.box T cs))(hj:cs[j]?=some (.own idr g))
  (ho:σ[idr]?=some (.row E sz by' g true rows)):Wk P n xs σ xs (σ.set id (.box T (cs.set j (.sl sz rows)))) :=
 Wk.cellS hid hj fun B w0 w μ v hS h=>by
  rw[h.lX ho];have:=VR.uB hS ho 0 rows.length (by omega) (aB _);rw[Cr hS ho]at this;simpa using this
theorem Jr{σ:ag}{id:Nat}{o:Ob}(h:σ[id]?=some o):σ.set id o=σ:=by
 apply kg;intro j
 by_cases hj:id=j
 ·subst hj;rw[aF (ae.1 h).1,h]
 ·rw[bn hj]
theorem PC.fzs{P:Program}{f:Nat}{args zs:List V}{σ:ag}{v:V}(id:Nat){E sz by' g:Nat}{rows:List (List V)}(ho:σ[id]?=some (.row E sz by' g true rows))
  (h:PC P f zs σ (fun r σ'=>r=v∧σ'=σ)) (hz:args.map (Pm.fz id g sz rows)=zs):PC P f args σ (fun r σ'=>r=v∧σ'=σ):=by
 have hw:=Wk.fz (P:=P) (n:=σ.length) (xs:=args) id ho;rw[Jr ho,hz]at hw;exact PC.wk hw h
theorem Wk.YA{P:Program}{n:Nat}{xs:List V}{σ:ag}{E sz by' g:Nat}{sh:Bool}{rows:List (List V)}:Wk P n xs (σ++[.row E sz by' g sh rows]) xs (σ++[.row E sz by' g true rows]):=by
 have:=Wk.share (P:=P) (n:=n) (xs:=xs) (σ:=σ++[.row E sz by' g sh rows]) (id:=σ.length) (E:=E) (sz:=sz) (by':=by') (g:=g) (sh:=sh) (rows:=rows) (by simp)
 rwa [fT _ _ (aB _),iu]at this
inductive Mv (n:Nat) (loc:ag) (ks:List Nat):V→V→Prop
 | own (i k E sz by' g:Nat) (sh:Bool) (rows:List (List V)) (hk:ks[i]?=some k) (ho:loc[k]?=some (.row E sz by' g sh rows)):Mv n loc ks (.own (n+k) g) (.own (n+i) 0)
 | bY (x:V) (h:x.Lt n):Mv n loc ks x x
 | forget (x:V):Mv n loc ks x .u
 | agg (xs ys:List V) (hl:ys.length=xs.length) (h:∀ (i:Nat) (x y:V),xs[i]?=some x→ys[i]?=some y→Mv n loc ks x y):Mv n loc ks (.agg xs) (.agg ys)
inductive Yi (n:Nat) (loc:ag) (ks:List Nat):List V→List V→Prop
 | nil:Yi n loc ks [] []
 | cons {x y xs ys} (h:Mv n loc ks x y) (t:Yi n loc ks xs ys):Yi n loc ks (x::xs) (y::ys)
theorem Yi.at{n:Nat}{loc:ag}{ks:List Nat}{xs ys:List V}(h:Yi n loc ks xs ys):ys.length=xs.length∧∀ (i:Nat) (x y:V),xs[i]?=some x→ys[i]?=some y→Mv n loc ks x y:=by
 induction h with
 | nil=>simp
 | cons h t ih =>
  refine⟨by simp[ih.1],fun i x y hx hy=>?_⟩;cases i with
  | zero=>simp only[ao,aa]at hx hy;subst hx;subst hy;exact h
  | succ i=>exact ih.2 i x y (by simpa using hx) (by simpa using hy)
theorem Wk.SN{P:Program}{xs ys:List V}{σ loc os:ag}(ks:List Nat)(aQ:bP σ)(KI:ks.Nodup)(hlen:os.length=ks.length)
  (zO:∀ (i k:Nat),ks[i]?=some k→∃ o,loc[k]?=some o∧o.flat=true∧os[i]?=some o.fresh) (hx:Yi σ.length loc ks xs ys):Wk P σ.length xs (σ++loc) ys (σ++os):=by
 intro B w0 w μ vs hS hC;let μ':Mem:=fun j=>if j<σ.length then μ j else μ (σ.length+ks.getD (j - σ.length) 0)
 have zi:∀ id,id<σ.length→μ' id=μ id:=fun id h=>by simp only[μ'];rw[if_pos h]
 have aeN:∀ i k,ks[i]?=some k→μ' (σ.length+i)=μ (σ.length+k):=fun i k hk=>by
  simp only[μ'];rw[if_neg (by omega),cx,List.getD_eq_getElem?_getD,hk];rfl
 have dY:∀ id,id<σ.length→(σ++os)[id]?=(σ++loc)[id]?:=fun id h=>by rw[aH h,aH h]
 have WM:∀ i,(σ++os)[σ.length+i]?=os[i]?:=fun i=>by rw[aN (by omega),cx]
 have ae9:∀ i,(σ++loc)[σ.length+i]?=loc[i]?:=fun i=>by rw[aN (by omega),cx]
 have cases0:∀ {id o'},(σ++os)[id]?=some o'→(id<σ.length∧(σ++loc)[id]?=some o'∧μ' id=μ id) ∨
   (∃ i k o,id=σ.length+i∧ks[i]?=some k∧(σ++loc)[σ.length+k]?=some o∧o.flat=true∧o'=o.fresh∧μ' id=μ (σ.length+k)):=by
  intro id o' h;rcases fV id σ.length with hl | hg
  ·exact .inl ⟨hl,dY id hl▸h,zi id hl⟩
  ·right;obtain⟨i,rfl⟩:∃ i,id=σ.length+i:=⟨id - σ.length,by omega⟩;rw[WM]at h;have hi:i<ks.length:=by rw[← hlen];exact(ae.1 h).1
   obtain⟨k,hk⟩:∃ k,ks[i]?=some k:=⟨_,aw hi⟩;obtain⟨o,h1,h2,h3⟩:=zO i k hk;rw[h]at h3;exact⟨i,k,o,rfl,hk,by rw[ae9];exact h1,h2,dJ h3,aeN i k hk⟩
 have hw:∀ b off,wr (σ++os) μ' b off→wr (σ++loc) μ b off:=by
  rintro b off ⟨id,o',h1,h2,h3⟩;rcases cases0 h1 with⟨h4,h5,h6⟩ | ⟨i,k,o,rfl,_,h5,h6,rfl,h7⟩
  ·exact⟨id,o',h5,h6▸h2,h3⟩
  ·exact⟨σ.length+k,o,h5,h7▸h2,by cases o<;>exact h3⟩
 have mv:∀ {x v},VR w (σ++loc) μ x v→x.Lt σ.length→VR w (σ++os) μ' x v:=fun h hl=>h.XP (m:=σ.length) (by simp) hw dY zi hl;obtain⟨Ca,hxm⟩:=hx.at;refine⟨μ',⟨hS.below,hS.base,fun id o' ho'=>?_,fun i j oi oj b hi hj h1 h2 h3 h4=>?_⟩,⟨by rw[Ca];exact hC.1,fun i y hy=>?_⟩,fun x v hv hl=>mv hv hl⟩
 ·rcases cases0 ho' with⟨h4,h5,h6⟩ | ⟨i,k,o,rfl,_,h5,h6,rfl,h7⟩
  ·have ff:=hS.obj id o' h5;rw[h6];cases o' with
   | dead=>trivial
   | box T cs =>
    obtain⟨b,us,h1,h2,h3,h4',h5'⟩:=ff;have qV:=aQ id T cs (by rwa [aH h4]at h5);exact⟨b,us,h1,h2,h3,h4',fun j x hj=>let ⟨u,h6,h7⟩:=h5' j x hj;⟨u,h6,mv h7 (qV j x hj)⟩⟩
   | row E sz by' g sh rows =>
    obtain⟨h1,vals,h2,h3⟩:=ff;exact⟨h1,vals,h2,h3.1,fun i j x hj=>let ⟨h4,u,h5,h6⟩:=h3.2 i j x hj;⟨h4,u,h5,mv h6 (kY h4 _)⟩⟩
   | map K E es =>
    obtain⟨r,ents,clock,h1,h2,h3,h4⟩:=ff;exact⟨r,ents,clock,h1,h2,h3,h4.1,fun i k x hi=>let ⟨h5,h6,e,h7,h8,h9⟩:=h4.2.1 i k x hi;⟨h5,h6,e,h7,mv h8 (vP h5 _),mv h9 (vO h6 _)⟩,h4.2.2⟩
  ·have ff:=hS.obj (σ.length+k) o h5;rw[h7];cases o with
   | dead=>trivial
   | box T cs=>simp[Ob.flat]at h6
   | row E sz by' g sh rows =>
    obtain⟨h1,vals,h2,h3⟩:=ff;exact⟨h1,vals,h2,h3.1,fun i j x hj=>let ⟨h4,u,h5,h6⟩:=h3.2 i j x hj;⟨h4,u,h5,mv h6 (kY h4 _)⟩⟩
   | map K E es =>
    obtain⟨r,ents,clock,h1,h2,h3,h4⟩:=ff;exact⟨r,ents,clock,h1,h2,h3,h4.1,fun i k x hi=>let ⟨h5,h6,e,h7,h8,h9⟩:=h4.2.1 i k x hi;⟨h5,h6,e,h7,mv h8 (vP h5 _),mv h9 (vO h6 _)⟩,h4.2.2⟩
 ·have nd:∀ {o:Ob},o.fresh≠.dead→o≠.dead:=fun h e=>h (by rw[e];rfl);rcases cases0 hi with⟨i1,i2,i3⟩ | ⟨i',k,o,rfl,ik,i5,_,rfl,i7⟩<;>rcases cases0 hj with⟨j1,j2,j3⟩ | ⟨j',k',o',rfl,jk,j5,_,rfl,j7⟩
  ·exact hS.sep i j oi oj b i2 j2 h1 h2 (i3▸h3) (j3▸h4)
  ·have:=hS.sep i (σ.length+k') oi o' b i2 j5 h1 (nd h2) (i3▸h3) (j7▸h4);omega
  ·have:=hS.sep (σ.length+k) j o oj b i5 j2 (nd h1) h2 (i7▸h3) (j3▸h4);omega
  ·have e:=hS.sep (σ.length+k) (σ.length+k') o o' b i5 j5 (nd h1) (nd h2) (i7▸h3) (j7▸h4);have e:k=k':=by omega
   subst e
   have e2:i'=j':=by
    obtain⟨l1,g1⟩:=ae.1 ik;obtain⟨l2,g2⟩:=ae.1 jk;exact(List.getElem_inj KI).1 (g1.trans g2.symm)
   rw[e2]
 ·have qB:i<xs.length:=by rw[← Ca];exact(ae.1 hy).1
  obtain⟨x,tC⟩:∃ x,xs[i]?=some x:=⟨_,aw qB⟩;have hv:=hC.2 i x tC;have hm:=hxm i x y tC hy;clear tC hy qB;generalize vs.getD i undef=v at hv ⊢
  induction hm generalizing v with
  | own i' k E sz by' g sh rows hk ho =>
   have hk':(σ++loc)[σ.length+k]?=some (.row E sz by' g sh rows):=by rw[ae9];exact ho
   have h1:=hv.lX hk';have hi':i'<os.length:=by rw[hlen];exact(ae.1 hk).1
   obtain⟨o,q1,_,q3⟩:=zO i' k hk;rw[ho]at q1;simp only[aa]at q1;subst q1;refine .own _ _ _ (by simp;omega) fun E2 sz2 by2 g2 sh2 xs2 ho'=>?_;rw[WM,q3]at ho';simp only[Ob.fresh,aa,Ob.row.injEq]at ho';rw[aeN i' k hk];exact⟨iF _,fun _=>h1⟩
  | bY x h=>exact mv hv h
  | forget x=>exact .u _
  | agg as bs hl h ih =>
   obtain⟨us,rfl,h1,h2⟩:=hv.qS;refine .agg bs us (by rw[hl,h1]) fun j y hj=>?_;have xO:j<as.length:=by rw[← hl];exact(ae.1 hj).1
   exact ih j _ y (aw xO) hj _ (h2 j _ (aw xO))
theorem Mv.ir{n:Nat}{loc:ag}{ks:List Nat}{xs ys:List V}(h:Yi n loc ks xs ys):Mv n loc ks (.agg xs) (.agg ys):=.agg xs ys h.at.1 h.at.2
theorem P8{D:List (Nat×List (Nat×Bool))}(h:∀ e∈D,e.2=[])(t:Nat):qQ D t=[]:=by
 rcases vT (D:=D) (t:=t)with h1 | h1
 ·exact h1
 ·exact h _ h1
theorem FL{D:List (Nat×List (Nat×Bool))}(h:∀ e∈D,e.2=[]){p:Pi}(hp:p.g=[]):Ka D p=true:=by
 simp only[Ka,hp,P8 h,List.getLast?_nil,aC,bI];refine⟨⟨fun _ _=>rfl,trivial⟩,?_⟩;split
 ·rfl
 ·simp only[Ef,dM,bI];intro e he q hq;rw[h e he]at hq;simp at hq
theorem Lm{D:List (Nat×List (Nat×Bool))}(h:∀ e∈D,e.2=[]){p:Pi}(hp:p.g=[]):∀ e∈Ur D p,e.2=[]:=by
 intro e he;simp only[Ur]at he;split at he
 ·rcases aU.1 he with rfl | he
  ·exact hp
  ·exact h e he
 ·exact h e he
theorem HR:∀ (ps:List Pi) (D:List (Nat×List (Nat×Bool))),(∀ e∈D,e.2=[])→(∀ p∈ps,p.g=[])→EN D ps []=true
 | [],D,h,_=>by simp only[EN,bI];intro e he;rw[h e he];rfl
 | p::ps,D,h,hp=>by
  simp only[EN,aC];exact⟨FL h (hp p (by simp)),HR ps _ (Lm h (hp p (by simp))) fun q hq=>hp q (by simp[hq])⟩
theorem Jw{P:Program}{ops:Array Oper}{n B:Nat}{w0 ws:World}{σs:ag}{μs:Mem}{K:St→Prop}{Q:Exit→Act→World→Prop}{bs:List Pi}(hb:∀ p∈bs,p.g=[])
  (hQ:∀ st w μ a,K st→jw P B w0 w st.σ μ→FR w st.σ μ st.fr a→fP n ws σs μs w st.σ μ→Q .normal a w) :
  ∀ (l:List Oper) (k:Nat) (as:List Pi) (fr:List V) (σ:ag) (w:World) (μ:Mem) (a:Act),(∀ j,l[j]?=ops[k+j]?)→qH P ops l=some (as++bs)→(∀ p∈as,p.g=[]) →
   kW P [] as (fun st=>∃ fr' σ',Wk P n st.fr st.σ fr' σ'∧kW P [] bs K ⟨fr',σ'⟩) ⟨fr,σ⟩→jw P B w0 w σ μ→FR w σ μ fr a→fP n ws σs μs w σ μ →
   wpOps P ops Q ((List.range l.length).map (k+·)) a w:=by
 intro l k as
 induction as generalizing l k with
 | nil =>
  intro fr σ w μ a hl hc _ hr hS hF hk;obtain⟨fr',σ',hw,hr⟩:=hr;obtain⟨μ',h1,h2,h3⟩:=hw B w0 w μ a.tmps hS ⟨hF.2.1.symm,hF.2.2⟩;have hF':FR w σ' μ' fr' a:=⟨hF.1,h2.1.symm,h2.2⟩;exact wS hQ l k bs [] fr' σ' w μ' a hl hc (HR bs [] (by simp) hb) hr h1 hF'.toI (hk.trans h3)
 | cons p as ih =>
  intro fr σ w μ a hl hc hg hr hS hF hk;cases l with
  | nil=>simp[qH]at hc
  | cons o l =>
   simp only[qH]at hc;split at hc<;>simp only[aa,reduceCtorEq,aq,ca]at hc;rename_i p' qs hp hqs;obtain⟨rfl,rfl⟩:=hc;have ho:ops[k]?=some o:=by have:=hl 0;simpa using this.symm
   have e1:(List.range (o::l).length).map (k+·)=k::(List.range l.length).map (k+1+·):=by
    rw[ab,rq,ay,jM];simp only[bC];congr 1;apply dE;intro x _;simp only[Function.comp];omega
   rw[e1];simp only[wpOps,ho];have hpg:=hg p' (by simp);refine opG hp hS hF.toI (Db (FL (by simp) hpg)) hr ?_;intro r σ' μ' a' w' h1 h2 h3 h4;rw[zU]at h3;have h5:=h3.ends (gs:=[]) (HR [] _ (Lm (by simp) hpg) (by simp));exact ih l (k+1) _ σ' w' μ' a' (fun j=>by have:=hl (j+1);rw[bQ]at this;rw[this];congr 1;omega) hqs (fun q hq=>hg q (by simp[hq])) h1 h2 h5 (hk.trans h4.Nv)
theorem bA.agf{n:Nat}{P:Program}{K:Exit→St→Prop}{st:St}{is:List Pi}(j:Nat)(hg:∀ p∈is,p.g=[])
  (h:∀ R:St→Prop,(∀ fr σ fr' σ',Wk P n fr σ fr' σ'→kW P [] (is.drop j) (K .normal) ⟨fr',σ'⟩→R ⟨fr,σ⟩)→kW P [] (is.take j) R st):bA n P (.dq [] is) K st:=by
 intro code hc;cases code
 case region id ops draw =>
  cases draw
  ·simp only[fN]at hc;obtain⟨ps,zN,fD,he⟩:=jC hc;simp only[bw.dq.injEq]at he;obtain⟨_,rfl⟩:=he;intro B w0 w μ a hS hF;refine wp_region ?_
   have:=Jw (P:=P) (ops:=ops) (n:=n) (B:=B) (w0:=w0) (ws:=w) (σs:=st.σ) (μs:=μ) (K:=K .normal) (Q:=afu P n B w0 w st.σ μ K) (bs:=is.drop j) (fun p hp=>hg p (gk hp))
    (fun st' w' μ' a' h1 h2 h3 h4=>⟨st',μ',h1,h2,h3,h4⟩) ops.toList 0 (is.take j) st.fr st.σ w μ a (fun j=>by simp) (by rw[List.take_append_drop];exact zN) (fun p hp=>hg p (ct hp))
    (h _ fun fr σ fr' σ' h1 h2=>⟨fr',σ',h1,h2⟩) hS hF (fP.refl _ _ _ _)
   simp only[aK,List.map_id',aY]at this;exact this
  ·simp only[fN]at hc;rcases iy hc with⟨_,_,_,_,h,_⟩ | ⟨_,_,h,_⟩ | ⟨_,_,_,_,_,_,h,_⟩<;>simp at h
 all_goals first | (exfalso;revert hc;simp only[fN];try ((repeat' split)<;>simp);done)
theorem jw.back{P:Program}{B:Nat}{w0 w:World}{σ loc:ag}{μ:Mem}(aQ:bP σ)(hS:jw P B w0 w (σ++loc) μ):jw P B w0 w σ μ:=by
 have dY:∀ {id:Nat} {o:Ob},σ[id]?=some o→id<σ.length∧(σ++loc)[id]?=some o:=by
  intro id o h;have hl:=(ae.1 h).1;exact⟨hl,by rw[aH hl];exact h⟩
 have tk:∀ {x:V} {v:Value},VR w (σ++loc) μ x v→x.Lt σ.length→VR w σ μ x v:=fun h hl=>by
  have:=h.take (m:=σ.length) (by simp) hl;simpa using this
 refine⟨hS.below,hS.base,fun id o ho=>?_,fun i j oi oj b hi hj h1 h2 h3 h4=>hS.sep i j oi oj b (dY hi).2 (dY hj).2 h1 h2 h3 h4⟩;obtain⟨hid,ho'⟩:=dY ho;have ff:=hS.obj id o ho';cases o with
 | dead=>trivial
 | box T cs =>
  obtain⟨b,us,h1,h2,h3,h4,h5⟩:=ff;exact⟨b,us,h1,h2,h3,h4,fun j x hj=>let ⟨u,h6,h7⟩:=h5 j x hj;⟨u,h6,tk h7 (aQ id T cs ho j x hj)⟩⟩
 | row E sz by' g sh rows =>
  obtain⟨h1,vals,h2,h3⟩:=ff;exact⟨h1,vals,h2,h3.1,fun i j x hj=>let ⟨h4,u,h5,h6⟩:=h3.2 i j x hj;⟨h4,u,h5,tk h6 (kY h4 _)⟩⟩
 | map K E es =>
  obtain⟨r,ents,clock,h1,h2,h3,h4⟩:=ff;exact⟨r,ents,clock,h1,h2,h3,h4.1,fun i k x hi=>let ⟨h5,h6,e,h7,h8,h9⟩:=h4.2.1 i k x hi;⟨h5,h6,e,h7,tk h8 (vP h5 _),tk h9 (vO h6 _)⟩,h4.2.2⟩
inductive Bv (n k:Nat) (cs:List V):V→V→Prop
 | ptr (off:Nat):Bv n k cs (.ptr (n+k) off) (.ep cs.length [cs] 0 off)
 | bY (x:V) (h:x.Lt n):Bv n k cs x x
 | forget (x:V):Bv n k cs x .u
inductive Bvs (n k:Nat) (cs:List V):List V→List V→Prop
 | nil:Bvs n k cs [] []
 | cons {x y xs ys} (h:Bv n k cs x y) (t:Bvs n k cs xs ys):Bvs n k cs (x::xs) (y::ys)
theorem Bvs.at{n k:Nat}{cs xs ys:List V}(h:Bvs n k cs xs ys):ys.length=xs.length∧∀ (i:Nat) (x y:V),xs[i]?=some x→ys[i]?=some y→Bv n k cs x y:=by
 induction h with
 | nil=>simp
 | cons h t ih =>
  refine⟨by simp[ih.1],fun i x y hx hy=>?_⟩;cases i with
  | zero=>simp only[ao,aa]at hx hy;subst hx;subst hy;exact h
  | succ i=>exact ih.2 i x y (by simpa using hx) (by simpa using hy)
theorem Wk.afr{P:Program}{n T:Nat}{xs ys cs:List V}{σ loc:ag}(k:Nat)(hn:n≤σ.length)(aQ:bP σ)(hk:loc[k]?=some (.box T cs))(hp:∀ c∈cs,c.pure=true)(hx:Bvs σ.length k cs xs ys):Wk P n xs (σ++loc) ys σ:=by
 intro B w0 w μ vs hS hC
 have tk:∀ {x:V} {v:Value},VR w (σ++loc) μ x v→x.Lt σ.length→VR w σ μ x v:=fun h hl=>by
  have:=h.take (m:=σ.length) (by simp) hl;simpa using this
 obtain⟨Ca,hxm⟩:=hx.at;refine⟨μ,hS.back aQ,⟨by rw[Ca];exact hC.1,fun i y hy=>?_⟩,fun x v hv hl=>tk hv (hl.mono hn)⟩;have qB:i<xs.length:=by rw[← Ca];exact(ae.1 hy).1
 have tC:=aw qB;have hv:=hC.2 i _ tC;generalize xs[i]=x at tC hv;have hm:=hxm i x y tC hy;cases hm with
 | bY _ h=>exact tk hv h
 | forget _=>exact .u _
 | ptr off =>
  obtain⟨b,zi,hve,_⟩:=hv.sN;have hid:(σ++loc)[σ.length+k]?=some (.box T cs):=by rw[aN (by omega),cx];exact hk
  obtain⟨b',us,h1,h2,h3,h4,h5⟩:=hS.obj _ _ hid;rw[zi]at h1;simp only[Value.pointer.injEq,aa,Addr.mk.injEq,and_true]at h1;subst h1;rw[hve];have dY:∀ j x,fe [cs] 0 j=some x→cs[j]?=some x:=fun j x h=>by simpa[fe]using h
  have:=VR.ep (w:=w) (σ:=σ) (μ:=μ) cs.length [cs] 0 off b 0 (fun j=>us.getD j undef) (by simp) (by simp)
   (fun j x hj=>by
    have hj:=dY j x hj;obtain⟨u,h6,h7⟩:=h5 j x hj;refine⟨?_,?_,hp x (bh hj)⟩
    ·have:us.getD j undef=u:=by simp[bN,h6]
     rw[this];simp[World.cell?,h3,h6]
    ·rintro⟨id,o,q1,q2,q3⟩;have hl:=(ae.1 q1).1;have:=hS.sep id (σ.length+k) o (.box T cs) b (by rw[aH hl];exact q1) hid (by rintro rfl;exact q3) (by simp) q2 (by simp[zi,lf]);omega)
   (fun j x hj=>by
    have hj:=dY j x hj;obtain⟨u,h6,h7⟩:=h5 j x hj;have:us.getD j undef=u:=by simp[bN,h6]
    rw[this];exact tk h7 (kY (hp x (bh hj)) _))
  simpa using this
end Go.Pm
namespace Go.Pm
open Go
inductive Lp:bw→bw→bw→Prop
 | one (a b:bw):Lp (.seq a b) a b
 | more {a b c r:bw} (h:Lp b c r):Lp (.seq a b) (.seq a c) r
theorem bA.aaK{n:Nat}{P:Program}{c a b:bw}{K:Exit→St→Prop}(hc:Lp c a b):∀ {st:St},BE n P a (CD (bA n P b K) K) st→bA n P c K st:=by
 induction hc with
 | one a b =>
  intro st h;refine bA.seq (bA.mono (aj h) fun e st' hk=>?_);cases e<;>exact hk
 | more _ ih =>
  intro st h;simp only[BE]at h;refine bA.seq (bA.mono (aj h) fun e st' hk=>?_);cases e with
  | normal=>exact ih hk
  | _=>exact hk
theorem bA.cutAt{n:Nat}{P:Program}{c a b:bw}{K:Exit→St→Prop}{st:St}(hc:Lp c a b)(h:∀ R:St→Prop,(∀ st',bA n P b K st'→R st')→BE n P a (CD R K) st):bA n P c K st :=
 bA.aaK hc (h _ fun _ h=>h)
end Go.Pm
namespace Go.Bt
open Go Go.Pm
section
variable {α β:Type} [DecidableEq α]
def qX(a:α):List (α×β)→Nat→Option (Nat×β)
 | [],_=>none
 | p::l,k=>if a=p.1 then some (k,p.2)else qX a l (k+1)
def gz(a:α)(l:List (α×β)):Option β:=(qX a l 0).map (·.2)
def ln(l:List (α×β))(a:α)(b:β):List (α×β) :=
 match l with
 | []=>[(a,b)]
 | p::l=>if a=p.1 then(a,b)::l else p::ln l a b
def emap(ke:α→V)(ve:β→V)(l:List (α×β)):List (V×V):=l.map fun p=>(ke p.1,ve p.2)
theorem u9(a:α):∀ (l:List (α×β)) (k:Nat),(qX a l k).map (·.2)=gz a l
 | [],_=>rfl
 | p::l,k=>by
  simp only[gz,qX];split
  ·rfl
  ·rw[u9 a l (k+1),u9 a l (0+1)]
theorem nw(a:α):gz a ([]:List (α×β))=none:=rfl
theorem mQ(a:α)(p:α×β)(l:List (α×β)):gz a (p::l)=if a=p.1 then some p.2 else gz a l:=by
 simp only[gz,qX];split
 ·rfl
 ·rw[u9 a l (0+1)];rfl
theorem rW(l:List (α×β))(a:α)(b:β)(x:α):gz x (ln l a b)=if x=a then some b else gz x l:=by
 induction l with
 | nil=>simp only[ln,mQ,nw]
 | cons p l ih =>
  simp only[ln];split
  ·rename_i h;simp only[mQ]
   by_cases hx:x=a
   ·simp[hx]
   ·have:¬ x=p.1:=fun h2=>hx (h2.trans h.symm);simp[hx,this]
  ·rename_i h;simp only[mQ,ih]
   by_cases hx:x=p.1
   ·have:¬ x=a:=fun h2=>h (h2.symm.trans hx);simp only[hx,if_true];split
    ·rename_i h3;exact absurd h3.symm h
    ·rfl
   ·simp[hx]
theorem Jc(l:List (α×β))(a:α)(b:β):(ln l a b).length≤l.length+1:=by
 induction l with
 | nil=>simp[ln]
 | cons p l ih =>
  simp only[ln];split<;>simp<;>omega
theorem OT{l:List (α×β)}{a:α}{b:β}(h:gz a l=none):ln l a b=l++[(a,b)]:=by
 induction l with
 | nil=>rfl
 | cons p l ih =>
  rw[mQ]at h;split at h
  ·simp at h
  ·rename_i h1;simp only[ln,h1,if_false,aq];rw[ih h]
variable {kd:Nat} {ke:α→V} {ve:β→V}
theorem xQ(hk:∀ a b,di kd (ke a) (ke b)=some (decide (a=b)))(a:α):∀ (l:List (α×β)) (k:Nat),gH kd (ke a) (emap ke ve l) k=some ((qX a l k).map fun p=>(p.1,ve p.2))
 | [],k=>rfl
 | p::l,k=>by
  have ih:=xQ hk a l (k+1);simp only[emap,ay,gH,hk,qX]at ih ⊢
  by_cases h:a=p.1
  ·simp[h]
  ·simp only[h,decide_false,if_false];exact ih
theorem KX(a:α)(b:β):∀ (l:List (α×β)) (k i:Nat) (b0:β),qX a l k=some (k+i,b0)→(emap ke ve l).set i (ke a,ve b)=emap ke ve (ln l a b)
 | [],k,i,b0,h=>by simp[qX]at h
 | p::l,k,i,b0,h=>by
  simp only[qX]at h
  by_cases h1:a=p.1
  ·simp only[h1,if_true,aa,aI]at h;have:i=0:=by omega
   subst this;simp[emap,ln,h1]
  ·simp only[h1,if_false]at h
   have hi:∃ j,i=j+1:=by
    refine⟨i - 1,?_⟩
    have:∀ (l:List (α×β)) (k n:Nat) (x:β),qX a l k=some (n,x)→k≤n:=by
     intro l
     induction l with
     | nil=>intro k n x h;simp[qX]at h
     | cons q l ih =>
      intro k n x h;simp only[qX]at h;split at h
      ·simp at h;omega
      ·have:=ih _ _ _ h;omega
    have:=this _ _ _ _ h;omega
   obtain⟨j,rfl⟩:=hi;have:=KX a b l (k+1) j b0 (by rw[h];congr 2;omega);simp only[emap,ay,fb,ln,h1,if_false]at this ⊢;rw[this]
theorem xR(hk:∀ a b,di kd (ke a) (ke b)=some (decide (a=b)))(l:List (α×β))(a:α):
  (gz a l=none∧gH kd (ke a) (emap ke ve l) 0=some none∧∀ b,emap ke ve l++[(ke a,ve b)]=emap ke ve (ln l a b)) ∨
  (∃ i b0,gz a l=some b0∧gH kd (ke a) (emap ke ve l) 0=some (some (i,ve b0))∧∀ b,(emap ke ve l).set i (ke a,ve b)=emap ke ve (ln l a b)):=by
 cases h:qX a l 0 with
 | none =>
  have h1:gz a l=none:=by simp[gz,h]
  refine .inl ⟨h1,by rw[xQ hk,h];rfl,fun b=>?_⟩;rw[OT h1];simp[emap]
 | some p =>
  obtain⟨i,b0⟩:=p;refine .inr ⟨i,b0,by simp[gz,h],by rw[xQ hk,h];rfl,fun b=>?_⟩;exact KX a b l 0 i b0 (by rw[h];congr 2;omega)
end
def keI(n:Int):V:=.i .i64 n
def XV(s:List UInt8):V:=.s s
theorem SO(a b:Int):di 0 (keI a) (keI b)=some (decide (a=b)):=by
 simp[di,keI];rfl
theorem Zz(a b:List UInt8):di 1 (XV a) (XV b)=some (decide (a=b)):=by
 simp only[di,XV,aa];rw[du];simp
end Go.Bt
namespace Go.Pm
open Go
def qP:bw→List bw
  | .seq a b=>qP a++qP b
  | .ite _ a b=>qP a++qP b
  | .block _ c=>qP c
  | .loop c=>qP c++[c]
  | _=>[]
def DL:bw→List bw→bw×List bw
  | .seq a b,ls=>let p:=DL a ls;let q:=DL b p.2;(.seq p.1 q.1,q.2)
  | .ite c a b,ls=>let p:=DL a ls;let q:=DL b p.2;(.ite c p.1 q.1,q.2)
  | .block i c,ls=>let p:=DL c ls;(.block i p.1,p.2)
  | .loop c,ls=>let n:=(qP c).length;(.loop (ls.getD n .skip),ls.drop (n+1))
  | c,ls=>(c,ls)
def bW(o:Option bT)(ls:List bw):bT:=match o with
  | some pf=>⟨pf.nt,pf.rs,(DL pf.c ls).1⟩
  | none=>⟨0,[],.skip⟩
def dW(o:Option bT)(n:Nat)(ls:List bw):bw:=match o with
  | some pf=>(DL ((qP pf.c).getD n .skip) ls).1
  | none=>.skip
abbrev Nf{α:Type}(a:α):Type:={x // a=x}
end Go.Pm

/- A part of the proof that for every input the law NetworkLimits returns true and leaves its argument as it was. -/
import Derived.IntWalk
import Derived.Test.YtgihcpilgfbggaaGreatDoorL13
set_option linter.all false

namespace Go.Pm
open Go Go.RowKit
def yY(R:St→Prop)(K:Exit→St→Prop):Exit→St→Prop
 | .normal=>R
 | e=>K e
theorem DL{R:St→Prop}{K:Exit→St→Prop}:yY R K .normal=R:=rfl
theorem K8{R:St→Prop}{K:Exit→St→Prop}:yY R K .ret=K .ret:=rfl
theorem IW{R:St→Prop}{K:Exit→St→Prop}{id:Nat}:yY R K (.exit id)=K (.exit id):=rfl
theorem ay{n:Nat}{P:Program}{c:bj}{K:Exit→St→Prop}{N:Nat}{st:St}(h:∀ R:St→Prop,(∀ st',fp n P c K N st'→R st')→vI n P c (yY R K) st):fp n P c K (N+1) st:=by
 refine K7 ?_;have:=h (fp n P c K N) fun _ h=>h;have e:yY (fp n P c K N) K=UD n P c K N:=by funext e;cases e<;>rfl
 rw[← e];exact this
theorem Bg{n:Nat}{P:Program}{c:bj}{K:Exit→St→Prop}{N:Nat}{fr fr':List V}{σ σ':ah}(h:Wk P n fr σ fr' σ')(k:fp n P c K N ⟨fr',σ'⟩):fp n P c K N ⟨fr,σ⟩:=by
 cases N with
 | zero=>exact k.elim
 | succ N=>exact bX.wk h k
theorem sE{n:Nat}{P:Program}{c:bj}{K:Exit→St→Prop}{N:Nat}{fr fr':List V}{σ loc:ah}(hn:n≤σ.length)(aU:bG σ)(hc:nP fr fr')(hl:gh σ.length fr')(k:fp n P c K N ⟨fr',σ⟩):fp n P c K N ⟨fr,σ++loc⟩ :=
 Bg ((Wk.ic hc).trans (Wk.vC hn aU (eW.1 hl))) k
theorem bb{n:Nat}{P:Program}{c:bj}{K:Exit→St→Prop}{N:Nat}{fr fr':List V}{σ:ah}(hc:nP fr fr')(k:fp n P c K N ⟨fr',σ⟩):fp n P c K N ⟨fr,σ⟩ :=
 Bg (Wk.ic hc) k
theorem pD{n:Nat}(h:n<2^63):IntKind.i64.wrap (n:Int)=n:=IntWalk.i64_in _ (by omega)
theorem aX{n:Nat}(h:n+1<2^63):IntKind.i64.wrap ((n:Int)+1)=((n+1:Nat):Int):=by rw[IntWalk.i64_in _ (by omega)];omega
theorem jj{α:Type}{f:α→List V}{pre rest:List α}{x:α}{d:List V}:(List.map f (pre++x::rest)).getD pre.length d=f x:=by
 simp[List.getD_eq_getElem?_getD]
theorem o6{α:Type}{f:α→List V}{pre rest:List α}{x:α}{j:Nat}:ft (List.map f (pre++x::rest)) pre.length j=(f x)[j]?:=by
 simp[ft]
theorem aP{P:Program}{rs:List Rs}{Q:V→ah→Prop}{e:Exit}{fr:List V}{σ:ah}{xs:List V}(he:e=.normal∨e=.ret)(hx:kh ⟨fr,σ⟩ rs=some xs)(hQ:Q (one xs) σ):
  wW P σ.length rs Q e ⟨fr,σ⟩:=ei he hx (Wk.refl _ _) rfl hQ
theorem kS{sz:Nat}{xs:List (List V)}(h:(V.sl sz xs).Wf):xs.length<2^63:=by
 cases h with
 | sl _ _ h=>simp only[maxLen]at h;omega
theorem yP{l:List UInt8}(h:(V.s l).Wf):l.length<2^63:=by
 cases h with
 | s _ h=>simp only[maxLen]at h;omega
theorem bX.bb{n:Nat}{P:Program}{c:bj}{K:Exit→St→Prop}{fr fr':List V}{σ:ah}(hc:nP fr fr')(N:Nat)(h:fp n P c K N ⟨fr',σ⟩):bX n P (.loop c) K ⟨fr,σ⟩ :=
 bX.wk (Wk.ic hc) (bX.ml N h)
theorem Qp{a b:Bool}:(bif a then true else b)=(a||b):=by cases a<;>rfl
theorem Nf{a b:Bool}:(bif a then b else false)=(a&&b):=by cases a<;>rfl
theorem Uz{pre rest:List UInt8}{x:UInt8}{d:UInt8}:(pre++x::rest).getD pre.length d=x:=by
 simp[List.getD_eq_getElem?_getD]
theorem iv{P:Program}{d:Option Nat}{f:Nat}{args:List O}{K:St→Prop}{fr:List V}{σ σ2:ah}{zs:List V}{v:V}(hw:nP (args.map (ev fr)) zs)(h:PC P f zs σ (fun r σ'=>r=v∧σ'=σ2))(hK:K ⟨ez fr d v,σ2⟩):
  gI P ⟨d,[],.call f args⟩ K ⟨fr,σ⟩ :=
 an (PC.wk (Wk.ic hw) h) rfl hK
def bW(n:Int):List V:=[.i .i64 n]
theorem Nh{p:Prop}{v w:V}:(∃ ob,some (p,v)=some (ob,w)∧ob)=(v=w∧p):=by
 simp only[aa,aA,eq_iff_iff];exact⟨fun⟨_,⟨h1,h2⟩,h3⟩=>⟨h2,h1.2 h3⟩,fun⟨h1,h2⟩=>⟨p,⟨Df,h1⟩,h2⟩⟩
theorem Ni{p:Prop}{v:V}:(∃ ob r,some (p,v)=some (ob,r)∧ob)=p:=by
 simp only[aa,aA,eq_iff_iff];exact⟨fun⟨_,_,⟨h1,_⟩,h3⟩=>h1.2 h3,fun h=>⟨p,v,⟨Df,rfl⟩,h⟩⟩
theorem oD{l:List Int}{i:Nat}(h:i<l.length):ft (l.map bW) i 0=some (.i .i64 (l.getD i 0)):=by
 simp[ft,bW,h]
theorem iy{P:Program}{rs:List Rs}{Q:V→ah→Prop}{e:Exit}{fr:List V}{σ loc:ah}{xs:List V}(k:Nat){E sz by' g:Nat}{sh:Bool}{rows:List (List V)}(aU:bG σ)(he:e=.normal∨e=.ret)(hx:kh ⟨fr,σ++loc⟩ rs=some xs)
  (hk:loc[k]?=some (.row E sz by' g sh rows)) (hl:gh σ.length (xs.map (fz (σ.length+k) g sz rows))) (hQ:Q (one (xs.map (fz (σ.length+k) g sz rows))) σ):wW P σ.length rs Q e ⟨fr,σ++loc⟩:=by
 refine ei he hx ((Wk.fz (σ.length+k) (by rw[qD];exact hk)).trans ?_) (by simp) hQ;rw[mV];exact Wk.EM aU hl
def tiB(P:Program)(E sz by':Nat):Bool :=
 match P.info? E with
 | some t=>match t.zero with
  | some z=>decide (0<sz)&&(t.size==sz&&(t.bytes==by'&&z.cells.size==sz))
  | none=>false
 | none=>false
theorem kY{P:Program}{E sz by':Nat}(h:tiB P E sz by'=true):Ti P E sz by':=by
 unfold tiB at h;split at h
 ·rename_i t ht;split at h
  ·rename_i z hz;simp only[aB,decide_eq_true_eq,beq_iff_eq]at h;exact⟨h.1,t,z,ht,hz,h.2.1,h.2.2.1,h.2.2.2⟩
  ·simp at h
 ·simp at h
theorem PC.B7{P:Program}{f:Nat}{args:List V}{σ:ah}{v:V}(h:∀ (w:World) (μ:Mem) (vs:Array Value),Qw w σ μ args vs→∃ u,Calls P f vs w (fun e w'=>e=.returned u∧w'=w)∧VR w σ μ v u):
  PC P f args σ (fun r σ'=>r=v∧σ'=σ):=by
 intro B w0 w μ vs hS hv;obtain⟨u,h1,h2⟩:=h w μ vs hv;refine h1.mono ?_;rintro e w' ⟨rfl,rfl⟩;exact⟨v,u,σ,μ,rfl,⟨rfl,rfl⟩,hS,h2,mh.refl _ _ _⟩
theorem TZ{vs:Array Value}(h:vs.size=1):vs=#[vs.getD 0 undef]:=by
 apply Array.ext
 ·simpa using h
 ·intro i h1 h2;have:i=0:=by omega
  subst this;simp[h1]
theorem Yl{vs:Array Value}(h:vs.size=2):vs=#[vs.getD 0 undef,vs.getD 1 undef]:=by
 apply Array.ext
 ·simpa using h
 ·intro i h1 h2;have:i=0∨i=1:=by omega
  rcases this with rfl | rfl<;>simp[h1]
theorem b9{σ l:ah}(h:bG σ)(hl:∀ o∈l,match o with | .box _ cs=>gh (σ.length+l.length) cs | _=>True):bG (σ++l):=by
 intro id T cs hid j x hx;rw[List.length_append];rcases fM id σ.length with eC | MB
 ·rw[az eC]at hid;exact(h id T cs hid j x hx).mono (NG _ _)
 ·rw[aM MB]at hid;have:=hl _ (aN hid);simp only at this;exact eW.1 this j x hx
theorem cy{P:Program}{c:bj}{K:Exit→St→Prop}{N:Nat}{fr fr':List V}{σ:ah}(l loc:ah)(aU:bG (σ++l))(hc:nP fr fr')(hl:gh (σ.length+l.length) fr')(k:fp σ.length P c K N ⟨fr',σ++l⟩):fp σ.length P c K N ⟨fr,σ++(l++loc)⟩:=by
 rw[← List.append_assoc];exact Bg ((Wk.ic hc).trans (Wk.vC (by simp) aU (by rw[List.length_append];exact eW.1 hl))) k
theorem Wk.mE{P:Program}{n:Nat}{xs:List V}{σ:ah}(loc:ah){k E sz by':Nat}(hT:Ti P E sz by')(hk:xs[k]?=some .nil):Wk P n xs (σ++loc) (xs.set k (.own (σ.length+loc.length) 0)) (σ++(loc++[.row E sz by' 0 false []])):=by
 have:=Wk.iZ (P:=P) (n:=n) (σ:=σ++loc) hT hk
 rwa [List.length_append,List.append_assoc]at this
theorem jz:∀ (l:List UInt8),bytesOf (aQ l)=some l
 | []=>rfl
 | c::l=>by
  have ih:=jz l;simp only[aQ,aW,bytesOf,oC]at ih ⊢;rw[ih];simp
theorem cT{a b:List UInt8}:aQ a++aQ b=aQ (a++b):=by simp[aQ]
theorem bO{a:List UInt8}:(aQ a).length=a.length:=by simp[aQ]
def Rp:UnOp→V→Option (Prop×V)
 | .not,.b p=>some (True,.b (!p))
 | .neg,.i k n=>some (True,.i k (k.wrap (0 - n)))
 | _,_=>none
theorem QI(fr:List V)(σ:ah)(op:UnOp)(x:O):aS fr σ (.un op x)=Rp op (ev fr x):=by
 show(match op,ev fr x with
  | .not,.b p=>some (True,V.b (!p))
  | .neg,.i k n=>some (True,V.i k (k.wrap (0 - n)))
  | _,_=>none)=_
 rfl
set_option linter.defProp false in
def EV:=(And.intro (And.intro (And.intro (And.intro (And.intro (And.intro @aS.eq_1 @aS.eq_2) (And.intro @aS.eq_3 @aS.eq_4)) (And.intro (And.intro @aS.eq_5 @aS.eq_6) (And.intro @aS.eq_7 @aS.eq_8))) (And.intro (And.intro (And.intro @aS.eq_9 @QI) (And.intro @Rp.eq_1 (And.intro @Rp.eq_2 @Rp.eq_3))) (And.intro (And.intro @aS.eq_13 @aS.eq_14) (And.intro @aS.eq_15 (And.intro @aS.eq_16 @aS.eq_17))))) (And.intro (And.intro (And.intro (And.intro @aS.eq_18 @aS.eq_19) (And.intro @aS.eq_20 @aS.eq_21)) (And.intro (And.intro @aS.eq_22 @aS.eq_23) (And.intro @aS.eq_24 @aS.eq_25))) (And.intro (And.intro (And.intro @aS.eq_26 @aS.eq_27) (And.intro @aS.eq_28 @aS.eq_29)) (And.intro (And.intro @aS.eq_30 @aS.eq_31) (And.intro @aS.eq_32 (And.intro @cd.eq_1 @cd.eq_2)))))) (And.intro (And.intro (And.intro (And.intro (And.intro @cd.eq_3 @cd.eq_4) (And.intro @cd.eq_5 @cd.eq_6)) (And.intro (And.intro @cd.eq_7 @cd.eq_8) (And.intro @cd.eq_9 @cd.eq_10))) (And.intro (And.intro (And.intro @fX.eq_1 @fX.eq_2) (And.intro @fX.eq_3 @fX.eq_4)) (And.intro (And.intro @fX.eq_5 @fX.eq_6) (And.intro @fX.eq_7 (And.intro @fX.eq_8 @fX.eq_9))))) (And.intro (And.intro (And.intro (And.intro @fX.eq_10 @fX.eq_11) (And.intro @fX.eq_12 @fX.eq_13)) (And.intro (And.intro @fX.eq_14 @fX.eq_15) (And.intro @fX.eq_16 @fX.eq_17))) (And.intro (And.intro (And.intro @fX.eq_18 @fX.eq_19) (And.intro @fX.eq_20 @fX.eq_21)) (And.intro (And.intro @fX.eq_22 @fX.eq_23) (And.intro @fX.eq_24 (And.intro @fX.eq_25 @fX.eq_26)))))))
set_option linter.defProp false in
def W:=And.intro EV <| And.intro (And.intro (And.intro @zm.eq_1 @zl.eq_1) (And.intro (And.intro @zL.eq_1 @zf.eq_1) (And.intro @z.eq_1 @zs.eq_1))) (And.intro (And.intro (And.intro (And.intro (And.intro (And.intro (And.intro @vI.eq_1
 (And.intro @vI.eq_2
 @vI.eq_3))
 (And.intro (And.intro @vI.eq_4
 @vI.eq_5)
 (And.intro @vI.eq_6
 @vI.eq_7)))
 (And.intro (And.intro (And.intro @vI.eq_8
 (And.intro @vI.eq_9 (And.intro (And.intro @vI.eq_10 @Ik.eq_1) (And.intro (And.intro (And.intro @vI.eq_11 @G1.eq_1) (And.intro @G1.eq_2 (And.intro (And.intro @KZ (And.intro @IM @IN)) (And.intro (And.intro (And.intro @UB.eq_1 (And.intro (And.intro @MI @JT) (And.intro @Gy (And.intro @Gz @Gx)))) @Uw.eq_1) (And.intro @Uv.eq_1 @QP.eq_1))))) (And.intro (And.intro @Nl @Ka) (And.intro (And.intro @J4 @GO) (And.intro @KV @IJ)))))))
 (And.intro @IQ
 @K4))
 (And.intro (And.intro @IP
 @K3)
 (And.intro @DH
 @KX))))
 (And.intro (And.intro (And.intro (And.intro @IK
 @E8)
 (And.intro @Np
 @Kb))
 (And.intro (And.intro @Kc
 @DL)
 (And.intro @K8
 @IW)))
 (And.intro (And.intro (And.intro @Tq
 @PZ)
 (And.intro @MS
 @JZ))
 (And.intro (And.intro @P7
 @MQ)
 (And.intro @Tz
 @TA)))))
 (And.intro (And.intro (And.intro (And.intro @TB
 (And.intro @Xp
 @Tv))
 (And.intro (And.intro @TC
 @MP)
 (And.intro @JX
 @Tt)))
 (And.intro (And.intro (And.intro @Ts
 @PY)
 (And.intro @Tu
 @Tr))
 (And.intro (And.intro @P5
 @P4)
 (And.intro @P6
 @P3))))
 (And.intro (And.intro (And.intro (And.intro @Ty
 @MT)
 (And.intro @MO
 @TE))
 (And.intro (And.intro @P9
 (And.intro @Xq @P8))
 (And.intro @MR
 (And.intro (And.intro (And.intro @Tx @Tw) (And.intro @Qa @TD)) (And.intro @P2 (And.intro @Pg (And.intro @Pf @Pe)))))))
 (And.intro (And.intro (And.intro @Te
 @PQ)
 (And.intro @ML
 @JV))
 (And.intro (And.intro @PV
 @MK)
 (And.intro @Tl
 @Tm))))))
 (And.intro (And.intro (And.intro (And.intro (And.intro @Tn
 (And.intro @Xo
 @Tk))
 (And.intro (And.intro @To
 @MJ)
 (And.intro @JU
 @Th)))
 (And.intro (And.intro (And.intro @Tg
 @PO)
 (And.intro @Tj
 @Tf))
 (And.intro (And.intro @PT
 @PS)
 (And.intro @PU
 @PR))))
 (And.intro (And.intro (And.intro (And.intro @V.pure.eq_1
 @V.pure.eq_2)
 (And.intro @V.pure.eq_3
 @V.pure.eq_4))
 (And.intro (And.intro @V.pure.eq_5
 @TO.eq_1)
 (And.intro @yt.eq_1
 @Nh)))
 (And.intro (And.intro (And.intro @Ni
 @Og)
 (And.intro @NW
 @Oe))
 (And.intro (And.intro @gX.eq_1
 @gX.eq_2)
 (And.intro @chainB.eq_1
 @chainB.eq_2)))))
 (And.intro (And.intro (And.intro (And.intro @aS.eq_1
 (And.intro @aS.eq_2
 @aS.eq_3))
 (And.intro (And.intro @aS.eq_4
 @aS.eq_5)
 (And.intro @aS.eq_6
 @aS.eq_7)))
 (And.intro (And.intro (And.intro @aS.eq_8
 @aS.eq_9)
 (And.intro @QI
 @Rp.eq_1))
 (And.intro (And.intro (And.intro @Rp.eq_2 @Rp.eq_3)
 @aS.eq_13)
 (And.intro @aS.eq_14
 @aS.eq_15))))
 (And.intro (And.intro (And.intro (And.intro @aS.eq_16
 @aS.eq_17)
 (And.intro @aS.eq_18
 @aS.eq_19))
 (And.intro (And.intro @aS.eq_20
 @aS.eq_21)
 (And.intro @aS.eq_22
 @aS.eq_23)))
 (And.intro (And.intro (And.intro @aS.eq_24
 @aS.eq_25)
 (And.intro @aS.eq_26
 @aS.eq_27))
 (And.intro (And.intro @aS.eq_28
 @aS.eq_29)
 (And.intro @cd.eq_1
 @cd.eq_2)))))))
 (And.intro (And.intro (And.intro (And.intro (And.intro (And.intro @cd.eq_3
 (And.intro @cd.eq_4
 @cd.eq_5))
 (And.intro (And.intro @cd.eq_6
 @cd.eq_7)
 (And.intro @cd.eq_8
 @cd.eq_9)))
 (And.intro (And.intro (And.intro @ev.eq_1
 @ev.eq_2)
 (And.intro @ez.eq_1
 @ez.eq_2))
 (And.intro (And.intro @Dd.eq_1
 @nR.{0,0})
 (And.intro @cj.{0,0}
 @ar.{0}))))
 (And.intro (And.intro (And.intro (And.intro @aC.{0}
 @cU.{0})
 (And.intro @cW.{0}
 @eI.eq_1))
 (And.intro (And.intro @eI.eq_2
 @fJ.eq_1)
 (And.intro @fJ.eq_2
 @gg.eq_1)))
 (And.intro (And.intro (And.intro @gg.eq_2
 @gg.eq_3)
 (And.intro @gg.eq_4
 @gg.eq_5))
 (And.intro (And.intro @gg.eq_6
 @gg.eq_7)
 (And.intro @cq.eq_1
 @cq.eq_2)))))
 (And.intro (And.intro (And.intro (And.intro @lG.eq_1
 (And.intro @lG.eq_2
 @lG.eq_3))
 (And.intro (And.intro @rL.eq_1
 @rL.eq_2)
 (And.intro @ey.{0}
 @Kj.{0})))
 (And.intro (And.intro (And.intro @Bool.and_self
 @bI)
 (And.intro @bu
 @true_and))
 (And.intro (And.intro @and_true
 @and_self)
 (And.intro @fQ
 @qD))))
 (And.intro (And.intro (And.intro (And.intro @Kd
 @mV)
 (And.intro @Ns
 @ag.{0}))
 (And.intro (And.intro @ai.{0}
 @ax.{0})
 (And.intro @cc.{0}
 @List.getElem?_nil.{0})))
 (And.intro (And.intro (And.intro @cn
 @aI)
 (And.intro @aw
 @fX.eq_1))
 (And.intro (And.intro @fX.eq_2
 @fX.eq_3)
 (And.intro @fX.eq_4
 @fX.eq_5))))))
 (And.intro (And.intro (And.intro (And.intro (And.intro @fX.eq_6
 (And.intro @fX.eq_7
 @fX.eq_8))
 (And.intro (And.intro @fX.eq_9
 @fX.eq_10)
 (And.intro @fX.eq_11
 @fX.eq_12)))
 (And.intro (And.intro (And.intro @fX.eq_13
 @fX.eq_14)
 (And.intro @fX.eq_15
 @fX.eq_16))
 (And.intro (And.intro @fX.eq_17
 @fX.eq_18)
 (And.intro @fX.eq_19
 @fX.eq_20))))
 (And.intro (And.intro (And.intro (And.intro @fX.eq_21
 @fX.eq_22)
 (And.intro @fX.eq_23
 @fX.eq_24))
 (And.intro (And.intro @fX.eq_25
 @fX.eq_26)
 (And.intro @aH
 @sg.{0})))
 (And.intro (And.intro (And.intro @XL.{0}
 @gu.{0})
 (And.intro @C7.{0}
 @XO.{0}))
 (And.intro (And.intro @qW.{0}
 @aG.{0})
 (And.intro @aJ.{0}
 @bt.{0})))))
 (And.intro (And.intro (And.intro (And.intro @List.append_assoc.{0}
 (And.intro @aW.{0,0}
 @aZ.{0,0}))
 (And.intro (And.intro (And.intro @forall_const.{0} @forall_const.{1})
 @imp_self)
 (And.intro @beq_self_eq_true.{0}
 @ct.{0})))
 (And.intro (And.intro (And.intro @eq_self.{1}
 @bK.{0})
 (And.intro @false_imp_iff
 (And.intro @implies_true.{0} @implies_true.{1})))
 (And.intro (And.intro @fH
 @jd)
 (And.intro @cond_true.{1}
 @cond_false.{1}))))
 (And.intro (And.intro (And.intro (And.intro @Qp
 @Nf)
 (And.intro @Uz
 @jj))
 (And.intro (And.intro @o6
 @rowsOf.eq_1)
 (And.intro @rowsOf.eq_2
 @rowsOf.eq_3)))
 (And.intro (And.intro (And.intro @rowsOf.eq_4
 @rowsOf.eq_5)
 (And.intro @rowsOf.eq_6
 @tx.eq_1))
 (And.intro (And.intro @tx.eq_2
 @tx.eq_3)
 (And.intro @tx.eq_4
 @tx.eq_5))))))))
set_option linter.defProp false in
def VV:=And.intro W (And.intro (And.intro (And.intro @cd.eq_10 (And.intro @Bool.true_or @jA)) (And.intro (And.intro @Bool.or_true @Bool.or_false) (And.intro @bZ @bA)))
 (And.intro (And.intro @yE (And.intro @bytesOf.eq_1 @bytesOf.eq_2)) (And.intro @oC.eq_1 (And.intro @oC.eq_2 @UInt8.ofNat_toNat))))
set_option linter.defProp false in
def SS:=(And.intro (And.intro @ag.{0} (And.intro @ai.{0} @Fk.{0})) (And.intro @Fl.{0} (And.intro @aJ.{0} @aG.{0})))
set_option linter.defProp false in
def RS:=And.intro (And.intro (And.intro @kh.eq_1 @kh.eq_2) (And.intro @tV.eq_1 @tV.eq_2)) VV
set_option linter.defProp false in
def LW:=(And.intro (And.intro (And.intro (And.intro @gh.eq_1 (And.intro @gh.eq_2 @ar.{0})) (And.intro @aC.{0} (And.intro @Wj @Wq))) (And.intro (And.intro @OB (And.intro @Wl @RT)) (And.intro @RU (And.intro @qc @Wp)))) (And.intro (And.intro (And.intro @Jn (And.intro @Jm @RR)) (And.intro @RQ (And.intro @LF @Wm))) (And.intro (And.intro @Wn (And.intro @RV @RP)) (And.intro @and_true (And.intro @true_and @and_self)))))
theorem VR.QM{w:World}{σ:ah}{μ:Mem}{σ':ah}{μ':Mem}{x:V}{v:Value}(h:VR w σ μ x v){m:Nat}(hm:m≤σ'.length)
  (hw:∀ b off,wr σ' μ' b off→wr σ μ b off) (er:∀ id,id<m→σ'[id]?=σ[id]?) (s6:∀ id,id<m→μ' id=μ id) (hx:x.Lt m):VR w σ' μ' x v:=by
 induction h with
 | u v=>exact .u v
 | b x=>exact .b x
 | i k n=>exact .i k n
 | s l x hl hm=>exact .s l x hl hm
 | nil=>exact .nil
 | zY sz=>exact .zY sz
 | sle sz a=>exact .sle sz a
 | sl sz xs b o cap f hlen ku cm hc hv ih =>
  exact .sl sz xs b o cap f hlen ku cm (fun i j x hx=>⟨(hc i j x hx).1,fun h=>(hc i j x hx).2.1 (hw _ _ h),(hc i j x hx).2.2⟩) (fun i j x hx=>ih i j x hx (iY (hc i j x hx).2.2 m))
 | Ce sz=>exact .Ce sz
 | lit sz xs b o f ku cm hc hv ih =>
  exact .lit sz xs b o f ku cm (fun i j x hx=>⟨(hc i j x hx).1,fun h=>(hc i j x hx).2.1 (hw _ _ h),(hc i j x hx).2.2⟩) (fun i j x hx=>ih i j x hx (iY (hc i j x hx).2.2 m))
 | own id g v hid h =>
  cases hx with
  | own _ _ hl=>exact .own id g v (by omega) fun E sz by' g' sh xs ho=>by rw[s6 id hl];exact h E sz by' g' sh xs (er id hl▸ho)
 | sub id g lo hi v hid h =>
  cases hx with
  | sub _ _ _ _ hl=>exact .sub id g lo hi v (by omega) fun E sz by' g' sh xs ho=>by rw[s6 id hl];exact h E sz by' g' sh xs (er id hl▸ho)
 | ptr id off b h hm =>
  cases hx with
  | ptr _ _ hl =>
   obtain⟨T,cs,h1⟩:=h;exact .ptr id off b ⟨T,cs,(er id hl).trans h1⟩ ((s6 id hl).trans hm)
 | ep sz xs i off b o f hi cm hc hv ih =>
  exact .ep sz xs i off b o f hi cm (fun j x hx=>⟨(hc j x hx).1,fun h=>(hc j x hx).2.1 (hw _ _ h),(hc j x hx).2.2⟩) (fun j x hx=>ih j x hx (iY (hc j x hx).2.2 m))
 | rp id g i off v hid h =>
  cases hx with
  | rp _ _ _ _ hl=>exact .rp id g i off v (by omega) fun E sz by' g' sh xs ho=>by rw[s6 id hl];exact h E sz by' g' sh xs (er id hl▸ho)
 | mp id r h hm =>
  cases hx with
  | mp _ hl =>
   obtain⟨K,E,es,h1⟩:=h;exact .mp id r ⟨K,E,es,(er id hl).trans h1⟩ ((s6 id hl).trans hm)
 | fE=>exact .fE
 | ie=>exact .ie
 | fn f caps vs hl hv ih =>
  cases hx with
  | fn _ _ h=>exact .fn f caps vs hl fun i x hx=>ih i x hx (h i x hx)
 | agg xs vs hl hv ih =>
  cases hx with
  | agg _ h=>exact .agg xs vs hl fun i x hx=>ih i x hx (h i x hx)
 | gZ xs vs hl hv ih =>
  cases hx with
  | gZ _ h=>exact .gZ xs vs hl fun i x hx=>ih i x hx (h i x hx)
def RN(n k:Nat):V→V
 | .own id g=>if id=n+k then .own n 0 else .own id g
 | .mp id=>.mp (if id=n+k then n else id)
 | x=>x
def Ob.gen:Ob→Nat
 | .row _ _ _ g _ _=>g
 | _=>0
def Ob.fresh:Ob→Ob
 | .row E sz by' _ sh xs=>.row E sz by' 0 sh xs
 | o=>o
def Ec(n k g0:Nat):V→Prop
 | .own id g=>(id=n+k∧g=g0)∨id<n
 | .mp id=>id=n+k∨id<n
 | x=>x.Lt n
def Ob.flat:Ob→Bool
 | .row _ _ _ _ _ _ | .map _ _ _=>true
 | _=>false
theorem Wk.Wu{P:Program}{xs:List V}{σ loc:ah}(k:Nat){o:Ob}(aU:bG σ)(hk:loc[k]?=some o)(ho:o.flat=true)(hx:∀ x∈xs,Ec σ.length k o.gen x):
  Wk P σ.length xs (σ++loc) (xs.map (RN σ.length k)) (σ++[o.fresh]):=by
 intro B w0 w μ vs hS hC;have rG:k<loc.length:=(ab.1 hk).1;let μ':Mem:=fun j=>if j=σ.length then μ (σ.length+k)else μ j
 have s6:∀ id,id<σ.length→μ' id=μ id:=fun id h=>by simp only[μ'];rw[if_neg (by omega)]
 have JO:μ' σ.length=μ (σ.length+k):=by simp[μ']
 have er:∀ id,id<σ.length→(σ++[o.fresh])[id]?=(σ++loc)[id]?:=fun id h=>by rw[az h,az h]
 have h0:(σ++[o.fresh])[σ.length]?=some o.fresh:=by simp
 have hk':(σ++loc)[σ.length+k]?=some o:=by rw[aM (by omega),dJ];exact hk
 have cases0:∀ {id o'},(σ++[o.fresh])[id]?=some o'→(id<σ.length∧(σ++loc)[id]?=some o'∧μ' id=μ id)∨(id=σ.length∧o'=o.fresh):=by
  intro id o' h;rcases fM id σ.length with hl | hg
  ·exact .inl ⟨hl,er id hl▸h,s6 id hl⟩
  ·right;have eC:=(ab.1 h).1;simp at eC;have:id=σ.length:=by omega
   subst this;rw[h0]at h;exact⟨rfl,(ky h).symm⟩
 have hw:∀ b off,wr (σ++[o.fresh]) μ' b off→wr (σ++loc) μ b off:=by
  rintro b off ⟨id,o',h1,h2,h3⟩;rcases cases0 h1 with⟨h4,h5,h6⟩ | ⟨rfl,rfl⟩
  ·exact⟨id,o',h5,h6▸h2,h3⟩
  ·exact⟨σ.length+k,o,hk',JO▸h2,by cases o<;>exact h3⟩
 have mv:∀ {x v},VR w (σ++loc) μ x v→x.Lt σ.length→VR w (σ++[o.fresh]) μ' x v:=fun h hl=>h.QM (m:=σ.length) (by simp) hw er s6 hl;refine⟨μ',⟨hS.below,hS.base,fun id o' ho'=>?_,fun i j oi oj b hi hj h1 h2 h3 h4=>?_⟩,⟨by simp[hC.1],fun i y hy=>?_⟩,fun x v hv hl=>mv hv hl⟩
 ·rcases cases0 ho' with⟨h4,h5,h6⟩ | ⟨rfl,rfl⟩
  ·have dO:=hS.obj id o' h5;rw[h6];cases o' with
   | dead=>trivial
   | box T cs =>
    obtain⟨b,us,h1,h2,h3,h4',h5'⟩:=dO;have mq:=aU id T cs (by rwa [az h4]at h5);exact⟨b,us,h1,h2,h3,h4',fun j x hj=>let ⟨u,h6,h7⟩:=h5' j x hj;⟨u,h6,mv h7 (mq j x hj)⟩⟩
   | row E sz by' g sh rows =>
    obtain⟨h1,vals,h2,h3⟩:=dO;exact⟨h1,vals,h2,h3.1,fun i j x hj=>let ⟨h4,u,h5,h6⟩:=h3.2 i j x hj;⟨h4,u,h5,mv h6 (iY h4 _)⟩⟩
   | map K E es =>
    obtain⟨r,ents,clock,h1,h2,h3,h4⟩:=dO;exact⟨r,ents,clock,h1,h2,h3,h4.1,fun i k x hi=>let ⟨h5,h6,e,h7,h8,h9⟩:=h4.2.1 i k x hi;⟨h5,h6,e,h7,mv h8 (qP h5 _),mv h9 (qO h6 _)⟩,h4.2.2⟩
  ·have dO:=hS.obj (σ.length+k) o hk';rw[JO];cases o with
   | dead=>trivial
   | box T cs=>simp[Ob.flat]at ho
   | row E sz by' g sh rows =>
    obtain⟨h1,vals,h2,h3⟩:=dO;exact⟨h1,vals,h2,h3.1,fun i j x hj=>let ⟨h4,u,h5,h6⟩:=h3.2 i j x hj;⟨h4,u,h5,mv h6 (iY h4 _)⟩⟩
   | map K E es =>
    obtain⟨r,ents,clock,h1,h2,h3,h4⟩:=dO;exact⟨r,ents,clock,h1,h2,h3,h4.1,fun i k x hi=>let ⟨h5,h6,e,h7,h8,h9⟩:=h4.2.1 i k x hi;⟨h5,h6,e,h7,mv h8 (qP h5 _),mv h9 (qO h6 _)⟩,h4.2.2⟩
 ·rcases cases0 hi with⟨i1,i2,i3⟩ | ⟨rfl,rfl⟩<;>rcases cases0 hj with⟨j1,j2,j3⟩ | ⟨rfl,rfl⟩
  ·exact hS.sep i j oi oj b i2 j2 h1 h2 (i3▸h3) (j3▸h4)
  ·have:=hS.sep i (σ.length+k) oi o b i2 hk' h1 (by rintro rfl;exact h2 rfl) (i3▸h3) (JO▸h4);omega
  ·have:=hS.sep (σ.length+k) j o oj b hk' j2 (by rintro rfl;exact h1 rfl) h2 (JO▸h3) (j3▸h4);omega
  ·rfl
 ·rw[bg,ak]at hy;obtain⟨x,sj,rfl⟩:=hy;have hv:=hC.2 i x sj;have gC:=hx x (aN sj);cases x with
  | own id g =>
   simp only[RN];split
   ·rename_i e;subst e
    have hg:g=o.gen:=by
     simp only[Ec,true_and]at gC;omega
    cases o with
    | row E sz by' g' sh rows =>
     have Ko:g'=g:=hg.symm;subst Ko;have h1:=hv.jY hk';refine .own _ _ _ (by simp) fun E2 sz2 by2 g2 sh2 xs2 ho'=>?_;rw[h0]at ho';simp only[Ob.fresh,aa,Ob.row.injEq]at ho';rw[JO];exact⟨gF _,fun _=>h1⟩
    | _=>exact .own _ _ _ (by simp) fun E2 sz2 by2 g2 sh2 xs2 ho'=>by rw[h0]at ho';simp[Ob.fresh]at ho'
   ·rename_i e;simp only[Ec,e,false_and,false_or]at gC;exact mv hv (.own _ _ gC)
  | mp id =>
   simp only[RN];split
   ·rename_i e;subst e;obtain⟨r,h1,h2,K,E,es,h3⟩:=hv.Cs;rw[h1];refine .mp _ r ⟨K,E,es,?_⟩ (JO.trans h2);rw[h0];have h4:=hk'.symm.trans h3;simp only[aa]at h4;subst h4;rfl
   ·rename_i e;simp only[Ec,e,false_or]at gC;exact mv hv (.mp _ gC)
  | _=>exact mv hv gC
theorem Bi{P:Program}{rs:List Rs}{Q:V→ah→Prop}{e:Exit}{fr:List V}{σ loc:ah}{xs:List V}(k:Nat){o:Ob}(aU:bG σ)(he:e=.normal∨e=.ret)(hx:kh ⟨fr,σ++loc⟩ rs=some xs)
  (hk:loc[k]?=some o) (ho:o.flat=true) (hl:∀ x∈xs,Ec σ.length k o.gen x) (hQ:Q (one (xs.map (RN σ.length k))) (σ++[o.fresh])):wW P σ.length rs Q e ⟨fr,σ++loc⟩ :=
 ei he hx (Wk.Wu k aU hk ho hl) (by simp) hQ
theorem PC.post{P:Program}{f:Nat}{args:List V}{σ σ0 σ1:ah}{r0 r1:V}(h:PC P f args σ (fun r σ'=>r=r0∧σ'=σ0))(hw:Wk P σ.length [r0] σ0 [r1] σ1):PC P f args σ (fun r σ'=>r=r1∧σ'=σ1):=by
 intro B w0 w μ vs hS hv;have Mz:∀ x u,VR w σ μ x u→x.Lt σ.length:=fun x u h=>h.lt;refine(h B w0 w μ vs hS hv).mono ?_;rintro e w' ⟨r,v,σ',μ',he,⟨rfl,rfl⟩,h1,h2,h3⟩
 obtain⟨μ2,h4,h5,h6⟩:=hw B w0 w' μ' #[v] h1 ⟨rfl,fun i x hx=>by
  cases i with
  | zero=>simp only[ax,aa]at hx;subst hx;simpa using h2
  | succ i=>simp at hx⟩
 exact⟨r1,v,σ1,μ2,he,⟨rfl,rfl⟩,h4,by have:=h5.2 0 r1 rfl;simpa using this,fun x u hx=>h6 x u (h3 x u hx) (Mz x u hx)⟩
theorem PC.fz{P:Program}{f:Nat}{args:List V}{σ:ah}{E sz by' g:Nat}{sh:Bool}{rows:List (List V)}(aU:bG σ)
  (h:PC P f args σ (fun r σ'=>r=.own σ.length g∧σ'=σ++[.row E sz by' g sh rows])):PC P f args σ (fun r σ'=>r=.sl sz rows∧σ'=σ):=by
 refine h.post ?_;refine(Wk.fz σ.length (by simp;exact⟨rfl,rfl,rfl,rfl,rfl,rfl⟩)).trans ?_;rw[ed _ _ (aw _),eU];simp only[aW,aZ,Pm.fz,kF,and_self,if_true];exact Wk.EM aU (by simp only[gh,qc,and_self])
theorem o0{P:Program}{d:Option Nat}{f:Nat}{args:List O}{K:St→Prop}{fr:List V}{σ σ2:ah}{zs:List V}{v:V}(id:Nat){E sz by' g:Nat}{sh:Bool}{rows:List (List V)}(ho:σ[id]?=some (.row E sz by' g sh rows))
  (h:PC P f zs (σ.set id (.row E sz by' g true rows)) (fun r σ'=>r=v∧σ'=σ2)) (hz:(args.map (ev fr)).map (fz id g sz rows)=zs) (hK:K ⟨ez fr d v,σ2⟩) :
  gI P ⟨d,[],.call f args⟩ K ⟨fr,σ⟩:=by
 subst hz;exact an (PC.wk (Wk.fz id ho) h) rfl hK
theorem PC.closed{P:Program}{f:Nat}{args:List V}{σ:ah}{Q:V→ah→Prop}(h:bG σ→PC P f args σ Q):PC P f args σ Q :=
 fun B w0 w μ vs hS hv=>h hS.closed B w0 w μ vs hS hv
theorem Wk.cell{P:Program}{n:Nat}{xs:List V}{σ:ah}{id T j:Nat}{cs:List V}{x y:V}(hid:σ[id]?=some (.box T cs))(hj:cs[j]?=some x)
  (hv:∀ (w:World) (μ:Mem) (v:Value),(∀ i o,σ[i]?=some o→∃ P B,zN P B w σ μ (μ i) o)→VR w σ μ x v→VR w σ μ y v):Wk P n xs σ xs (σ.set id (.box T (cs.set j y))):=by
 intro B w0 w μ vs hS hC;have eC:id<σ.length:=(ab.1 hid).1;have rk:j<cs.length:=(ab.1 hj).1
 have h:=hS.update (w':=w) (σ':=σ.set id (.box T (cs.set j y))) (μ':=μ) id none (grownBy_refl w none) (by simp) (by simp) (fun k hk=>aO (fun e=>hk e.symm)) (fun k hk=>rfl)
  (fun b hb=>.inl ⟨_,hid,by simp,hb⟩)
  (fun b off v o ho hd hb hc hw=>⟨hc,fun o' ho' hb' ha=>hw ⟨id,o,ho,hb,by
   rw[hid]at ho;cases ho;trivial⟩⟩)
  (fun T' cs' h=>by rw[hid]at h;cases h;exact⟨⟨_,by rw[aq eC]⟩,rfl⟩)
  (fun K E es h=>by rw[hid]at h;cases h)
  (fun E sz by' g' sh ys _ h=>by rw[aq eC]at h;simp at h)
  (fun hp o ho=>by
   rw[aq eC]at ho;simp only[aa]at ho;subst ho;obtain⟨b,us,h1,h2,h3,h4,h5⟩:=hS.obj id _ hid;refine⟨b,us,h1,h2,h3,by simpa using h4,fun k z hz=>?_⟩
   by_cases hk:j=k
   ·subst hk;rw[aq rk]at hz;simp only[aa]at hz;subst hz;obtain⟨u,h6,h7⟩:=h5 j x hj;exact⟨u,h6,(hv w μ u (fun i o ho=>⟨P,B,hS.obj i o ho⟩) h7).mono hp⟩
   ·rw[aO hk]at hz;obtain⟨u,h6,h7⟩:=h5 k z hz;exact⟨u,h6,h7.mono hp⟩)
 exact⟨μ,h.1,⟨hC.1,fun i x hx=>(hC.2 i x hx).mono h.2⟩,h.2.eO.IC⟩
theorem Wk.UE{P:Program}{n:Nat}{xs:List V}{σ:ah}{id T j idr E sz by' g:Nat}{cs:List V}{sh:Bool}{rows:List (List V)}(hid:σ[id]?=some (.box T cs))(hj:cs[j]?=some .nil)(hr:σ[idr]?=some (.row E sz by' g sh rows)):
  Wk P n xs σ xs ((σ.set idr (.row E sz by' (g+1) false [])).set id (.box T (cs.set j (.own idr (g+1))))):=by
 have js:id≠idr:=fun e=>by subst e;rw[hid]at hr;cases hr
 intro B w0 w μ vs hS hC;have X3:idr<σ.length:=(ab.1 hr).1;obtain⟨hT,_⟩:=hS.obj idr _ hr
 have h:=hS.update (w':=w) (σ':=σ.set idr (.row E sz by' (g+1) false [])) (μ':=qH μ idr (.slice none 0 0)) idr none (grownBy_refl w none) (by simp) (by simp) (fun k hk=>aO (fun e=>hk e.symm)) (fun k hk=>nU _ _ _ _ hk)
  (fun b hb=>by rw[dL]at hb;simp[iT]at hb)
  (fun b off v o ho hd hb hc hw=>⟨hc,fun o' ho' hb'=>by rw[dL]at hb';simp[iT]at hb'⟩)
  (fun T' cs' h=>by rw[hr]at h;cases h)
  (fun K E es h=>by rw[hr]at h;cases h)
  (fun E2 sz2 by2 g' sh2 ys _ h=>by
   rw[aq X3]at h;simp only[aa,Ob.row.injEq]at h;obtain⟨rfl,rfl,rfl,rfl,rfl,rfl⟩:=h;exact⟨g,sh,rows,hr,by omega,fun e=>by omega⟩)
  (fun hp o ho=>by
   rw[aq X3]at ho;simp only[aa]at ho;subst ho;rw[dL];exact⟨hT,[],World.ownsRow_nil w B E sz,by simp,by simp[ft]⟩)
 have vY:(σ.set idr (.row E sz by' (g+1) false []))[id]?=some (.box T cs):=by rw[aO (fun e=>js e.symm)];exact hid
 have SN:(σ.set idr (.row E sz by' (g+1) false []))[idr]?=some (.row E sz by' (g+1) false []):=by rw[aq X3]
 have rX:id<(σ.set idr (.row E sz by' (g+1) false [])).length:=(ab.1 vY).1;have rk:j<cs.length:=(ab.1 hj).1
 have h2:=h.1.update (w':=w) (σ':=(σ.set idr (.row E sz by' (g+1) false [])).set id (.box T (cs.set j (.own idr (g+1))))) (μ':=qH μ idr (.slice none 0 0)) id none (grownBy_refl w none) (by simp) (by simp) (fun k hk=>aO (fun e=>hk e.symm)) (fun k hk=>rfl)
  (fun b hb=>.inl ⟨_,vY,by simp,hb⟩)
  (fun b off v o ho hd hb hc hw=>⟨hc,fun o' ho' hb' ha=>hw ⟨id,o,ho,hb,by
   rw[vY]at ho;cases ho;trivial⟩⟩)
  (fun T' cs' h=>by rw[vY]at h;cases h;exact⟨⟨_,by rw[aq rX]⟩,rfl⟩)
  (fun K E es h=>by rw[vY]at h;cases h)
  (fun E sz by' g' sh ys _ h=>by rw[aq rX]at h;simp at h)
  (fun hp o ho=>by
   rw[aq rX]at ho;simp only[aa]at ho;subst ho;obtain⟨b,us,h1,h2,h3,h4,h5⟩:=h.1.obj id _ vY;refine⟨b,us,h1,h2,h3,by simpa using h4,fun k z hz=>?_⟩
   by_cases hk:j=k
   ·subst hk;rw[aq rk]at hz;simp only[aa]at hz;subst hz;obtain⟨u,h6,h7⟩:=h5 j .nil hj;have hu:=h7.lA;subst hu;have:=(VR.lM (w:=w) (μ:=qH μ idr (.slice none 0 0)) SN);rw[dL]at this;exact⟨_,h6,this.mono hp⟩
   ·rw[aO hk]at hz;obtain⟨u,h6,h7⟩:=h5 k z hz;exact⟨u,h6,h7.mono hp⟩)
 exact⟨_,h2.1,⟨hC.1,fun i x hx=>((hC.2 i x hx).mono h.2).mono h2.2⟩,fun x v hv hl=>(hv.mono h.2).mono h2.2⟩
theorem Wk.qq{P:Program}{n:Nat}{xs:List V}{σ:ah}{id T j E sz by':Nat}{cs:List V}(hT:Ti P E sz by')(hid:σ[id]?=some (.box T cs))(hj:cs[j]?=some .nil):
  Wk P n xs σ xs ((σ.set id (.box T (cs.set j (.own σ.length 0))))++[.row E sz by' 0 false []]):=by
 intro B w0 w μ vs hS hC;have eC:id<σ.length:=(ab.1 hid).1;have hn:=hS.pY (w':=w) (.row E sz by' 0 false []) (.slice none 0 0) (grownBy_refl w none) (by simp[iT]) (fun _=>⟨hT,[],World.ownsRow_nil w B E sz,by simp,by simp[ft]⟩);have hr:(σ++[.row E sz by' 0 false []])[σ.length]?=some (.row E sz by' 0 false []):=by simp
 have vY:(σ++[.row E sz by' 0 false []])[id]?=some (.box T cs):=by rw[az eC];exact hid
 have rX:id<(σ++[Ob.row E sz by' 0 false []]).length:=by simp;omega
 have rk:j<cs.length:=(ab.1 hj).1;have he:(σ.set id (.box T (cs.set j (.own σ.length 0))))++[Ob.row E sz by' 0 false []]=(σ++[Ob.row E sz by' 0 false []]).set id (.box T (cs.set j (.own σ.length 0))):=by rw[C6 _ _ eC]
 rw[he]
 have h2:=hn.1.update (w':=w) (σ':=(σ++[Ob.row E sz by' 0 false []]).set id (.box T (cs.set j (.own σ.length 0)))) (μ':=qH μ σ.length (.slice none 0 0)) id none (grownBy_refl w none) (by simp) (by simp) (fun k hk=>aO (fun e=>hk e.symm)) (fun k hk=>rfl)
  (fun b hb=>.inl ⟨_,vY,by simp,hb⟩)
  (fun b off v o ho hd hb hc hw=>⟨hc,fun o' ho' hb' ha=>hw ⟨id,o,ho,hb,by
   rw[vY]at ho;cases ho;trivial⟩⟩)
  (fun T' cs' h=>by rw[vY]at h;cases h;exact⟨⟨_,by rw[aq rX]⟩,rfl⟩)
  (fun K E es h=>by rw[vY]at h;cases h)
  (fun E sz by' g' sh ys _ h=>by rw[aq rX]at h;simp at h)
  (fun hp o ho=>by
   rw[aq rX]at ho;simp only[aa]at ho;subst ho;obtain⟨b,us,h1,h2,h3,h4,h5⟩:=hn.1.obj id _ vY;refine⟨b,us,h1,h2,h3,by simpa using h4,fun k z hz=>?_⟩
   by_cases hk:j=k
   ·subst hk;rw[aq rk]at hz;simp only[aa]at hz;subst hz;obtain⟨u,h6,h7⟩:=h5 j .nil hj;have hu:=h7.lA;subst hu;have:=(VR.lM (w:=w) (μ:=qH μ σ.length (.slice none 0 0)) hr);rw[dL]at this;exact⟨_,h6,this.mono hp⟩
   ·rw[aO hk]at hz;obtain⟨u,h6,h7⟩:=h5 k z hz;exact⟨u,h6,h7.mono hp⟩)
 exact⟨_,h2.1,⟨hC.1,fun i x hx=>((hC.2 i x hx).mono hn.2).mono h2.2⟩,fun x v hv hl=>(hv.mono hn.2).mono h2.2⟩
theorem bX.cut{n:Nat}{P:Program}{a b:bj}{K:Exit→St→Prop}{st:St}(h:∀ R:St→Prop,(∀ st',bX n P b K st'→R st')→vI n P a (yY R K) st):bX n P (.seq a b) K st:=by
 refine bX.seq ?_;refine(al (h (bX n P b K) fun _ h=>h)).mono fun e st' hk=>?_;cases e<;>exact hk
theorem bX.ic{n:Nat}{P:Program}{c:bj}{K:Exit→St→Prop}{fr fr':List V}{σ:ah}(k:bX n P c K ⟨fr',σ⟩)(hc:nP fr fr'):bX n P c K ⟨fr,σ⟩:=bX.wk (Wk.ic hc) k
theorem bX.drop{n:Nat}{P:Program}{c:bj}{K:Exit→St→Prop}{fr fr':List V}{σ:ah}(l loc:ah)(hn:n≤σ.length+l.length)(aU:bG (σ++l))(hc:nP fr fr')(hl:gh (σ.length+l.length) fr')(k:bX n P c K ⟨fr',σ++l⟩):bX n P c K ⟨fr,σ++(l++loc)⟩:=by
 rw[← List.append_assoc];exact bX.wk ((Wk.ic hc).trans (Wk.vC (by rw[List.length_append];exact hn) aU (by rw[List.length_append];exact eW.1 hl))) k
theorem vF{σ l l':ah}(h:bG (σ++l))(hl:l.length≤l'.length)(hb:∀ o∈l',match o with | .box _ cs=>gh (σ.length+l'.length) cs | _=>True):bG (σ++l'):=by
 intro id T cs hid j x hx;rw[List.length_append];rcases fM id σ.length with eC | MB
 ·rw[az eC]at hid;have:=h id T cs (by rw[az eC];exact hid) j x hx;rw[List.length_append]at this;exact this.mono (by omega)
 ·rw[aM MB]at hid;have:=hb _ (aN hid);simp only at this;exact eW.1 this j x hx
inductive Mv (n:Nat) (loc:ah) (ks:List Nat):V→V→Prop
 | own (i k E sz by' g:Nat) (sh:Bool) (rows:List (List V)) (hk:ks[i]?=some k) (ho:loc[k]?=some (.row E sz by' g sh rows)):Mv n loc ks (.own (n+k) g) (.own (n+i) 0)
 | eO (x:V) (h:x.Lt n):Mv n loc ks x x
 | forget (x:V):Mv n loc ks x .u
 | agg (xs ys:List V) (hl:ys.length=xs.length) (h:∀ (i:Nat) (x y:V),xs[i]?=some x→ys[i]?=some y→Mv n loc ks x y):Mv n loc ks (.agg xs) (.agg ys)
inductive TV (n:Nat) (loc:ah) (ks:List Nat):List V→List V→Prop
 | nil:TV n loc ks [] []
 | cons {x y xs ys} (h:Mv n loc ks x y) (t:TV n loc ks xs ys):TV n loc ks (x::xs) (y::ys)
theorem TV.at{n:Nat}{loc:ah}{ks:List Nat}{xs ys:List V}(h:TV n loc ks xs ys):ys.length=xs.length∧∀ (i:Nat) (x y:V),xs[i]?=some x→ys[i]?=some y→Mv n loc ks x y:=by
 induction h with
 | nil=>simp
 | cons h t ih =>
  refine⟨by simp[ih.1],fun i x y hx hy=>?_⟩;cases i with
  | zero=>simp only[ax,aa]at hx hy;subst hx;subst hy;exact h
  | succ i=>exact ih.2 i x y (by simpa using hx) (by simpa using hy)
theorem Wk.L7{P:Program}{xs ys:List V}{σ loc os:ah}(ks:List Nat)(aU:bG σ)(T8:ks.Nodup)(hlen:os.length=ks.length)
  (X1:∀ (i k:Nat),ks[i]?=some k→∃ o,loc[k]?=some o∧o.flat=true∧os[i]?=some o.fresh) (hx:TV σ.length loc ks xs ys):Wk P σ.length xs (σ++loc) ys (σ++os):=by
 intro B w0 w μ vs hS hC;let μ':Mem:=fun j=>if j<σ.length then μ j else μ (σ.length+ks.getD (j - σ.length) 0)
 have s6:∀ id,id<σ.length→μ' id=μ id:=fun id h=>by simp only[μ'];rw[if_pos h]
 have WV:∀ i k,ks[i]?=some k→μ' (σ.length+i)=μ (σ.length+k):=fun i k hk=>by
  simp only[μ'];rw[if_neg (by omega),dJ,List.getD_eq_getElem?_getD,hk];rfl
 have er:∀ id,id<σ.length→(σ++os)[id]?=(σ++loc)[id]?:=fun id h=>by rw[az h,az h]
 have v7:∀ i,(σ++os)[σ.length+i]?=os[i]?:=fun i=>by rw[aM (by omega),dJ]
 have EE:∀ i,(σ++loc)[σ.length+i]?=loc[i]?:=fun i=>by rw[aM (by omega),dJ]
 have cases0:∀ {id o'},(σ++os)[id]?=some o'→(id<σ.length∧(σ++loc)[id]?=some o'∧μ' id=μ id) ∨
   (∃ i k o,id=σ.length+i∧ks[i]?=some k∧(σ++loc)[σ.length+k]?=some o∧o.flat=true∧o'=o.fresh∧μ' id=μ (σ.length+k)):=by
  intro id o' h;rcases fM id σ.length with hl | hg
  ·exact .inl ⟨hl,er id hl▸h,s6 id hl⟩
  ·right;obtain⟨i,rfl⟩:∃ i,id=σ.length+i:=⟨id - σ.length,by omega⟩;rw[v7]at h;have hi:i<ks.length:=by rw[← hlen];exact(ab.1 h).1
   obtain⟨k,hk⟩:∃ k,ks[i]?=some k:=⟨_,ao hi⟩;obtain⟨o,h1,h2,h3⟩:=X1 i k hk;rw[h]at h3;exact⟨i,k,o,rfl,hk,by rw[EE];exact h1,h2,ky h3,WV i k hk⟩
 have hw:∀ b off,wr (σ++os) μ' b off→wr (σ++loc) μ b off:=by
  rintro b off ⟨id,o',h1,h2,h3⟩;rcases cases0 h1 with⟨h4,h5,h6⟩ | ⟨i,k,o,rfl,_,h5,h6,rfl,h7⟩
  ·exact⟨id,o',h5,h6▸h2,h3⟩
  ·exact⟨σ.length+k,o,h5,h7▸h2,by cases o<;>exact h3⟩
 have mv:∀ {x v},VR w (σ++loc) μ x v→x.Lt σ.length→VR w (σ++os) μ' x v:=fun h hl=>h.QM (m:=σ.length) (by simp) hw er s6 hl;obtain⟨wq,YE⟩:=hx.at;refine⟨μ',⟨hS.below,hS.base,fun id o' ho'=>?_,fun i j oi oj b hi hj h1 h2 h3 h4=>?_⟩,⟨by rw[wq];exact hC.1,fun i y hy=>?_⟩,fun x v hv hl=>mv hv hl⟩
 ·rcases cases0 ho' with⟨h4,h5,h6⟩ | ⟨i,k,o,rfl,_,h5,h6,rfl,h7⟩
  ·have dO:=hS.obj id o' h5;rw[h6];cases o' with
   | dead=>trivial
   | box T cs =>
    obtain⟨b,us,h1,h2,h3,h4',h5'⟩:=dO;have mq:=aU id T cs (by rwa [az h4]at h5);exact⟨b,us,h1,h2,h3,h4',fun j x hj=>let ⟨u,h6,h7⟩:=h5' j x hj;⟨u,h6,mv h7 (mq j x hj)⟩⟩
   | row E sz by' g sh rows =>
    obtain⟨h1,vals,h2,h3⟩:=dO;exact⟨h1,vals,h2,h3.1,fun i j x hj=>let ⟨h4,u,h5,h6⟩:=h3.2 i j x hj;⟨h4,u,h5,mv h6 (iY h4 _)⟩⟩
   | map K E es =>
    obtain⟨r,ents,clock,h1,h2,h3,h4⟩:=dO;exact⟨r,ents,clock,h1,h2,h3,h4.1,fun i k x hi=>let ⟨h5,h6,e,h7,h8,h9⟩:=h4.2.1 i k x hi;⟨h5,h6,e,h7,mv h8 (qP h5 _),mv h9 (qO h6 _)⟩,h4.2.2⟩
  ·have dO:=hS.obj (σ.length+k) o h5;rw[h7];cases o with
   | dead=>trivial
   | box T cs=>simp[Ob.flat]at h6
   | row E sz by' g sh rows =>
    obtain⟨h1,vals,h2,h3⟩:=dO;exact⟨h1,vals,h2,h3.1,fun i j x hj=>let ⟨h4,u,h5,h6⟩:=h3.2 i j x hj;⟨h4,u,h5,mv h6 (iY h4 _)⟩⟩
   | map K E es =>
    obtain⟨r,ents,clock,h1,h2,h3,h4⟩:=dO;exact⟨r,ents,clock,h1,h2,h3,h4.1,fun i k x hi=>let ⟨h5,h6,e,h7,h8,h9⟩:=h4.2.1 i k x hi;⟨h5,h6,e,h7,mv h8 (qP h5 _),mv h9 (qO h6 _)⟩,h4.2.2⟩
 ·have nd:∀ {o:Ob},o.fresh≠.dead→o≠.dead:=fun h e=>h (by rw[e];rfl);rcases cases0 hi with⟨i1,i2,i3⟩ | ⟨i',k,o,rfl,ik,i5,_,rfl,i7⟩<;>rcases cases0 hj with⟨j1,j2,j3⟩ | ⟨j',k',o',rfl,jk,j5,_,rfl,j7⟩
  ·exact hS.sep i j oi oj b i2 j2 h1 h2 (i3▸h3) (j3▸h4)
  ·have:=hS.sep i (σ.length+k') oi o' b i2 j5 h1 (nd h2) (i3▸h3) (j7▸h4);omega
  ·have:=hS.sep (σ.length+k) j o oj b i5 j2 (nd h1) h2 (i7▸h3) (j3▸h4);omega
  ·have e:=hS.sep (σ.length+k) (σ.length+k') o o' b i5 j5 (nd h1) (nd h2) (i7▸h3) (j7▸h4);have e:k=k':=by omega
   subst e
   have e2:i'=j':=by
    obtain⟨l1,g1⟩:=ab.1 ik;obtain⟨l2,g2⟩:=ab.1 jk;exact(List.getElem_inj T8).1 (g1.trans g2.symm)
   rw[e2]
 ·have pC:i<xs.length:=by rw[← wq];exact(ab.1 hy).1
  obtain⟨x,sj⟩:∃ x,xs[i]?=some x:=⟨_,ao pC⟩;have hv:=hC.2 i x sj;have hm:=YE i x y sj hy;clear sj hy pC;generalize vs.getD i undef=v at hv ⊢
  induction hm generalizing v with
  | own i' k E sz by' g sh rows hk ho =>
   have hk':(σ++loc)[σ.length+k]?=some (.row E sz by' g sh rows):=by rw[EE];exact ho
   have h1:=hv.jY hk';have hi':i'<os.length:=by rw[hlen];exact(ab.1 hk).1
   obtain⟨o,q1,_,q3⟩:=X1 i' k hk;rw[ho]at q1;simp only[aa]at q1;subst q1;refine .own _ _ _ (by simp;omega) fun E2 sz2 by2 g2 sh2 xs2 ho'=>?_;rw[v7,q3]at ho';simp only[Ob.fresh,aa,Ob.row.injEq]at ho';rw[WV i' k hk];exact⟨gF _,fun _=>h1⟩
  | eO x h=>exact mv hv h
  | forget x=>exact .u _
  | agg as bs hl h ih =>
   obtain⟨us,rfl,h1,h2⟩:=hv.nz;refine .agg bs us (by rw[hl,h1]) fun j y hj=>?_;have rk:j<as.length:=by rw[← hl];exact(ab.1 hj).1
   exact ih j _ y (ao rk) hj _ (h2 j _ (ao rk))
theorem Mv.ng{n:Nat}{loc:ah}{ks:List Nat}{xs ys:List V}(h:TV n loc ks xs ys):Mv n loc ks (.agg xs) (.agg ys):=.agg xs ys h.at.1 h.at.2
def gP(σ:ah)(k a b c:Nat)(K A B C:Ob):ah:=(((σ.set a A).set b B).set c C).set k K
structure sb (σ:ah) (k a b c:Nat):Prop where
 lk:k<σ.length
 la:a<σ.length
 lb:b<σ.length
 lc:c<σ.length
 nka:k≠a
 nkb:k≠b
 nkc:k≠c
 nab:a≠b
 nac:a≠c
 nbc:b≠c
section
variable {σ:ah} {k a b c:Nat} {K A B C X:Ob} {l:ah} {j:Nat}
theorem jB:(gP σ k a b c K A B C).length=σ.length:=by simp[gP]
theorem wN:(gP σ k a b c K A B C++l)[σ.length+j]?=l[j]?:=by
 rw[aM (by rw[jB];omega),jB];congr 1;omega
theorem wM:(gP σ k a b c K A B C++l).set (σ.length+j) X=gP σ k a b c K A B C++l.set j X:=by
 rw[ed _ _ (by rw[jB];omega),jB];congr 2;omega
theorem sb.gk0(h:sb σ k a b c):(gP σ k a b c K A B C)[k]?=some K:=by
 rw[gP,aq (by simpa using h.lk)]
theorem sb.ga0(h:sb σ k a b c):(gP σ k a b c K A B C)[a]?=some A:=by
 rw[gP,aO h.nka,aO h.nac.symm,aO h.nab.symm,aq h.la]
theorem sb.gb0(h:sb σ k a b c):(gP σ k a b c K A B C)[b]?=some B:=by
 rw[gP,aO h.nkb,aO h.nbc.symm,aq (by simpa using h.lb)]
theorem sb.gc0(h:sb σ k a b c):(gP σ k a b c K A B C)[c]?=some C:=by
 rw[gP,aO h.nkc,aq (by simpa using h.lc)]
theorem sb.sk0(_h:sb σ k a b c):(gP σ k a b c K A B C).set k X=gP σ k a b c X A B C:=by simp[gP]
theorem sb.sa0(h:sb σ k a b c):(gP σ k a b c K A B C).set a X=gP σ k a b c K X B C:=by
 simp only[gP];rw[pw _ _ h.nka,pw _ _ h.nac.symm,pw _ _ h.nab.symm,ru]
theorem sb.sb0(h:sb σ k a b c):(gP σ k a b c K A B C).set b X=gP σ k a b c K A X C:=by
 simp only[gP];rw[pw _ _ h.nkb,pw _ _ h.nbc.symm,ru]
theorem sb.sc0(h:sb σ k a b c):(gP σ k a b c K A B C).set c X=gP σ k a b c K A B X:=by
 simp only[gP];rw[pw _ _ h.nkc,ru]
theorem uW{σ l:ah}{k:Nat}{X:Ob}(h:σ[k]?=some X):(σ++l)[k]?=some X:=by
 rw[az (ab.1 h).1,h]
theorem wy{σ τ l:ah}{k:Nat}{X:Ob}(hk:k<σ.length)(h:σ.set k X=τ):(σ++l).set k X=τ++l:=by
 rw[C6 _ _ hk,h]
theorem sb.all(h:sb σ k a b c):((∀ K A B C,(gP σ k a b c K A B C)[k]?=some K)∧(∀ K A B C,(gP σ k a b c K A B C)[a]?=some A)∧(∀ K A B C,(gP σ k a b c K A B C)[b]?=some B)∧(∀ K A B C,(gP σ k a b c K A B C)[c]?=some C)) ∧
  ((∀ K A B C l,(gP σ k a b c K A B C++l)[k]?=some K)∧(∀ K A B C l,(gP σ k a b c K A B C++l)[a]?=some A)∧(∀ K A B C l,(gP σ k a b c K A B C++l)[b]?=some B)∧(∀ K A B C l,(gP σ k a b c K A B C++l)[c]?=some C)) ∧
  ((∀ K A B C X,(gP σ k a b c K A B C).set k X=gP σ k a b c X A B C)∧(∀ K A B C X,(gP σ k a b c K A B C).set a X=gP σ k a b c K X B C)∧(∀ K A B C X,(gP σ k a b c K A B C).set b X=gP σ k a b c K A X C)∧(∀ K A B C X,(gP σ k a b c K A B C).set c X=gP σ k a b c K A B X)) ∧
  ((∀ K A B C l X,(gP σ k a b c K A B C++l).set k X=gP σ k a b c X A B C++l)∧(∀ K A B C l X,(gP σ k a b c K A B C++l).set a X=gP σ k a b c K X B C++l)∧(∀ K A B C l X,(gP σ k a b c K A B C++l).set b X=gP σ k a b c K A X C++l)∧(∀ K A B C l X,(gP σ k a b c K A B C++l).set c X=gP σ k a b c K A B X++l)) ∧
  (∀ K A B C,(gP σ k a b c K A B C).length=σ.length)∧(∀ K A B C l,(gP σ k a b c K A B C++l).length=σ.length+l.length) ∧
  (∀ K A B C l j,(gP σ k a b c K A B C++l)[σ.length+j]?=l[j]?)∧(∀ K A B C l,(gP σ k a b c K A B C++l)[σ.length]?=l[0]?) ∧
  (∀ K A B C l j X,(gP σ k a b c K A B C++l).set (σ.length+j) X=gP σ k a b c K A B C++l.set j X)∧(∀ K A B C l X,(gP σ k a b c K A B C++l).set σ.length X=gP σ k a b c K A B C++l.set 0 X) :=
 have L:∀ {K A B C:Ob} {j:Nat},j<σ.length→j<(gP σ k a b c K A B C).length:=fun h=>by rw[jB];exact h
 ⟨⟨fun _ _ _ _=>h.gk0,fun _ _ _ _=>h.ga0,fun _ _ _ _=>h.gb0,fun _ _ _ _=>h.gc0⟩,⟨fun _ _ _ _ _=>uW h.gk0,fun _ _ _ _ _=>uW h.ga0,fun _ _ _ _ _=>uW h.gb0,fun _ _ _ _ _=>uW h.gc0⟩,
  ⟨fun _ _ _ _ _=>h.sk0,fun _ _ _ _ _=>h.sa0,fun _ _ _ _ _=>h.sb0,fun _ _ _ _ _=>h.sc0⟩,⟨fun _ _ _ _ _ _=>wy (L h.lk) h.sk0,fun _ _ _ _ _ _=>wy (L h.la) h.sa0,fun _ _ _ _ _ _=>wy (L h.lb) h.sb0,fun _ _ _ _ _ _=>wy (L h.lc) h.sc0⟩,
  fun _ _ _ _=>jB,fun _ _ _ _ _=>by rw[List.length_append,jB],fun _ _ _ _ _ _=>wN,fun _ _ _ _ _=>wN (j:=0),fun _ _ _ _ _ _ _=>wM,fun _ _ _ _ _ _=>wM (j:=0)⟩
theorem nI{τ l:ah}{k a b c:Nat}{K A B C:Ob}:gP (τ++l) (τ.length+k) (τ.length+a) (τ.length+b) (τ.length+c) K A B C=τ++(((l.set a A).set b B).set c C).set k K:=by
 simp only[gP,mV]
def kx(n:Nat):Ob→Prop
 | .box _ cs=>∀ (j:Nat) (x:V),cs[j]?=some x→x.Lt n
 | _=>True
theorem wL{K0 A0 B0 C0:Ob}(aU:bG (gP σ k a b c K0 A0 B0 C0))(hK:kx σ.length K)(hA:kx σ.length A)(hB:kx σ.length B)(hC:kx σ.length C):bG (gP σ k a b c K A B C):=by
 intro id T cs ho j x hj;rw[jB]
 by_cases hk:k=id
 ·subst hk;simp only[gP,nQ,if_true,yL]at ho;split at ho
  ·simp only[aa]at ho;subst ho;exact hK j x hj
  ·cases ho
 by_cases hc:c=id
 ·subst hc;simp only[gP,nQ,hk,if_true,if_false,yL]at ho;split at ho
  ·simp only[aa]at ho;subst ho;exact hC j x hj
  ·cases ho
 by_cases hb:b=id
 ·subst hb;simp only[gP,nQ,hk,hc,if_true,if_false,yL]at ho;split at ho
  ·simp only[aa]at ho;subst ho;exact hB j x hj
  ·cases ho
 by_cases ha:a=id
 ·subst ha;simp only[gP,nQ,hk,hb,hc,if_true,if_false]at ho;split at ho
  ·simp only[aa]at ho;subst ho;exact hA j x hj
  ·cases ho
 ·have h2:(gP σ k a b c K0 A0 B0 C0)[id]?=some (.box T cs):=by
   simp only[gP,nQ,hk,ha,hb,hc,if_false]at ho ⊢;exact ho
  have:=aU id T cs h2 j x hj
  rwa [jB]at this
end
theorem gM.back{P:Program}{B:Nat}{w0 w:World}{σ loc:ah}{μ:Mem}(aU:bG σ)(hS:gM P B w0 w (σ++loc) μ):gM P B w0 w σ μ:=by
 have er:∀ {id:Nat} {o:Ob},σ[id]?=some o→id<σ.length∧(σ++loc)[id]?=some o:=by
  intro id o h;have hl:=(ab.1 h).1;exact⟨hl,by rw[az hl];exact h⟩
 have tk:∀ {x:V} {v:Value},VR w (σ++loc) μ x v→x.Lt σ.length→VR w σ μ x v:=fun h hl=>by
  have:=h.take (m:=σ.length) (by simp) hl;simpa using this
 refine⟨hS.below,hS.base,fun id o ho=>?_,fun i j oi oj b hi hj h1 h2 h3 h4=>hS.sep i j oi oj b (er hi).2 (er hj).2 h1 h2 h3 h4⟩;obtain⟨hid,ho'⟩:=er ho;have dO:=hS.obj id o ho';cases o with
 | dead=>trivial
 | box T cs =>
  obtain⟨b,us,h1,h2,h3,h4,h5⟩:=dO;exact⟨b,us,h1,h2,h3,h4,fun j x hj=>let ⟨u,h6,h7⟩:=h5 j x hj;⟨u,h6,tk h7 (aU id T cs ho j x hj)⟩⟩
 | row E sz by' g sh rows =>
  obtain⟨h1,vals,h2,h3⟩:=dO;exact⟨h1,vals,h2,h3.1,fun i j x hj=>let ⟨h4,u,h5,h6⟩:=h3.2 i j x hj;⟨h4,u,h5,tk h6 (iY h4 _)⟩⟩
 | map K E es =>
  obtain⟨r,ents,clock,h1,h2,h3,h4⟩:=dO;exact⟨r,ents,clock,h1,h2,h3,h4.1,fun i k x hi=>let ⟨h5,h6,e,h7,h8,h9⟩:=h4.2.1 i k x hi;⟨h5,h6,e,h7,tk h8 (qP h5 _),tk h9 (qO h6 _)⟩,h4.2.2⟩
inductive Bv (n k:Nat) (cs:List V):V→V→Prop
 | ptr (off:Nat):Bv n k cs (.ptr (n+k) off) (.ep cs.length [cs] 0 off)
 | eO (x:V) (h:x.Lt n):Bv n k cs x x
 | forget (x:V):Bv n k cs x .u
inductive Uf (n k:Nat) (cs:List V):List V→List V→Prop
 | nil:Uf n k cs [] []
 | cons {x y xs ys} (h:Bv n k cs x y) (t:Uf n k cs xs ys):Uf n k cs (x::xs) (y::ys)
theorem Uf.at{n k:Nat}{cs xs ys:List V}(h:Uf n k cs xs ys):ys.length=xs.length∧∀ (i:Nat) (x y:V),xs[i]?=some x→ys[i]?=some y→Bv n k cs x y:=by
 induction h with
 | nil=>simp
 | cons h t ih =>
  refine⟨by simp[ih.1],fun i x y hx hy=>?_⟩;cases i with
  | zero=>simp only[ax,aa]at hx hy;subst hx;subst hy;exact h
  | succ i=>exact ih.2 i x y (by simpa using hx) (by simpa using hy)
theorem Wk.XI{P:Program}{n T:Nat}{xs ys cs:List V}{σ loc:ah}(k:Nat)(hn:n≤σ.length)(aU:bG σ)(hk:loc[k]?=some (.box T cs))(hp:∀ c∈cs,c.pure=true)(hx:Uf σ.length k cs xs ys):Wk P n xs (σ++loc) ys σ:=by
 intro B w0 w μ vs hS hC
 have tk:∀ {x:V} {v:Value},VR w (σ++loc) μ x v→x.Lt σ.length→VR w σ μ x v:=fun h hl=>by
  have:=h.take (m:=σ.length) (by simp) hl;simpa using this
 obtain⟨wq,YE⟩:=hx.at;refine⟨μ,hS.back aU,⟨by rw[wq];exact hC.1,fun i y hy=>?_⟩,fun x v hv hl=>tk hv (hl.mono hn)⟩;have pC:i<xs.length:=by rw[← wq];exact(ab.1 hy).1
 have sj:=ao pC;have hv:=hC.2 i _ sj;generalize xs[i]=x at sj hv;have hm:=YE i x y sj hy;cases hm with
 | eO _ h=>exact tk hv h
 | forget _=>exact .u _
 | ptr off =>
  obtain⟨b,s6,hve,_⟩:=hv.oT;have hid:(σ++loc)[σ.length+k]?=some (.box T cs):=by rw[aM (by omega),dJ];exact hk
  obtain⟨b',us,h1,h2,h3,h4,h5⟩:=hS.obj _ _ hid;rw[s6]at h1;simp only[Value.pointer.injEq,aa,Addr.mk.injEq,and_true]at h1;subst h1;rw[hve];have er:∀ j x,ft [cs] 0 j=some x→cs[j]?=some x:=fun j x h=>by simpa[ft]using h
  have:=VR.ep (w:=w) (σ:=σ) (μ:=μ) cs.length [cs] 0 off b 0 (fun j=>us.getD j undef) (by simp) (by simp)
   (fun j x hj=>by
    have hj:=er j x hj;obtain⟨u,h6,h7⟩:=h5 j x hj;refine⟨?_,?_,hp x (aN hj)⟩
    ·have:us.getD j undef=u:=by simp[bm,h6]
     rw[this];simp[World.cell?,h3,h6]
    ·rintro⟨id,o,q1,q2,q3⟩;have hl:=(ab.1 q1).1;have:=hS.sep id (σ.length+k) o (.box T cs) b (by rw[az hl];exact q1) hid (by rintro rfl;exact q3) (by simp) q2 (by simp[s6,iT]);omega)
   (fun j x hj=>by
    have hj:=er j x hj;obtain⟨u,h6,h7⟩:=h5 j x hj;have:us.getD j undef=u:=by simp[bm,h6]
    rw[this];exact tk h7 (iY (hp x (aN hj)) _))
  simpa using this
theorem IV{n:Nat}{P:Program}{c:bj}{K:Exit→St→Prop}{N:Nat}{st:St}(h:∀ R:St→Prop,(∀ st',fp n P c K N st'→R st')→bX n P c (yY R K) st):fp n P c K (N+1) st:=by
 simp only[fp];exact(h (fp n P c K N) fun _ h=>h).mono fun e st' hk=>by cases e<;>exact hk
theorem bX.XA{n:Nat}{P:Program}{a b:bj}{K:Exit→St→Prop}{st:St}(h:∀ R:St→Prop,(∀ st',bX n P b K st'→R st')→bX n P a (yY R K) st):bX n P (.seq a b) K st:=by
 refine bX.seq ?_;refine(h (bX n P b K) fun _ h=>h).mono fun e st' hk=>?_;cases e<;>exact hk
theorem bX.iT{n:Nat}{P:Program}{id:Nat}{c:bj}{K:Exit→St→Prop}{st:St}(h:bX n P c (zJ id K) st):bX n P (.block id c) K st :=
 bX.block (h.mono fun e st' hk=>by
  cases e with
  | exit id' =>
   simp only[zJ]at hk;simp only[uU];split at hk<;>rename_i h1<;>simp only[h1,if_true,if_false]<;>exact hk
  | _=>exact hk)
theorem bX.Yw{n:Nat}{P:Program}{c:O}{x y:bj}{K:Exit→St→Prop}{st:St}(hb:ev st.fr c=.b true)(h:bX n P x K st):bX n P (.ite c x y) K st :=
 bX.ite hb (fun _=>h) (fun h=>by cases h)
theorem bX.Yx{n:Nat}{P:Program}{c:O}{x y:bj}{K:Exit→St→Prop}{st:St}(hb:ev st.fr c=.b false)(h:bX n P y K st):bX n P (.ite c x y) K st :=
 bX.ite hb (fun h=>by cases h) (fun _=>h)
end Go.Pm
namespace Go.Pm
open Go
inductive Fj:bj→bj→bj→Prop
 | one (a b:bj):Fj (.seq a b) a b
 | more {a b c r:bj} (h:Fj b c r):Fj (.seq a b) (.seq a c) r
theorem bX.TM{n:Nat}{P:Program}{c a b:bj}{K:Exit→St→Prop}(hc:Fj c a b):∀ {st:St},vI n P a (yY (bX n P b K) K) st→bX n P c K st:=by
 induction hc with
 | one a b =>
  intro st h;refine bX.seq (bX.mono (al h) fun e st' hk=>?_);cases e<;>exact hk
 | more _ ih =>
  intro st h;simp only[vI]at h;refine bX.seq (bX.mono (al h) fun e st' hk=>?_);cases e with
  | normal=>exact ih hk
  | _=>exact hk
theorem bX.cutAt{n:Nat}{P:Program}{c a b:bj}{K:Exit→St→Prop}{st:St}(hc:Fj c a b)(h:∀ R:St→Prop,(∀ st',bX n P b K st'→R st')→vI n P a (yY R K) st):bX n P c K st :=
 bX.TM hc (h _ fun _ h=>h)
end Go.Pm
namespace Go.Pm
open Go Go.RowKit
theorem u3{σ:ah}{id:Nat}{o:Ob}(h:σ[id]?=some o):σ.set id o=σ:=by
 apply iw;intro j
 by_cases hj:id=j
 ·subst hj;rw[aq (ab.1 h).1,h]
 ·rw[aO hj]
theorem PC.fzs{P:Program}{f:Nat}{args zs:List V}{σ:ah}{v:V}(id:Nat){E sz by' g:Nat}{rows:List (List V)}(ho:σ[id]?=some (.row E sz by' g true rows))
  (h:PC P f zs σ (fun r σ'=>r=v∧σ'=σ)) (hz:args.map (Pm.fz id g sz rows)=zs):PC P f args σ (fun r σ'=>r=v∧σ'=σ):=by
 have hw:=Wk.fz (P:=P) (n:=σ.length) (xs:=args) id ho;rw[u3 ho,hz]at hw;exact PC.wk hw h
theorem Wk.Rw{P:Program}{n:Nat}{xs:List V}{σ:ah}{E sz by' g:Nat}{sh:Bool}{rows:List (List V)}:Wk P n xs (σ++[.row E sz by' g sh rows]) xs (σ++[.row E sz by' g true rows]):=by
 have:=Wk.share (P:=P) (n:=n) (xs:=xs) (σ:=σ++[.row E sz by' g sh rows]) (id:=σ.length) (E:=E) (sz:=sz) (by':=by') (g:=g) (sh:=sh) (rows:=rows) (by simp)
 rwa [ed _ _ (aw _),eU]at this
theorem Wk.EG{P:Program}{n:Nat}{xs:List V}{σ loc:ah}(k:Nat){E sz by' g:Nat}{sh:Bool}{rows:List (List V)}(hk:loc[k]?=some (.row E sz by' g sh rows)):
  Wk P n xs (σ++loc) (xs.map (Pm.fz (σ.length+k) g sz rows)) (σ++loc.set k (.row E sz by' g true rows)):=by
 have:=Wk.fz (P:=P) (n:=n) (xs:=xs) (σ:=σ++loc) (σ.length+k) (by rw[qD];exact hk)
 rwa [mV]at this
theorem Wk.Uq{P:Program}{n:Nat}{xs:List V}{σ:ah}{id E sz by' g hi:Nat}{rows:List (List V)}(ho:σ[id]?=some (.row E sz by' g false rows))(j:Nat)(hj:xs[j]?=some (.sub id g 0 hi)):
  Wk P n xs σ (xs.set j (.own id (g+1))) (σ.set id (.row E sz by' (g+1) false (rows.take hi))):=by
 intro B w0 w μ vs hS hC;have eC:id<σ.length:=(ab.1 ho).1;have hv:=hC.2 j _ hj;obtain⟨_,Ft,Pu⟩:=hv.nw ho;have xR:(rows.take hi).length=hi:=by simp;omega
 have dO:=hS.obj id _ ho
 have Cy:=hS.update (w':=w) (σ':=σ.set id (.row E sz by' (g+1) false (rows.take hi))) (μ':=qH μ id (jI (μ id) 0 hi sz)) id none (grownBy_refl w none) (by simp) (by simp) (fun k hk=>aO (fun e=>hk e.symm)) (fun k hk=>nU _ _ _ _ hk)
  (fun b hb=>by
   rw[dL]at hb;refine .inl ⟨_,ho,by simp,?_⟩;obtain⟨_,vals,⟨_,hw⟩,_⟩:=dO;rcases hw with⟨hm,_⟩ | ⟨b2,cap,cur,hm,_⟩
   ·rw[hm]at hb;simp only[jI]at hb;split at hb<;>simp[iT]at hb
   ·rw[hm]at hb ⊢;simp only[jI]at hb;split at hb<;>simpa[iT,Addr.add_lit]using hb)
  (fun b off u o h1 _ h2 h3 h4=>absurd ⟨id,o,h1,h2,by rw[ho]at h1;simp only[aa]at h1;subst h1;intro hf;simp at hf⟩ h4)
  (fun T cs h=>by rw[ho]at h;simp at h) (fun K E es h=>by rw[ho]at h;simp at h)
  (fun E2 sz2 by2 g2 sh2 xs2 _ h=>by
   simp only[aq eC,aa,Ob.row.injEq]at h;obtain⟨rfl,rfl,rfl,rfl,rfl,rfl⟩:=h;exact⟨g,false,rows,ho,by omega,fun e=>by omega⟩)
  (fun hp o h=>by
   simp only[aq eC,aa]at h;subst h;rw[dL];obtain⟨hT,vals,⟨hl,hw⟩,cm,hr⟩:=dO;have hle:hi*sz≤rows.length*sz:=bl _ Ft;refine⟨hT,vals.take (hi*sz),⟨by rw[xR,ba,hl];omega,?_⟩,fun r hr'=>cm r (dd hr'),fun i k x hx=>?_⟩
   ·rw[xR];rcases hw with⟨hm,hn⟩ | ⟨b,cap,cur,hm,h1,h2,h3,h4,h5,h6⟩
    ·have:hi=0:=by omega
     subst this;exact .inl ⟨by rw[hm];simp[jI],rfl⟩
    ·refine .inr ⟨b,cap,cur,?_,h1,h2,by omega,h4,h5,?_⟩
     ·rw[hm];simp only[jI,yE];split<;>simp[Addr.add_lit]
     ·rw[← h6,C5,gG hle]
   ·obtain⟨r,h1,h2⟩:=ib hx;have zo:i<hi:=by have:=(ab.1 h1).1;rw[xR]at this;exact this
    rw[bn zo]at h1;obtain⟨h3,u,h4,h5⟩:=hr i k x (by rw[mW h1];exact h2);refine⟨h3,u,?_,h5.mono hp⟩;have hk:k<sz:=by rw[← cm r (aN h1)];exact(ab.1 h2).1
    rw[bn ?_]
    ·exact h4
    ·have:(i+1)*sz≤hi*sz:=bl _ zo;rw[Nat.add_mul,fA]at this;omega)
 refine⟨_,Cy.1,⟨by simp[hC.1],fun i x hx=>?_⟩,Cy.2.eO.IC⟩
 by_cases yI:j=i
 ·subst yI;rw[aq (ab.1 hj).1]at hx;simp only[aa]at hx;subst hx;rw[Pu];have:=VR.lM (w:=w) (σ:=σ.set id (.row E sz by' (g+1) false (rows.take hi))) (μ:=qH μ id (jI (μ id) 0 hi sz)) (id:=id) (E:=E) (sz:=sz) (by':=by') (g:=g+1) (sh:=false) (xs:=rows.take hi) (aq eC)
  rwa [dL]at this
 ·rw[aO yI]at hx;exact(hC.2 i x hx).mono Cy.2
end Go.Pm
namespace Go.Bt
open Go Go.Pm
section
variable {α β:Type} [DecidableEq α]
def nD(a:α):List (α×β)→Nat→Option (Nat×β)
 | [],_=>none
 | p::l,k=>if a=p.1 then some (k,p.2)else nD a l (k+1)
def fP(a:α)(l:List (α×β)):Option β:=(nD a l 0).map (·.2)
def je(l:List (α×β))(a:α)(b:β):List (α×β) :=
 match l with
 | []=>[(a,b)]
 | p::l=>if a=p.1 then(a,b)::l else p::je l a b
def emap(ke:α→V)(ve:β→V)(l:List (α×β)):List (V×V):=l.map fun p=>(ke p.1,ve p.2)
theorem qp(a:α):∀ (l:List (α×β)) (k:Nat),(nD a l k).map (·.2)=fP a l
 | [],_=>rfl
 | p::l,k=>by
  simp only[fP,nD];split
  ·rfl
  ·rw[qp a l (k+1),qp a l (0+1)]
theorem kE(a:α):fP a ([]:List (α×β))=none:=rfl
theorem kk(a:α)(p:α×β)(l:List (α×β)):fP a (p::l)=if a=p.1 then some p.2 else fP a l:=by
 simp only[fP,nD];split
 ·rfl
 ·rw[qp a l (0+1)];rfl
theorem oy(l:List (α×β))(a:α)(b:β)(x:α):fP x (je l a b)=if x=a then some b else fP x l:=by
 induction l with
 | nil=>simp only[je,kk,kE]
 | cons p l ih =>
  simp only[je];split
  ·rename_i h;simp only[kk]
   by_cases hx:x=a
   ·simp[hx]
   ·have:¬ x=p.1:=fun h2=>hx (h2.trans h.symm);simp[hx,this]
  ·rename_i h;simp only[kk,ih]
   by_cases hx:x=p.1
   ·have:¬ x=a:=fun h2=>h (h2.symm.trans hx);simp only[this,if_false,hx,if_true];split
    ·rename_i h3;exact absurd h3.symm h
    ·rfl
   ·simp[hx]
theorem Dw(l:List (α×β))(a:α)(b:β):(je l a b).length≤l.length+1:=by
 induction l with
 | nil=>simp[je]
 | cons p l ih =>
  simp only[je];split<;>simp<;>omega
theorem Ix{l:List (α×β)}{a:α}{b:β}(h:fP a l=none):je l a b=l++[(a,b)]:=by
 induction l with
 | nil=>rfl
 | cons p l ih =>
  rw[kk]at h;split at h
  ·simp at h
  ·rename_i h1;simp only[je,h1,if_false,aJ];rw[ih h]
variable {kd:Nat} {ke:α→V} {ve:β→V}
theorem r2(hk:∀ a b,cu kd (ke a) (ke b)=some (decide (a=b)))(a:α):∀ (l:List (α×β)) (k:Nat),fx kd (ke a) (emap ke ve l) k=some ((nD a l k).map fun p=>(p.1,ve p.2))
 | [],k=>rfl
 | p::l,k=>by
  have ih:=r2 hk a l (k+1);simp only[emap,aW,fx,hk,nD]at ih ⊢
  by_cases h:a=p.1
  ·simp[h]
  ·simp only[h,decide_false,if_false];exact ih
theorem EO(a:α)(b:β):∀ (l:List (α×β)) (k i:Nat) (b0:β),nD a l k=some (k+i,b0)→(emap ke ve l).set i (ke a,ve b)=emap ke ve (je l a b)
 | [],k,i,b0,h=>by simp[nD]at h
 | p::l,k,i,b0,h=>by
  simp only[nD]at h
  by_cases h1:a=p.1
  ·simp only[h1,if_true,aa,aA]at h;have:i=0:=by omega
   subst this;simp[emap,je,h1]
  ·simp only[h1,if_false]at h
   have hi:∃ j,i=j+1:=by
    refine⟨i - 1,?_⟩
    have:∀ (l:List (α×β)) (k n:Nat) (x:β),nD a l k=some (n,x)→k≤n:=by
     intro l
     induction l with
     | nil=>intro k n x h;simp[nD]at h
     | cons q l ih =>
      intro k n x h;simp only[nD]at h;split at h
      ·simp at h;omega
      ·have:=ih _ _ _ h;omega
    have:=this _ _ _ _ h;omega
   obtain⟨j,rfl⟩:=hi;have:=EO a b l (k+1) j b0 (by rw[h];congr 2;omega);simp only[emap,aW,cW,je,h1,if_false]at this ⊢;rw[this]
theorem r3(hk:∀ a b,cu kd (ke a) (ke b)=some (decide (a=b)))(l:List (α×β))(a:α):
  (fP a l=none∧fx kd (ke a) (emap ke ve l) 0=some none∧∀ b,emap ke ve l++[(ke a,ve b)]=emap ke ve (je l a b)) ∨
  (∃ i b0,fP a l=some b0∧fx kd (ke a) (emap ke ve l) 0=some (some (i,ve b0))∧∀ b,(emap ke ve l).set i (ke a,ve b)=emap ke ve (je l a b)):=by
 cases h:nD a l 0 with
 | none =>
  have h1:fP a l=none:=by simp[fP,h]
  refine .inl ⟨h1,by rw[r2 hk,h];rfl,fun b=>?_⟩;rw[Ix h1];simp[emap]
 | some p =>
  obtain⟨i,b0⟩:=p;refine .inr ⟨i,b0,by simp[fP,h],by rw[r2 hk,h];rfl,fun b=>?_⟩;exact EO a b l 0 i b0 (by rw[h];congr 2;omega)
end
def T0(n:Int):V:=.i .i64 n
def QR(s:List UInt8):V:=.s s
theorem L8(a b:Int):cu 0 (T0 a) (T0 b)=some (decide (a=b)):=by
 simp[cu,T0];rfl
theorem Sg(a b:List UInt8):cu 1 (QR a) (QR b)=some (decide (a=b)):=by
 simp only[cu,QR,aa];rw[cP];simp
end Go.Bt

/- A part of a proof; the claim's last text says of what. -/
import Derived.IntWalk
import Derived.Test.YtlakkaamfadipaaGreatDoorL15
set_option linter.all false

namespace Go.Pm
open Go Go.RowKit
def uu:Nat→List V→List V
 | 0,l=>l
 | n+1,l=>.u::uu n l
def fj:Nat→((List V→Prop)→Prop)→(List V→Prop)→Prop
 | 0,c,p=>c p
 | n+1,c,p=>∀ j,fj n c fun l=>p (j::l)
def fh(x:V)(c:(List V→Prop)→Prop)(p:List V→Prop):Prop:=c fun l=>p (x::l)
def fo(p:List V→Prop):Prop:=p []
def Hn(R:St→Prop)(K:Exit→St→Prop):Exit→St→Prop
 | .normal=>R
 | e=>K e
theorem BW{R:St→Prop}{K:Exit→St→Prop}:Hn R K .normal=R:=rfl
theorem JM{R:St→Prop}{K:Exit→St→Prop}:Hn R K .ret=K .ret:=rfl
theorem Hm{R:St→Prop}{K:Exit→St→Prop}{id:Nat}:Hn R K (.exit id)=K (.exit id):=rfl
theorem aH{n:Nat}{P:Program}{c:bE}{K:Exit→St→Prop}{N:Nat}{st:St}(h:∀ R:St→Prop,(∀ st',gw n P c K N st'→R st')→xH n P c (Hn R K) st):gw n P c K (N+1) st:=by
 refine JL ?_;have:=h (gw n P c K N) fun _ h=>h;have e:Hn (gw n P c K N) K=Tc n P c K N:=by funext e;cases e<;>rfl
 rw[← e];exact this
theorem zT{n:Nat}{P:Program}{c:bE}{K:Exit→St→Prop}{N:Nat}{fr fr':List V}{J J':ae}(h:Wk P n fr J fr' J')(k:gw n P c K N ⟨fr',J'⟩):gw n P c K N ⟨fr,J⟩:=by
 cases N with
 | zero=>exact k.elim
 | succ N=>exact cE.wk h k
theorem vR{n:Nat}{P:Program}{c:bE}{K:Exit→St→Prop}{N:Nat}{fr fr':List V}{J loc:ae}(hn:n≤J.length)(bz:bG J)(hc:qJ fr fr')(hl:eF J.length fr')(k:gw n P c K N ⟨fr',J⟩):gw n P c K N ⟨fr,J++loc⟩ :=
 zT ((Wk.kP hc).trans (Wk.xc hn bz (dN.1 hl))) k
theorem bk{n:Nat}{P:Program}{c:bE}{K:Exit→St→Prop}{N:Nat}{fr fr':List V}{J:ae}(hc:qJ fr fr')(k:gw n P c K N ⟨fr',J⟩):gw n P c K N ⟨fr,J⟩ :=
 zT (Wk.kP hc) k
theorem vl{n:Nat}(h:n<2^63):IntKind.i64.wrap (n:Int)=n:=IntWalk.i64_in _ (by omega)
theorem br{n:Nat}(h:n+1<2^63):IntKind.i64.wrap ((n:Int)+1)=((n+1:Nat):Int):=by rw[IntWalk.i64_in _ (by omega)];omega
theorem zS{α:Type}{f:α→List V}{pre rest:List α}{x:α}{d:List V}:(List.map f (pre++x::rest)).getD pre.length d=f x:=by
 simp[ar]
theorem L1{α:Type}{f:α→List V}{pre rest:List α}{x:α}{j:Nat}:eV (List.map f (pre++x::rest)) pre.length j=(f x)[j]?:=by
 simp[eV]
theorem a6{P:Program}{rs:List Rs}{Q:V→ae→Prop}{e:Exit}{fr:List V}{J:ae}{xs:List V}(he:e=.normal∨e=.ret)(hx:kS ⟨fr,J⟩ rs=some xs)(hQ:Q (one xs) J):
  sI P J.length rs Q e ⟨fr,J⟩:=fO he hx (Wk.refl _ _) rfl hQ
theorem qW{sz:Nat}{xs:List (List V)}(h:(V.sl sz xs).Wf):xs.length<2^63:=by
 cases h with
 | sl _ _ h=>simp only[maxLen]at h;omega
theorem DS{l:List UInt8}(h:(V.s l).Wf):l.length<2^63:=by
 cases h with
 | s _ h=>simp only[maxLen]at h;omega
theorem cE.bk{n:Nat}{P:Program}{c:bE}{K:Exit→St→Prop}{fr fr':List V}{J:ae}(hc:qJ fr fr')(N:Nat)(h:gw n P c K N ⟨fr',J⟩):cE n P (.loop c) K ⟨fr,J⟩ :=
 cE.wk (Wk.kP hc) (cE.BX N h)
theorem OS{a b:Bool}:(bif a then true else b)=(a||b):=by cases a<;>rfl
theorem LF{a b:Bool}:(bif a then b else false)=(a&&b):=by cases a<;>rfl
theorem Qe{pre rest:List UInt8}{x:UInt8}{d:UInt8}:(pre++x::rest).getD pre.length d=x:=by
 simp[ar]
theorem Ba{P:Program}{d:Option Nat}{f:Nat}{args:List O}{K:St→Prop}{fr:List V}{J σ2:ae}{zs:List V}{v:V}(hw:qJ (args.map (ev fr)) zs)(h:PC P f zs J (fun r J'=>r=v∧J'=σ2))(hK:K ⟨c8 fr d v,σ2⟩):
  gI P ⟨d,[],.call f args⟩ K ⟨fr,J⟩ :=
 aA (PC.wk (Wk.kP hw) h) rfl hK
def cq(n:Int):List V:=[.i .i64 n]
theorem LM{p:Prop}{v w:V}:(∃ ob,some (p,v)=some (ob,w)∧ob)=(v=w∧p):=by
 simp only[aa,ao,eq_iff_iff];exact⟨fun⟨_,⟨h1,h2⟩,h3⟩=>⟨h2,h1.2 h3⟩,fun⟨h1,h2⟩=>⟨p,⟨Bv,h1⟩,h2⟩⟩
theorem LN{p:Prop}{v:V}:(∃ ob r,some (p,v)=some (ob,r)∧ob)=p:=by
 simp only[aa,ao,eq_iff_iff];exact⟨fun⟨_,_,⟨h1,_⟩,h3⟩=>h1.2 h3,fun h=>⟨p,v,⟨Bv,rfl⟩,h⟩⟩
theorem Dt{l:List Int}{i:Nat}(h:i<l.length):eV (l.map cq) i 0=some (.i .i64 (l.getD i 0)):=by
 simp[eV,cq,h]
theorem sH{P:Program}{rs:List Rs}{Q:V→ae→Prop}{e:Exit}{fr:List V}{J loc:ae}{xs:List V}(k:Nat){E sz by' g:Nat}{sh:Bool}{rows:List (List V)}(bz:bG J)(he:e=.normal∨e=.ret)(hx:kS ⟨fr,J++loc⟩ rs=some xs)
  (hk:loc[k]?=some (.row E sz by' g sh rows)) (hl:eF J.length (xs.map (fz (J.length+k) g sz rows))) (hQ:Q (one (xs.map (fz (J.length+k) g sz rows))) J):sI P J.length rs Q e ⟨fr,J++loc⟩:=by
 refine fO he hx ((Wk.fz (J.length+k) (by rw[r8];exact hk)).trans ?_) (by simp) hQ;rw[xw];exact Wk.OI bz hl
def tiB(P:Program)(E sz by':Nat):Bool :=
 match P.info? E with
 | some t=>match t.zero with
  | some z=>decide (0<sz)&&(t.size==sz&&(t.bytes==by'&&z.cells.size==sz))
  | none=>false
 | none=>false
theorem nD{P:Program}{E sz by':Nat}(h:tiB P E sz by'=true):Ti P E sz by':=by
 unfold tiB at h;split at h
 ·rename_i t ht;split at h
  ·rename_i z hz;simp only[aP,a8,bN]at h;exact⟨h.1,t,z,ht,hz,h.2.1,h.2.2.1,h.2.2.2⟩
  ·simp at h
 ·simp at h
theorem PC.Ay{P:Program}{f:Nat}{args:List V}{J:ae}{v:V}(h:∀ (w:World) (μ:Mem) (vs:Array Value),Mp w J μ args vs→∃ u,Calls P f vs w (fun e w'=>e=.returned u∧w'=w)∧VR w J μ v u):
  PC P f args J (fun r J'=>r=v∧J'=J):=by
 intro B w0 w μ vs hS hv;obtain⟨u,h1,h2⟩:=h w μ vs hv;refine h1.mono ?_;rintro e w' ⟨rfl,rfl⟩;exact⟨v,u,J,μ,rfl,⟨rfl,rfl⟩,hS,h2,kZ.refl _ _ _⟩
theorem Wb{vs:Array Value}(h:vs.size=1):vs=#[vs.getD 0 undef]:=by
 apply Array.ext
 ·simpa using h
 ·intro i h1 h2;have:i=0:=by omega
  subst this;simp[h1]
theorem Wa{vs:Array Value}(h:vs.size=2):vs=#[vs.getD 0 undef,vs.getD 1 undef]:=by
 apply Array.ext
 ·simpa using h
 ·intro i h1 h2;have:i=0∨i=1:=by omega
  rcases this with rfl | rfl<;>simp[h1]
theorem FJ{o:Ob}{n:Nat}(h:match o with | .box _ cs=>eF n cs | .map _ _ es=>eF n (es.map (·.2)) | .iter _ m _ _ _ _=>m<n | _=>True):∀ (j:Nat) (x:V),o.refs[j]?=some x→x.Lt n:=by
 cases o with
 | box T cs=>exact dN.1 h
 | map K E es=>exact dN.1 h
 | iter st m E k ps c =>
  intro j x hx;cases j with
  | zero=>simp only[Ob.refs,au,aa]at hx;subst hx;exact .mp _ h
  | succ j=>simp[Ob.refs]at hx
 | _=>intro j x hx;simp[Ob.refs]at hx
def OL(n:Nat):Ob→Prop
 | .box _ cs=>eF n cs
 | .map _ _ es=>eF n (es.map (·.2))
 | .iter _ m _ _ _ _=>m<n
 | _=>True
theorem IE{J:ae}(bz:bG J){id n:Nat}{o:Ob}(h:J[id]?=some o)(hn:J.length≤n):OL n o:=by
 have h0:=bz id o h;cases o with
 | box T cs=>exact dN.2 fun j x hj=>(h0 j x hj).mono hn
 | map K E es=>exact dN.2 fun j x hj=>(h0 j x hj).mono hn
 | iter st m E k ps c =>
  have:=h0 0 (.mp m) rfl;cases this;show m<n;omega
 | _=>trivial
theorem OL.mono{n m:Nat}{o:Ob}(h:OL n o)(hm:n≤m):OL m o:=by
 cases o with
 | box T cs=>exact dN.2 fun j x hj=>(dN.1 h j x hj).mono hm
 | map K E es=>exact dN.2 fun j x hj=>(dN.1 h j x hj).mono hm
 | iter st k E l ps c=>exact cu h hm
 | _=>trivial
theorem l9{n:Nat}{es:List (V×V)}(h:∀ x∈es,x.2.Lt n):eF n (es.map (·.2)):=dN.2 fun j x hj=>by
 rw[aW,ah]at hj;obtain⟨kx,h1,rfl⟩:=hj;exact h kx (aL h1)
theorem ck{J l:ae}(h:bG J)(hl:∀ o∈l,match o with | .box _ cs=>eF (J.length+l.length) cs | .map _ _ es=>eF (J.length+l.length) (es.map (·.2)) | .iter _ m _ _ _ _=>m<J.length+l.length | _=>True):bG (J++l):=by
 intro id o hid j x hx;rw[al];rcases ft id J.length with cM | I4
 ·rw[ag cM]at hid;exact(h id o hid j x hx).mono (L7 _ _)
 ·rw[aw I4]at hid;exact FJ (hl _ (aL hid)) j x hx
theorem bR{P:Program}{c:bE}{K:Exit→St→Prop}{N:Nat}{fr fr':List V}{J:ae}(l loc:ae)(bz:bG (J++l))(hc:qJ fr fr')(hl:eF (J.length+l.length) fr')(k:gw J.length P c K N ⟨fr',J++l⟩):gw J.length P c K N ⟨fr,J++(l++loc)⟩:=by
 rw[← List.append_assoc];exact zT ((Wk.kP hc).trans (Wk.xc (by simp) bz (by rw[al];exact dN.1 hl))) k
theorem Wk.lT{P:Program}{n:Nat}{xs:List V}{J:ae}(loc:ae){k E sz by':Nat}(hT:Ti P E sz by')(hk:xs[k]?=some .nil):Wk P n xs (J++loc) (xs.set k (.own (J.length+loc.length) 0)) (J++(loc++[.row E sz by' 0 false []])):=by
 have:=Wk.pA (P:=P) (n:=n) (J:=J++loc) hT hk
 rwa [al,aM]at this
theorem jP:∀ (l:List UInt8),bytesOf (cN l)=some l
 | []=>rfl
 | c::l=>by
  have ih:=jP l;simp only[cN,az,bytesOf,nr]at ih ⊢;rw[ih];simp
theorem gj{a b:List UInt8}:cN a++cN b=cN (a++b):=by simp[cN]
theorem dd{a:List UInt8}:(cN a).length=a.length:=by simp[cN]
def P6:UnOp→V→Option (Prop×V)
 | .not,.b p=>some (True,.b (!p))
 | .neg,.i k n=>some (True,.i k (k.wrap (0 - n)))
 | _,_=>none
theorem Ph(fr:List V)(J:ae)(op:UnOp)(x:O):aJ fr J (.un op x)=P6 op (ev fr x):=by
 show(match op,ev fr x with
  | .not,.b p=>some (True,V.b (!p))
  | .neg,.i k n=>some (True,V.i k (k.wrap (0 - n)))
  | _,_=>none)=_
 rfl
set_option linter.defProp false in
def UE:=And.intro @uu.eq_1 @uu.eq_2
set_option linter.defProp false in
def JE:=And.intro (And.intro @fj.eq_1 @fj.eq_2) (And.intro @fh.eq_1 @fo.eq_1)
set_option linter.defProp false in
def EV:=(And.intro (And.intro (And.intro (And.intro (And.intro (And.intro @aJ.eq_1 @aJ.eq_2) (And.intro @aJ.eq_3 @aJ.eq_4)) (And.intro (And.intro @aJ.eq_5 @aJ.eq_6) (And.intro @aJ.eq_7 @aJ.eq_8))) (And.intro (And.intro (And.intro @aJ.eq_9 @Ph) (And.intro @P6.eq_1 (And.intro @P6.eq_2 @P6.eq_3))) (And.intro (And.intro @aJ.eq_13 @aJ.eq_14) (And.intro @aJ.eq_15 (And.intro @aJ.eq_16 @aJ.eq_17))))) (And.intro (And.intro (And.intro (And.intro @aJ.eq_18 @aJ.eq_19) (And.intro @aJ.eq_20 @aJ.eq_21)) (And.intro (And.intro @aJ.eq_22 @aJ.eq_23) (And.intro @aJ.eq_24 @aJ.eq_25))) (And.intro (And.intro (And.intro @aJ.eq_26 @aJ.eq_27) (And.intro @aJ.eq_28 @aJ.eq_29)) (And.intro (And.intro @aJ.eq_30 @aJ.eq_31) (And.intro @aJ.eq_32 (And.intro @bC.eq_1 @bC.eq_2)))))) (And.intro (And.intro (And.intro (And.intro (And.intro @bC.eq_3 @bC.eq_4) (And.intro @bC.eq_5 @bC.eq_6)) (And.intro (And.intro @bC.eq_7 @bC.eq_8) (And.intro @bC.eq_9 @bC.eq_10))) (And.intro (And.intro (And.intro @eU.eq_1 @eU.eq_2) (And.intro @eU.eq_3 @eU.eq_4)) (And.intro (And.intro @eU.eq_5 @eU.eq_6) (And.intro @eU.eq_7 (And.intro @eU.eq_8 @eU.eq_9))))) (And.intro (And.intro (And.intro (And.intro @eU.eq_10 @eU.eq_11) (And.intro @eU.eq_12 @eU.eq_13)) (And.intro (And.intro @eU.eq_14 @eU.eq_15) (And.intro @eU.eq_16 @eU.eq_17))) (And.intro (And.intro (And.intro @eU.eq_18 @eU.eq_19) (And.intro @eU.eq_20 @eU.eq_21)) (And.intro (And.intro @eU.eq_22 @eU.eq_23) (And.intro @eU.eq_24 (And.intro @eU.eq_25 @eU.eq_26)))))))
set_option linter.defProp false in
def W:=And.intro UE <| And.intro EV <| And.intro (And.intro (And.intro @zm.eq_1 @zl.eq_1) (And.intro (And.intro @zL.eq_1 @zf.eq_1) (And.intro @z.eq_1 @zs.eq_1))) (And.intro (And.intro (And.intro (And.intro (And.intro (And.intro (And.intro @xH.eq_1
 (And.intro @xH.eq_2
 @xH.eq_3))
 (And.intro (And.intro @xH.eq_4
 @xH.eq_5)
 (And.intro @xH.eq_6
 @xH.eq_7)))
 (And.intro (And.intro (And.intro @xH.eq_8
 (And.intro @xH.eq_9 (And.intro (And.intro @xH.eq_10 @Gz.eq_1) (And.intro (And.intro (And.intro @xH.eq_11 @Fg.eq_1) (And.intro @Fg.eq_2 (And.intro (And.intro @JI (And.intro @Hf @Hg)) (And.intro (And.intro (And.intro @S8.eq_1 (And.intro (And.intro @K8 @Im) (And.intro @EM (And.intro @EN @EL)))) @S6.eq_1) (And.intro @S4.eq_1 @Pr.eq_1))))) (And.intro (And.intro @LS @IF) (And.intro (And.intro @IB @E6) (And.intro @JB @Ha)))))))
 (And.intro @Hi
 @JK))
 (And.intro (And.intro @Hh
 @JJ)
 (And.intro @BS
 @JD))))
 (And.intro (And.intro (And.intro (And.intro @Hb
 @Ds)
 (And.intro @LX
 @IG))
 (And.intro (And.intro @IH
 @BW)
 (And.intro @JM
 @Hm)))
 (And.intro (And.intro (And.intro @Ru
 @Oi)
 (And.intro @Ln
 @Iw))
 (And.intro (And.intro @Ow
 @Ll)
 (And.intro @RH
 @RI)))))
 (And.intro (And.intro (And.intro (And.intro @RJ
 (And.intro @VK
 @RC))
 (And.intro (And.intro @RK
 @Lj)
 (And.intro @Iu
 @Ry)))
 (And.intro (And.intro (And.intro @Rx
 @Oh)
 (And.intro @Rz
 @Rw))
 (And.intro (And.intro @Ou
 @On)
 (And.intro @Ov
 @Om))))
 (And.intro (And.intro (And.intro (And.intro @RG
 @Lo)
 (And.intro @Li
 @RM))
 (And.intro (And.intro @Oz
 (And.intro @VL @Oy))
 (And.intro @Lm
 (And.intro (And.intro (And.intro @RF @RE) (And.intro @OA @RL)) (And.intro (And.intro (And.intro (And.intro (And.intro @RB (And.intro @Og (And.intro @Of (And.intro @Ox (And.intro @Lh @Rv))))) @Ot) (And.intro @Oq @Oo)) (And.intro (And.intro @Lk @Oj) (And.intro @M4 (And.intro @Nw @Nv)))) (And.intro @Ol (And.intro @Nz (And.intro @Ny @Nx))))))))
 (And.intro (And.intro (And.intro @Rh
 @N7)
 (And.intro @Lc
 @Is))
 (And.intro (And.intro @Od
 @Lb)
 (And.intro @Rn
 @Ro))))))
 (And.intro (And.intro (And.intro (And.intro (And.intro @Rp
 (And.intro @VJ
 @Rm))
 (And.intro (And.intro @Rq
 @La)
 (And.intro @Ir
 @Rk)))
 (And.intro (And.intro (And.intro @Rj
 @N6)
 (And.intro @Rl
 @Ri))
 (And.intro (And.intro @Oa
 @N9)
 (And.intro @Oc
 (And.intro @N8 @Oe)))))
 (And.intro (And.intro (And.intro (And.intro @V.pure.eq_1
 @V.pure.eq_2)
 (And.intro @V.pure.eq_3
 @V.pure.eq_4))
 (And.intro (And.intro @V.pure.eq_5
 @R2.eq_1)
 (And.intro @xm.eq_1
 @LM)))
 (And.intro (And.intro (And.intro @LN
 @MU)
 (And.intro @My
 @MP))
 (And.intro (And.intro @gX.eq_1
 @gX.eq_2)
 (And.intro @chainB.eq_1
 @chainB.eq_2)))))
 (And.intro (And.intro (And.intro (And.intro @aJ.eq_1
 (And.intro @aJ.eq_2
 @aJ.eq_3))
 (And.intro (And.intro @aJ.eq_4
 @aJ.eq_5)
 (And.intro @aJ.eq_6
 @aJ.eq_7)))
 (And.intro (And.intro (And.intro @aJ.eq_8
 @aJ.eq_9)
 (And.intro @Ph
 @P6.eq_1))
 (And.intro (And.intro (And.intro @P6.eq_2 @P6.eq_3)
 @aJ.eq_13)
 (And.intro @aJ.eq_14
 @aJ.eq_15))))
 (And.intro (And.intro (And.intro (And.intro @aJ.eq_16
 @aJ.eq_17)
 (And.intro @aJ.eq_18
 @aJ.eq_19))
 (And.intro (And.intro @aJ.eq_20
 @aJ.eq_21)
 (And.intro @aJ.eq_22
 @aJ.eq_23)))
 (And.intro (And.intro (And.intro @aJ.eq_24
 @aJ.eq_25)
 (And.intro @aJ.eq_26
 @aJ.eq_27))
 (And.intro (And.intro @aJ.eq_28
 (And.intro (And.intro @aJ.eq_29 @aJ.eq_30) (And.intro @aJ.eq_31 (And.intro (And.intro @aJ.eq_32 @aJ.eq_33) (And.intro @aJ.eq_34 (And.intro @aJ.eq_35 @aJ.eq_36))))))
 (And.intro @bC.eq_1
 @bC.eq_2)))))))
 (And.intro (And.intro (And.intro (And.intro (And.intro (And.intro @bC.eq_3
 (And.intro @bC.eq_4
 @bC.eq_5))
 (And.intro (And.intro @bC.eq_6
 @bC.eq_7)
 (And.intro @bC.eq_8
 (And.intro @bC.eq_9 (And.intro (And.intro @bC.eq_11 @bC.eq_12) (And.intro @bC.eq_13 (And.intro @bC.eq_14 (And.intro @bC.eq_15 @wo.eq_1))))))))
 (And.intro (And.intro (And.intro @ev.eq_1
 @ev.eq_2)
 (And.intro @c8.eq_1
 @c8.eq_2))
 (And.intro (And.intro @Bu.eq_1
 @Bi.{0,0})
 (And.intro @eS.{0,0}
 @bd.{0}))))
 (And.intro (And.intro (And.intro (And.intro @bf.{0}
 @List.set_cons_zero.{0})
 (And.intro @List.set_cons_succ.{0}
 @dL.eq_1))
 (And.intro (And.intro @dL.eq_2
 @eO.eq_1)
 (And.intro @eO.eq_2
 @eL.eq_1)))
 (And.intro (And.intro (And.intro @eL.eq_2
 @eL.eq_3)
 (And.intro @eL.eq_4
 @eL.eq_5))
 (And.intro (And.intro @eL.eq_6
 (And.intro @eL.eq_7 (And.intro @eL.eq_8 @eL.eq_9)))
 (And.intro @bW.eq_1
 @bW.eq_2)))))
 (And.intro (And.intro (And.intro (And.intro @kT.eq_1
 (And.intro @kT.eq_2
 @kT.eq_3))
 (And.intro (And.intro @qh.eq_1
 @qh.eq_2)
 (And.intro @lI.{0}
 @List.all_nil.{0})))
 (And.intro (And.intro (And.intro @V9
 @oy)
 (And.intro @ed
 @jD))
 (And.intro (And.intro @kD
 @oC)
 (And.intro @jB
 @r8))))
 (And.intro (And.intro (And.intro (And.intro @II
 @xw)
 (And.intro @L0
 @ai.{0}))
 (And.intro (And.intro @aK.{0}
 @au.{0})
 (And.intro @bA.{0}
 @List.getElem?_nil.{0})))
 (And.intro (And.intro (And.intro @eA
 @bj)
 (And.intro @aq
 @eU.eq_1))
 (And.intro (And.intro @eU.eq_2
 @eU.eq_3)
 (And.intro @eU.eq_4
 @eU.eq_5))))))
 (And.intro (And.intro (And.intro (And.intro (And.intro @eU.eq_6
 (And.intro @eU.eq_7
 @eU.eq_8))
 (And.intro (And.intro @eU.eq_9
 @eU.eq_10)
 (And.intro @eU.eq_11
 @eU.eq_12)))
 (And.intro (And.intro (And.intro @eU.eq_13
 @eU.eq_14)
 (And.intro @eU.eq_15
 @eU.eq_16))
 (And.intro (And.intro @eU.eq_17
 @eU.eq_18)
 (And.intro @eU.eq_19
 @eU.eq_20))))
 (And.intro (And.intro (And.intro (And.intro @eU.eq_21
 @eU.eq_22)
 (And.intro @eU.eq_23
 @eU.eq_24))
 (And.intro (And.intro @eU.eq_25
 @eU.eq_26)
 (And.intro @aX
 @qO.{0})))
 (And.intro (And.intro (And.intro @V2.{0}
 @List.take_succ_cons.{0})
 (And.intro @Sc.{0}
 @V5.{0}))
 (And.intro (And.intro @List.drop_succ_cons.{0}
 @bh.{0})
 (And.intro @bq.{0}
 @bF.{0})))))
 (And.intro (And.intro (And.intro (And.intro @aM.{0}
 (And.intro @az.{0,0}
 @dj.{0,0}))
 (And.intro (And.intro (And.intro @forall_const.{0} @forall_const.{1})
 @imp_self)
 (And.intro @beq_self_eq_true.{0}
 @oD.{0})))
 (And.intro (And.intro (And.intro @eq_self.{1}
 @eZ.{0})
 (And.intro @tC
 (And.intro @implies_true.{0} @implies_true.{1})))
 (And.intro (And.intro @gE
 @kH)
 (And.intro @cond_true.{1}
 @cond_false.{1}))))
 (And.intro (And.intro (And.intro (And.intro @OS
 @LF)
 (And.intro @Qe
 @zS))
 (And.intro (And.intro @L1
 @rowsOf.eq_1)
 (And.intro @rowsOf.eq_2
 @rowsOf.eq_3)))
 (And.intro (And.intro (And.intro @rowsOf.eq_4
 @rowsOf.eq_5)
 (And.intro @rowsOf.eq_6
 @r9.eq_1))
 (And.intro (And.intro @r9.eq_2
 @r9.eq_3)
 (And.intro @r9.eq_4
 @r9.eq_5))))))))
set_option linter.defProp false in
def VV:=And.intro W (And.intro (And.intro (And.intro @bC.eq_10 (And.intro @Bool.true_or @jE)) (And.intro (And.intro @Bool.or_true @Bool.or_false) (And.intro @qS @gU)))
 (And.intro (And.intro @pU (And.intro @bytesOf.eq_1 @bytesOf.eq_2)) (And.intro @nr.eq_1 (And.intro @nr.eq_2 @UInt8.ofNat_toNat))))
set_option linter.defProp false in
def SS:=(And.intro (And.intro @ai.{0} (And.intro @aK.{0} @List.replicate_zero.{0})) (And.intro @pN.{0} (And.intro @bq.{0} @bh.{0})))
set_option linter.defProp false in
def RS:=And.intro (And.intro (And.intro @kS.eq_1 @kS.eq_2) (And.intro @xZ.eq_1 @xZ.eq_2)) VV
set_option linter.defProp false in
def LW:=And.intro UE (And.intro (And.intro (And.intro (And.intro @eF.eq_1 (And.intro @eF.eq_2 @bd.{0})) (And.intro @bf.{0} (And.intro @WX @WY))) (And.intro (And.intro @M7 (And.intro @Qs @Qv)) (And.intro @Qw (And.intro @Cm @UD)))) (And.intro (And.intro (And.intro @HG (And.intro @HE @Qu)) (And.intro @Qq (And.intro @Qt @UA))) (And.intro (And.intro (And.intro @UB @UC) (And.intro @J3 @Qp)) (And.intro @kD (And.intro @jD @oC)))))
theorem VR.Uz{w:World}{J:ae}{μ:Mem}{J':ae}{μ':Mem}{x:V}{v:Value}(h:VR w J μ x v){m:Nat}(hm:m≤J'.length)
  (hw:∀ b off,wr J' μ' b off→wr J μ b off) (eJ:∀ id,id<m→J'[id]?=J[id]?) (jX:∀ id,id<m→μ' id=μ id) (hx:x.Lt m):VR w J' μ' x v:=by
 induction h with
 | u v=>exact .u v
 | b x=>exact .b x
 | i k n=>exact .i k n
 | s l x hl hm=>exact .s l x hl hm
 | nil=>exact .nil
 | yK sz=>exact .yK sz
 | sle sz a=>exact .sle sz a
 | sl sz xs b o cap f hlen jL bT hc hv ih =>
  exact .sl sz xs b o cap f hlen jL bT (fun i j x hx=>⟨(hc i j x hx).1,fun h=>(hc i j x hx).2.1 (hw _ _ h),(hc i j x hx).2.2⟩) (fun i j x hx=>ih i j x hx (kK (hc i j x hx).2.2 m))
 | AG sz=>exact .AG sz
 | lit sz xs b o f jL bT hc hv ih =>
  exact .lit sz xs b o f jL bT (fun i j x hx=>⟨(hc i j x hx).1,fun h=>(hc i j x hx).2.1 (hw _ _ h),(hc i j x hx).2.2⟩) (fun i j x hx=>ih i j x hx (kK (hc i j x hx).2.2 m))
 | own id g v hid h =>
  cases hx with
  | own _ _ hl=>exact .own id g v (by omega) fun E sz by' g' sh xs ho=>by rw[jX id hl];exact h E sz by' g' sh xs (eJ id hl▸ho)
 | sub id g lo hi v hid h =>
  cases hx with
  | sub _ _ _ _ hl=>exact .sub id g lo hi v (by omega) fun E sz by' g' sh xs ho=>by rw[jX id hl];exact h E sz by' g' sh xs (eJ id hl▸ho)
 | ptr id off b h hm =>
  cases hx with
  | ptr _ _ hl =>
   obtain⟨T,cs,h1⟩:=h;exact .ptr id off b ⟨T,cs,(eJ id hl).trans h1⟩ ((jX id hl).trans hm)
 | ep sz xs i off b o f hi bT hc hv ih =>
  exact .ep sz xs i off b o f hi bT (fun j x hx=>⟨(hc j x hx).1,fun h=>(hc j x hx).2.1 (hw _ _ h),(hc j x hx).2.2⟩) (fun j x hx=>ih j x hx (kK (hc j x hx).2.2 m))
 | rp id g i off v hid h =>
  cases hx with
  | rp _ _ _ _ hl=>exact .rp id g i off v (by omega) fun E sz by' g' sh xs ho=>by rw[jX id hl];exact h E sz by' g' sh xs (eJ id hl▸ho)
 | mp id r h hm =>
  cases hx with
  | mp _ hl =>
   obtain⟨K,E,es,h1⟩:=h;exact .mp id r ⟨K,E,es,(eJ id hl).trans h1⟩ ((jX id hl).trans hm)
 | it id v h hm =>
  cases hx with
  | it _ hl =>
   obtain⟨st,m',E,n,ps,c,h1⟩:=h;exact .it id v ⟨st,m',E,n,ps,c,(eJ id hl).trans h1⟩ ((jX id hl).trans hm)
 | r7 id n b h hm =>
  cases hx with
  | r7 _ _ hl =>
   obtain⟨T,cs,h1⟩:=h;exact .r7 id n b ⟨T,cs,(eJ id hl).trans h1⟩ ((jX id hl).trans hm)
 | cV=>exact .cV
 | fp=>exact .fp
 | fn f caps vs hl hv ih =>
  cases hx with
  | fn _ _ h=>exact .fn f caps vs hl fun i x hx=>ih i x hx (h i x hx)
 | agg xs vs hl hv ih =>
  cases hx with
  | agg _ h=>exact .agg xs vs hl fun i x hx=>ih i x hx (h i x hx)
 | fa xs vs hl hv ih =>
  cases hx with
  | fa _ h=>exact .fa xs vs hl fun i x hx=>ih i x hx (h i x hx)
def Ql(n k:Nat):V→V
 | .own id g=>if id=n+k then .own n 0 else .own id g
 | .mp id=>.mp (if id=n+k then n else id)
 | x=>x
def Ob.gen:Ob→Nat
 | .row _ _ _ g _ _=>g
 | _=>0
def Ob.fresh:Ob→Ob
 | .row E sz by' _ sh xs=>.row E sz by' 0 sh xs
 | o=>o
def Ck(n k g0:Nat):V→Prop
 | .own id g=>(id=n+k∧g=g0)∨id<n
 | .mp id=>id=n+k∨id<n
 | x=>x.Lt n
def Ob.flat:Ob→Bool
 | .row _ _ _ _ _ _=>true
 | .map _ _ es=>es.all fun kx=>kx.2.pure
 | _=>false
theorem OC{K E:Nat}{es:List (V×V)}(h:(Ob.map K E es).flat=true)(m:Nat)(j:Nat)(x:V)(hx:(es.map (·.2))[j]?=some x):x.Lt m:=by
 rw[aW,ah]at hx;obtain⟨kx,h1,rfl⟩:=hx;simp only[Ob.flat,cj]at h;exact kK (h kx (aL h1)) m
theorem Wk.UG{P:Program}{xs:List V}{J loc:ae}(k:Nat){o:Ob}(bz:bG J)(hk:loc[k]?=some o)(ho:o.flat=true)(hx:∀ x∈xs,Ck J.length k o.gen x):
  Wk P J.length xs (J++loc) (xs.map (Ql J.length k)) (J++[o.fresh]):=by
 intro B w0 w μ vs hS hC;have oE:k<loc.length:=(ab.1 hk).1;let μ':Mem:=fun j=>if j=J.length then μ (J.length+k)else μ j
 have jX:∀ id,id<J.length→μ' id=μ id:=fun id h=>by simp only[μ'];rw[aC (by omega)]
 have Ih:μ' J.length=μ (J.length+k):=by simp[μ']
 have eJ:∀ id,id<J.length→(J++[o.fresh])[id]?=(J++loc)[id]?:=fun id h=>by rw[ag h,ag h]
 have h0:(J++[o.fresh])[J.length]?=some o.fresh:=by simp
 have hk':(J++loc)[J.length+k]?=some o:=by rw[aw (by omega),eY];exact hk
 have cases0:∀ {id o'},(J++[o.fresh])[id]?=some o'→(id<J.length∧(J++loc)[id]?=some o'∧μ' id=μ id)∨(id=J.length∧o'=o.fresh):=by
  intro id o' h;rcases ft id J.length with hl | hg
  ·exact .inl ⟨hl,eJ id hl▸h,jX id hl⟩
  ·right;have cM:=(ab.1 h).1;simp at cM;have:id=J.length:=by omega
   subst this;rw[h0]at h;exact⟨rfl,(gm h).symm⟩
 have hw:∀ b off,wr (J++[o.fresh]) μ' b off→wr (J++loc) μ b off:=by
  rintro b off ⟨id,o',h1,h2,h3⟩;rcases cases0 h1 with⟨h4,h5,h6⟩ | ⟨rfl,rfl⟩
  ·exact⟨id,o',h5,h6▸h2,h3⟩
  ·exact⟨J.length+k,o,hk',Ih▸h2,by cases o<;>exact h3⟩
 have mv:∀ {x v},VR w (J++loc) μ x v→x.Lt J.length→VR w (J++[o.fresh]) μ' x v:=fun h hl=>h.Uz (m:=J.length) (by simp) hw eJ jX hl;refine⟨μ',⟨hS.below,hS.base,fun id o' ho'=>?_,fun i j oi oj b hi hj h1 h2 h3 h4=>?_⟩,⟨by simp[hC.1],fun i y hy=>?_⟩,fun x v hv hl=>mv hv hl⟩
 ·rcases cases0 ho' with⟨h4,h5,h6⟩ | ⟨rfl,rfl⟩
  ·have cK:=hS.obj id o' h5;rw[h6];cases o' with
   | dead=>trivial
   | box T cs =>
    obtain⟨b,us,h1,h2,h3,h4',h5'⟩:=cK;have kN:=bz id _ (by rwa [ag h4]at h5);exact⟨b,us,h1,h2,h3,h4',fun j x hj=>let ⟨u,h6,h7⟩:=h5' j x hj;⟨u,h6,mv h7 (kN j x hj)⟩⟩
   | row E sz by' g sh rows =>
    obtain⟨h1,vals,h2,h3⟩:=cK;exact⟨h1,vals,h2,h3.1,fun i j x hj=>let ⟨h4,u,h5,h6⟩:=h3.2 i j x hj;⟨h4,u,h5,mv h6 (kK h4 _)⟩⟩
   | map K E es =>
    have h5':=h5;have hlt':=h4;obtain⟨r,ents,clock,h1,h2,h3,h4⟩:=cK;exact⟨r,ents,clock,h1,h2,h3,h4.1,fun i k x hi=>let ⟨h5,h6,e,h7,h8,h9⟩:=h4.2.1 i k x hi;⟨h5,h6,e,h7,mv h8 (AE h5 _),mv h9 (map_lt (bz id (.map K E es) (by rwa [ag hlt']at h5')) hi)⟩,h4.2.2⟩
   | iter st m E n ps c =>
    have cM:m<J.length:=by
     have:=bz id _ (by rwa [ag h4]at h5) 0 (.mp m) rfl;cases this;assumption
    exact zb cK (eJ m cM) (jX m cM)
  ·have cK:=hS.obj (J.length+k) o hk';rw[Ih];cases o with
   | dead=>trivial
   | box T cs=>simp[Ob.flat]at ho
   | row E sz by' g sh rows =>
    obtain⟨h1,vals,h2,h3⟩:=cK;exact⟨h1,vals,h2,h3.1,fun i j x hj=>let ⟨h4,u,h5,h6⟩:=h3.2 i j x hj;⟨h4,u,h5,mv h6 (kK h4 _)⟩⟩
   | map K E es =>
    obtain⟨r,ents,clock,h1,h2,h3,h4⟩:=cK;exact⟨r,ents,clock,h1,h2,h3,h4.1,fun i k x hi=>let ⟨h5,h6,e,h7,h8,h9⟩:=h4.2.1 i k x hi;⟨h5,h6,e,h7,mv h8 (AE h5 _),mv h9 (map_lt (OC ho _) hi)⟩,h4.2.2⟩
   | iter st m E n ps c=>simp[Ob.flat]at ho
 ·rcases cases0 hi with⟨i1,i2,i3⟩ | ⟨rfl,rfl⟩<;>rcases cases0 hj with⟨j1,j2,j3⟩ | ⟨rfl,rfl⟩
  ·exact hS.sep i j oi oj b i2 j2 h1 h2 (i3▸h3) (j3▸h4)
  ·have:=hS.sep i (J.length+k) oi o b i2 hk' h1 (by rintro rfl;exact h2 rfl) (i3▸h3) (Ih▸h4);omega
  ·have:=hS.sep (J.length+k) j o oj b hk' j2 (by rintro rfl;exact h1 rfl) h2 (Ih▸h3) (j3▸h4);omega
  ·rfl
 ·rw[aW,ah]at hy;obtain⟨x,Bm,rfl⟩:=hy;have hv:=hC.2 i x Bm;have fQ:=hx x (aL Bm);cases x with
  | own id g =>
   simp only[Ql];split
   ·rename_i e;subst e
    have hg:g=o.gen:=by
     simp only[Ck,jD]at fQ;omega
    cases o with
    | row E sz by' g' sh rows =>
     have NN:g'=g:=hg.symm;subst NN;have h1:=hv.iL hk';refine .own _ _ _ (by simp) fun E2 sz2 by2 g2 sh2 xs2 ho'=>?_;rw[h0]at ho';simp only[Ob.fresh,aa,Ob.row.injEq]at ho';rw[Ih];exact⟨eX _,fun _=>h1⟩
    | _=>exact .own _ _ _ (by simp) fun E2 sz2 by2 g2 sh2 xs2 ho'=>by rw[h0]at ho';simp[Ob.fresh]at ho'
   ·rename_i e;simp only[Ck,e,false_and,qL]at fQ;exact mv hv (.own _ _ fQ)
  | mp id =>
   simp only[Ql];split
   ·rename_i e;subst e;obtain⟨r,h1,h2,K,E,es,h3⟩:=hv.oV;rw[h1];refine .mp _ r ⟨K,E,es,?_⟩ (Ih.trans h2);rw[h0];have h4:=hk'.symm.trans h3;simp only[aa]at h4;subst h4;rfl
   ·rename_i e;simp only[Ck,e,qL]at fQ;exact mv hv (.mp _ fQ)
  | _=>exact mv hv fQ
theorem zU{P:Program}{rs:List Rs}{Q:V→ae→Prop}{e:Exit}{fr:List V}{J loc:ae}{xs:List V}(k:Nat){o:Ob}(bz:bG J)(he:e=.normal∨e=.ret)(hx:kS ⟨fr,J++loc⟩ rs=some xs)
  (hk:loc[k]?=some o) (ho:o.flat=true) (hl:∀ x∈xs,Ck J.length k o.gen x) (hQ:Q (one (xs.map (Ql J.length k))) (J++[o.fresh])):sI P J.length rs Q e ⟨fr,J++loc⟩ :=
 fO he hx (Wk.UG k bz hk ho hl) (by simp) hQ
theorem PC.post{P:Program}{f:Nat}{args:List V}{J σ0 σ1:ae}{r0 r1:V}(h:PC P f args J (fun r J'=>r=r0∧J'=σ0))(hw:Wk P J.length [r0] σ0 [r1] σ1):PC P f args J (fun r J'=>r=r1∧J'=σ1):=by
 intro B w0 w μ vs hS hv;have CV:∀ x u,VR w J μ x u→x.Lt J.length:=fun x u h=>h.lt;refine(h B w0 w μ vs hS hv).mono ?_;rintro e w' ⟨r,v,J',μ',he,⟨rfl,rfl⟩,h1,h2,h3⟩
 obtain⟨μ2,h4,h5,h6⟩:=hw B w0 w' μ' #[v] h1 ⟨rfl,fun i x hx=>by
  cases i with
  | zero=>simp only[au,aa]at hx;subst hx;simpa using h2
  | succ i=>simp at hx⟩
 exact⟨r1,v,σ1,μ2,he,⟨rfl,rfl⟩,h4,by have:=h5.2 0 r1 rfl;simpa using this,fun x u hx=>h6 x u (h3 x u hx) (CV x u hx)⟩
theorem PC.fz{P:Program}{f:Nat}{args:List V}{J:ae}{E sz by' g:Nat}{sh:Bool}{rows:List (List V)}(bz:bG J)
  (h:PC P f args J (fun r J'=>r=.own J.length g∧J'=J++[.row E sz by' g sh rows])):PC P f args J (fun r J'=>r=.sl sz rows∧J'=J):=by
 refine h.post ?_;refine(Wk.fz J.length (by simp;exact⟨rfl,rfl,rfl,rfl,rfl,rfl⟩)).trans ?_;rw[bZ _ _ (aq _),eQ];simp only[az,dj,Pm.fz,wU,oC,aR];exact Wk.OI bz (by simp only[eF,Cm,oC])
theorem vi{P:Program}{d:Option Nat}{f:Nat}{args:List O}{K:St→Prop}{fr:List V}{J σ2:ae}{zs:List V}{v:V}(id:Nat){E sz by' g:Nat}{sh:Bool}{rows:List (List V)}(ho:J[id]?=some (.row E sz by' g sh rows))
  (h:PC P f zs (J.set id (.row E sz by' g true rows)) (fun r J'=>r=v∧J'=σ2)) (hz:(args.map (ev fr)).map (fz id g sz rows)=zs) (hK:K ⟨c8 fr d v,σ2⟩) :
  gI P ⟨d,[],.call f args⟩ K ⟨fr,J⟩:=by
 subst hz;exact aA (PC.wk (Wk.fz id ho) h) rfl hK
theorem PC.closed{P:Program}{f:Nat}{args:List V}{J:ae}{Q:V→ae→Prop}(h:bG J→PC P f args J Q):PC P f args J Q :=
 fun B w0 w μ vs hS hv=>h hS.closed B w0 w μ vs hS hv
theorem Wk.cell{P:Program}{n:Nat}{xs:List V}{J:ae}{id T j:Nat}{cs:List V}{x y:V}(hid:J[id]?=some (.box T cs))(hj:cs[j]?=some x)
  (hv:∀ (w:World) (μ:Mem) (v:Value),(∀ i o,J[i]?=some o→∃ P B,uL P B w J μ (μ i) o)→VR w J μ x v→VR w J μ y v):Wk P n xs J xs (J.set id (.box T (cs.set j y))):=by
 intro B w0 w μ vs hS hC;have cM:id<J.length:=(ab.1 hid).1;have jr:j<cs.length:=(ab.1 hj).1
 have h:=hS.update (w':=w) (J':=J.set id (.box T (cs.set j y))) (μ':=μ) id none (grownBy_refl w none) (by simp) (by simp) (fun k hk=>ay (fun e=>hk e.symm)) (fun k hk=>rfl)
  (fun b hb=>.inl ⟨_,hid,by simp,hb⟩)
  (fun b off v o ho hd hb hc hw=>⟨hc,fun o' ho' hb' ha=>hw ⟨id,o,ho,hb,by
   rw[hid]at ho;cases ho;trivial⟩⟩)
  (fun T' cs' h=>by rw[hid]at h;cases h;exact⟨⟨_,by rw[ak cM]⟩,rfl⟩)
  (fun K E es h=>by rw[hid]at h;cases h)
  (fun E sz by' g' sh ys _ h=>by rw[ak cM]at h;simp at h)
  (fun hp o ho=>by
   rw[ak cM]at ho;simp only[aa]at ho;subst ho;obtain⟨b,us,h1,h2,h3,h4,h5⟩:=hS.obj id _ hid;refine⟨b,us,h1,h2,h3,by simpa using h4,fun k z hz=>?_⟩
   by_cases hk:j=k
   ·subst hk;rw[ak jr]at hz;simp only[aa]at hz;subst hz;obtain⟨u,h6,h7⟩:=h5 j x hj;exact⟨u,h6,(hv w μ u (fun i o ho=>⟨P,B,hS.obj i o ho⟩) h7).mono hp⟩
   ·rw[ay hk]at hz;obtain⟨u,h6,h7⟩:=h5 k z hz;exact⟨u,h6,h7.mono hp⟩)
 exact⟨μ,h.1,⟨hC.1,fun i x hx=>(hC.2 i x hx).mono h.2⟩,h.2.dY.GZ⟩
theorem Wk.Td{P:Program}{n:Nat}{xs:List V}{J:ae}{id T j idr E sz by' g:Nat}{cs:List V}{sh:Bool}{rows:List (List V)}(hid:J[id]?=some (.box T cs))(hj:cs[j]?=some .nil)(hr:J[idr]?=some (.row E sz by' g sh rows)):
  Wk P n xs J xs ((J.set idr (.row E sz by' (g+1) false [])).set id (.box T (cs.set j (.own idr (g+1))))):=by
 have gr:id≠idr:=fun e=>by subst e;rw[hid]at hr;cases hr
 intro B w0 w μ vs hS hC;have I3:idr<J.length:=(ab.1 hr).1;obtain⟨hT,_⟩:=hS.obj idr _ hr
 have h:=hS.update (w':=w) (J':=J.set idr (.row E sz by' (g+1) false [])) (μ':=oh μ idr (.slice none 0 0)) idr none (grownBy_refl w none) (by simp) (by simp) (fun k hk=>ay (fun e=>hk e.symm)) (fun k hk=>ki _ _ _ _ hk)
  (fun b hb=>by rw[cX]at hb;simp[fR]at hb)
  (fun b off v o ho hd hb hc hw=>⟨hc,fun o' ho' hb'=>by rw[cX]at hb';simp[fR]at hb'⟩)
  (fun T' cs' h=>by rw[hr]at h;cases h)
  (fun K E es h=>by rw[hr]at h;cases h)
  (fun E2 sz2 by2 g' sh2 ys _ h=>by
   rw[ak I3]at h;simp only[aa,Ob.row.injEq]at h;obtain⟨rfl,rfl,rfl,rfl,rfl,rfl⟩:=h;exact⟨g,sh,rows,hr,by omega,fun e=>by omega⟩)
  (fun hp o ho=>by
   rw[ak I3]at ho;simp only[aa]at ho;subst ho;rw[cX];exact⟨hT,[],World.ownsRow_nil w B E sz,by simp,by simp[eV]⟩)
 have uE:(J.set idr (.row E sz by' (g+1) false []))[id]?=some (.box T cs):=by rw[ay (fun e=>gr e.symm)];exact hid
 have ox:(J.set idr (.row E sz by' (g+1) false []))[idr]?=some (.row E sz by' (g+1) false []):=by rw[ak I3]
 have s9:id<(J.set idr (.row E sz by' (g+1) false [])).length:=(ab.1 uE).1;have jr:j<cs.length:=(ab.1 hj).1
 have h2:=h.1.update (w':=w) (J':=(J.set idr (.row E sz by' (g+1) false [])).set id (.box T (cs.set j (.own idr (g+1))))) (μ':=oh μ idr (.slice none 0 0)) id none (grownBy_refl w none) (by simp) (by simp) (fun k hk=>ay (fun e=>hk e.symm)) (fun k hk=>rfl)
  (fun b hb=>.inl ⟨_,uE,by simp,hb⟩)
  (fun b off v o ho hd hb hc hw=>⟨hc,fun o' ho' hb' ha=>hw ⟨id,o,ho,hb,by
   rw[uE]at ho;cases ho;trivial⟩⟩)
  (fun T' cs' h=>by rw[uE]at h;cases h;exact⟨⟨_,by rw[ak s9]⟩,rfl⟩)
  (fun K E es h=>by rw[uE]at h;cases h)
  (fun E sz by' g' sh ys _ h=>by rw[ak s9]at h;simp at h)
  (fun hp o ho=>by
   rw[ak s9]at ho;simp only[aa]at ho;subst ho;obtain⟨b,us,h1,h2,h3,h4,h5⟩:=h.1.obj id _ uE;refine⟨b,us,h1,h2,h3,by simpa using h4,fun k z hz=>?_⟩
   by_cases hk:j=k
   ·subst hk;rw[ak jr]at hz;simp only[aa]at hz;subst hz;obtain⟨u,h6,h7⟩:=h5 j .nil hj;have hu:=h7.kM;subst hu;have:=(VR.lk (w:=w) (μ:=oh μ idr (.slice none 0 0)) ox);rw[cX]at this;exact⟨_,h6,this.mono hp⟩
   ·rw[ay hk]at hz;obtain⟨u,h6,h7⟩:=h5 k z hz;exact⟨u,h6,h7.mono hp⟩)
 exact⟨_,h2.1,⟨hC.1,fun i x hx=>((hC.2 i x hx).mono h.2).mono h2.2⟩,fun x v hv hl=>(hv.mono h.2).mono h2.2⟩
theorem Wk.wZ{P:Program}{n:Nat}{xs:List V}{J:ae}{id T j E sz by':Nat}{cs:List V}(hT:Ti P E sz by')(hid:J[id]?=some (.box T cs))(hj:cs[j]?=some .nil):
  Wk P n xs J xs ((J.set id (.box T (cs.set j (.own J.length 0))))++[.row E sz by' 0 false []]):=by
 intro B w0 w μ vs hS hC;have cM:id<J.length:=(ab.1 hid).1;have hn:=hS.ov (w':=w) (.row E sz by' 0 false []) (.slice none 0 0) (grownBy_refl w none) (by simp[fR]) (fun _=>⟨hT,[],World.ownsRow_nil w B E sz,by simp,by simp[eV]⟩);have hr:(J++[.row E sz by' 0 false []])[J.length]?=some (.row E sz by' 0 false []):=by simp
 have uE:(J++[.row E sz by' 0 false []])[id]?=some (.box T cs):=by rw[ag cM];exact hid
 have s9:id<(J++[Ob.row E sz by' 0 false []]).length:=by simp;omega
 have jr:j<cs.length:=(ab.1 hj).1;have he:(J.set id (.box T (cs.set j (.own J.length 0))))++[Ob.row E sz by' 0 false []]=(J++[Ob.row E sz by' 0 false []]).set id (.box T (cs.set j (.own J.length 0))):=by rw[dD _ _ cM]
 rw[he]
 have h2:=hn.1.update (w':=w) (J':=(J++[Ob.row E sz by' 0 false []]).set id (.box T (cs.set j (.own J.length 0)))) (μ':=oh μ J.length (.slice none 0 0)) id none (grownBy_refl w none) (by simp) (by simp) (fun k hk=>ay (fun e=>hk e.symm)) (fun k hk=>rfl)
  (fun b hb=>.inl ⟨_,uE,by simp,hb⟩)
  (fun b off v o ho hd hb hc hw=>⟨hc,fun o' ho' hb' ha=>hw ⟨id,o,ho,hb,by
   rw[uE]at ho;cases ho;trivial⟩⟩)
  (fun T' cs' h=>by rw[uE]at h;cases h;exact⟨⟨_,by rw[ak s9]⟩,rfl⟩)
  (fun K E es h=>by rw[uE]at h;cases h)
  (fun E sz by' g' sh ys _ h=>by rw[ak s9]at h;simp at h)
  (fun hp o ho=>by
   rw[ak s9]at ho;simp only[aa]at ho;subst ho;obtain⟨b,us,h1,h2,h3,h4,h5⟩:=hn.1.obj id _ uE;refine⟨b,us,h1,h2,h3,by simpa using h4,fun k z hz=>?_⟩
   by_cases hk:j=k
   ·subst hk;rw[ak jr]at hz;simp only[aa]at hz;subst hz;obtain⟨u,h6,h7⟩:=h5 j .nil hj;have hu:=h7.kM;subst hu;have:=(VR.lk (w:=w) (μ:=oh μ J.length (.slice none 0 0)) hr);rw[cX]at this;exact⟨_,h6,this.mono hp⟩
   ·rw[ay hk]at hz;obtain⟨u,h6,h7⟩:=h5 k z hz;exact⟨u,h6,h7.mono hp⟩)
 exact⟨_,h2.1,⟨hC.1,fun i x hx=>((hC.2 i x hx).mono hn.2).mono h2.2⟩,fun x v hv hl=>(hv.mono hn.2).mono h2.2⟩
theorem cE.cut{n:Nat}{P:Program}{a b:bE}{K:Exit→St→Prop}{st:St}(h:∀ R:St→Prop,(∀ st',cE n P b K st'→R st')→xH n P a (Hn R K) st):cE n P (.seq a b) K st:=by
 refine cE.seq ?_;refine(aB (h (cE n P b K) fun _ h=>h)).mono fun e st' hk=>?_;cases e<;>exact hk
theorem cE.kP{n:Nat}{P:Program}{c:bE}{K:Exit→St→Prop}{fr fr':List V}{J:ae}(k:cE n P c K ⟨fr',J⟩)(hc:qJ fr fr'):cE n P c K ⟨fr,J⟩:=cE.wk (Wk.kP hc) k
theorem cE.drop{n:Nat}{P:Program}{c:bE}{K:Exit→St→Prop}{fr fr':List V}{J:ae}(l loc:ae)(hn:n≤J.length+l.length)(bz:bG (J++l))(hc:qJ fr fr')(hl:eF (J.length+l.length) fr')(k:cE n P c K ⟨fr',J++l⟩):cE n P c K ⟨fr,J++(l++loc)⟩:=by
 rw[← List.append_assoc];exact cE.wk ((Wk.kP hc).trans (Wk.xc (by rw[al];exact hn) bz (by rw[al];exact dN.1 hl))) k
theorem uj{J l l':ae}(h:bG (J++l))(hl:l.length≤l'.length)(hb:∀ o∈l',match o with | .box _ cs=>eF (J.length+l'.length) cs | .map _ _ es=>eF (J.length+l'.length) (es.map (·.2)) | .iter _ m _ _ _ _=>m<J.length+l'.length | _=>True):bG (J++l'):=by
 intro id o hid j x hx;rw[al];rcases ft id J.length with cM | I4
 ·rw[ag cM]at hid;have:=h id o (by rw[ag cM];exact hid) j x hx;rw[al]at this;exact this.mono (by omega)
 ·rw[aw I4]at hid;exact FJ (hb _ (aL hid)) j x hx
end Go.Pm
namespace Go.Pm
theorem itT{a b:Prop}:((true=true→a)∧(true=false→b))=a:=by simp
theorem itF{a b:Prop}:((false=true→a)∧(false=false→b))=b:=by simp
def IT:=And.intro @itT @itF
theorem bb:(true==true)=true∧(false==true)=false∧(true==false)=false∧(false==false)=true:=⟨rfl,rfl,rfl,rfl⟩
end Go.Pm
namespace Go.Pm
open Go Go.RowKit
theorem Wk.SR{P:Program}{n:Nat}{xs:List V}{J:ae}{id E sz by' g hi:Nat}{rows:List (List V)}(ho:J[id]?=some (.row E sz by' g false rows))(j:Nat)(hj:xs[j]?=some (.sub id g 0 hi)):
  Wk P n xs J (xs.set j (.own id (g+1))) (J.set id (.row E sz by' (g+1) false (rows.take hi))):=by
 intro B w0 w μ vs hS hC;have cM:id<J.length:=(ab.1 ho).1;have hv:=hC.2 j _ hj;obtain⟨_,DJ,NP⟩:=hv.mF ho;have kV:(rows.take hi).length=hi:=by simp;omega
 have cK:=hS.obj id _ ho
 have mh:=hS.update (w':=w) (J':=J.set id (.row E sz by' (g+1) false (rows.take hi))) (μ':=oh μ id (iR (μ id) 0 hi sz)) id none (grownBy_refl w none) (by simp) (by simp) (fun k hk=>ay (fun e=>hk e.symm)) (fun k hk=>ki _ _ _ _ hk)
  (fun b hb=>by
   rw[cX]at hb;refine .inl ⟨_,ho,by simp,?_⟩;obtain⟨_,vals,⟨_,hw⟩,_⟩:=cK;rcases hw with⟨hm,_⟩ | ⟨b2,cap,cur,hm,_⟩
   ·rw[hm]at hb;simp only[iR]at hb;split at hb<;>simp[fR]at hb
   ·rw[hm]at hb ⊢;simp only[iR]at hb;split at hb<;>simpa[fR,Addr.add_lit]using hb)
  (fun b off u o h1 _ h2 h3 h4=>absurd ⟨id,o,h1,h2,by rw[ho]at h1;simp only[aa]at h1;subst h1;intro hf;simp at hf⟩ h4)
  (fun T cs h=>by rw[ho]at h;simp at h) (fun K E es h=>by rw[ho]at h;simp at h)
  (fun E2 sz2 by2 g2 sh2 xs2 _ h=>by
   simp only[ak cM,aa,Ob.row.injEq]at h;obtain⟨rfl,rfl,rfl,rfl,rfl,rfl⟩:=h;exact⟨g,false,rows,ho,by omega,fun e=>by omega⟩)
  (fun hp o h=>by
   simp only[ak cM,aa]at h;subst h;rw[cX];obtain⟨hT,vals,⟨hl,hw⟩,bT,hr⟩:=cK;have hle:hi*sz≤rows.length*sz:=aY _ DJ;refine⟨hT,vals.take (hi*sz),⟨by rw[kV,ba,hl];omega,?_⟩,fun r hr'=>bT r (df hr'),fun i k x hx=>?_⟩
   ·rw[kV];rcases hw with⟨hm,hn⟩ | ⟨b,cap,cur,hm,h1,h2,h3,h4,h5,h6⟩
    ·have:hi=0:=by omega
     subst this;exact .inl ⟨by rw[hm];simp[iR],rfl⟩
    ·refine .inr ⟨b,cap,cur,?_,h1,h2,by omega,h4,h5,?_⟩
     ·rw[hm];simp only[iR,pU];split<;>simp[Addr.add_lit]
     ·rw[← h6,qP,gn hle]
   ·obtain⟨r,h1,h2⟩:=eP hx;have Bp:i<hi:=by have:=(ab.1 h1).1;rw[kV]at this;exact this
    rw[aU Bp]at h1;obtain⟨h3,u,h4,h5⟩:=hr i k x (by rw[l8 h1];exact h2);refine⟨h3,u,?_,h5.mono hp⟩;have hk:k<sz:=by rw[← bT r (aL h1)];exact(ab.1 h2).1
    rw[aU ?_]
    ·exact h4
    ·have:(i+1)*sz≤hi*sz:=aY _ Bp;rw[bO,eG]at this;omega)
 refine⟨_,mh.1,⟨by simp[hC.1],fun i x hx=>?_⟩,mh.2.dY.GZ⟩
 by_cases DI:j=i
 ·subst DI;rw[ak (ab.1 hj).1]at hx;simp only[aa]at hx;subst hx;rw[NP];have:=VR.lk (w:=w) (J:=J.set id (.row E sz by' (g+1) false (rows.take hi))) (μ:=oh μ id (iR (μ id) 0 hi sz)) (id:=id) (E:=E) (sz:=sz) (by':=by') (g:=g+1) (sh:=false) (xs:=rows.take hi) (ak cM)
  rwa [cX]at this
 ·rw[ay DI]at hx;exact(hC.2 i x hx).mono mh.2
theorem tI{J:ae}{id:Nat}{o:Ob}(h:J[id]?=some o):J.set id o=J:=by
 apply gd;intro j
 by_cases hj:id=j
 ·subst hj;rw[ak (ab.1 h).1,h]
 ·rw[ay hj]
theorem cE.fR{n:Nat}{P:Program}{id:Nat}{c:bE}{K:Exit→St→Prop}{st:St}(h:cE n P c (ym id K) st):cE n P (.block id c) K st :=
 cE.block (h.mono fun e st' hk=>by
  cases e with
  | exit id' =>
   simp only[ym]at hk;simp only[tu];split at hk<;>rename_i h1<;>simp only[h1,aR,aO]<;>exact hk
  | _=>exact hk)
theorem Wk.VO{P:Program}{n:Nat}{xs:List V}{J loc:ae}(k:Nat){E sz by' g:Nat}{sh:Bool}{rows:List (List V)}(hk:loc[k]?=some (.row E sz by' g sh rows)):
  Wk P n xs (J++loc) (xs.map (Pm.fz (J.length+k) g sz rows)) (J++loc.set k (.row E sz by' g true rows)):=by
 have:=Wk.fz (P:=P) (n:=n) (xs:=xs) (J:=J++loc) (J.length+k) (by rw[r8];exact hk)
 rwa [xw]at this
inductive Mv (n:Nat) (loc:ae) (ks:List Nat):V→V→Prop
 | own (i k E sz by' g:Nat) (sh:Bool) (rows:List (List V)) (hk:ks[i]?=some k) (ho:loc[k]?=some (.row E sz by' g sh rows)):Mv n loc ks (.own (n+k) g) (.own (n+i) 0)
 | dY (x:V) (h:x.Lt n):Mv n loc ks x x
 | forget (x:V):Mv n loc ks x .u
 | agg (xs ys:List V) (hl:ys.length=xs.length) (h:∀ (i:Nat) (x y:V),xs[i]?=some x→ys[i]?=some y→Mv n loc ks x y):Mv n loc ks (.agg xs) (.agg ys)
inductive SA (n:Nat) (loc:ae) (ks:List Nat):List V→List V→Prop
 | nil:SA n loc ks [] []
 | cons {x y xs ys} (h:Mv n loc ks x y) (t:SA n loc ks xs ys):SA n loc ks (x::xs) (y::ys)
theorem SA.at{n:Nat}{loc:ae}{ks:List Nat}{xs ys:List V}(h:SA n loc ks xs ys):ys.length=xs.length∧∀ (i:Nat) (x y:V),xs[i]?=some x→ys[i]?=some y→Mv n loc ks x y:=by
 induction h with
 | nil=>simp
 | cons h t ih =>
  refine⟨by simp[ih.1],fun i x y hx hy=>?_⟩;cases i with
  | zero=>simp only[au,aa]at hx hy;subst hx;subst hy;exact h
  | succ i=>exact ih.2 i x y (by simpa using hx) (by simpa using hy)
theorem Mv.Bd{n:Nat}{loc:ae}{ks:List Nat}{xs ys:List V}(h:SA n loc ks xs ys):Mv n loc ks (.agg xs) (.agg ys):=.agg xs ys h.at.1 h.at.2
end Go.Pm
namespace Go.Bt
open Go Go.Pm
section
variable {α β:Type} [DecidableEq α]
def db(a:α):List (α×β)→Nat→Option (Nat×β)
 | [],_=>none
 | p::l,k=>if a=p.1 then some (k,p.2)else db a l (k+1)
def bo(a:α)(l:List (α×β)):Option β:=(db a l 0).map (·.2)
def ee(l:List (α×β))(a:α)(b:β):List (α×β) :=
 match l with
 | []=>[(a,b)]
 | p::l=>if a=p.1 then(a,b)::l else p::ee l a b
def emap(ke:α→V)(ve:β→V)(l:List (α×β)):List (V×V):=l.map fun p=>(ke p.1,ve p.2)
theorem iA(a:α):∀ (l:List (α×β)) (k:Nat),(db a l k).map (·.2)=bo a l
 | [],_=>rfl
 | p::l,k=>by
  simp only[bo,db];split
  ·rfl
  ·rw[iA a l (k+1),iA a l (0+1)]
theorem Lf(a:α):bo a ([]:List (α×β))=none:=rfl
theorem fT(a:α)(p:α×β)(l:List (α×β)):bo a (p::l)=if a=p.1 then some p.2 else bo a l:=by
 simp only[bo,db];split
 ·rfl
 ·rw[iA a l (0+1)];rfl
theorem eD(l:List (α×β))(a:α)(b:β)(x:α):bo x (ee l a b)=if x=a then some b else bo x l:=by
 induction l with
 | nil=>simp only[ee,fT,Lf]
 | cons p l ih =>
  simp only[ee];split
  ·rename_i h;simp only[fT]
   by_cases hx:x=a
   ·simp[hx]
   ·have:¬ x=p.1:=fun h2=>hx (h2.trans h.symm);simp[hx,this]
  ·rename_i h;simp only[fT,ih]
   by_cases hx:x=p.1
   ·have:¬ x=a:=fun h2=>h (h2.symm.trans hx);simp only[this,aO,hx,aR];split
    ·rename_i h3;exact absurd h3.symm h
    ·rfl
   ·simp[hx]
theorem BB(l:List (α×β))(a:α)(b:β):(ee l a b).length≤l.length+1:=by
 induction l with
 | nil=>simp[ee]
 | cons p l ih =>
  simp only[ee];split<;>simp<;>omega
theorem GW{l:List (α×β)}{a:α}{b:β}(h:bo a l=none):ee l a b=l++[(a,b)]:=by
 induction l with
 | nil=>rfl
 | cons p l ih =>
  rw[fT]at h;split at h
  ·simp at h
  ·rename_i h1;simp only[ee,h1,aO,bq];rw[ih h]
variable {kd:Nat} {ke:α→V} {ve:β→V}
theorem qB(hk:∀ a b,bI kd (ke a) (ke b)=some (decide (a=b)))(a:α):∀ (l:List (α×β)) (k:Nat),c4 kd (ke a) (emap ke ve l) k=some ((db a l k).map fun p=>(p.1,ve p.2))
 | [],k=>rfl
 | p::l,k=>by
  have ih:=qB hk a l (k+1);simp only[emap,az,c4,hk,db]at ih ⊢
  by_cases h:a=p.1
  ·simp[h]
  ·simp only[h,xF,aO];exact ih
theorem C9(a:α)(b:β):∀ (l:List (α×β)) (k i:Nat) (b0:β),db a l k=some (k+i,b0)→(emap ke ve l).set i (ke a,ve b)=emap ke ve (ee l a b)
 | [],k,i,b0,h=>by simp[db]at h
 | p::l,k,i,b0,h=>by
  simp only[db]at h
  by_cases h1:a=p.1
  ·simp only[h1,aR,aa,ao]at h;have:i=0:=by omega
   subst this;simp[emap,ee,h1]
  ·simp only[h1,aO]at h
   have hi:∃ j,i=j+1:=by
    refine⟨i - 1,?_⟩
    have:∀ (l:List (α×β)) (k n:Nat) (x:β),db a l k=some (n,x)→k≤n:=by
     intro l
     induction l with
     | nil=>intro k n x h;simp[db]at h
     | cons q l ih =>
      intro k n x h;simp only[db]at h;split at h
      ·simp at h;omega
      ·have:=ih _ _ _ h;omega
    have:=this _ _ _ _ h;omega
   obtain⟨j,rfl⟩:=hi;have:=C9 a b l (k+1) j b0 (by rw[h];congr 2;omega);simp only[emap,az,List.set_cons_succ,ee,h1,aO]at this ⊢;rw[this]
theorem gP(hk:∀ a b,bI kd (ke a) (ke b)=some (decide (a=b)))(l:List (α×β))(a:α):
  (bo a l=none∧c4 kd (ke a) (emap ke ve l) 0=some none∧∀ b,emap ke ve l++[(ke a,ve b)]=emap ke ve (ee l a b)) ∨
  (∃ i b0,bo a l=some b0∧c4 kd (ke a) (emap ke ve l) 0=some (some (i,ve b0))∧∀ b,(emap ke ve l).set i (ke a,ve b)=emap ke ve (ee l a b)):=by
 cases h:db a l 0 with
 | none =>
  have h1:bo a l=none:=by simp[bo,h]
  refine .inl ⟨h1,by rw[qB hk,h];rfl,fun b=>?_⟩;rw[GW h1];simp[emap]
 | some p =>
  obtain⟨i,b0⟩:=p;refine .inr ⟨i,b0,by simp[bo,h],by rw[qB hk,h];rfl,fun b=>?_⟩;exact C9 a b l 0 i b0 (by rw[h];congr 2;omega)
end
def Sh(n:Int):V:=.i .i64 n
theorem Eu(a b:Int):bI 0 (Sh a) (Sh b)=some (decide (a=b)):=by
 simp[bI,Sh];rfl
end Go.Bt

/- A part of a proof; the claim's last text says of what. -/
import Derived.IntWalk
import Derived.Test.YtlakkaamfadipaaGreatDoorS14
set_option linter.all false

namespace Go.Pm
open Go Go.RowKit
def uu:Nat→List V→List V
 | 0,l=>l
 | n+1,l=>.u::uu n l
def fj:Nat→((List V→Prop)→Prop)→(List V→Prop)→Prop
 | 0,c,p=>c p
 | n+1,c,p=>∀ j,fj n c fun l=>p (j::l)
def fh(x:V)(c:(List V→Prop)→Prop)(p:List V→Prop):Prop:=c fun l=>p (x::l)
def fo(p:List V→Prop):Prop:=p []
def Au(R:St→Prop)(K:Exit→St→Prop):Exit→St→Prop
 | .normal=>R
 | e=>K e
theorem Ep{R:St→Prop}{K:Exit→St→Prop}:Au R K .normal=R:=rfl
theorem M6{R:St→Prop}{K:Exit→St→Prop}:Au R K .ret=K .ret:=rfl
theorem Kj{R:St→Prop}{K:Exit→St→Prop}{id:Nat}:Au R K (.exit id)=K (.exit id):=rfl
theorem aB{n:Nat}{P:Program}{c:bD}{K:Exit→St→Prop}{N:Nat}{st:St}(h:∀ R:St→Prop,(∀ st',fp n P c K N st'→R st')→xt n P c (Au R K) st):fp n P c K (N+1) st:=by
 refine M5 ?_;have:=h (fp n P c K N) fun _ h=>h;have e:Au (fp n P c K N) K=WG n P c K N:=by funext e;cases e<;>rfl
 rw[← e];exact this
theorem sy{n:Nat}{P:Program}{c:bD}{K:Exit→St→Prop}{N:Nat}{fr fr':List V}{J J':ae}(h:Wk P n fr J fr' J')(k:fp n P c K N ⟨fr',J'⟩):fp n P c K N ⟨fr,J⟩:=by
 cases N with
 | zero=>exact k.elim
 | succ N=>exact b6.wk h k
theorem oh{n:Nat}{P:Program}{c:bD}{K:Exit→St→Prop}{N:Nat}{fr fr':List V}{J loc:ae}(hn:n≤J.length)(bj:bG J)(hc:nU fr fr')(hl:eI J.length fr')(k:fp n P c K N ⟨fr',J⟩):fp n P c K N ⟨fr,J++loc⟩ :=
 sy ((Wk.gA hc).trans (Wk.wF hn bj (dS.1 hl))) k
theorem aZ{n:Nat}{P:Program}{c:bD}{K:Exit→St→Prop}{N:Nat}{fr fr':List V}{J:ae}(hc:nU fr fr')(k:fp n P c K N ⟨fr',J⟩):fp n P c K N ⟨fr,J⟩ :=
 sy (Wk.gA hc) k
theorem xP{n:Nat}(h:n<2^63):IntKind.i64.wrap (n:Int)=n:=IntWalk.i64_in _ (by omega)
theorem bd{n:Nat}(h:n+1<2^63):IntKind.i64.wrap ((n:Int)+1)=((n+1:Nat):Int):=by rw[IntWalk.i64_in _ (by omega)];omega
theorem uM{α:Type}{f:α→List V}{pre rest:List α}{x:α}{d:List V}:(List.map f (pre++x::rest)).getD pre.length d=f x:=by
 simp[an]
theorem qO{α:Type}{f:α→List V}{pre rest:List α}{x:α}{j:Nat}:eS (List.map f (pre++x::rest)) pre.length j=(f x)[j]?:=by
 simp[eS]
theorem aU{P:Program}{rs:List Rs}{Q:V→ae→Prop}{e:Exit}{fr:List V}{J:ae}{xs:List V}(he:e=.normal∨e=.ret)(hx:jt ⟨fr,J⟩ rs=some xs)(hQ:Q (one xs) J):
  qd P J.length rs Q e ⟨fr,J⟩:=eP he hx (Wk.refl _ _) rfl hQ
theorem rQ{sz:Nat}{xs:List (List V)}(h:(V.sl sz xs).Wf):xs.length<2^63:=by
 cases h with
 | sl _ _ h=>simp only[maxLen]at h;omega
theorem DR{l:List UInt8}(h:(V.s l).Wf):l.length<2^63:=by
 cases h with
 | s _ h=>simp only[maxLen]at h;omega
theorem b6.aZ{n:Nat}{P:Program}{c:bD}{K:Exit→St→Prop}{fr fr':List V}{J:ae}(hc:nU fr fr')(N:Nat)(h:fp n P c K N ⟨fr',J⟩):b6 n P (.loop c) K ⟨fr,J⟩ :=
 b6.wk (Wk.gA hc) (b6.vP N h)
theorem Sh{a b:Bool}:(bif a then true else b)=(a||b):=by cases a<;>rfl
theorem O2{a b:Bool}:(bif a then b else false)=(a&&b):=by cases a<;>rfl
theorem TT{pre rest:List UInt8}{x:UInt8}{d:UInt8}:(pre++x::rest).getD pre.length d=x:=by
 simp[an]
theorem Sn{P:Program}{d:Option Nat}{f:Nat}{args:List O}{K:St→Prop}{fr:List V}{J σ1 σ2:ae}{zs:List V}{v:V}(hw:Wk P J.length (args.map (ev fr)) J zs σ1)(h:PC P f zs σ1 (fun r J'=>r=v∧J'=σ2))(hK:K ⟨di fr d v,σ2⟩):
  gI P ⟨d,[],.call f args⟩ K ⟨fr,J⟩ :=
 az (PC.wk hw h) rfl hK
theorem lx{P:Program}{d:Option Nat}{f:Nat}{args:List O}{K:St→Prop}{fr:List V}{J σ2:ae}{zs:List V}{v:V}(hw:nU (args.map (ev fr)) zs)(h:PC P f zs J (fun r J'=>r=v∧J'=σ2))(hK:K ⟨di fr d v,σ2⟩):
  gI P ⟨d,[],.call f args⟩ K ⟨fr,J⟩ :=
 az (PC.wk (Wk.gA hw) h) rfl hK
def bR(n:Int):List V:=[.i .i64 n]
theorem O9{p:Prop}{v w:V}:(∃ ob,some (p,v)=some (ob,w)∧ob)=(v=w∧p):=by
 simp only[aa,ao,eq_iff_iff];exact⟨fun⟨_,⟨h1,h2⟩,h3⟩=>⟨h2,h1.2 h3⟩,fun⟨h1,h2⟩=>⟨p,⟨DM,h1⟩,h2⟩⟩
theorem Pb{p:Prop}{v:V}:(∃ ob r,some (p,v)=some (ob,r)∧ob)=p:=by
 simp only[aa,ao,eq_iff_iff];exact⟨fun⟨_,_,⟨h1,_⟩,h3⟩=>h1.2 h3,fun h=>⟨p,v,⟨DM,rfl⟩,h⟩⟩
theorem qN{l:List Int}{i:Nat}(h:i<l.length):eS (l.map bR) i 0=some (.i .i64 (l.getD i 0)):=by
 simp[eS,bR,h]
theorem qc{P:Program}{rs:List Rs}{Q:V→ae→Prop}{e:Exit}{fr:List V}{J loc:ae}{xs:List V}(k:Nat){E sz by' g:Nat}{sh:Bool}{rows:List (List V)}(bj:bG J)(he:e=.normal∨e=.ret)(hx:jt ⟨fr,J++loc⟩ rs=some xs)
  (hk:loc[k]?=some (.row E sz by' g sh rows)) (hl:eI J.length (xs.map (fz (J.length+k) g sz rows))) (hQ:Q (one (xs.map (fz (J.length+k) g sz rows))) J):qd P J.length rs Q e ⟨fr,J++loc⟩:=by
 refine eP he hx ((Wk.fz (J.length+k) (by rw[uo];exact hk)).trans ?_) (by simp) hQ;rw[zR];exact Wk.AP bj hl
def tiB(P:Program)(E sz by':Nat):Bool :=
 match P.info? E with
 | some t=>match t.zero with
  | some z=>decide (0<sz)&&(t.size==sz&&(t.bytes==by'&&z.cells.size==sz))
  | none=>false
 | none=>false
theorem lN{P:Program}{E sz by':Nat}(h:tiB P E sz by'=true):Ti P E sz by':=by
 unfold tiB at h;split at h
 ·rename_i t ht;split at h
  ·rename_i z hz;simp only[aO,aY,bT]at h;exact⟨h.1,t,z,ht,hz,h.2.1,h.2.2.1,h.2.2.2⟩
  ·simp at h
 ·simp at h
theorem PC.C0{P:Program}{f:Nat}{args:List V}{J:ae}{v:V}(h:∀ (w:World) (μ:Mem) (vs:Array Value),Sv w J μ args vs→∃ u,Calls P f vs w (fun e w'=>e=.returned u∧w'=w)∧VR w J μ v u):
  PC P f args J (fun r J'=>r=v∧J'=J):=by
 intro B w0 w μ vs hS hv;obtain⟨u,h1,h2⟩:=h w μ vs hv;refine h1.mono ?_;rintro e w' ⟨rfl,rfl⟩;exact⟨v,u,J,μ,rfl,⟨rfl,rfl⟩,hS,h2,lJ.refl _ _ _⟩
theorem ZN{vs:Array Value}(h:vs.size=1):vs=#[vs.getD 0 undef]:=by
 apply Array.ext
 ·simpa using h
 ·intro i h1 h2;have:i=0:=by omega
  subst this;simp[h1]
theorem ZM{vs:Array Value}(h:vs.size=2):vs=#[vs.getD 0 undef,vs.getD 1 undef]:=by
 apply Array.ext
 ·simpa using h
 ·intro i h1 h2;have:i=0∨i=1:=by omega
  rcases this with rfl | rfl<;>simp[h1]
theorem Ix{o:Ob}{n:Nat}(h:match o with | .box _ cs=>eI n cs | .map _ _ es=>eI n (es.map (·.2)) | .iter _ m _ _ _ _=>m<n | _=>True):∀ (j:Nat) (x:V),o.refs[j]?=some x→x.Lt n:=by
 cases o with
 | box T cs=>exact dS.1 h
 | map K E es=>exact dS.1 h
 | iter st m E k ps c =>
  intro j x hx;cases j with
  | zero=>simp only[Ob.refs,aw,aa]at hx;subst hx;exact .mp _ h
  | succ j=>simp[Ob.refs]at hx
 | _=>intro j x hx;simp[Ob.refs]at hx
def OL(n:Nat):Ob→Prop
 | .box _ cs=>eI n cs
 | .map _ _ es=>eI n (es.map (·.2))
 | .iter _ m _ _ _ _=>m<n
 | _=>True
theorem LS{J:ae}(bj:bG J){id n:Nat}{o:Ob}(h:J[id]?=some o)(hn:J.length≤n):OL n o:=by
 have h0:=bj id o h;cases o with
 | box T cs=>exact dS.2 fun j x hj=>(h0 j x hj).mono hn
 | map K E es=>exact dS.2 fun j x hj=>(h0 j x hj).mono hn
 | iter st m E k ps c =>
  have:=h0 0 (.mp m) rfl;cases this;show m<n;omega
 | _=>trivial
theorem OL.mono{n m:Nat}{o:Ob}(h:OL n o)(hm:n≤m):OL m o:=by
 cases o with
 | box T cs=>exact dS.2 fun j x hj=>(dS.1 h j x hj).mono hm
 | map K E es=>exact dS.2 fun j x hj=>(dS.1 h j x hj).mono hm
 | iter st k E l ps c=>exact cQ h hm
 | _=>trivial
theorem mO{n:Nat}{es:List (V×V)}(h:∀ x∈es,x.2.Lt n):eI n (es.map (·.2)):=dS.2 fun j x hj=>by
 rw[a8,aj]at hj;obtain⟨kx,h1,rfl⟩:=hj;exact h kx (aT h1)
theorem cj{J l:ae}(h:bG J)(hl:∀ o∈l,match o with | .box _ cs=>eI (J.length+l.length) cs | .map _ _ es=>eI (J.length+l.length) (es.map (·.2)) | .iter _ m _ _ _ _=>m<J.length+l.length | _=>True):bG (J++l):=by
 intro id o hid j x hx;rw[al];rcases fb id J.length with dc | Lo
 ·rw[ah dc]at hid;exact(h id o hid j x hx).mono (Pz _ _)
 ·rw[aA Lo]at hid;exact Ix (hl _ (aT hid)) j x hx
theorem b5{P:Program}{c:bD}{K:Exit→St→Prop}{N:Nat}{fr fr':List V}{J:ae}(l loc:ae)(bj:bG (J++l))(hc:nU fr fr')(hl:eI (J.length+l.length) fr')(k:fp J.length P c K N ⟨fr',J++l⟩):fp J.length P c K N ⟨fr,J++(l++loc)⟩:=by
 rw[← List.append_assoc];exact sy ((Wk.gA hc).trans (Wk.wF (by simp) bj (by rw[al];exact dS.1 hl))) k
theorem Wk.kR{P:Program}{n:Nat}{xs:List V}{J:ae}(loc:ae){k E sz by':Nat}(hT:Ti P E sz by')(hk:xs[k]?=some .nil):Wk P n xs (J++loc) (xs.set k (.own (J.length+loc.length) 0)) (J++(loc++[.row E sz by' 0 false []])):=by
 have:=Wk.iy (P:=P) (n:=n) (J:=J++loc) hT hk
 rwa [al,aR]at this
theorem kz:∀ (l:List UInt8),bytesOf (de l)=some l
 | []=>rfl
 | c::l=>by
  have ih:=kz l;simp only[de,ay,bytesOf,oL]at ih ⊢;rw[ih];simp
theorem gO{a b:List UInt8}:de a++de b=de (a++b):=by simp[de]
theorem dA{a:List UInt8}:(de a).length=a.length:=by simp[de]
def TF:UnOp→V→Option (Prop×V)
 | .not,.b p=>some (True,.b (!p))
 | .neg,.i k n=>some (True,.i k (k.wrap (0 - n)))
 | _,_=>none
theorem SH(fr:List V)(J:ae)(op:UnOp)(x:O):aM fr J (.un op x)=TF op (ev fr x):=by
 show(match op,ev fr x with
  | .not,.b p=>some (True,V.b (!p))
  | .neg,.i k n=>some (True,V.i k (k.wrap (0 - n)))
  | _,_=>none)=_
 rfl
set_option linter.defProp false in
def UE:=And.intro @uu.eq_1 @uu.eq_2
set_option linter.defProp false in
def JE:=And.intro (And.intro @fj.eq_1 @fj.eq_2) (And.intro @fh.eq_1 @fo.eq_1)
set_option linter.defProp false in
def EV:=(And.intro (And.intro (And.intro (And.intro (And.intro (And.intro @aM.eq_1 @aM.eq_2) (And.intro @aM.eq_3 @aM.eq_4)) (And.intro (And.intro @aM.eq_5 @aM.eq_6) (And.intro @aM.eq_7 @aM.eq_8))) (And.intro (And.intro (And.intro @aM.eq_9 @SH) (And.intro @TF.eq_1 (And.intro @TF.eq_2 @TF.eq_3))) (And.intro (And.intro @aM.eq_13 @aM.eq_14) (And.intro @aM.eq_15 (And.intro @aM.eq_16 @aM.eq_17))))) (And.intro (And.intro (And.intro (And.intro @aM.eq_18 @aM.eq_19) (And.intro @aM.eq_20 @aM.eq_21)) (And.intro (And.intro @aM.eq_22 @aM.eq_23) (And.intro @aM.eq_24 @aM.eq_25))) (And.intro (And.intro (And.intro @aM.eq_26 @aM.eq_27) (And.intro @aM.eq_28 @aM.eq_29)) (And.intro (And.intro @aM.eq_30 @aM.eq_31) (And.intro @aM.eq_32 (And.intro @bO.eq_1 @bO.eq_2)))))) (And.intro (And.intro (And.intro (And.intro (And.intro @bO.eq_3 @bO.eq_4) (And.intro @bO.eq_5 @bO.eq_6)) (And.intro (And.intro @bO.eq_7 @bO.eq_8) (And.intro @bO.eq_9 @bO.eq_10))) (And.intro (And.intro (And.intro @fm.eq_1 @fm.eq_2) (And.intro @fm.eq_3 @fm.eq_4)) (And.intro (And.intro @fm.eq_5 @fm.eq_6) (And.intro @fm.eq_7 (And.intro @fm.eq_8 @fm.eq_9))))) (And.intro (And.intro (And.intro (And.intro @fm.eq_10 @fm.eq_11) (And.intro @fm.eq_12 @fm.eq_13)) (And.intro (And.intro @fm.eq_14 @fm.eq_15) (And.intro @fm.eq_16 @fm.eq_17))) (And.intro (And.intro (And.intro @fm.eq_18 @fm.eq_19) (And.intro @fm.eq_20 @fm.eq_21)) (And.intro (And.intro @fm.eq_22 @fm.eq_23) (And.intro @fm.eq_24 (And.intro @fm.eq_25 @fm.eq_26)))))))
set_option linter.defProp false in
def W:=And.intro UE <| And.intro EV <| And.intro (And.intro (And.intro @zm.eq_1 @zl.eq_1) (And.intro (And.intro @zL.eq_1 @zf.eq_1) (And.intro @z.eq_1 @zs.eq_1))) (And.intro (And.intro (And.intro (And.intro (And.intro (And.intro (And.intro @xt.eq_1
 (And.intro @xt.eq_2
 @xt.eq_3))
 (And.intro (And.intro @xt.eq_4
 @xt.eq_5)
 (And.intro @xt.eq_6
 @xt.eq_7)))
 (And.intro (And.intro (And.intro @xt.eq_8
 (And.intro @xt.eq_9 (And.intro (And.intro @xt.eq_10 @Jx.eq_1) (And.intro (And.intro (And.intro @xt.eq_11 @H4.eq_1) (And.intro @H4.eq_2 (And.intro (And.intro @MY (And.intro @Kd @Ke)) (And.intro (And.intro (And.intro @WD.eq_1 (And.intro (And.intro @Oy @Ls) (And.intro @HF (And.intro @HG @HE)))) @WB.eq_1) (And.intro @WA.eq_1 @SR.eq_1))))) (And.intro (And.intro @Ph @LU) (And.intro (And.intro @LN @HU) (And.intro @MV @J8)))))))
 (And.intro @Kg
 @M0))
 (And.intro (And.intro @Kf
 @MZ)
 (And.intro @Eh
 @MX))))
 (And.intro (And.intro (And.intro (And.intro @J9
 @Ga)
 (And.intro @Po
 @LV))
 (And.intro (And.intro @LX
 @Ep)
 (And.intro @M6
 @Kj)))
 (And.intro (And.intro (And.intro @Ve
 @RI)
 (And.intro @OO
 @LC))
 (And.intro (And.intro @RT
 @OM)
 (And.intro @Vp
 @Vq)))))
 (And.intro (And.intro (And.intro (And.intro @Vr
 (And.intro @Zq
 @Vl))
 (And.intro (And.intro @Vs
 @OJ)
 (And.intro @LA
 @Vi)))
 (And.intro (And.intro (And.intro @Vh
 @RH)
 (And.intro @Vj
 @Vg))
 (And.intro (And.intro @RQ
 @RM)
 (And.intro @RR
 @RL))))
 (And.intro (And.intro (And.intro (And.intro @Vo
 @OP)
 (And.intro @OI
 @Vu))
 (And.intro (And.intro @RW
 (And.intro @Zr @RV))
 (And.intro @ON
 (And.intro (And.intro (And.intro @Vn @Vm) (And.intro @RX @Vt)) (And.intro (And.intro (And.intro (And.intro (And.intro @Vk (And.intro @RG (And.intro @RF (And.intro @RU (And.intro @OH @Vf))))) @RP) (And.intro @RO @RN)) (And.intro (And.intro @OK @RJ) (And.intro @Qp (And.intro @QT @QS)))) (And.intro @RK (And.intro @QW (And.intro @QV @QU))))))))
 (And.intro (And.intro (And.intro @U0
 @Rw)
 (And.intro @OD
 @Lx))
 (And.intro (And.intro @RB
 @OC)
 (And.intro @U6
 @U7))))))
 (And.intro (And.intro (And.intro (And.intro (And.intro @U8
 (And.intro @Zp
 @U5))
 (And.intro (And.intro @U9
 @OA)
 (And.intro @Lw
 @U3)))
 (And.intro (And.intro (And.intro @U2
 @Rv)
 (And.intro @U4
 @U1))
 (And.intro (And.intro @Rz
 @Ry)
 (And.intro @RA
 (And.intro @Rx @RC)))))
 (And.intro (And.intro (And.intro (And.intro @V.pure.eq_1
 @V.pure.eq_2)
 (And.intro @V.pure.eq_3
 @V.pure.eq_4))
 (And.intro (And.intro @V.pure.eq_5
 @VG.eq_1)
 (And.intro @zK.eq_1
 @O9)))
 (And.intro (And.intro (And.intro @Pb
 @Qj)
 (And.intro @PZ
 @Qf))
 (And.intro (And.intro @gX.eq_1
 @gX.eq_2)
 (And.intro @chainB.eq_1
 @chainB.eq_2)))))
 (And.intro (And.intro (And.intro (And.intro @aM.eq_1
 (And.intro @aM.eq_2
 @aM.eq_3))
 (And.intro (And.intro @aM.eq_4
 @aM.eq_5)
 (And.intro @aM.eq_6
 @aM.eq_7)))
 (And.intro (And.intro (And.intro @aM.eq_8
 @aM.eq_9)
 (And.intro @SH
 @TF.eq_1))
 (And.intro (And.intro (And.intro @TF.eq_2 @TF.eq_3)
 @aM.eq_13)
 (And.intro @aM.eq_14
 @aM.eq_15))))
 (And.intro (And.intro (And.intro (And.intro @aM.eq_16
 @aM.eq_17)
 (And.intro @aM.eq_18
 @aM.eq_19))
 (And.intro (And.intro @aM.eq_20
 @aM.eq_21)
 (And.intro @aM.eq_22
 @aM.eq_23)))
 (And.intro (And.intro (And.intro @aM.eq_24
 @aM.eq_25)
 (And.intro @aM.eq_26
 @aM.eq_27))
 (And.intro (And.intro @aM.eq_28
 (And.intro (And.intro @aM.eq_29 @aM.eq_30) (And.intro @aM.eq_31 (And.intro (And.intro @aM.eq_32 @aM.eq_33) (And.intro @aM.eq_34 (And.intro @aM.eq_35 @aM.eq_36))))))
 (And.intro @bO.eq_1
 @bO.eq_2)))))))
 (And.intro (And.intro (And.intro (And.intro (And.intro (And.intro @bO.eq_3
 (And.intro @bO.eq_4
 @bO.eq_5))
 (And.intro (And.intro @bO.eq_6
 @bO.eq_7)
 (And.intro @bO.eq_8
 (And.intro @bO.eq_9 (And.intro (And.intro @bO.eq_11 @bO.eq_12) (And.intro @bO.eq_13 (And.intro @bO.eq_14 (And.intro @bO.eq_15 @yJ.eq_1))))))))
 (And.intro (And.intro (And.intro @ev.eq_1
 @ev.eq_2)
 (And.intro @di.eq_1
 @di.eq_2))
 (And.intro (And.intro @FU.eq_1
 @DF.{0,0})
 (And.intro @c8.{0,0}
 @aV.{0}))))
 (And.intro (And.intro (And.intro (And.intro @aW.{0}
 @jV.{0})
 (And.intro @iD.{0}
 @ed.eq_1))
 (And.intro (And.intro @ed.eq_2
 @eZ.eq_1)
 (And.intro @eZ.eq_2
 @eX.eq_1)))
 (And.intro (And.intro (And.intro @eX.eq_2
 @eX.eq_3)
 (And.intro @eX.eq_4
 @eX.eq_5))
 (And.intro (And.intro @eX.eq_6
 (And.intro @eX.eq_7 (And.intro @eX.eq_8 @eX.eq_9)))
 (And.intro @cx.eq_1
 @cx.eq_2)))))
 (And.intro (And.intro (And.intro (And.intro @lz.eq_1
 (And.intro @lz.eq_2
 @lz.eq_3))
 (And.intro (And.intro @se.eq_1
 @se.eq_2)
 (And.intro @me.{0}
 @List.all_nil.{0})))
 (And.intro (And.intro (And.intro @vH
 @fH)
 (And.intro @dP
 @gk))
 (And.intro (And.intro @fq
 @jx)
 (And.intro @gj
 @uo))))
 (And.intro (And.intro (And.intro (And.intro @LY
 @zR)
 (And.intro @Pr
 @ai.{0}))
 (And.intro (And.intro @aC.{0}
 @aw.{0})
 (And.intro @bI.{0}
 @List.getElem?_nil.{0})))
 (And.intro (And.intro (And.intro @dK
 @bz)
 (And.intro @aq
 @fm.eq_1))
 (And.intro (And.intro @fm.eq_2
 @fm.eq_3)
 (And.intro @fm.eq_4
 @fm.eq_5))))))
 (And.intro (And.intro (And.intro (And.intro (And.intro @fm.eq_6
 (And.intro @fm.eq_7
 @fm.eq_8))
 (And.intro (And.intro @fm.eq_9
 @fm.eq_10)
 (And.intro @fm.eq_11
 @fm.eq_12)))
 (And.intro (And.intro (And.intro @fm.eq_13
 @fm.eq_14)
 (And.intro @fm.eq_15
 @fm.eq_16))
 (And.intro (And.intro @fm.eq_17
 @fm.eq_18)
 (And.intro @fm.eq_19
 @fm.eq_20))))
 (And.intro (And.intro (And.intro (And.intro @fm.eq_21
 @fm.eq_22)
 (And.intro @fm.eq_23
 @fm.eq_24))
 (And.intro (And.intro @fm.eq_25
 @fm.eq_26)
 (And.intro @aD
 @lj.{0})))
 (And.intro (And.intro (And.intro @ZG.{0}
 @rE.{0})
 (And.intro @lk.{0}
 @ZJ.{0}))
 (And.intro (And.intro @lR.{0}
 @bk.{0})
 (And.intro @bn.{0}
 @bV.{0})))))
 (And.intro (And.intro (And.intro (And.intro @aR.{0}
 (And.intro @ay.{0,0}
 @bo.{0,0}))
 (And.intro (And.intro (And.intro @forall_const.{0} @forall_const.{1})
 @imp_self)
 (And.intro @beq_self_eq_true.{0}
 @pP.{0})))
 (And.intro (And.intro (And.intro @eq_self.{1}
 @eL.{0})
 (And.intro @vG
 (And.intro @implies_true.{0} @implies_true.{1})))
 (And.intro (And.intro @fG
 @iF)
 (And.intro @cond_true.{1}
 @cond_false.{1}))))
 (And.intro (And.intro (And.intro (And.intro @Sh
 @O2)
 (And.intro @TT
 @uM))
 (And.intro (And.intro @qO
 @rowsOf.eq_1)
 (And.intro @rowsOf.eq_2
 @rowsOf.eq_3)))
 (And.intro (And.intro (And.intro @rowsOf.eq_4
 @rowsOf.eq_5)
 (And.intro @rowsOf.eq_6
 @uq.eq_1))
 (And.intro (And.intro @uq.eq_2
 @uq.eq_3)
 (And.intro @uq.eq_4
 @uq.eq_5))))))))
set_option linter.defProp false in
def VV:=And.intro W (And.intro (And.intro (And.intro @bO.eq_10 (And.intro @Bool.true_or @im)) (And.intro (And.intro @Bool.or_true @Bool.or_false) (And.intro @iG @eY)))
 (And.intro (And.intro @rN (And.intro @bytesOf.eq_1 @bytesOf.eq_2)) (And.intro @oL.eq_1 (And.intro @oL.eq_2 @UInt8.ofNat_toNat))))
set_option linter.defProp false in
def SS:=(And.intro (And.intro @ai.{0} (And.intro @aC.{0} @Gk.{0})) (And.intro @rF.{0} (And.intro @bn.{0} @bk.{0})))
set_option linter.defProp false in
def RS:=And.intro (And.intro (And.intro @jt.eq_1 @jt.eq_2) (And.intro @sA.eq_1 @sA.eq_2)) VV
set_option linter.defProp false in
def LW:=And.intro UE (And.intro (And.intro (And.intro (And.intro @eI.eq_1 (And.intro @eI.eq_2 @aV.{0})) (And.intro @aW.{0} (And.intro @aaA @aaB))) (And.intro (And.intro @Qt (And.intro @T8 @Ub)) (And.intro @Uc (And.intro @wh @Yk)))) (And.intro (And.intro (And.intro @KH (And.intro @KG @Ua)) (And.intro @T7 (And.intro @T9 @Yh))) (And.intro (And.intro (And.intro @Yi @Yj) (And.intro @Nt @T6)) (And.intro @fq (And.intro @gk @jx)))))
theorem VR.SL{w:World}{J:ae}{μ:Mem}{J':ae}{μ':Mem}{x:V}{v:Value}(h:VR w J μ x v){m:Nat}(hm:m≤J'.length)
  (hw:∀ b off,wr J' μ' b off→wr J μ b off) (eA:∀ id,id<m→J'[id]?=J[id]?) (kF:∀ id,id<m→μ' id=μ id) (hx:x.Lt m):VR w J' μ' x v:=by
 induction h with
 | u v=>exact .u v
 | b x=>exact .b x
 | i k n=>exact .i k n
 | s l x hl hm=>exact .s l x hl hm
 | nil=>exact .nil
 | Ae sz=>exact .Ae sz
 | sle sz a=>exact .sle sz a
 | sl sz xs b o cap f hlen kV cq hc hv ih =>
  exact .sl sz xs b o cap f hlen kV cq (fun i j x hx=>⟨(hc i j x hx).1,fun h=>(hc i j x hx).2.1 (hw _ _ h),(hc i j x hx).2.2⟩) (fun i j x hx=>ih i j x hx (jL (hc i j x hx).2.2 m))
 | C5 sz=>exact .C5 sz
 | lit sz xs b o f kV cq hc hv ih =>
  exact .lit sz xs b o f kV cq (fun i j x hx=>⟨(hc i j x hx).1,fun h=>(hc i j x hx).2.1 (hw _ _ h),(hc i j x hx).2.2⟩) (fun i j x hx=>ih i j x hx (jL (hc i j x hx).2.2 m))
 | own id g v hid h =>
  cases hx with
  | own _ _ hl=>exact .own id g v (by omega) fun E sz by' g' sh xs ho=>by rw[kF id hl];exact h E sz by' g' sh xs (eA id hl▸ho)
 | sub id g lo hi v hid h =>
  cases hx with
  | sub _ _ _ _ hl=>exact .sub id g lo hi v (by omega) fun E sz by' g' sh xs ho=>by rw[kF id hl];exact h E sz by' g' sh xs (eA id hl▸ho)
 | ptr id off b h hm =>
  cases hx with
  | ptr _ _ hl =>
   obtain⟨T,cs,h1⟩:=h;exact .ptr id off b ⟨T,cs,(eA id hl).trans h1⟩ ((kF id hl).trans hm)
 | ep sz xs i off b o f hi cq hc hv ih =>
  exact .ep sz xs i off b o f hi cq (fun j x hx=>⟨(hc j x hx).1,fun h=>(hc j x hx).2.1 (hw _ _ h),(hc j x hx).2.2⟩) (fun j x hx=>ih j x hx (jL (hc j x hx).2.2 m))
 | rp id g i off v hid h =>
  cases hx with
  | rp _ _ _ _ hl=>exact .rp id g i off v (by omega) fun E sz by' g' sh xs ho=>by rw[kF id hl];exact h E sz by' g' sh xs (eA id hl▸ho)
 | mp id r h hm =>
  cases hx with
  | mp _ hl =>
   obtain⟨K,E,es,h1⟩:=h;exact .mp id r ⟨K,E,es,(eA id hl).trans h1⟩ ((kF id hl).trans hm)
 | it id v h hm =>
  cases hx with
  | it _ hl =>
   obtain⟨st,m',E,n,ps,c,h1⟩:=h;exact .it id v ⟨st,m',E,n,ps,c,(eA id hl).trans h1⟩ ((kF id hl).trans hm)
 | pM id n b h hm =>
  cases hx with
  | pM _ _ hl =>
   obtain⟨T,cs,h1⟩:=h;exact .pM id n b ⟨T,cs,(eA id hl).trans h1⟩ ((kF id hl).trans hm)
 | dC=>exact .dC
 | fL=>exact .fL
 | fn f caps vs hl hv ih =>
  cases hx with
  | fn _ _ h=>exact .fn f caps vs hl fun i x hx=>ih i x hx (h i x hx)
 | agg xs vs hl hv ih =>
  cases hx with
  | agg _ h=>exact .agg xs vs hl fun i x hx=>ih i x hx (h i x hx)
 | fi xs vs hl hv ih =>
  cases hx with
  | fi _ h=>exact .fi xs vs hl fun i x hx=>ih i x hx (h i x hx)
def Nr(n k:Nat):V→V
 | .own id g=>if id=n+k then .own n 0 else .own id g
 | .mp id=>.mp (if id=n+k then n else id)
 | x=>x
def Ob.gen:Ob→Nat
 | .row _ _ _ g _ _=>g
 | _=>0
def Ob.fresh:Ob→Ob
 | .row E sz by' _ sh xs=>.row E sz by' 0 sh xs
 | o=>o
def wY(n k g0:Nat):V→Prop
 | .own id g=>(id=n+k∧g=g0)∨id<n
 | .mp id=>id=n+k∨id<n
 | x=>x.Lt n
def Ob.flat:Ob→Bool
 | .row _ _ _ _ _ _=>true
 | .map _ _ es=>es.all fun kx=>kx.2.pure
 | _=>false
theorem Jv{K E:Nat}{es:List (V×V)}(h:(Ob.map K E es).flat=true)(m:Nat)(j:Nat)(x:V)(hx:(es.map (·.2))[j]?=some x):x.Lt m:=by
 rw[a8,aj]at hx;obtain⟨kx,h1,rfl⟩:=hx;simp only[Ob.flat,cK]at h;exact jL (h kx (aT h1)) m
theorem Wk.Yp{P:Program}{xs:List V}{J loc:ae}(k:Nat){o:Ob}(bj:bG J)(hk:loc[k]?=some o)(ho:o.flat=true)(hx:∀ x∈xs,wY J.length k o.gen x):
  Wk P J.length xs (J++loc) (xs.map (Nr J.length k)) (J++[o.fresh]):=by
 intro B w0 w μ vs hS hC;have uy:k<loc.length:=(ab.1 hk).1;let μ':Mem:=fun j=>if j=J.length then μ (J.length+k)else μ j
 have kF:∀ id,id<J.length→μ' id=μ id:=fun id h=>by simp only[μ'];rw[aI (by omega)]
 have Lm:μ' J.length=μ (J.length+k):=by simp[μ']
 have eA:∀ id,id<J.length→(J++[o.fresh])[id]?=(J++loc)[id]?:=fun id h=>by rw[ah h,ah h]
 have h0:(J++[o.fresh])[J.length]?=some o.fresh:=by simp
 have hk':(J++loc)[J.length+k]?=some o:=by rw[aA (by omega),cU];exact hk
 have cases0:∀ {id o'},(J++[o.fresh])[id]?=some o'→(id<J.length∧(J++loc)[id]?=some o'∧μ' id=μ id)∨(id=J.length∧o'=o.fresh):=by
  intro id o' h;rcases fb id J.length with hl | hg
  ·exact .inl ⟨hl,eA id hl▸h,kF id hl⟩
  ·right;have dc:=(ab.1 h).1;simp at dc;have:id=J.length:=by omega
   subst this;rw[h0]at h;exact⟨rfl,(fX h).symm⟩
 have hw:∀ b off,wr (J++[o.fresh]) μ' b off→wr (J++loc) μ b off:=by
  rintro b off ⟨id,o',h1,h2,h3⟩;rcases cases0 h1 with⟨h4,h5,h6⟩ | ⟨rfl,rfl⟩
  ·exact⟨id,o',h5,h6▸h2,h3⟩
  ·exact⟨J.length+k,o,hk',Lm▸h2,by cases o<;>exact h3⟩
 have mv:∀ {x v},VR w (J++loc) μ x v→x.Lt J.length→VR w (J++[o.fresh]) μ' x v:=fun h hl=>h.SL (m:=J.length) (by simp) hw eA kF hl;refine⟨μ',⟨hS.below,hS.base,fun id o' ho'=>?_,fun i j oi oj b hi hj h1 h2 h3 h4=>?_⟩,⟨by simp[hC.1],fun i y hy=>?_⟩,fun x v hv hl=>mv hv hl⟩
 ·rcases cases0 ho' with⟨h4,h5,h6⟩ | ⟨rfl,rfl⟩
  ·have cY:=hS.obj id o' h5;rw[h6];cases o' with
   | dead=>trivial
   | box T cs =>
    obtain⟨b,us,h1,h2,h3,h4',h5'⟩:=cY;have mi:=bj id _ (by rwa [ah h4]at h5);exact⟨b,us,h1,h2,h3,h4',fun j x hj=>let ⟨u,h6,h7⟩:=h5' j x hj;⟨u,h6,mv h7 (mi j x hj)⟩⟩
   | row E sz by' g sh rows =>
    obtain⟨h1,vals,h2,h3⟩:=cY;exact⟨h1,vals,h2,h3.1,fun i j x hj=>let ⟨h4,u,h5,h6⟩:=h3.2 i j x hj;⟨h4,u,h5,mv h6 (jL h4 _)⟩⟩
   | map K E es =>
    have h5':=h5;have hlt':=h4;obtain⟨r,ents,clock,h1,h2,h3,h4⟩:=cY;exact⟨r,ents,clock,h1,h2,h3,h4.1,fun i k x hi=>let ⟨h5,h6,e,h7,h8,h9⟩:=h4.2.1 i k x hi;⟨h5,h6,e,h7,mv h8 (tF h5 _),mv h9 (map_lt (bj id (.map K E es) (by rwa [ah hlt']at h5')) hi)⟩,h4.2.2⟩
   | iter st m E n ps c =>
    have dc:m<J.length:=by
     have:=bj id _ (by rwa [ah h4]at h5) 0 (.mp m) rfl;cases this;assumption
    exact u7 cY (eA m dc) (kF m dc)
  ·have cY:=hS.obj (J.length+k) o hk';rw[Lm];cases o with
   | dead=>trivial
   | box T cs=>simp[Ob.flat]at ho
   | row E sz by' g sh rows =>
    obtain⟨h1,vals,h2,h3⟩:=cY;exact⟨h1,vals,h2,h3.1,fun i j x hj=>let ⟨h4,u,h5,h6⟩:=h3.2 i j x hj;⟨h4,u,h5,mv h6 (jL h4 _)⟩⟩
   | map K E es =>
    obtain⟨r,ents,clock,h1,h2,h3,h4⟩:=cY;exact⟨r,ents,clock,h1,h2,h3,h4.1,fun i k x hi=>let ⟨h5,h6,e,h7,h8,h9⟩:=h4.2.1 i k x hi;⟨h5,h6,e,h7,mv h8 (tF h5 _),mv h9 (map_lt (Jv ho _) hi)⟩,h4.2.2⟩
   | iter st m E n ps c=>simp[Ob.flat]at ho
 ·rcases cases0 hi with⟨i1,i2,i3⟩ | ⟨rfl,rfl⟩<;>rcases cases0 hj with⟨j1,j2,j3⟩ | ⟨rfl,rfl⟩
  ·exact hS.sep i j oi oj b i2 j2 h1 h2 (i3▸h3) (j3▸h4)
  ·have:=hS.sep i (J.length+k) oi o b i2 hk' h1 (by rintro rfl;exact h2 rfl) (i3▸h3) (Lm▸h4);omega
  ·have:=hS.sep (J.length+k) j o oj b hk' j2 (by rintro rfl;exact h1 rfl) h2 (Lm▸h3) (j3▸h4);omega
  ·rfl
 ·rw[a8,aj]at hy;obtain⟨x,xa,rfl⟩:=hy;have hv:=hC.2 i x xa;have gW:=hx x (aT xa);cases x with
  | own id g =>
   simp only[Nr];split
   ·rename_i e;subst e
    have hg:g=o.gen:=by
     simp only[wY,gk]at gW;omega
    cases o with
    | row E sz by' g' sh rows =>
     have Re:g'=g:=hg.symm;subst Re;have h1:=hv.jP hk';refine .own _ _ _ (by simp) fun E2 sz2 by2 g2 sh2 xs2 ho'=>?_;rw[h0]at ho';simp only[Ob.fresh,aa,Ob.row.injEq]at ho';rw[Lm];exact⟨dT _,fun _=>h1⟩
    | _=>exact .own _ _ _ (by simp) fun E2 sz2 by2 g2 sh2 xs2 ho'=>by rw[h0]at ho';simp[Ob.fresh]at ho'
   ·rename_i e;simp only[wY,e,false_and,sV]at gW;exact mv hv (.own _ _ gW)
  | mp id =>
   simp only[Nr];split
   ·rename_i e;subst e;obtain⟨r,h1,h2,K,E,es,h3⟩:=hv.qx;rw[h1];refine .mp _ r ⟨K,E,es,?_⟩ (Lm.trans h2);rw[h0];have h4:=hk'.symm.trans h3;simp only[aa]at h4;subst h4;rfl
   ·rename_i e;simp only[wY,e,sV]at gW;exact mv hv (.mp _ gW)
  | _=>exact mv hv gW
theorem oX{P:Program}{rs:List Rs}{Q:V→ae→Prop}{e:Exit}{fr:List V}{J loc:ae}{xs:List V}(k:Nat){o:Ob}(bj:bG J)(he:e=.normal∨e=.ret)(hx:jt ⟨fr,J++loc⟩ rs=some xs)
  (hk:loc[k]?=some o) (ho:o.flat=true) (hl:∀ x∈xs,wY J.length k o.gen x) (hQ:Q (one (xs.map (Nr J.length k))) (J++[o.fresh])):qd P J.length rs Q e ⟨fr,J++loc⟩ :=
 eP he hx (Wk.Yp k bj hk ho hl) (by simp) hQ
theorem PC.post{P:Program}{f:Nat}{args:List V}{J σ0 σ1:ae}{r0 r1:V}(h:PC P f args J (fun r J'=>r=r0∧J'=σ0))(hw:Wk P J.length [r0] σ0 [r1] σ1):PC P f args J (fun r J'=>r=r1∧J'=σ1):=by
 intro B w0 w μ vs hS hv;have sI:∀ x u,VR w J μ x u→x.Lt J.length:=fun x u h=>h.lt;refine(h B w0 w μ vs hS hv).mono ?_;rintro e w' ⟨r,v,J',μ',he,⟨rfl,rfl⟩,h1,h2,h3⟩
 obtain⟨μ2,h4,h5,h6⟩:=hw B w0 w' μ' #[v] h1 ⟨rfl,fun i x hx=>by
  cases i with
  | zero=>simp only[aw,aa]at hx;subst hx;simpa using h2
  | succ i=>simp at hx⟩
 exact⟨r1,v,σ1,μ2,he,⟨rfl,rfl⟩,h4,by have:=h5.2 0 r1 rfl;simpa using this,fun x u hx=>h6 x u (h3 x u hx) (sI x u hx)⟩
theorem PC.fz{P:Program}{f:Nat}{args:List V}{J:ae}{E sz by' g:Nat}{sh:Bool}{rows:List (List V)}(bj:bG J)
  (h:PC P f args J (fun r J'=>r=.own J.length g∧J'=J++[.row E sz by' g sh rows])):PC P f args J (fun r J'=>r=.sl sz rows∧J'=J):=by
 refine h.post ?_;refine(Wk.fz J.length (by simp;exact⟨rfl,rfl,rfl,rfl,rfl,rfl⟩)).trans ?_;rw[cd _ _ (aq _),eJ];simp only[ay,bo,Pm.fz,qD,jx,aL];exact Wk.AP bj (by simp only[eI,wh,jx])
theorem nF{P:Program}{d:Option Nat}{f:Nat}{args:List O}{K:St→Prop}{fr:List V}{J σ2:ae}{zs:List V}{v:V}(id:Nat){E sz by' g:Nat}{sh:Bool}{rows:List (List V)}(ho:J[id]?=some (.row E sz by' g sh rows))
  (h:PC P f zs (J.set id (.row E sz by' g true rows)) (fun r J'=>r=v∧J'=σ2)) (hz:(args.map (ev fr)).map (fz id g sz rows)=zs) (hK:K ⟨di fr d v,σ2⟩) :
  gI P ⟨d,[],.call f args⟩ K ⟨fr,J⟩:=by
 subst hz;exact az (PC.wk (Wk.fz id ho) h) rfl hK
theorem PC.closed{P:Program}{f:Nat}{args:List V}{J:ae}{Q:V→ae→Prop}(h:bG J→PC P f args J Q):PC P f args J Q :=
 fun B w0 w μ vs hS hv=>h hS.closed B w0 w μ vs hS hv
theorem Wk.cell{P:Program}{n:Nat}{xs:List V}{J:ae}{id T j:Nat}{cs:List V}{x y:V}(hid:J[id]?=some (.box T cs))(hj:cs[j]?=some x)
  (hv:∀ (w:World) (μ:Mem) (v:Value),(∀ i o,J[i]?=some o→∃ P B,xk P B w J μ (μ i) o)→VR w J μ x v→VR w J μ y v):Wk P n xs J xs (J.set id (.box T (cs.set j y))):=by
 intro B w0 w μ vs hS hC;have dc:id<J.length:=(ab.1 hid).1;have kI:j<cs.length:=(ab.1 hj).1
 have h:=hS.update (w':=w) (J':=J.set id (.box T (cs.set j y))) (μ':=μ) id none (grownBy_refl w none) (by simp) (by simp) (fun k hk=>aJ (fun e=>hk e.symm)) (fun k hk=>rfl)
  (fun b hb=>.inl ⟨_,hid,by simp,hb⟩)
  (fun b off v o ho hd hb hc hw=>⟨hc,fun o' ho' hb' ha=>hw ⟨id,o,ho,hb,by
   rw[hid]at ho;cases ho;trivial⟩⟩)
  (fun T' cs' h=>by rw[hid]at h;cases h;exact⟨⟨_,by rw[ar dc]⟩,rfl⟩)
  (fun K E es h=>by rw[hid]at h;cases h)
  (fun E sz by' g' sh ys _ h=>by rw[ar dc]at h;simp at h)
  (fun hp o ho=>by
   rw[ar dc]at ho;simp only[aa]at ho;subst ho;obtain⟨b,us,h1,h2,h3,h4,h5⟩:=hS.obj id _ hid;refine⟨b,us,h1,h2,h3,by simpa using h4,fun k z hz=>?_⟩
   by_cases hk:j=k
   ·subst hk;rw[ar kI]at hz;simp only[aa]at hz;subst hz;obtain⟨u,h6,h7⟩:=h5 j x hj;exact⟨u,h6,(hv w μ u (fun i o ho=>⟨P,B,hS.obj i o ho⟩) h7).mono hp⟩
   ·rw[aJ hk]at hz;obtain⟨u,h6,h7⟩:=h5 k z hz;exact⟨u,h6,h7.mono hp⟩)
 exact⟨μ,h.1,⟨hC.1,fun i x hx=>(hC.2 i x hx).mono h.2⟩,h.2.eH.Ma⟩
theorem Wk.WH{P:Program}{n:Nat}{xs:List V}{J:ae}{id T j idr E sz by' g:Nat}{cs:List V}{sh:Bool}{rows:List (List V)}(hid:J[id]?=some (.box T cs))(hj:cs[j]?=some .nil)(hr:J[idr]?=some (.row E sz by' g sh rows)):
  Wk P n xs J xs ((J.set idr (.row E sz by' (g+1) false [])).set id (.box T (cs.set j (.own idr (g+1))))):=by
 have gv:id≠idr:=fun e=>by subst e;rw[hid]at hr;cases hr
 intro B w0 w μ vs hS hC;have Mj:idr<J.length:=(ab.1 hr).1;obtain⟨hT,_⟩:=hS.obj idr _ hr
 have h:=hS.update (w':=w) (J':=J.set idr (.row E sz by' (g+1) false [])) (μ':=pT μ idr (.slice none 0 0)) idr none (grownBy_refl w none) (by simp) (by simp) (fun k hk=>aJ (fun e=>hk e.symm)) (fun k hk=>mg _ _ _ _ hk)
  (fun b hb=>by rw[dU]at hb;simp[ic]at hb)
  (fun b off v o ho hd hb hc hw=>⟨hc,fun o' ho' hb'=>by rw[dU]at hb';simp[ic]at hb'⟩)
  (fun T' cs' h=>by rw[hr]at h;cases h)
  (fun K E es h=>by rw[hr]at h;cases h)
  (fun E2 sz2 by2 g' sh2 ys _ h=>by
   rw[ar Mj]at h;simp only[aa,Ob.row.injEq]at h;obtain⟨rfl,rfl,rfl,rfl,rfl,rfl⟩:=h;exact⟨g,sh,rows,hr,by omega,fun e=>by omega⟩)
  (fun hp o ho=>by
   rw[ar Mj]at ho;simp only[aa]at ho;subst ho;rw[dU];exact⟨hT,[],World.ownsRow_nil w B E sz,by simp,by simp[eS]⟩)
 have xe:(J.set idr (.row E sz by' (g+1) false []))[id]?=some (.box T cs):=by rw[aJ (fun e=>gv e.symm)];exact hid
 have s6:(J.set idr (.row E sz by' (g+1) false []))[idr]?=some (.row E sz by' (g+1) false []):=by rw[ar Mj]
 have jF:id<(J.set idr (.row E sz by' (g+1) false [])).length:=(ab.1 xe).1;have kI:j<cs.length:=(ab.1 hj).1
 have h2:=h.1.update (w':=w) (J':=(J.set idr (.row E sz by' (g+1) false [])).set id (.box T (cs.set j (.own idr (g+1))))) (μ':=pT μ idr (.slice none 0 0)) id none (grownBy_refl w none) (by simp) (by simp) (fun k hk=>aJ (fun e=>hk e.symm)) (fun k hk=>rfl)
  (fun b hb=>.inl ⟨_,xe,by simp,hb⟩)
  (fun b off v o ho hd hb hc hw=>⟨hc,fun o' ho' hb' ha=>hw ⟨id,o,ho,hb,by
   rw[xe]at ho;cases ho;trivial⟩⟩)
  (fun T' cs' h=>by rw[xe]at h;cases h;exact⟨⟨_,by rw[ar jF]⟩,rfl⟩)
  (fun K E es h=>by rw[xe]at h;cases h)
  (fun E sz by' g' sh ys _ h=>by rw[ar jF]at h;simp at h)
  (fun hp o ho=>by
   rw[ar jF]at ho;simp only[aa]at ho;subst ho;obtain⟨b,us,h1,h2,h3,h4,h5⟩:=h.1.obj id _ xe;refine⟨b,us,h1,h2,h3,by simpa using h4,fun k z hz=>?_⟩
   by_cases hk:j=k
   ·subst hk;rw[ar kI]at hz;simp only[aa]at hz;subst hz;obtain⟨u,h6,h7⟩:=h5 j .nil hj;have hu:=h7.lp;subst hu;have:=(VR.nN (w:=w) (μ:=pT μ idr (.slice none 0 0)) s6);rw[dU]at this;exact⟨_,h6,this.mono hp⟩
   ·rw[aJ hk]at hz;obtain⟨u,h6,h7⟩:=h5 k z hz;exact⟨u,h6,h7.mono hp⟩)
 exact⟨_,h2.1,⟨hC.1,fun i x hx=>((hC.2 i x hx).mono h.2).mono h2.2⟩,fun x v hv hl=>(hv.mono h.2).mono h2.2⟩
theorem Wk.zx{P:Program}{n:Nat}{xs:List V}{J:ae}{id T j E sz by':Nat}{cs:List V}(hT:Ti P E sz by')(hid:J[id]?=some (.box T cs))(hj:cs[j]?=some .nil):
  Wk P n xs J xs ((J.set id (.box T (cs.set j (.own J.length 0))))++[.row E sz by' 0 false []]):=by
 intro B w0 w μ vs hS hC;have dc:id<J.length:=(ab.1 hid).1;have hn:=hS.pB (w':=w) (.row E sz by' 0 false []) (.slice none 0 0) (grownBy_refl w none) (by simp[ic]) (fun _=>⟨hT,[],World.ownsRow_nil w B E sz,by simp,by simp[eS]⟩);have hr:(J++[.row E sz by' 0 false []])[J.length]?=some (.row E sz by' 0 false []):=by simp
 have xe:(J++[.row E sz by' 0 false []])[id]?=some (.box T cs):=by rw[ah dc];exact hid
 have jF:id<(J++[Ob.row E sz by' 0 false []]).length:=by simp;omega
 have kI:j<cs.length:=(ab.1 hj).1;have he:(J.set id (.box T (cs.set j (.own J.length 0))))++[Ob.row E sz by' 0 false []]=(J++[Ob.row E sz by' 0 false []]).set id (.box T (cs.set j (.own J.length 0))):=by rw[gz _ _ dc]
 rw[he]
 have h2:=hn.1.update (w':=w) (J':=(J++[Ob.row E sz by' 0 false []]).set id (.box T (cs.set j (.own J.length 0)))) (μ':=pT μ J.length (.slice none 0 0)) id none (grownBy_refl w none) (by simp) (by simp) (fun k hk=>aJ (fun e=>hk e.symm)) (fun k hk=>rfl)
  (fun b hb=>.inl ⟨_,xe,by simp,hb⟩)
  (fun b off v o ho hd hb hc hw=>⟨hc,fun o' ho' hb' ha=>hw ⟨id,o,ho,hb,by
   rw[xe]at ho;cases ho;trivial⟩⟩)
  (fun T' cs' h=>by rw[xe]at h;cases h;exact⟨⟨_,by rw[ar jF]⟩,rfl⟩)
  (fun K E es h=>by rw[xe]at h;cases h)
  (fun E sz by' g' sh ys _ h=>by rw[ar jF]at h;simp at h)
  (fun hp o ho=>by
   rw[ar jF]at ho;simp only[aa]at ho;subst ho;obtain⟨b,us,h1,h2,h3,h4,h5⟩:=hn.1.obj id _ xe;refine⟨b,us,h1,h2,h3,by simpa using h4,fun k z hz=>?_⟩
   by_cases hk:j=k
   ·subst hk;rw[ar kI]at hz;simp only[aa]at hz;subst hz;obtain⟨u,h6,h7⟩:=h5 j .nil hj;have hu:=h7.lp;subst hu;have:=(VR.nN (w:=w) (μ:=pT μ J.length (.slice none 0 0)) hr);rw[dU]at this;exact⟨_,h6,this.mono hp⟩
   ·rw[aJ hk]at hz;obtain⟨u,h6,h7⟩:=h5 k z hz;exact⟨u,h6,h7.mono hp⟩)
 exact⟨_,h2.1,⟨hC.1,fun i x hx=>((hC.2 i x hx).mono hn.2).mono h2.2⟩,fun x v hv hl=>(hv.mono hn.2).mono h2.2⟩
theorem b6.cut{n:Nat}{P:Program}{a b:bD}{K:Exit→St→Prop}{st:St}(h:∀ R:St→Prop,(∀ st',b6 n P b K st'→R st')→xt n P a (Au R K) st):b6 n P (.seq a b) K st:=by
 refine b6.seq ?_;refine(ax (h (b6 n P b K) fun _ h=>h)).mono fun e st' hk=>?_;cases e<;>exact hk
theorem b6.gA{n:Nat}{P:Program}{c:bD}{K:Exit→St→Prop}{fr fr':List V}{J:ae}(k:b6 n P c K ⟨fr',J⟩)(hc:nU fr fr'):b6 n P c K ⟨fr,J⟩:=b6.wk (Wk.gA hc) k
theorem b6.drop{n:Nat}{P:Program}{c:bD}{K:Exit→St→Prop}{fr fr':List V}{J:ae}(l loc:ae)(hn:n≤J.length+l.length)(bj:bG (J++l))(hc:nU fr fr')(hl:eI (J.length+l.length) fr')(k:b6 n P c K ⟨fr',J++l⟩):b6 n P c K ⟨fr,J++(l++loc)⟩:=by
 rw[← List.append_assoc];exact b6.wk ((Wk.gA hc).trans (Wk.wF (by rw[al];exact hn) bj (by rw[al];exact dS.1 hl))) k
theorem wM{J l l':ae}(h:bG (J++l))(hl:l.length≤l'.length)(hb:∀ o∈l',match o with | .box _ cs=>eI (J.length+l'.length) cs | .map _ _ es=>eI (J.length+l'.length) (es.map (·.2)) | .iter _ m _ _ _ _=>m<J.length+l'.length | _=>True):bG (J++l'):=by
 intro id o hid j x hx;rw[al];rcases fb id J.length with dc | Lo
 ·rw[ah dc]at hid;have:=h id o (by rw[ah dc];exact hid) j x hx;rw[al]at this;exact this.mono (by omega)
 ·rw[aA Lo]at hid;exact Ix (hb _ (aT hid)) j x hx
theorem Eg{J:ae}{id:Nat}{o:Ob}(h:J[id]?=some o):J.set id o=J:=by
 apply gK;intro j
 by_cases hj:id=j
 ·subst hj;rw[ar (ab.1 h).1,h]
 ·rw[aJ hj]
theorem PC.fzs{P:Program}{f:Nat}{args zs:List V}{J:ae}{v:V}(id:Nat){E sz by' g:Nat}{rows:List (List V)}(ho:J[id]?=some (.row E sz by' g true rows))
  (h:PC P f zs J (fun r J'=>r=v∧J'=J)) (hz:args.map (Pm.fz id g sz rows)=zs):PC P f args J (fun r J'=>r=v∧J'=J):=by
 have hw:=Wk.fz (P:=P) (n:=J.length) (xs:=args) id ho;rw[Eg ho,hz]at hw;exact PC.wk hw h
theorem Wk.TS{P:Program}{n:Nat}{xs:List V}{J:ae}{E sz by' g:Nat}{sh:Bool}{rows:List (List V)}:Wk P n xs (J++[.row E sz by' g sh rows]) xs (J++[.row E sz by' g true rows]):=by
 have:=Wk.share (P:=P) (n:=n) (xs:=xs) (J:=J++[.row E sz by' g sh rows]) (id:=J.length) (E:=E) (sz:=sz) (by':=by') (g:=g) (sh:=sh) (rows:=rows) (by simp)
 rwa [cd _ _ (aq _),eJ]at this
theorem uN{n:Nat}{P:Program}{c:bD}{K:Exit→St→Prop}{N:Nat}{st:St}(h:∀ R:St→Prop,(∀ st',fp n P c K N st'→R st')→b6 n P c (Au R K) st):fp n P c K (N+1) st:=by
 simp only[fp];exact(h (fp n P c K N) fun _ h=>h).mono fun e st' hk=>by cases e<;>exact hk
theorem b6.LO{n:Nat}{P:Program}{a b:bD}{K:Exit→St→Prop}{st:St}(h:∀ R:St→Prop,(∀ st',b6 n P b K st'→R st')→b6 n P a (Au R K) st):b6 n P (.seq a b) K st:=by
 refine b6.seq ?_;refine(h (b6 n P b K) fun _ h=>h).mono fun e st' hk=>?_;cases e<;>exact hk
theorem b6.ic{n:Nat}{P:Program}{id:Nat}{c:bD}{K:Exit→St→Prop}{st:St}(h:b6 n P c (vC id K) st):b6 n P (.block id c) K st :=
 b6.block (h.mono fun e st' hk=>by
  cases e with
  | exit id' =>
   simp only[vC]at hk;simp only[vB];split at hk<;>rename_i h1<;>simp only[h1,aL,aK]<;>exact hk
  | _=>exact hk)
theorem b6.Yr{n:Nat}{P:Program}{c:O}{x y:bD}{K:Exit→St→Prop}{st:St}(hb:ev st.fr c=.b true)(h:b6 n P x K st):b6 n P (.ite c x y) K st :=
 b6.ite hb (fun _=>h) (fun h=>by cases h)
theorem b6.Ys{n:Nat}{P:Program}{c:O}{x y:bD}{K:Exit→St→Prop}{st:St}(hb:ev st.fr c=.b false)(h:b6 n P y K st):b6 n P (.ite c x y) K st :=
 b6.ite hb (fun h=>by cases h) (fun _=>h)
inductive Mv (n:Nat) (loc:ae) (ks:List Nat):V→V→Prop
 | own (i k E sz by' g:Nat) (sh:Bool) (rows:List (List V)) (hk:ks[i]?=some k) (ho:loc[k]?=some (.row E sz by' g sh rows)):Mv n loc ks (.own (n+k) g) (.own (n+i) 0)
 | eH (x:V) (h:x.Lt n):Mv n loc ks x x
 | forget (x:V):Mv n loc ks x .u
 | agg (xs ys:List V) (hl:ys.length=xs.length) (h:∀ (i:Nat) (x y:V),xs[i]?=some x→ys[i]?=some y→Mv n loc ks x y):Mv n loc ks (.agg xs) (.agg ys)
inductive Tn (n:Nat) (loc:ae) (ks:List Nat):List V→List V→Prop
 | nil:Tn n loc ks [] []
 | cons {x y xs ys} (h:Mv n loc ks x y) (t:Tn n loc ks xs ys):Tn n loc ks (x::xs) (y::ys)
theorem Tn.at{n:Nat}{loc:ae}{ks:List Nat}{xs ys:List V}(h:Tn n loc ks xs ys):ys.length=xs.length∧∀ (i:Nat) (x y:V),xs[i]?=some x→ys[i]?=some y→Mv n loc ks x y:=by
 induction h with
 | nil=>simp
 | cons h t ih =>
  refine⟨by simp[ih.1],fun i x y hx hy=>?_⟩;cases i with
  | zero=>simp only[aw,aa]at hx hy;subst hx;subst hy;exact h
  | succ i=>exact ih.2 i x y (by simpa using hx) (by simpa using hy)
theorem Wk.Yo{P:Program}{xs ys:List V}{J loc os:ae}(ks:List Nat)(bj:bG J)(nz:ks.Nodup)(hlen:os.length=ks.length)
  (hos:∀ (i k:Nat),ks[i]?=some k→∃ o,loc[k]?=some o∧o.flat=true∧os[i]?=some o.fresh) (hx:Tn J.length loc ks xs ys):Wk P J.length xs (J++loc) ys (J++os):=by
 intro B w0 w μ vs hS hC;let μ':Mem:=fun j=>if j<J.length then μ j else μ (J.length+ks.getD (j - J.length) 0)
 have kF:∀ id,id<J.length→μ' id=μ id:=fun id h=>by simp only[μ'];rw[bf h]
 have YR:∀ i k,ks[i]?=some k→μ' (J.length+i)=μ (J.length+k):=fun i k hk=>by
  simp only[μ'];rw[aI (by omega),cU,an,hk];rfl
 have eA:∀ id,id<J.length→(J++os)[id]?=(J++loc)[id]?:=fun id h=>by rw[ah h,ah h]
 have Rt:∀ i,(J++os)[J.length+i]?=os[i]?:=fun i=>by rw[aA (by omega),cU]
 have Zg:∀ i,(J++loc)[J.length+i]?=loc[i]?:=fun i=>by rw[aA (by omega),cU]
 have cases0:∀ {id o'},(J++os)[id]?=some o'→(id<J.length∧(J++loc)[id]?=some o'∧μ' id=μ id) ∨
   (∃ i k o,id=J.length+i∧ks[i]?=some k∧(J++loc)[J.length+k]?=some o∧o.flat=true∧o'=o.fresh∧μ' id=μ (J.length+k)):=by
  intro id o' h;rcases fb id J.length with hl | hg
  ·exact .inl ⟨hl,eA id hl▸h,kF id hl⟩
  ·right;obtain⟨i,rfl⟩:∃ i,id=J.length+i:=⟨id - J.length,by omega⟩;rw[Rt]at h;have hi:i<ks.length:=by rw[← hlen];exact(ab.1 h).1
   obtain⟨k,hk⟩:∃ k,ks[i]?=some k:=⟨_,ak hi⟩;obtain⟨o,h1,h2,h3⟩:=hos i k hk;rw[h]at h3;exact⟨i,k,o,rfl,hk,by rw[Zg];exact h1,h2,fX h3,YR i k hk⟩
 have hw:∀ b off,wr (J++os) μ' b off→wr (J++loc) μ b off:=by
  rintro b off ⟨id,o',h1,h2,h3⟩;rcases cases0 h1 with⟨h4,h5,h6⟩ | ⟨i,k,o,rfl,_,h5,h6,rfl,h7⟩
  ·exact⟨id,o',h5,h6▸h2,h3⟩
  ·exact⟨J.length+k,o,h5,h7▸h2,by cases o<;>exact h3⟩
 have mv:∀ {x v},VR w (J++loc) μ x v→x.Lt J.length→VR w (J++os) μ' x v:=fun h hl=>h.SL (m:=J.length) (by simp) hw eA kF hl;obtain⟨pK,Yu⟩:=hx.at;refine⟨μ',⟨hS.below,hS.base,fun id o' ho'=>?_,fun i j oi oj b hi hj h1 h2 h3 h4=>?_⟩,⟨by rw[pK];exact hC.1,fun i y hy=>?_⟩,fun x v hv hl=>mv hv hl⟩
 ·rcases cases0 ho' with⟨h4,h5,h6⟩ | ⟨i,k,o,rfl,_,h5,h6,rfl,h7⟩
  ·have cY:=hS.obj id o' h5;rw[h6];cases o' with
   | dead=>trivial
   | box T cs =>
    obtain⟨b,us,h1,h2,h3,h4',h5'⟩:=cY;have mi:=bj id _ (by rwa [ah h4]at h5);exact⟨b,us,h1,h2,h3,h4',fun j x hj=>let ⟨u,h6,h7⟩:=h5' j x hj;⟨u,h6,mv h7 (mi j x hj)⟩⟩
   | row E sz by' g sh rows =>
    obtain⟨h1,vals,h2,h3⟩:=cY;exact⟨h1,vals,h2,h3.1,fun i j x hj=>let ⟨h4,u,h5,h6⟩:=h3.2 i j x hj;⟨h4,u,h5,mv h6 (jL h4 _)⟩⟩
   | map K E es =>
    have h5':=h5;have hlt':=h4;obtain⟨r,ents,clock,h1,h2,h3,h4⟩:=cY;exact⟨r,ents,clock,h1,h2,h3,h4.1,fun i k x hi=>let ⟨h5,h6,e,h7,h8,h9⟩:=h4.2.1 i k x hi;⟨h5,h6,e,h7,mv h8 (tF h5 _),mv h9 (map_lt (bj id (.map K E es) (by rwa [ah hlt']at h5')) hi)⟩,h4.2.2⟩
   | iter st m E n ps c =>
    have dc:m<J.length:=by
     have:=bj id _ (by rwa [ah h4]at h5) 0 (.mp m) rfl;cases this;assumption
    exact u7 cY (eA m dc) (kF m dc)
  ·have cY:=hS.obj (J.length+k) o h5;rw[h7];cases o with
   | dead=>trivial
   | box T cs=>simp[Ob.flat]at h6
   | row E sz by' g sh rows =>
    obtain⟨h1,vals,h2,h3⟩:=cY;exact⟨h1,vals,h2,h3.1,fun i j x hj=>let ⟨h4,u,h5,h6⟩:=h3.2 i j x hj;⟨h4,u,h5,mv h6 (jL h4 _)⟩⟩
   | map K E es =>
    have rq:=h6;obtain⟨r,ents,clock,h1,h2,h3,h4⟩:=cY;exact⟨r,ents,clock,h1,h2,h3,h4.1,fun i k x hi=>let ⟨h5,h6,e,h7,h8,h9⟩:=h4.2.1 i k x hi;⟨h5,h6,e,h7,mv h8 (tF h5 _),mv h9 (map_lt (Jv rq _) hi)⟩,h4.2.2⟩
   | iter st m E n ps c=>simp[Ob.flat]at h6
 ·have nd:∀ {o:Ob},o.fresh≠.dead→o≠.dead:=fun h e=>h (by rw[e];rfl);rcases cases0 hi with⟨i1,i2,i3⟩ | ⟨i',k,o,rfl,ik,i5,_,rfl,i7⟩<;>rcases cases0 hj with⟨j1,j2,j3⟩ | ⟨j',k',o',rfl,jk,j5,_,rfl,j7⟩
  ·exact hS.sep i j oi oj b i2 j2 h1 h2 (i3▸h3) (j3▸h4)
  ·have:=hS.sep i (J.length+k') oi o' b i2 j5 h1 (nd h2) (i3▸h3) (j7▸h4);omega
  ·have:=hS.sep (J.length+k) j o oj b i5 j2 (nd h1) h2 (i7▸h3) (j3▸h4);omega
  ·have e:=hS.sep (J.length+k) (J.length+k') o o' b i5 j5 (nd h1) (nd h2) (i7▸h3) (j7▸h4);have e:k=k':=by omega
   subst e
   have e2:i'=j':=by
    obtain⟨l1,g1⟩:=ab.1 ik;obtain⟨l2,g2⟩:=ab.1 jk;exact(List.getElem_inj nz).1 (g1.trans g2.symm)
   rw[e2]
 ·have r8:i<xs.length:=by rw[← pK];exact(ab.1 hy).1
  obtain⟨x,xa⟩:∃ x,xs[i]?=some x:=⟨_,ak r8⟩;have hv:=hC.2 i x xa;have hm:=Yu i x y xa hy;clear xa hy r8;generalize vs.getD i undef=v at hv ⊢
  induction hm generalizing v with
  | own i' k E sz by' g sh rows hk ho =>
   have hk':(J++loc)[J.length+k]?=some (.row E sz by' g sh rows):=by rw[Zg];exact ho
   have h1:=hv.jP hk';have hi':i'<os.length:=by rw[hlen];exact(ab.1 hk).1
   obtain⟨o,q1,_,q3⟩:=hos i' k hk;rw[ho]at q1;simp only[aa]at q1;subst q1;refine .own _ _ _ (by simp;omega) fun E2 sz2 by2 g2 sh2 xs2 ho'=>?_;rw[Rt,q3]at ho';simp only[Ob.fresh,aa,Ob.row.injEq]at ho';rw[YR i' k hk];exact⟨dT _,fun _=>h1⟩
  | eH x h=>exact mv hv h
  | forget x=>exact .u _
  | agg as bs hl h ih =>
   obtain⟨us,rfl,h1,h2⟩:=hv.gr;refine .agg bs us (by rw[hl,h1]) fun j y hj=>?_;have kI:j<as.length:=by rw[← hl];exact(ab.1 hj).1
   exact ih j _ y (ak kI) hj _ (h2 j _ (ak kI))
theorem Mv.Pw{n:Nat}{loc:ae}{ks:List Nat}{xs ys:List V}(h:Tn n loc ks xs ys):Mv n loc ks (.agg xs) (.agg ys):=.agg xs ys h.at.1 h.at.2
theorem Wk.Zu{P:Program}{n:Nat}{xs:List V}{J loc:ae}(k:Nat){E sz by' g:Nat}{sh:Bool}{rows:List (List V)}(hk:loc[k]?=some (.row E sz by' g sh rows)):
  Wk P n xs (J++loc) (xs.map (Pm.fz (J.length+k) g sz rows)) (J++loc.set k (.row E sz by' g true rows)):=by
 have:=Wk.fz (P:=P) (n:=n) (xs:=xs) (J:=J++loc) (J.length+k) (by rw[uo];exact hk)
 rwa [zR]at this
end Go.Pm
namespace Go.Pm
theorem itT{a b:Prop}:((true=true→a)∧(true=false→b))=a:=by simp
theorem itF{a b:Prop}:((false=true→a)∧(false=false→b))=b:=by simp
def IT:=And.intro @itT @itF
theorem bb:(true==true)=true∧(false==true)=false∧(true==false)=false∧(false==false)=true:=⟨rfl,rfl,rfl,rfl⟩
end Go.Pm
namespace Go.Bt
open Go Go.Pm
section
variable {α β:Type} [DecidableEq α]
def dH(a:α):List (α×β)→Nat→Option (Nat×β)
 | [],_=>none
 | p::l,k=>if a=p.1 then some (k,p.2)else dH a l (k+1)
def bS(a:α)(l:List (α×β)):Option β:=(dH a l 0).map (·.2)
def eO(l:List (α×β))(a:α)(b:β):List (α×β) :=
 match l with
 | []=>[(a,b)]
 | p::l=>if a=p.1 then(a,b)::l else p::eO l a b
def emap(ke:α→V)(ve:β→V)(l:List (α×β)):List (V×V):=l.map fun p=>(ke p.1,ve p.2)
theorem jf(a:α):∀ (l:List (α×β)) (k:Nat),(dH a l k).map (·.2)=bS a l
 | [],_=>rfl
 | p::l,k=>by
  simp only[bS,dH];split
  ·rfl
  ·rw[jf a l (k+1),jf a l (0+1)]
theorem OF(a:α):bS a ([]:List (α×β))=none:=rfl
theorem kX(a:α)(p:α×β)(l:List (α×β)):bS a (p::l)=if a=p.1 then some p.2 else bS a l:=by
 simp only[bS,dH];split
 ·rfl
 ·rw[jf a l (0+1)];rfl
theorem gG(l:List (α×β))(a:α)(b:β)(x:α):bS x (eO l a b)=if x=a then some b else bS x l:=by
 induction l with
 | nil=>simp only[eO,kX,OF]
 | cons p l ih =>
  simp only[eO];split
  ·rename_i h;simp only[kX]
   by_cases hx:x=a
   ·simp[hx]
   ·have:¬ x=p.1:=fun h2=>hx (h2.trans h.symm);simp[hx,this]
  ·rename_i h;simp only[kX,ih]
   by_cases hx:x=p.1
   ·have:¬ x=a:=fun h2=>h (h2.symm.trans hx);simp only[this,aK,hx,aL];split
    ·rename_i h3;exact absurd h3.symm h
    ·rfl
   ·simp[hx]
theorem DS(l:List (α×β))(a:α)(b:β):(eO l a b).length≤l.length+1:=by
 induction l with
 | nil=>simp[eO]
 | cons p l ih =>
  simp only[eO];split<;>simp<;>omega
theorem JT{l:List (α×β)}{a:α}{b:β}(h:bS a l=none):eO l a b=l++[(a,b)]:=by
 induction l with
 | nil=>rfl
 | cons p l ih =>
  rw[kX]at h;split at h
  ·simp at h
  ·rename_i h1;simp only[eO,h1,aK,bn];rw[ih h]
variable {kd:Nat} {ke:α→V} {ve:β→V}
theorem sN(hk:∀ a b,bY kd (ke a) (ke b)=some (decide (a=b)))(a:α):∀ (l:List (α×β)) (k:Nat),dM kd (ke a) (emap ke ve l) k=some ((dH a l k).map fun p=>(p.1,ve p.2))
 | [],k=>rfl
 | p::l,k=>by
  have ih:=sN hk a l (k+1);simp only[emap,ay,dM,hk,dH]at ih ⊢
  by_cases h:a=p.1
  ·simp[h]
  ·simp only[h,rM,aK];exact ih
theorem FN(a:α)(b:β):∀ (l:List (α×β)) (k i:Nat) (b0:β),dH a l k=some (k+i,b0)→(emap ke ve l).set i (ke a,ve b)=emap ke ve (eO l a b)
 | [],k,i,b0,h=>by simp[dH]at h
 | p::l,k,i,b0,h=>by
  simp only[dH]at h
  by_cases h1:a=p.1
  ·simp only[h1,aL,aa,ao]at h;have:i=0:=by omega
   subst this;simp[emap,eO,h1]
  ·simp only[h1,aK]at h
   have hi:∃ j,i=j+1:=by
    refine⟨i - 1,?_⟩
    have:∀ (l:List (α×β)) (k n:Nat) (x:β),dH a l k=some (n,x)→k≤n:=by
     intro l
     induction l with
     | nil=>intro k n x h;simp[dH]at h
     | cons q l ih =>
      intro k n x h;simp only[dH]at h;split at h
      ·simp at h;omega
      ·have:=ih _ _ _ h;omega
    have:=this _ _ _ _ h;omega
   obtain⟨j,rfl⟩:=hi;have:=FN a b l (k+1) j b0 (by rw[h];congr 2;omega);simp only[emap,ay,iD,eO,h1,aK]at this ⊢;rw[this]
theorem iB(hk:∀ a b,bY kd (ke a) (ke b)=some (decide (a=b)))(l:List (α×β))(a:α):
  (bS a l=none∧dM kd (ke a) (emap ke ve l) 0=some none∧∀ b,emap ke ve l++[(ke a,ve b)]=emap ke ve (eO l a b)) ∨
  (∃ i b0,bS a l=some b0∧dM kd (ke a) (emap ke ve l) 0=some (some (i,ve b0))∧∀ b,(emap ke ve l).set i (ke a,ve b)=emap ke ve (eO l a b)):=by
 cases h:dH a l 0 with
 | none =>
  have h1:bS a l=none:=by simp[bS,h]
  refine .inl ⟨h1,by rw[sN hk,h];rfl,fun b=>?_⟩;rw[JT h1];simp[emap]
 | some p =>
  obtain⟨i,b0⟩:=p;refine .inr ⟨i,b0,by simp[bS,h],by rw[sN hk,h];rfl,fun b=>?_⟩;exact FN a b l 0 i b0 (by rw[h];congr 2;omega)
end
def VT(n:Int):V:=.i .i64 n
theorem Hk(a b:Int):bY 0 (VT a) (VT b)=some (decide (a=b)):=by
 simp[bY,VT];rfl
end Go.Bt

/- A part of a proof; the claim's last text says of what. -/
import Derived.IntWalk
import Derived.Test.YtlakkaamfadipaaGreatDoorV14
set_option linter.all false

namespace Go.Pm
open Go Go.RowKit
def uu:Nat→List V→List V
 | 0,l=>l
 | n+1,l=>.u::uu n l
def fj:Nat→((List V→Prop)→Prop)→(List V→Prop)→Prop
 | 0,c,p=>c p
 | n+1,c,p=>∀ j,fj n c fun l=>p (j::l)
def fh(x:V)(c:(List V→Prop)→Prop)(p:List V→Prop):Prop:=c fun l=>p (x::l)
def fo(p:List V→Prop):Prop:=p []
def BB(R:St→Prop)(K:Exit→St→Prop):Exit→St→Prop
 | .normal=>R
 | e=>K e
theorem DB{R:St→Prop}{K:Exit→St→Prop}:BB R K .normal=R:=rfl
theorem Ml{R:St→Prop}{K:Exit→St→Prop}:BB R K .ret=K .ret:=rfl
theorem Js{R:St→Prop}{K:Exit→St→Prop}{id:Nat}:BB R K (.exit id)=K (.exit id):=rfl
theorem aD{n:Nat}{P:Program}{c:bH}{K:Exit→St→Prop}{N:Nat}{st:St}(h:∀ R:St→Prop,(∀ st',fJ n P c K N st'→R st')→wq n P c (BB R K) st):fJ n P c K (N+1) st:=by
 refine Mk ?_;have:=h (fJ n P c K N) fun _ h=>h;have e:BB (fJ n P c K N) K=V9 n P c K N:=by funext e;cases e<;>rfl
 rw[← e];exact this
theorem xy{n:Nat}{P:Program}{c:bH}{K:Exit→St→Prop}{N:Nat}{fr fr':List V}{J J':ae}(h:Wk P n fr J fr' J')(k:fJ n P c K N ⟨fr',J'⟩):fJ n P c K N ⟨fr,J⟩:=by
 cases N with
 | zero=>exact k.elim
 | succ N=>exact cc.wk h k
theorem mw{n:Nat}{P:Program}{c:bH}{K:Exit→St→Prop}{N:Nat}{fr fr':List V}{J loc:ae}(hn:n≤J.length)(bz:bK J)(hc:oY fr fr')(hl:eQ J.length fr')(k:fJ n P c K N ⟨fr',J⟩):fJ n P c K N ⟨fr,J++loc⟩ :=
 xy ((Wk.iS hc).trans (Wk.Bc hn bz (eG.1 hl))) k
theorem bd{n:Nat}{P:Program}{c:bH}{K:Exit→St→Prop}{N:Nat}{fr fr':List V}{J:ae}(hc:oY fr fr')(k:fJ n P c K N ⟨fr',J⟩):fJ n P c K N ⟨fr,J⟩ :=
 xy (Wk.iS hc) k
theorem wS{n:Nat}(h:n<2^63):IntKind.i64.wrap (n:Int)=n:=IntWalk.i64_in _ (by omega)
theorem bu{n:Nat}(h:n+1<2^63):IntKind.i64.wrap ((n:Int)+1)=((n+1:Nat):Int):=by rw[IntWalk.i64_in _ (by omega)];omega
theorem xx{α:Type}{f:α→List V}{pre rest:List α}{x:α}{d:List V}:(List.map f (pre++x::rest)).getD pre.length d=f x:=by
 simp[ar]
theorem oU{α:Type}{f:α→List V}{pre rest:List α}{x:α}{j:Nat}:fw (List.map f (pre++x::rest)) pre.length j=(f x)[j]?:=by
 simp[fw]
theorem aR{P:Program}{rs:List Rs}{Q:V→ae→Prop}{e:Exit}{fr:List V}{J:ae}{xs:List V}(he:e=.normal∨e=.ret)(hx:kn ⟨fr,J⟩ rs=some xs)(hQ:Q (one xs) J):
  rM P J.length rs Q e ⟨fr,J⟩:=fM he hx (Wk.refl _ _) rfl hQ
theorem nO{sz:Nat}{xs:List (List V)}(h:(V.sl sz xs).Wf):xs.length<2^63:=by
 cases h with
 | sl _ _ h=>simp only[maxLen]at h;omega
theorem zy{l:List UInt8}(h:(V.s l).Wf):l.length<2^63:=by
 cases h with
 | s _ h=>simp only[maxLen]at h;omega
theorem cc.bd{n:Nat}{P:Program}{c:bH}{K:Exit→St→Prop}{fr fr':List V}{J:ae}(hc:oY fr fr')(N:Nat)(h:fJ n P c K N ⟨fr',J⟩):cc n P (.loop c) K ⟨fr,J⟩ :=
 cc.wk (Wk.iS hc) (cc.wy N h)
theorem RI{a b:Bool}:(bif a then true else b)=(a||b):=by cases a<;>rfl
theorem Oq{a b:Bool}:(bif a then b else false)=(a&&b):=by cases a<;>rfl
theorem PD{pre rest:List UInt8}{x:UInt8}{d:UInt8}:(pre++x::rest).getD pre.length d=x:=by
 simp[ar]
theorem RN{P:Program}{d:Option Nat}{f:Nat}{args:List O}{K:St→Prop}{fr:List V}{J σ1 σ2:ae}{zs:List V}{v:V}(hw:Wk P J.length (args.map (ev fr)) J zs σ1)(h:PC P f zs σ1 (fun r J'=>r=v∧J'=σ2))(hK:K ⟨dh fr d v,σ2⟩):
  gI P ⟨d,[],.call f args⟩ K ⟨fr,J⟩ :=
 aC (PC.wk hw h) rfl hK
theorem ly{P:Program}{d:Option Nat}{f:Nat}{args:List O}{K:St→Prop}{fr:List V}{J σ2:ae}{zs:List V}{v:V}(hw:oY (args.map (ev fr)) zs)(h:PC P f zs J (fun r J'=>r=v∧J'=σ2))(hK:K ⟨dh fr d v,σ2⟩):
  gI P ⟨d,[],.call f args⟩ K ⟨fr,J⟩ :=
 aC (PC.wk (Wk.iS hw) h) rfl hK
def b5(n:Int):List V:=[.i .i64 n]
theorem Oz{p:Prop}{v w:V}:(∃ ob,some (p,v)=some (ob,w)∧ob)=(v=w∧p):=by
 simp only[aa,an,Ve];exact⟨fun⟨_,⟨h1,h2⟩,h3⟩=>⟨h2,h1.2 h3⟩,fun⟨h1,h2⟩=>⟨p,⟨C4,h1⟩,h2⟩⟩
theorem OA{p:Prop}{v:V}:(∃ ob r,some (p,v)=some (ob,r)∧ob)=p:=by
 simp only[aa,an,Ve];exact⟨fun⟨_,_,⟨h1,_⟩,h3⟩=>h1.2 h3,fun h=>⟨p,v,⟨C4,rfl⟩,h⟩⟩
theorem qu{l:List Int}{i:Nat}(h:i<l.length):fw (l.map b5) i 0=some (.i .i64 (l.getD i 0)):=by
 simp[fw,b5,h]
theorem pO{P:Program}{rs:List Rs}{Q:V→ae→Prop}{e:Exit}{fr:List V}{J loc:ae}{xs:List V}(k:Nat){E sz by' g:Nat}{sh:Bool}{rows:List (List V)}(bz:bK J)(he:e=.normal∨e=.ret)(hx:kn ⟨fr,J++loc⟩ rs=some xs)
  (hk:loc[k]?=some (.row E sz by' g sh rows)) (hl:eQ J.length (xs.map (fz (J.length+k) g sz rows))) (hQ:Q (one (xs.map (fz (J.length+k) g sz rows))) J):rM P J.length rs Q e ⟨fr,J++loc⟩:=by
 refine fM he hx ((Wk.fz (J.length+k) (by rw[tM];exact hk)).trans ?_) (by simp) hQ;rw[yV];exact Wk.GZ bz hl
def tiB(P:Program)(E sz by':Nat):Bool :=
 match P.info? E with
 | some t=>match t.zero with
  | some z=>decide (0<sz)&&(t.size==sz&&(t.bytes==by'&&z.cells.size==sz))
  | none=>false
 | none=>false
theorem nA{P:Program}{E sz by':Nat}(h:tiB P E sz by'=true):Ti P E sz by':=by
 unfold tiB at h;split at h
 ·rename_i t ht;split at h
  ·rename_i z hz;simp only[aG,aU,bR]at h;exact⟨h.1,t,z,ht,hz,h.2.1,h.2.2.1,h.2.2.2⟩
  ·simp at h
 ·simp at h
theorem PC.Ci{P:Program}{f:Nat}{args:List V}{J:ae}{v:V}(h:∀ (w:World) (μ:Mem) (vs:Array Value),RT w J μ args vs→∃ u,Calls P f vs w (fun e w'=>e=.returned u∧w'=w)∧VR w J μ v u):
  PC P f args J (fun r J'=>r=v∧J'=J):=by
 intro B w0 w μ vs hS hv;obtain⟨u,h1,h2⟩:=h w μ vs hv;refine h1.mono ?_;rintro e w' ⟨rfl,rfl⟩;exact⟨v,u,J,μ,rfl,⟨rfl,rfl⟩,hS,h2,lJ.refl _ _ _⟩
theorem Y3{vs:Array Value}(h:vs.size=1):vs=#[vs.getD 0 undef]:=by
 apply Array.ext
 ·simpa using h
 ·intro i h1 h2;have:i=0:=by omega
  subst this;simp[h1]
theorem Y2{vs:Array Value}(h:vs.size=2):vs=#[vs.getD 0 undef,vs.getD 1 undef]:=by
 apply Array.ext
 ·simpa using h
 ·intro i h1 h2;have:i=0∨i=1:=by omega
  rcases this with rfl | rfl<;>simp[h1]
theorem HE{o:Ob}{n:Nat}(h:match o with | .box _ cs=>eQ n cs | .map _ _ es=>eQ n (es.map (·.2)) | .iter _ m _ _ _ _=>m<n | _=>True):∀ (j:Nat) (x:V),o.refs[j]?=some x→x.Lt n:=by
 cases o with
 | box T cs=>exact eG.1 h
 | map K E es=>exact eG.1 h
 | iter st m E k ps c =>
  intro j x hx;cases j with
  | zero=>simp only[Ob.refs,aq,aa]at hx;subst hx;exact .mp _ h
  | succ j=>simp[Ob.refs]at hx
 | _=>intro j x hx;simp[Ob.refs]at hx
def OL(n:Nat):Ob→Prop
 | .box _ cs=>eQ n cs
 | .map _ _ es=>eQ n (es.map (·.2))
 | .iter _ m _ _ _ _=>m<n
 | _=>True
theorem KV{J:ae}(bz:bK J){id n:Nat}{o:Ob}(h:J[id]?=some o)(hn:J.length≤n):OL n o:=by
 have h0:=bz id o h;cases o with
 | box T cs=>exact eG.2 fun j x hj=>(h0 j x hj).mono hn
 | map K E es=>exact eG.2 fun j x hj=>(h0 j x hj).mono hn
 | iter st m E k ps c =>
  have:=h0 0 (.mp m) rfl;cases this;show m<n;omega
 | _=>trivial
theorem OL.mono{n m:Nat}{o:Ob}(h:OL n o)(hm:n≤m):OL m o:=by
 cases o with
 | box T cs=>exact eG.2 fun j x hj=>(eG.1 h j x hj).mono hm
 | map K E es=>exact eG.2 fun j x hj=>(eG.1 h j x hj).mono hm
 | iter st k E l ps c=>exact cM h hm
 | _=>trivial
theorem mN{n:Nat}{es:List (V×V)}(h:∀ x∈es,x.2.Lt n):eQ n (es.map (·.2)):=eG.2 fun j x hj=>by
 rw[bf,aj]at hj;obtain⟨kx,h1,rfl⟩:=hj;exact h kx (aV h1)
theorem cv{J l:ae}(h:bK J)(hl:∀ o∈l,match o with | .box _ cs=>eQ (J.length+l.length) cs | .map _ _ es=>eQ (J.length+l.length) (es.map (·.2)) | .iter _ m _ _ _ _=>m<J.length+l.length | _=>True):bK (J++l):=by
 intro id o hid j x hx;rw[ak];rcases fp id J.length with dp | Ly
 ·rw[ai dp]at hid;exact(h id o hid j x hx).mono (OZ _ _)
 ·rw[aH Ly]at hid;exact HE (hl _ (aV hid)) j x hx
theorem b7{P:Program}{c:bH}{K:Exit→St→Prop}{N:Nat}{fr fr':List V}{J:ae}(l loc:ae)(bz:bK (J++l))(hc:oY fr fr')(hl:eQ (J.length+l.length) fr')(k:fJ J.length P c K N ⟨fr',J++l⟩):fJ J.length P c K N ⟨fr,J++(l++loc)⟩:=by
 rw[← List.append_assoc];exact xy ((Wk.iS hc).trans (Wk.Bc (by simp) bz (by rw[ak];exact eG.1 hl))) k
theorem Wk.kN{P:Program}{n:Nat}{xs:List V}{J:ae}(loc:ae){k E sz by':Nat}(hT:Ti P E sz by')(hk:xs[k]?=some .nil):Wk P n xs (J++loc) (xs.set k (.own (J.length+loc.length) 0)) (J++(loc++[.row E sz by' 0 false []])):=by
 have:=Wk.ko (P:=P) (n:=n) (J:=J++loc) hT hk
 rwa [ak,aY]at this
theorem ku:∀ (l:List UInt8),bytesOf (dd l)=some l
 | []=>rfl
 | c::l=>by
  have ih:=ku l;simp only[dd,az,bytesOf,ou]at ih ⊢;rw[ih];simp
theorem gQ{a b:List UInt8}:dd a++dd b=dd (a++b):=by simp[dd]
theorem dw{a:List UInt8}:(dd a).length=a.length:=by simp[dd]
def S2:UnOp→V→Option (Prop×V)
 | .not,.b p=>some (True,.b (!p))
 | .neg,.i k n=>some (True,.i k (k.wrap (0 - n)))
 | _,_=>none
theorem Sb(fr:List V)(J:ae)(op:UnOp)(x:O):aQ fr J (.un op x)=S2 op (ev fr x):=by
 show(match op,ev fr x with
  | .not,.b p=>some (True,V.b (!p))
  | .neg,.i k n=>some (True,V.i k (k.wrap (0 - n)))
  | _,_=>none)=_
 rfl
set_option linter.defProp false in
def UE:=And.intro @uu.eq_1 @uu.eq_2
set_option linter.defProp false in
def JE:=And.intro (And.intro @fj.eq_1 @fj.eq_2) (And.intro @fh.eq_1 @fo.eq_1)
set_option linter.defProp false in
def EV:=(And.intro (And.intro (And.intro (And.intro (And.intro (And.intro @aQ.eq_1 @aQ.eq_2) (And.intro @aQ.eq_3 @aQ.eq_4)) (And.intro (And.intro @aQ.eq_5 @aQ.eq_6) (And.intro @aQ.eq_7 @aQ.eq_8))) (And.intro (And.intro (And.intro @aQ.eq_9 @Sb) (And.intro @S2.eq_1 (And.intro @S2.eq_2 @S2.eq_3))) (And.intro (And.intro @aQ.eq_13 @aQ.eq_14) (And.intro @aQ.eq_15 (And.intro @aQ.eq_16 @aQ.eq_17))))) (And.intro (And.intro (And.intro (And.intro @aQ.eq_18 @aQ.eq_19) (And.intro @aQ.eq_20 @aQ.eq_21)) (And.intro (And.intro @aQ.eq_22 @aQ.eq_23) (And.intro @aQ.eq_24 @aQ.eq_25))) (And.intro (And.intro (And.intro @aQ.eq_26 @aQ.eq_27) (And.intro @aQ.eq_28 @aQ.eq_29)) (And.intro (And.intro @aQ.eq_30 @aQ.eq_31) (And.intro @aQ.eq_32 (And.intro @bO.eq_1 @bO.eq_2)))))) (And.intro (And.intro (And.intro (And.intro (And.intro @bO.eq_3 @bO.eq_4) (And.intro @bO.eq_5 @bO.eq_6)) (And.intro (And.intro @bO.eq_7 @bO.eq_8) (And.intro @bO.eq_9 @bO.eq_10))) (And.intro (And.intro (And.intro @fy.eq_1 @fy.eq_2) (And.intro @fy.eq_3 @fy.eq_4)) (And.intro (And.intro @fy.eq_5 @fy.eq_6) (And.intro @fy.eq_7 (And.intro @fy.eq_8 @fy.eq_9))))) (And.intro (And.intro (And.intro (And.intro @fy.eq_10 @fy.eq_11) (And.intro @fy.eq_12 @fy.eq_13)) (And.intro (And.intro @fy.eq_14 @fy.eq_15) (And.intro @fy.eq_16 @fy.eq_17))) (And.intro (And.intro (And.intro @fy.eq_18 @fy.eq_19) (And.intro @fy.eq_20 @fy.eq_21)) (And.intro (And.intro @fy.eq_22 @fy.eq_23) (And.intro @fy.eq_24 (And.intro @fy.eq_25 @fy.eq_26)))))))
set_option linter.defProp false in
def W:=And.intro UE <| And.intro EV <| And.intro (And.intro (And.intro @zm.eq_1 @zl.eq_1) (And.intro (And.intro @zL.eq_1 @zf.eq_1) (And.intro @z.eq_1 @zs.eq_1))) (And.intro (And.intro (And.intro (And.intro (And.intro (And.intro (And.intro @wq.eq_1
 (And.intro @wq.eq_2
 @wq.eq_3))
 (And.intro (And.intro @wq.eq_4
 @wq.eq_5)
 (And.intro @wq.eq_6
 @wq.eq_7)))
 (And.intro (And.intro (And.intro @wq.eq_8
 (And.intro @wq.eq_9 (And.intro (And.intro @wq.eq_10 @IF.eq_1) (And.intro (And.intro (And.intro @wq.eq_11 @Hd.eq_1) (And.intro @Hd.eq_2 (And.intro (And.intro @Mh (And.intro @Jj @Jk)) (And.intro (And.intro (And.intro @V6.eq_1 (And.intro (And.intro @NQ @Kx) (And.intro @GM (And.intro @GN @GL)))) @V4.eq_1) (And.intro @V3.eq_1 @Sj.eq_1))))) (And.intro (And.intro @OH @KX) (And.intro (And.intro @KQ @G1) (And.intro @Mc @Jd)))))))
 (And.intro @Jm
 @Mj))
 (And.intro (And.intro @Jl
 @Mi)
 (And.intro @Dx
 @Me))))
 (And.intro (And.intro (And.intro (And.intro @Je
 @E9)
 (And.intro @OM
 @KY))
 (And.intro (And.intro @KZ
 @DB)
 (And.intro @Ml
 @Js)))
 (And.intro (And.intro (And.intro @Uz
 @Q7)
 (And.intro @N3
 @KF))
 (And.intro (And.intro @Rj
 @N1)
 (And.intro @UL
 @UM)))))
 (And.intro (And.intro (And.intro (And.intro @UN
 (And.intro @YF
 @UH))
 (And.intro (And.intro @UO
 @NZ)
 (And.intro @KD
 @UD)))
 (And.intro (And.intro (And.intro @UC
 @Q6)
 (And.intro @UF
 @UB))
 (And.intro (And.intro @Rh
 @Rc)
 (And.intro @Ri
 @Ra))))
 (And.intro (And.intro (And.intro (And.intro @UK
 @N4)
 (And.intro @NY
 @UQ))
 (And.intro (And.intro @Rm
 (And.intro @YG @Rl))
 (And.intro @N2
 (And.intro (And.intro (And.intro @UJ @UI) (And.intro @Rn @UP)) (And.intro (And.intro (And.intro (And.intro (And.intro @UG (And.intro @Q5 (And.intro @Q4 (And.intro @Rk (And.intro @NX @UA))))) @Rg) (And.intro @Rf @Re)) (And.intro (And.intro @N0 @Q8) (And.intro @PS (And.intro @Ql @Qk)))) (And.intro @Q9 (And.intro @Qo (And.intro @Qn @Qm))))))))
 (And.intro (And.intro (And.intro @Um
 @QX)
 (And.intro @NU
 @KB))
 (And.intro (And.intro @Q2
 @NT)
 (And.intro @Us
 @Ut))))))
 (And.intro (And.intro (And.intro (And.intro (And.intro @Uu
 (And.intro @YE
 @Ur))
 (And.intro (And.intro @Uv
 @NS)
 (And.intro @KA
 @Up)))
 (And.intro (And.intro (And.intro @Uo
 @QW)
 (And.intro @Uq
 @Un))
 (And.intro (And.intro @Q0
 @QZ)
 (And.intro @Q1
 (And.intro @QY @Q3)))))
 (And.intro (And.intro (And.intro (And.intro @V.pure.eq_1
 @V.pure.eq_2)
 (And.intro @V.pure.eq_3
 @V.pure.eq_4))
 (And.intro (And.intro @V.pure.eq_5
 @U4.eq_1)
 (And.intro @yL.eq_1
 @Oz)))
 (And.intro (And.intro (And.intro @OA
 @PM)
 (And.intro @Pq
 @PI))
 (And.intro (And.intro @gX.eq_1
 @gX.eq_2)
 (And.intro @chainB.eq_1
 @chainB.eq_2)))))
 (And.intro (And.intro (And.intro (And.intro @aQ.eq_1
 (And.intro @aQ.eq_2
 @aQ.eq_3))
 (And.intro (And.intro @aQ.eq_4
 @aQ.eq_5)
 (And.intro @aQ.eq_6
 @aQ.eq_7)))
 (And.intro (And.intro (And.intro @aQ.eq_8
 @aQ.eq_9)
 (And.intro @Sb
 @S2.eq_1))
 (And.intro (And.intro (And.intro @S2.eq_2 @S2.eq_3)
 @aQ.eq_13)
 (And.intro @aQ.eq_14
 @aQ.eq_15))))
 (And.intro (And.intro (And.intro (And.intro @aQ.eq_16
 @aQ.eq_17)
 (And.intro @aQ.eq_18
 @aQ.eq_19))
 (And.intro (And.intro @aQ.eq_20
 @aQ.eq_21)
 (And.intro @aQ.eq_22
 @aQ.eq_23)))
 (And.intro (And.intro (And.intro @aQ.eq_24
 @aQ.eq_25)
 (And.intro @aQ.eq_26
 @aQ.eq_27))
 (And.intro (And.intro @aQ.eq_28
 (And.intro (And.intro @aQ.eq_29 @aQ.eq_30) (And.intro @aQ.eq_31 (And.intro (And.intro @aQ.eq_32 @aQ.eq_33) (And.intro @aQ.eq_34 (And.intro @aQ.eq_35 @aQ.eq_36))))))
 (And.intro @bO.eq_1
 @bO.eq_2)))))))
 (And.intro (And.intro (And.intro (And.intro (And.intro (And.intro @bO.eq_3
 (And.intro @bO.eq_4
 @bO.eq_5))
 (And.intro (And.intro @bO.eq_6
 @bO.eq_7)
 (And.intro @bO.eq_8
 (And.intro @bO.eq_9 (And.intro (And.intro @bO.eq_11 @bO.eq_12) (And.intro @bO.eq_13 (And.intro @bO.eq_14 (And.intro @bO.eq_15 @xX.eq_1))))))))
 (And.intro (And.intro (And.intro @ev.eq_1
 @ev.eq_2)
 (And.intro @dh.eq_1
 @dh.eq_2))
 (And.intro (And.intro @ET.eq_1
 @sr.{0,0})
 (And.intro @cV.{0,0}
 @aF.{0}))))
 (And.intro (And.intro (And.intro (And.intro @aP.{0}
 @sj.{0})
 (And.intro @sk.{0}
 @er.eq_1))
 (And.intro (And.intro @er.eq_2
 @fi.eq_1)
 (And.intro @fi.eq_2
 @ff.eq_1)))
 (And.intro (And.intro (And.intro @ff.eq_2
 @ff.eq_3)
 (And.intro @ff.eq_4
 @ff.eq_5))
 (And.intro (And.intro @ff.eq_6
 (And.intro @ff.eq_7 (And.intro @ff.eq_8 @ff.eq_9)))
 (And.intro @cx.eq_1
 @cx.eq_2)))))
 (And.intro (And.intro (And.intro (And.intro @lC.eq_1
 (And.intro @lC.eq_2
 @lC.eq_3))
 (And.intro (And.intro @rD.eq_1
 @rD.eq_2)
 (And.intro @ij.{0}
 @Ld.{0})))
 (And.intro (And.intro (And.intro @uZ
 @dQ)
 (And.intro @cm
 @iH))
 (And.intro (And.intro @fA
 @kY)
 (And.intro @gk
 @tM))))
 (And.intro (And.intro (And.intro (And.intro @K4
 @yV)
 (And.intro @OP
 @ag.{0}))
 (And.intro (And.intro @ay.{0}
 @aq.{0})
 (And.intro @bF.{0}
 @List.getElem?_nil.{0})))
 (And.intro (And.intro (And.intro @dm
 @bo)
 (And.intro @au
 @fy.eq_1))
 (And.intro (And.intro @fy.eq_2
 @fy.eq_3)
 (And.intro @fy.eq_4
 @fy.eq_5))))))
 (And.intro (And.intro (And.intro (And.intro (And.intro @fy.eq_6
 (And.intro @fy.eq_7
 @fy.eq_8))
 (And.intro (And.intro @fy.eq_9
 @fy.eq_10)
 (And.intro @fy.eq_11
 @fy.eq_12)))
 (And.intro (And.intro (And.intro @fy.eq_13
 @fy.eq_14)
 (And.intro @fy.eq_15
 @fy.eq_16))
 (And.intro (And.intro @fy.eq_17
 @fy.eq_18)
 (And.intro @fy.eq_19
 @fy.eq_20))))
 (And.intro (And.intro (And.intro (And.intro @fy.eq_21
 @fy.eq_22)
 (And.intro @fy.eq_23
 @fy.eq_24))
 (And.intro (And.intro @fy.eq_25
 @fy.eq_26)
 (And.intro @aM
 @jC.{0})))
 (And.intro (And.intro (And.intro @YX.{0}
 @eC.{0})
 (And.intro @lj.{0}
 @YZ.{0}))
 (And.intro (And.intro @jz.{0}
 @aW.{0})
 (And.intro @bg.{0}
 @bV.{0})))))
 (And.intro (And.intro (And.intro (And.intro @aY.{0}
 (And.intro @az.{0,0}
 @bD.{0,0}))
 (And.intro (And.intro (And.intro @forall_const.{0} @forall_const.{1})
 @imp_self)
 (And.intro @beq_self_eq_true.{0}
 @lh.{0})))
 (And.intro (And.intro (And.intro @eq_self.{1}
 @eA.{0})
 (And.intro @uY
 (And.intro @implies_true.{0} @implies_true.{1})))
 (And.intro (And.intro @eB
 @fT)
 (And.intro @cond_true.{1}
 @cond_false.{1}))))
 (And.intro (And.intro (And.intro (And.intro @RI
 @Oq)
 (And.intro @PD
 @xx))
 (And.intro (And.intro @oU
 @rowsOf.eq_1)
 (And.intro @rowsOf.eq_2
 @rowsOf.eq_3)))
 (And.intro (And.intro (And.intro @rowsOf.eq_4
 @rowsOf.eq_5)
 (And.intro @rowsOf.eq_6
 @tN.eq_1))
 (And.intro (And.intro @tN.eq_2
 @tN.eq_3)
 (And.intro @tN.eq_4
 @tN.eq_5))))))))
set_option linter.defProp false in
def VV:=And.intro W (And.intro (And.intro (And.intro @bO.eq_10 (And.intro @Bool.true_or @im)) (And.intro (And.intro @Bool.or_true @Bool.or_false) (And.intro @jF @dN)))
 (And.intro (And.intro @ze (And.intro @bytesOf.eq_1 @bytesOf.eq_2)) (And.intro @ou.eq_1 (And.intro @ou.eq_2 @UInt8.ofNat_toNat))))
set_option linter.defProp false in
def SS:=(And.intro (And.intro @ag.{0} (And.intro @ay.{0} @List.replicate_zero.{0})) (And.intro @qX.{0} (And.intro @bg.{0} @aW.{0})))
set_option linter.defProp false in
def RS:=And.intro (And.intro (And.intro @kn.eq_1 @kn.eq_2) (And.intro @vQ.eq_1 @vQ.eq_2)) VV
set_option linter.defProp false in
def LW:=And.intro UE (And.intro (And.intro (And.intro (And.intro @eQ.eq_1 (And.intro @eQ.eq_2 @aF.{0})) (And.intro @aP.{0} (And.intro @ZL @ZM))) (And.intro (And.intro @PX (And.intro @Tn @Tq)) (And.intro @Tr (And.intro @vo @XE)))) (And.intro (And.intro (And.intro @JO (And.intro @JN @Tp)) (And.intro @Tm (And.intro @To @XB))) (And.intro (And.intro (And.intro @XC @XD) (And.intro @MK @Tl)) (And.intro @fA (And.intro @iH @kY)))))
theorem VR.Sf{w:World}{J:ae}{μ:Mem}{J':ae}{μ':Mem}{x:V}{v:Value}(h:VR w J μ x v){m:Nat}(hm:m≤J'.length)
  (hw:∀ b off,wr J' μ' b off→wr J μ b off) (eH:∀ id,id<m→J'[id]?=J[id]?) (kB:∀ id,id<m→μ' id=μ id) (hx:x.Lt m):VR w J' μ' x v:=by
 induction h with
 | u v=>exact .u v
 | b x=>exact .b x
 | i k n=>exact .i k n
 | s l x hl hm=>exact .s l x hl hm
 | nil=>exact .nil
 | xl sz=>exact .xl sz
 | sle sz a=>exact .sle sz a
 | sl sz xs b o cap f hlen kR ck hc hv ih =>
  exact .sl sz xs b o cap f hlen kR ck (fun i j x hx=>⟨(hc i j x hx).1,fun h=>(hc i j x hx).2.1 (hw _ _ h),(hc i j x hx).2.2⟩) (fun i j x hx=>ih i j x hx (jP (hc i j x hx).2.2 m))
 | Cn sz=>exact .Cn sz
 | lit sz xs b o f kR ck hc hv ih =>
  exact .lit sz xs b o f kR ck (fun i j x hx=>⟨(hc i j x hx).1,fun h=>(hc i j x hx).2.1 (hw _ _ h),(hc i j x hx).2.2⟩) (fun i j x hx=>ih i j x hx (jP (hc i j x hx).2.2 m))
 | own id g v hid h =>
  cases hx with
  | own _ _ hl=>exact .own id g v (by omega) fun E sz by' g' sh xs ho=>by rw[kB id hl];exact h E sz by' g' sh xs (eH id hl▸ho)
 | sub id g lo hi v hid h =>
  cases hx with
  | sub _ _ _ _ hl=>exact .sub id g lo hi v (by omega) fun E sz by' g' sh xs ho=>by rw[kB id hl];exact h E sz by' g' sh xs (eH id hl▸ho)
 | ptr id off b h hm =>
  cases hx with
  | ptr _ _ hl =>
   obtain⟨T,cs,h1⟩:=h;exact .ptr id off b ⟨T,cs,(eH id hl).trans h1⟩ ((kB id hl).trans hm)
 | ep sz xs i off b o f hi ck hc hv ih =>
  exact .ep sz xs i off b o f hi ck (fun j x hx=>⟨(hc j x hx).1,fun h=>(hc j x hx).2.1 (hw _ _ h),(hc j x hx).2.2⟩) (fun j x hx=>ih j x hx (jP (hc j x hx).2.2 m))
 | rp id g i off v hid h =>
  cases hx with
  | rp _ _ _ _ hl=>exact .rp id g i off v (by omega) fun E sz by' g' sh xs ho=>by rw[kB id hl];exact h E sz by' g' sh xs (eH id hl▸ho)
 | mp id r h hm =>
  cases hx with
  | mp _ hl =>
   obtain⟨K,E,es,h1⟩:=h;exact .mp id r ⟨K,E,es,(eH id hl).trans h1⟩ ((kB id hl).trans hm)
 | it id v h hm =>
  cases hx with
  | it _ hl =>
   obtain⟨st,m',E,n,ps,c,h1⟩:=h;exact .it id v ⟨st,m',E,n,ps,c,(eH id hl).trans h1⟩ ((kB id hl).trans hm)
 | tL id n b h hm =>
  cases hx with
  | tL _ _ hl =>
   obtain⟨T,cs,h1⟩:=h;exact .tL id n b ⟨T,cs,(eH id hl).trans h1⟩ ((kB id hl).trans hm)
 | dx=>exact .dx
 | fN=>exact .fN
 | fn f caps vs hl hv ih =>
  cases hx with
  | fn _ _ h=>exact .fn f caps vs hl fun i x hx=>ih i x hx (h i x hx)
 | agg xs vs hl hv ih =>
  cases hx with
  | agg _ h=>exact .agg xs vs hl fun i x hx=>ih i x hx (h i x hx)
 | fu xs vs hl hv ih =>
  cases hx with
  | fu _ h=>exact .fu xs vs hl fun i x hx=>ih i x hx (h i x hx)
def PU(n k:Nat):V→V
 | .own id g=>if id=n+k then .own n 0 else .own id g
 | .mp id=>.mp (if id=n+k then n else id)
 | x=>x
def Ob.gen:Ob→Nat
 | .row _ _ _ g _ _=>g
 | _=>0
def Ob.fresh:Ob→Ob
 | .row E sz by' _ sh xs=>.row E sz by' 0 sh xs
 | o=>o
def zP(n k g0:Nat):V→Prop
 | .own id g=>(id=n+k∧g=g0)∨id<n
 | .mp id=>id=n+k∨id<n
 | x=>x.Lt n
def Ob.flat:Ob→Bool
 | .row _ _ _ _ _ _=>true
 | .map _ _ es=>es.all fun kx=>kx.2.pure
 | _=>false
theorem IC{K E:Nat}{es:List (V×V)}(h:(Ob.map K E es).flat=true)(m:Nat)(j:Nat)(x:V)(hx:(es.map (·.2))[j]?=some x):x.Lt m:=by
 rw[bf,aj]at hx;obtain⟨kx,h1,rfl⟩:=hx;simp only[Ob.flat,bU]at h;exact jP (h kx (aV h1)) m
theorem Wk.XI{P:Program}{xs:List V}{J loc:ae}(k:Nat){o:Ob}(bz:bK J)(hk:loc[k]?=some o)(ho:o.flat=true)(hx:∀ x∈xs,zP J.length k o.gen x):
  Wk P J.length xs (J++loc) (xs.map (PU J.length k)) (J++[o.fresh]):=by
 intro B w0 w μ vs hS hC;have tR:k<loc.length:=(ab.1 hk).1;let μ':Mem:=fun j=>if j=J.length then μ (J.length+k)else μ j
 have kB:∀ id,id<J.length→μ' id=μ id:=fun id h=>by simp only[μ'];rw[aw (by omega)]
 have Ks:μ' J.length=μ (J.length+k):=by simp[μ']
 have eH:∀ id,id<J.length→(J++[o.fresh])[id]?=(J++loc)[id]?:=fun id h=>by rw[ai h,ai h]
 have h0:(J++[o.fresh])[J.length]?=some o.fresh:=by simp
 have hk':(J++loc)[J.length+k]?=some o:=by rw[aH (by omega),cR];exact hk
 have cases0:∀ {id o'},(J++[o.fresh])[id]?=some o'→(id<J.length∧(J++loc)[id]?=some o'∧μ' id=μ id)∨(id=J.length∧o'=o.fresh):=by
  intro id o' h;rcases fp id J.length with hl | hg
  ·exact .inl ⟨hl,eH id hl▸h,kB id hl⟩
  ·right;have dp:=(ab.1 h).1;simp at dp;have:id=J.length:=by omega
   subst this;rw[h0]at h;exact⟨rfl,(ga h).symm⟩
 have hw:∀ b off,wr (J++[o.fresh]) μ' b off→wr (J++loc) μ b off:=by
  rintro b off ⟨id,o',h1,h2,h3⟩;rcases cases0 h1 with⟨h4,h5,h6⟩ | ⟨rfl,rfl⟩
  ·exact⟨id,o',h5,h6▸h2,h3⟩
  ·exact⟨J.length+k,o,hk',Ks▸h2,by cases o<;>exact h3⟩
 have mv:∀ {x v},VR w (J++loc) μ x v→x.Lt J.length→VR w (J++[o.fresh]) μ' x v:=fun h hl=>h.Sf (m:=J.length) (by simp) hw eH kB hl;refine⟨μ',⟨hS.below,hS.base,fun id o' ho'=>?_,fun i j oi oj b hi hj h1 h2 h3 h4=>?_⟩,⟨by simp[hC.1],fun i y hy=>?_⟩,fun x v hv hl=>mv hv hl⟩
 ·rcases cases0 ho' with⟨h4,h5,h6⟩ | ⟨rfl,rfl⟩
  ·have cX:=hS.obj id o' h5;rw[h6];cases o' with
   | dead=>trivial
   | box T cs =>
    obtain⟨b,us,h1,h2,h3,h4',h5'⟩:=cX;have mS:=bz id _ (by rwa [ai h4]at h5);exact⟨b,us,h1,h2,h3,h4',fun j x hj=>let ⟨u,h6,h7⟩:=h5' j x hj;⟨u,h6,mv h7 (mS j x hj)⟩⟩
   | row E sz by' g sh rows =>
    obtain⟨h1,vals,h2,h3⟩:=cX;exact⟨h1,vals,h2,h3.1,fun i j x hj=>let ⟨h4,u,h5,h6⟩:=h3.2 i j x hj;⟨h4,u,h5,mv h6 (jP h4 _)⟩⟩
   | map K E es =>
    have h5':=h5;have hlt':=h4;obtain⟨r,ents,clock,h1,h2,h3,h4⟩:=cX;exact⟨r,ents,clock,h1,h2,h3,h4.1,fun i k x hi=>let ⟨h5,h6,e,h7,h8,h9⟩:=h4.2.1 i k x hi;⟨h5,h6,e,h7,mv h8 (sY h5 _),mv h9 (map_lt (bz id (.map K E es) (by rwa [ai hlt']at h5')) hi)⟩,h4.2.2⟩
   | iter st m E n ps c =>
    have dp:m<J.length:=by
     have:=bz id _ (by rwa [ai h4]at h5) 0 (.mp m) rfl;cases this;assumption
    exact uD cX (eH m dp) (kB m dp)
  ·have cX:=hS.obj (J.length+k) o hk';rw[Ks];cases o with
   | dead=>trivial
   | box T cs=>simp[Ob.flat]at ho
   | row E sz by' g sh rows =>
    obtain⟨h1,vals,h2,h3⟩:=cX;exact⟨h1,vals,h2,h3.1,fun i j x hj=>let ⟨h4,u,h5,h6⟩:=h3.2 i j x hj;⟨h4,u,h5,mv h6 (jP h4 _)⟩⟩
   | map K E es =>
    obtain⟨r,ents,clock,h1,h2,h3,h4⟩:=cX;exact⟨r,ents,clock,h1,h2,h3,h4.1,fun i k x hi=>let ⟨h5,h6,e,h7,h8,h9⟩:=h4.2.1 i k x hi;⟨h5,h6,e,h7,mv h8 (sY h5 _),mv h9 (map_lt (IC ho _) hi)⟩,h4.2.2⟩
   | iter st m E n ps c=>simp[Ob.flat]at ho
 ·rcases cases0 hi with⟨i1,i2,i3⟩ | ⟨rfl,rfl⟩<;>rcases cases0 hj with⟨j1,j2,j3⟩ | ⟨rfl,rfl⟩
  ·exact hS.sep i j oi oj b i2 j2 h1 h2 (i3▸h3) (j3▸h4)
  ·have:=hS.sep i (J.length+k) oi o b i2 hk' h1 (by rintro rfl;exact h2 rfl) (i3▸h3) (Ks▸h4);omega
  ·have:=hS.sep (J.length+k) j o oj b hk' j2 (by rintro rfl;exact h1 rfl) h2 (Ks▸h3) (j3▸h4);omega
  ·rfl
 ·rw[bf,aj]at hy;obtain⟨x,vV,rfl⟩:=hy;have hv:=hC.2 i x vV;have gU:=hx x (aV vV);cases x with
  | own id g =>
   simp only[PU];split
   ·rename_i e;subst e
    have hg:g=o.gen:=by
     simp only[zP,iH]at gU;omega
    cases o with
    | row E sz by' g' sh rows =>
     have QG:g'=g:=hg.symm;subst QG;have h1:=hv.jS hk';refine .own _ _ _ (by simp) fun E2 sz2 by2 g2 sh2 xs2 ho'=>?_;rw[h0]at ho';simp only[Ob.fresh,aa,Ob.row.injEq]at ho';rw[Ks];exact⟨eY _,fun _=>h1⟩
    | _=>exact .own _ _ _ (by simp) fun E2 sz2 by2 g2 sh2 xs2 ho'=>by rw[h0]at ho';simp[Ob.fresh]at ho'
   ·rename_i e;simp only[zP,e,false_and,nL]at gU;exact mv hv (.own _ _ gU)
  | mp id =>
   simp only[PU];split
   ·rename_i e;subst e;obtain⟨r,h1,h2,K,E,es,h3⟩:=hv.qb;rw[h1];refine .mp _ r ⟨K,E,es,?_⟩ (Ks.trans h2);rw[h0];have h4:=hk'.symm.trans h3;simp only[aa]at h4;subst h4;rfl
   ·rename_i e;simp only[zP,e,nL]at gU;exact mv hv (.mp _ gU)
  | _=>exact mv hv gU
theorem sM{P:Program}{rs:List Rs}{Q:V→ae→Prop}{e:Exit}{fr:List V}{J loc:ae}{xs:List V}(k:Nat){o:Ob}(bz:bK J)(he:e=.normal∨e=.ret)(hx:kn ⟨fr,J++loc⟩ rs=some xs)
  (hk:loc[k]?=some o) (ho:o.flat=true) (hl:∀ x∈xs,zP J.length k o.gen x) (hQ:Q (one (xs.map (PU J.length k))) (J++[o.fresh])):rM P J.length rs Q e ⟨fr,J++loc⟩ :=
 fM he hx (Wk.XI k bz hk ho hl) (by simp) hQ
theorem PC.post{P:Program}{f:Nat}{args:List V}{J σ0 σ1:ae}{r0 r1:V}(h:PC P f args J (fun r J'=>r=r0∧J'=σ0))(hw:Wk P J.length [r0] σ0 [r1] σ1):PC P f args J (fun r J'=>r=r1∧J'=σ1):=by
 intro B w0 w μ vs hS hv;have ye:∀ x u,VR w J μ x u→x.Lt J.length:=fun x u h=>h.lt;refine(h B w0 w μ vs hS hv).mono ?_;rintro e w' ⟨r,v,J',μ',he,⟨rfl,rfl⟩,h1,h2,h3⟩
 obtain⟨μ2,h4,h5,h6⟩:=hw B w0 w' μ' #[v] h1 ⟨rfl,fun i x hx=>by
  cases i with
  | zero=>simp only[aq,aa]at hx;subst hx;simpa using h2
  | succ i=>simp at hx⟩
 exact⟨r1,v,σ1,μ2,he,⟨rfl,rfl⟩,h4,by have:=h5.2 0 r1 rfl;simpa using this,fun x u hx=>h6 x u (h3 x u hx) (ye x u hx)⟩
theorem PC.fz{P:Program}{f:Nat}{args:List V}{J:ae}{E sz by' g:Nat}{sh:Bool}{rows:List (List V)}(bz:bK J)
  (h:PC P f args J (fun r J'=>r=.own J.length g∧J'=J++[.row E sz by' g sh rows])):PC P f args J (fun r J'=>r=.sl sz rows∧J'=J):=by
 refine h.post ?_;refine(Wk.fz J.length (by simp;exact⟨rfl,rfl,rfl,rfl,rfl,rfl⟩)).trans ?_;rw[cI _ _ (au _),eT];simp only[az,bD,Pm.fz,rf,kY,aO];exact Wk.GZ bz (by simp only[eQ,vo,kY])
theorem nz{P:Program}{d:Option Nat}{f:Nat}{args:List O}{K:St→Prop}{fr:List V}{J σ2:ae}{zs:List V}{v:V}(id:Nat){E sz by' g:Nat}{sh:Bool}{rows:List (List V)}(ho:J[id]?=some (.row E sz by' g sh rows))
  (h:PC P f zs (J.set id (.row E sz by' g true rows)) (fun r J'=>r=v∧J'=σ2)) (hz:(args.map (ev fr)).map (fz id g sz rows)=zs) (hK:K ⟨dh fr d v,σ2⟩) :
  gI P ⟨d,[],.call f args⟩ K ⟨fr,J⟩:=by
 subst hz;exact aC (PC.wk (Wk.fz id ho) h) rfl hK
theorem PC.closed{P:Program}{f:Nat}{args:List V}{J:ae}{Q:V→ae→Prop}(h:bK J→PC P f args J Q):PC P f args J Q :=
 fun B w0 w μ vs hS hv=>h hS.closed B w0 w μ vs hS hv
theorem Wk.cell{P:Program}{n:Nat}{xs:List V}{J:ae}{id T j:Nat}{cs:List V}{x y:V}(hid:J[id]?=some (.box T cs))(hj:cs[j]?=some x)
  (hv:∀ (w:World) (μ:Mem) (v:Value),(∀ i o,J[i]?=some o→∃ P B,wc P B w J μ (μ i) o)→VR w J μ x v→VR w J μ y v):Wk P n xs J xs (J.set id (.box T (cs.set j y))):=by
 intro B w0 w μ vs hS hC;have dp:id<J.length:=(ab.1 hid).1;have kH:j<cs.length:=(ab.1 hj).1
 have h:=hS.update (w':=w) (J':=J.set id (.box T (cs.set j y))) (μ':=μ) id none (grownBy_refl w none) (by simp) (by simp) (fun k hk=>aK (fun e=>hk e.symm)) (fun k hk=>rfl)
  (fun b hb=>.inl ⟨_,hid,by simp,hb⟩)
  (fun b off v o ho hd hb hc hw=>⟨hc,fun o' ho' hb' ha=>hw ⟨id,o,ho,hb,by
   rw[hid]at ho;cases ho;trivial⟩⟩)
  (fun T' cs' h=>by rw[hid]at h;cases h;exact⟨⟨_,by rw[ao dp]⟩,rfl⟩)
  (fun K E es h=>by rw[hid]at h;cases h)
  (fun E sz by' g' sh ys _ h=>by rw[ao dp]at h;simp at h)
  (fun hp o ho=>by
   rw[ao dp]at ho;simp only[aa]at ho;subst ho;obtain⟨b,us,h1,h2,h3,h4,h5⟩:=hS.obj id _ hid;refine⟨b,us,h1,h2,h3,by simpa using h4,fun k z hz=>?_⟩
   by_cases hk:j=k
   ·subst hk;rw[ao kH]at hz;simp only[aa]at hz;subst hz;obtain⟨u,h6,h7⟩:=h5 j x hj;exact⟨u,h6,(hv w μ u (fun i o ho=>⟨P,B,hS.obj i o ho⟩) h7).mono hp⟩
   ·rw[aK hk]at hz;obtain⟨u,h6,h7⟩:=h5 k z hz;exact⟨u,h6,h7.mono hp⟩)
 exact⟨μ,h.1,⟨hC.1,fun i x hx=>(hC.2 i x hx).mono h.2⟩,h.2.eO.Li⟩
theorem Wk.Wa{P:Program}{n:Nat}{xs:List V}{J:ae}{id T j idr E sz by' g:Nat}{cs:List V}{sh:Bool}{rows:List (List V)}(hid:J[id]?=some (.box T cs))(hj:cs[j]?=some .nil)(hr:J[idr]?=some (.row E sz by' g sh rows)):
  Wk P n xs J xs ((J.set idr (.row E sz by' (g+1) false [])).set id (.box T (cs.set j (.own idr (g+1))))):=by
 have ig:id≠idr:=fun e=>by subst e;rw[hid]at hr;cases hr
 intro B w0 w μ vs hS hC;have Lv:idr<J.length:=(ab.1 hr).1;obtain⟨hT,_⟩:=hS.obj idr _ hr
 have h:=hS.update (w':=w) (J':=J.set idr (.row E sz by' (g+1) false [])) (μ':=pD μ idr (.slice none 0 0)) idr none (grownBy_refl w none) (by simp) (by simp) (fun k hk=>aK (fun e=>hk e.symm)) (fun k hk=>mf _ _ _ _ hk)
  (fun b hb=>by rw[dV]at hb;simp[ir]at hb)
  (fun b off v o ho hd hb hc hw=>⟨hc,fun o' ho' hb'=>by rw[dV]at hb';simp[ir]at hb'⟩)
  (fun T' cs' h=>by rw[hr]at h;cases h)
  (fun K E es h=>by rw[hr]at h;cases h)
  (fun E2 sz2 by2 g' sh2 ys _ h=>by
   rw[ao Lv]at h;simp only[aa,Ob.row.injEq]at h;obtain⟨rfl,rfl,rfl,rfl,rfl,rfl⟩:=h;exact⟨g,sh,rows,hr,by omega,fun e=>by omega⟩)
  (fun hp o ho=>by
   rw[ao Lv]at ho;simp only[aa]at ho;subst ho;rw[dV];exact⟨hT,[],World.ownsRow_nil w B E sz,by simp,by simp[fw]⟩)
 have vX:(J.set idr (.row E sz by' (g+1) false []))[id]?=some (.box T cs):=by rw[aK (fun e=>ig e.symm)];exact hid
 have sA:(J.set idr (.row E sz by' (g+1) false []))[idr]?=some (.row E sz by' (g+1) false []):=by rw[ao Lv]
 have yd:id<(J.set idr (.row E sz by' (g+1) false [])).length:=(ab.1 vX).1;have kH:j<cs.length:=(ab.1 hj).1
 have h2:=h.1.update (w':=w) (J':=(J.set idr (.row E sz by' (g+1) false [])).set id (.box T (cs.set j (.own idr (g+1))))) (μ':=pD μ idr (.slice none 0 0)) id none (grownBy_refl w none) (by simp) (by simp) (fun k hk=>aK (fun e=>hk e.symm)) (fun k hk=>rfl)
  (fun b hb=>.inl ⟨_,vX,by simp,hb⟩)
  (fun b off v o ho hd hb hc hw=>⟨hc,fun o' ho' hb' ha=>hw ⟨id,o,ho,hb,by
   rw[vX]at ho;cases ho;trivial⟩⟩)
  (fun T' cs' h=>by rw[vX]at h;cases h;exact⟨⟨_,by rw[ao yd]⟩,rfl⟩)
  (fun K E es h=>by rw[vX]at h;cases h)
  (fun E sz by' g' sh ys _ h=>by rw[ao yd]at h;simp at h)
  (fun hp o ho=>by
   rw[ao yd]at ho;simp only[aa]at ho;subst ho;obtain⟨b,us,h1,h2,h3,h4,h5⟩:=h.1.obj id _ vX;refine⟨b,us,h1,h2,h3,by simpa using h4,fun k z hz=>?_⟩
   by_cases hk:j=k
   ·subst hk;rw[ao kH]at hz;simp only[aa]at hz;subst hz;obtain⟨u,h6,h7⟩:=h5 j .nil hj;have hu:=h7.kp;subst hu;have:=(VR.nD (w:=w) (μ:=pD μ idr (.slice none 0 0)) sA);rw[dV]at this;exact⟨_,h6,this.mono hp⟩
   ·rw[aK hk]at hz;obtain⟨u,h6,h7⟩:=h5 k z hz;exact⟨u,h6,h7.mono hp⟩)
 exact⟨_,h2.1,⟨hC.1,fun i x hx=>((hC.2 i x hx).mono h.2).mono h2.2⟩,fun x v hv hl=>(hv.mono h.2).mono h2.2⟩
theorem Wk.yy{P:Program}{n:Nat}{xs:List V}{J:ae}{id T j E sz by':Nat}{cs:List V}(hT:Ti P E sz by')(hid:J[id]?=some (.box T cs))(hj:cs[j]?=some .nil):
  Wk P n xs J xs ((J.set id (.box T (cs.set j (.own J.length 0))))++[.row E sz by' 0 false []]):=by
 intro B w0 w μ vs hS hC;have dp:id<J.length:=(ab.1 hid).1;have hn:=hS.ph (w':=w) (.row E sz by' 0 false []) (.slice none 0 0) (grownBy_refl w none) (by simp[ir]) (fun _=>⟨hT,[],World.ownsRow_nil w B E sz,by simp,by simp[fw]⟩);have hr:(J++[.row E sz by' 0 false []])[J.length]?=some (.row E sz by' 0 false []):=by simp
 have vX:(J++[.row E sz by' 0 false []])[id]?=some (.box T cs):=by rw[ai dp];exact hid
 have yd:id<(J++[Ob.row E sz by' 0 false []]).length:=by simp;omega
 have kH:j<cs.length:=(ab.1 hj).1;have he:(J.set id (.box T (cs.set j (.own J.length 0))))++[Ob.row E sz by' 0 false []]=(J++[Ob.row E sz by' 0 false []]).set id (.box T (cs.set j (.own J.length 0))):=by rw[gF _ _ dp]
 rw[he]
 have h2:=hn.1.update (w':=w) (J':=(J++[Ob.row E sz by' 0 false []]).set id (.box T (cs.set j (.own J.length 0)))) (μ':=pD μ J.length (.slice none 0 0)) id none (grownBy_refl w none) (by simp) (by simp) (fun k hk=>aK (fun e=>hk e.symm)) (fun k hk=>rfl)
  (fun b hb=>.inl ⟨_,vX,by simp,hb⟩)
  (fun b off v o ho hd hb hc hw=>⟨hc,fun o' ho' hb' ha=>hw ⟨id,o,ho,hb,by
   rw[vX]at ho;cases ho;trivial⟩⟩)
  (fun T' cs' h=>by rw[vX]at h;cases h;exact⟨⟨_,by rw[ao yd]⟩,rfl⟩)
  (fun K E es h=>by rw[vX]at h;cases h)
  (fun E sz by' g' sh ys _ h=>by rw[ao yd]at h;simp at h)
  (fun hp o ho=>by
   rw[ao yd]at ho;simp only[aa]at ho;subst ho;obtain⟨b,us,h1,h2,h3,h4,h5⟩:=hn.1.obj id _ vX;refine⟨b,us,h1,h2,h3,by simpa using h4,fun k z hz=>?_⟩
   by_cases hk:j=k
   ·subst hk;rw[ao kH]at hz;simp only[aa]at hz;subst hz;obtain⟨u,h6,h7⟩:=h5 j .nil hj;have hu:=h7.kp;subst hu;have:=(VR.nD (w:=w) (μ:=pD μ J.length (.slice none 0 0)) hr);rw[dV]at this;exact⟨_,h6,this.mono hp⟩
   ·rw[aK hk]at hz;obtain⟨u,h6,h7⟩:=h5 k z hz;exact⟨u,h6,h7.mono hp⟩)
 exact⟨_,h2.1,⟨hC.1,fun i x hx=>((hC.2 i x hx).mono hn.2).mono h2.2⟩,fun x v hv hl=>(hv.mono hn.2).mono h2.2⟩
theorem cc.cut{n:Nat}{P:Program}{a b:bH}{K:Exit→St→Prop}{st:St}(h:∀ R:St→Prop,(∀ st',cc n P b K st'→R st')→wq n P a (BB R K) st):cc n P (.seq a b) K st:=by
 refine cc.seq ?_;refine(aB (h (cc n P b K) fun _ h=>h)).mono fun e st' hk=>?_;cases e<;>exact hk
theorem cc.iS{n:Nat}{P:Program}{c:bH}{K:Exit→St→Prop}{fr fr':List V}{J:ae}(k:cc n P c K ⟨fr',J⟩)(hc:oY fr fr'):cc n P c K ⟨fr,J⟩:=cc.wk (Wk.iS hc) k
theorem cc.drop{n:Nat}{P:Program}{c:bH}{K:Exit→St→Prop}{fr fr':List V}{J:ae}(l loc:ae)(hn:n≤J.length+l.length)(bz:bK (J++l))(hc:oY fr fr')(hl:eQ (J.length+l.length) fr')(k:cc n P c K ⟨fr',J++l⟩):cc n P c K ⟨fr,J++(l++loc)⟩:=by
 rw[← List.append_assoc];exact cc.wk ((Wk.iS hc).trans (Wk.Bc (by rw[ak];exact hn) bz (by rw[ak];exact eG.1 hl))) k
theorem vH{J l l':ae}(h:bK (J++l))(hl:l.length≤l'.length)(hb:∀ o∈l',match o with | .box _ cs=>eQ (J.length+l'.length) cs | .map _ _ es=>eQ (J.length+l'.length) (es.map (·.2)) | .iter _ m _ _ _ _=>m<J.length+l'.length | _=>True):bK (J++l'):=by
 intro id o hid j x hx;rw[ak];rcases fp id J.length with dp | Ly
 ·rw[ai dp]at hid;have:=h id o (by rw[ai dp];exact hid) j x hx;rw[ak]at this;exact this.mono (by omega)
 ·rw[aH Ly]at hid;exact HE (hb _ (aV hid)) j x hx
theorem Dw{J:ae}{id:Nat}{o:Ob}(h:J[id]?=some o):J.set id o=J:=by
 apply gN;intro j
 by_cases hj:id=j
 ·subst hj;rw[ao (ab.1 h).1,h]
 ·rw[aK hj]
theorem PC.fzs{P:Program}{f:Nat}{args zs:List V}{J:ae}{v:V}(id:Nat){E sz by' g:Nat}{rows:List (List V)}(ho:J[id]?=some (.row E sz by' g true rows))
  (h:PC P f zs J (fun r J'=>r=v∧J'=J)) (hz:args.map (Pm.fz id g sz rows)=zs):PC P f args J (fun r J'=>r=v∧J'=J):=by
 have hw:=Wk.fz (P:=P) (n:=J.length) (xs:=args) id ho;rw[Dw ho,hz]at hw;exact PC.wk hw h
theorem Wk.Ta{P:Program}{n:Nat}{xs:List V}{J:ae}{E sz by' g:Nat}{sh:Bool}{rows:List (List V)}:Wk P n xs (J++[.row E sz by' g sh rows]) xs (J++[.row E sz by' g true rows]):=by
 have:=Wk.share (P:=P) (n:=n) (xs:=xs) (J:=J++[.row E sz by' g sh rows]) (id:=J.length) (E:=E) (sz:=sz) (by':=by') (g:=g) (sh:=sh) (rows:=rows) (by simp)
 rwa [cI _ _ (au _),eT]at this
theorem Jq{n:Nat}{P:Program}{c:bH}{K:Exit→St→Prop}{N:Nat}{st:St}(h:∀ R:St→Prop,(∀ st',fJ n P c K N st'→R st')→cc n P c (BB R K) st):fJ n P c K (N+1) st:=by
 simp only[fJ];exact(h (fJ n P c K N) fun _ h=>h).mono fun e st' hk=>by cases e<;>exact hk
theorem cc.YO{n:Nat}{P:Program}{a b:bH}{K:Exit→St→Prop}{st:St}(h:∀ R:St→Prop,(∀ st',cc n P b K st'→R st')→cc n P a (BB R K) st):cc n P (.seq a b) K st:=by
 refine cc.seq ?_;refine(h (cc n P b K) fun _ h=>h).mono fun e st' hk=>?_;cases e<;>exact hk
theorem cc.ir{n:Nat}{P:Program}{id:Nat}{c:bH}{K:Exit→St→Prop}{st:St}(h:cc n P c (yS id K) st):cc n P (.block id c) K st :=
 cc.block (h.mono fun e st' hk=>by
  cases e with
  | exit id' =>
   simp only[yS]at hk;simp only[uU];split at hk<;>rename_i h1<;>simp only[h1,aO,aJ]<;>exact hk
  | _=>exact hk)
inductive Mv (n:Nat) (loc:ae) (ks:List Nat):V→V→Prop
 | own (i k E sz by' g:Nat) (sh:Bool) (rows:List (List V)) (hk:ks[i]?=some k) (ho:loc[k]?=some (.row E sz by' g sh rows)):Mv n loc ks (.own (n+k) g) (.own (n+i) 0)
 | eO (x:V) (h:x.Lt n):Mv n loc ks x x
 | forget (x:V):Mv n loc ks x .u
 | agg (xs ys:List V) (hl:ys.length=xs.length) (h:∀ (i:Nat) (x y:V),xs[i]?=some x→ys[i]?=some y→Mv n loc ks x y):Mv n loc ks (.agg xs) (.agg ys)
inductive SI (n:Nat) (loc:ae) (ks:List Nat):List V→List V→Prop
 | nil:SI n loc ks [] []
 | cons {x y xs ys} (h:Mv n loc ks x y) (t:SI n loc ks xs ys):SI n loc ks (x::xs) (y::ys)
theorem SI.at{n:Nat}{loc:ae}{ks:List Nat}{xs ys:List V}(h:SI n loc ks xs ys):ys.length=xs.length∧∀ (i:Nat) (x y:V),xs[i]?=some x→ys[i]?=some y→Mv n loc ks x y:=by
 induction h with
 | nil=>simp
 | cons h t ih =>
  refine⟨by simp[ih.1],fun i x y hx hy=>?_⟩;cases i with
  | zero=>simp only[aq,aa]at hx hy;subst hx;subst hy;exact h
  | succ i=>exact ih.2 i x y (by simpa using hx) (by simpa using hy)
theorem Wk.XH{P:Program}{xs ys:List V}{J loc os:ae}(ks:List Nat)(bz:bK J)(nq:ks.Nodup)(hlen:os.length=ks.length)
  (hos:∀ (i k:Nat),ks[i]?=some k→∃ o,loc[k]?=some o∧o.flat=true∧os[i]?=some o.fresh) (hx:SI J.length loc ks xs ys):Wk P J.length xs (J++loc) ys (J++os):=by
 intro B w0 w μ vs hS hC;let μ':Mem:=fun j=>if j<J.length then μ j else μ (J.length+ks.getD (j - J.length) 0)
 have kB:∀ id,id<J.length→μ' id=μ id:=fun id h=>by simp only[μ'];rw[aI h]
 have X9:∀ i k,ks[i]?=some k→μ' (J.length+i)=μ (J.length+k):=fun i k hk=>by
  simp only[μ'];rw[aw (by omega),cR,ar,hk];rfl
 have eH:∀ id,id<J.length→(J++os)[id]?=(J++loc)[id]?:=fun id h=>by rw[ai h,ai h]
 have QU:∀ i,(J++os)[J.length+i]?=os[i]?:=fun i=>by rw[aH (by omega),cR]
 have Yy:∀ i,(J++loc)[J.length+i]?=loc[i]?:=fun i=>by rw[aH (by omega),cR]
 have cases0:∀ {id o'},(J++os)[id]?=some o'→(id<J.length∧(J++loc)[id]?=some o'∧μ' id=μ id) ∨
   (∃ i k o,id=J.length+i∧ks[i]?=some k∧(J++loc)[J.length+k]?=some o∧o.flat=true∧o'=o.fresh∧μ' id=μ (J.length+k)):=by
  intro id o' h;rcases fp id J.length with hl | hg
  ·exact .inl ⟨hl,eH id hl▸h,kB id hl⟩
  ·right;obtain⟨i,rfl⟩:∃ i,id=J.length+i:=⟨id - J.length,by omega⟩;rw[QU]at h;have hi:i<ks.length:=by rw[← hlen];exact(ab.1 h).1
   obtain⟨k,hk⟩:∃ k,ks[i]?=some k:=⟨_,al hi⟩;obtain⟨o,h1,h2,h3⟩:=hos i k hk;rw[h]at h3;exact⟨i,k,o,rfl,hk,by rw[Yy];exact h1,h2,ga h3,X9 i k hk⟩
 have hw:∀ b off,wr (J++os) μ' b off→wr (J++loc) μ b off:=by
  rintro b off ⟨id,o',h1,h2,h3⟩;rcases cases0 h1 with⟨h4,h5,h6⟩ | ⟨i,k,o,rfl,_,h5,h6,rfl,h7⟩
  ·exact⟨id,o',h5,h6▸h2,h3⟩
  ·exact⟨J.length+k,o,h5,h7▸h2,by cases o<;>exact h3⟩
 have mv:∀ {x v},VR w (J++loc) μ x v→x.Lt J.length→VR w (J++os) μ' x v:=fun h hl=>h.Sf (m:=J.length) (by simp) hw eH kB hl;obtain⟨qd,hxm⟩:=hx.at;refine⟨μ',⟨hS.below,hS.base,fun id o' ho'=>?_,fun i j oi oj b hi hj h1 h2 h3 h4=>?_⟩,⟨by rw[qd];exact hC.1,fun i y hy=>?_⟩,fun x v hv hl=>mv hv hl⟩
 ·rcases cases0 ho' with⟨h4,h5,h6⟩ | ⟨i,k,o,rfl,_,h5,h6,rfl,h7⟩
  ·have cX:=hS.obj id o' h5;rw[h6];cases o' with
   | dead=>trivial
   | box T cs =>
    obtain⟨b,us,h1,h2,h3,h4',h5'⟩:=cX;have mS:=bz id _ (by rwa [ai h4]at h5);exact⟨b,us,h1,h2,h3,h4',fun j x hj=>let ⟨u,h6,h7⟩:=h5' j x hj;⟨u,h6,mv h7 (mS j x hj)⟩⟩
   | row E sz by' g sh rows =>
    obtain⟨h1,vals,h2,h3⟩:=cX;exact⟨h1,vals,h2,h3.1,fun i j x hj=>let ⟨h4,u,h5,h6⟩:=h3.2 i j x hj;⟨h4,u,h5,mv h6 (jP h4 _)⟩⟩
   | map K E es =>
    have h5':=h5;have hlt':=h4;obtain⟨r,ents,clock,h1,h2,h3,h4⟩:=cX;exact⟨r,ents,clock,h1,h2,h3,h4.1,fun i k x hi=>let ⟨h5,h6,e,h7,h8,h9⟩:=h4.2.1 i k x hi;⟨h5,h6,e,h7,mv h8 (sY h5 _),mv h9 (map_lt (bz id (.map K E es) (by rwa [ai hlt']at h5')) hi)⟩,h4.2.2⟩
   | iter st m E n ps c =>
    have dp:m<J.length:=by
     have:=bz id _ (by rwa [ai h4]at h5) 0 (.mp m) rfl;cases this;assumption
    exact uD cX (eH m dp) (kB m dp)
  ·have cX:=hS.obj (J.length+k) o h5;rw[h7];cases o with
   | dead=>trivial
   | box T cs=>simp[Ob.flat]at h6
   | row E sz by' g sh rows =>
    obtain⟨h1,vals,h2,h3⟩:=cX;exact⟨h1,vals,h2,h3.1,fun i j x hj=>let ⟨h4,u,h5,h6⟩:=h3.2 i j x hj;⟨h4,u,h5,mv h6 (jP h4 _)⟩⟩
   | map K E es =>
    have qN:=h6;obtain⟨r,ents,clock,h1,h2,h3,h4⟩:=cX;exact⟨r,ents,clock,h1,h2,h3,h4.1,fun i k x hi=>let ⟨h5,h6,e,h7,h8,h9⟩:=h4.2.1 i k x hi;⟨h5,h6,e,h7,mv h8 (sY h5 _),mv h9 (map_lt (IC qN _) hi)⟩,h4.2.2⟩
   | iter st m E n ps c=>simp[Ob.flat]at h6
 ·have nd:∀ {o:Ob},o.fresh≠.dead→o≠.dead:=fun h e=>h (by rw[e];rfl);rcases cases0 hi with⟨i1,i2,i3⟩ | ⟨i',k,o,rfl,ik,i5,_,rfl,i7⟩<;>rcases cases0 hj with⟨j1,j2,j3⟩ | ⟨j',k',o',rfl,jk,j5,_,rfl,j7⟩
  ·exact hS.sep i j oi oj b i2 j2 h1 h2 (i3▸h3) (j3▸h4)
  ·have:=hS.sep i (J.length+k') oi o' b i2 j5 h1 (nd h2) (i3▸h3) (j7▸h4);omega
  ·have:=hS.sep (J.length+k) j o oj b i5 j2 (nd h1) h2 (i7▸h3) (j3▸h4);omega
  ·have e:=hS.sep (J.length+k) (J.length+k') o o' b i5 j5 (nd h1) (nd h2) (i7▸h3) (j7▸h4);have e:k=k':=by omega
   subst e
   have e2:i'=j':=by
    obtain⟨l1,g1⟩:=ab.1 ik;obtain⟨l2,g2⟩:=ab.1 jk;exact(List.getElem_inj nq).1 (g1.trans g2.symm)
   rw[e2]
 ·have rz:i<xs.length:=by rw[← qd];exact(ab.1 hy).1
  obtain⟨x,vV⟩:∃ x,xs[i]?=some x:=⟨_,al rz⟩;have hv:=hC.2 i x vV;have hm:=hxm i x y vV hy;clear vV hy rz;generalize vs.getD i undef=v at hv ⊢
  induction hm generalizing v with
  | own i' k E sz by' g sh rows hk ho =>
   have hk':(J++loc)[J.length+k]?=some (.row E sz by' g sh rows):=by rw[Yy];exact ho
   have h1:=hv.jS hk';have hi':i'<os.length:=by rw[hlen];exact(ab.1 hk).1
   obtain⟨o,q1,_,q3⟩:=hos i' k hk;rw[ho]at q1;simp only[aa]at q1;subst q1;refine .own _ _ _ (by simp;omega) fun E2 sz2 by2 g2 sh2 xs2 ho'=>?_;rw[QU,q3]at ho';simp only[Ob.fresh,aa,Ob.row.injEq]at ho';rw[X9 i' k hk];exact⟨eY _,fun _=>h1⟩
  | eO x h=>exact mv hv h
  | forget x=>exact .u _
  | agg as bs hl h ih =>
   obtain⟨us,rfl,h1,h2⟩:=hv.gA;refine .agg bs us (by rw[hl,h1]) fun j y hj=>?_;have kH:j<as.length:=by rw[← hl];exact(ab.1 hj).1
   exact ih j _ y (al kH) hj _ (h2 j _ (al kH))
theorem Mv.OT{n:Nat}{loc:ae}{ks:List Nat}{xs ys:List V}(h:SI n loc ks xs ys):Mv n loc ks (.agg xs) (.agg ys):=.agg xs ys h.at.1 h.at.2
end Go.Pm
namespace Go.Pm
theorem itT{a b:Prop}:((true=true→a)∧(true=false→b))=a:=by simp
theorem itF{a b:Prop}:((false=true→a)∧(false=false→b))=b:=by simp
def IT:=And.intro @itT @itF
theorem bb:(true==true)=true∧(false==true)=false∧(true==false)=false∧(false==false)=true:=⟨rfl,rfl,rfl,rfl⟩
end Go.Pm
namespace Go.Pm
open Go Go.RowKit
theorem cc.abF{n:Nat}{P:Program}{a b:bH}{K:Exit→St→Prop}{st:St}
  (h:∀ R:St→Prop,(∀ st',cc n P b K st'→R st')→(∀ {fr fr':List V} {J J':ae},Wk P n fr J fr' J'→R ⟨fr',J'⟩→R ⟨fr,J⟩)→wq n P a (BB R K) st):cc n P (.seq a b) K st:=by
 refine cc.seq ?_;refine(aB (h (cc n P b K) (fun _ h=>h) fun hw h=>cc.wk hw h)).mono fun e st' hk=>?_;cases e<;>exact hk
theorem Wk.YJ{P:Program}{n:Nat}{xs:List V}{J loc:ae}(k:Nat){E sz by' g:Nat}{sh:Bool}{rows:List (List V)}(hk:loc[k]?=some (.row E sz by' g sh rows)):
  Wk P n xs (J++loc) (xs.map (Pm.fz (J.length+k) g sz rows)) (J++loc.set k (.row E sz by' g true rows)):=by
 have:=Wk.fz (P:=P) (n:=n) (xs:=xs) (J:=J++loc) (J.length+k) (by rw[tM];exact hk)
 rwa [yV]at this
end Go.Pm
namespace Go.Bt
open Go Go.Pm
section
variable {α β:Type} [DecidableEq α]
def dJ(a:α):List (α×β)→Nat→Option (Nat×β)
 | [],_=>none
 | p::l,k=>if a=p.1 then some (k,p.2)else dJ a l (k+1)
def bS(a:α)(l:List (α×β)):Option β:=(dJ a l 0).map (·.2)
def eW(l:List (α×β))(a:α)(b:β):List (α×β) :=
 match l with
 | []=>[(a,b)]
 | p::l=>if a=p.1 then(a,b)::l else p::eW l a b
def emap(ke:α→V)(ve:β→V)(l:List (α×β)):List (V×V):=l.map fun p=>(ke p.1,ve p.2)
theorem jj(a:α):∀ (l:List (α×β)) (k:Nat),(dJ a l k).map (·.2)=bS a l
 | [],_=>rfl
 | p::l,k=>by
  simp only[bS,dJ];split
  ·rfl
  ·rw[jj a l (k+1),jj a l (0+1)]
theorem Ex(a:α):bS a ([]:List (α×β))=none:=rfl
theorem kT(a:α)(p:α×β)(l:List (α×β)):bS a (p::l)=if a=p.1 then some p.2 else bS a l:=by
 simp only[bS,dJ];split
 ·rfl
 ·rw[jj a l (0+1)];rfl
theorem gr(l:List (α×β))(a:α)(b:β)(x:α):bS x (eW l a b)=if x=a then some b else bS x l:=by
 induction l with
 | nil=>simp only[eW,kT,Ex]
 | cons p l ih =>
  simp only[eW];split
  ·rename_i h;simp only[kT]
   by_cases hx:x=a
   ·simp[hx]
   ·have:¬ x=p.1:=fun h2=>hx (h2.trans h.symm);simp[hx,this]
  ·rename_i h;simp only[kT,ih]
   by_cases hx:x=p.1
   ·have:¬ x=a:=fun h2=>h (h2.symm.trans hx);simp only[this,aJ,hx,aO];split
    ·rename_i h3;exact absurd h3.symm h
    ·rfl
   ·simp[hx]
theorem C9(l:List (α×β))(a:α)(b:β):(eW l a b).length≤l.length+1:=by
 induction l with
 | nil=>simp[eW]
 | cons p l ih =>
  simp only[eW];split<;>simp<;>omega
theorem IY{l:List (α×β)}{a:α}{b:β}(h:bS a l=none):eW l a b=l++[(a,b)]:=by
 induction l with
 | nil=>rfl
 | cons p l ih =>
  rw[kT]at h;split at h
  ·simp at h
  ·rename_i h1;simp only[eW,h1,aJ,bg];rw[ih h]
variable {kd:Nat} {ke:α→V} {ve:β→V}
theorem r7(hk:∀ a b,bX kd (ke a) (ke b)=some (decide (a=b)))(a:α):∀ (l:List (α×β)) (k:Nat),dM kd (ke a) (emap ke ve l) k=some ((dJ a l k).map fun p=>(p.1,ve p.2))
 | [],k=>rfl
 | p::l,k=>by
  have ih:=r7 hk a l (k+1);simp only[emap,az,dM,hk,dJ]at ih ⊢
  by_cases h:a=p.1
  ·simp[h]
  ·simp only[h,zd,aJ];exact ih
theorem EI(a:α)(b:β):∀ (l:List (α×β)) (k i:Nat) (b0:β),dJ a l k=some (k+i,b0)→(emap ke ve l).set i (ke a,ve b)=emap ke ve (eW l a b)
 | [],k,i,b0,h=>by simp[dJ]at h
 | p::l,k,i,b0,h=>by
  simp only[dJ]at h
  by_cases h1:a=p.1
  ·simp only[h1,aO,aa,an]at h;have:i=0:=by omega
   subst this;simp[emap,eW,h1]
  ·simp only[h1,aJ]at h
   have hi:∃ j,i=j+1:=by
    refine⟨i - 1,?_⟩
    have:∀ (l:List (α×β)) (k n:Nat) (x:β),dJ a l k=some (n,x)→k≤n:=by
     intro l
     induction l with
     | nil=>intro k n x h;simp[dJ]at h
     | cons q l ih =>
      intro k n x h;simp only[dJ]at h;split at h
      ·simp at h;omega
      ·have:=ih _ _ _ h;omega
    have:=this _ _ _ _ h;omega
   obtain⟨j,rfl⟩:=hi;have:=EI a b l (k+1) j b0 (by rw[h];congr 2;omega);simp only[emap,az,sk,eW,h1,aJ]at this ⊢;rw[this]
theorem iF(hk:∀ a b,bX kd (ke a) (ke b)=some (decide (a=b)))(l:List (α×β))(a:α):
  (bS a l=none∧dM kd (ke a) (emap ke ve l) 0=some none∧∀ b,emap ke ve l++[(ke a,ve b)]=emap ke ve (eW l a b)) ∨
  (∃ i b0,bS a l=some b0∧dM kd (ke a) (emap ke ve l) 0=some (some (i,ve b0))∧∀ b,(emap ke ve l).set i (ke a,ve b)=emap ke ve (eW l a b)):=by
 cases h:dJ a l 0 with
 | none =>
  have h1:bS a l=none:=by simp[bS,h]
  refine .inl ⟨h1,by rw[r7 hk,h];rfl,fun b=>?_⟩;rw[IY h1];simp[emap]
 | some p =>
  obtain⟨i,b0⟩:=p;refine .inr ⟨i,b0,by simp[bS,h],by rw[r7 hk,h];rfl,fun b=>?_⟩;exact EI a b l 0 i b0 (by rw[h];congr 2;omega)
end
def Vj(n:Int):V:=.i .i64 n
theorem Gl(a b:Int):bX 0 (Vj a) (Vj b)=some (decide (a=b)):=by
 simp[bX,Vj];rfl
end Go.Bt

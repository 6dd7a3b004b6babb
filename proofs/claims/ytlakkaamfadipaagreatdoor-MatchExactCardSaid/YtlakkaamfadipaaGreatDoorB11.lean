/- A part of a proof; the claim's last text says of what. -/
import Derived.Test.YtlakkaamfadipaaGreatDoorB10
set_option linter.all false

namespace Go.Pm
open Go Go.RowKit
def unV:UnOp->V->Option (Prop×V)
 |.not,.b p=>some (True,.b (!p))
 |.neg,.i k n=>some (True,.i k (k.wrap (0 - n)))
 |_,_=>none
def afY(fr:aB)(J:ak)(a:UnOp)(x:O):bT fr J (.un a x)=unV a (ev fr x):=by
 show(match a,ev fr x with
  |.not,.b p=>some (True,V.b (!p))
  |.neg,.i k n=>some (True,V.i k (k.wrap (0 - n)))
  |_,_=>none)=_
 rfl
set_option linter.defProp false in
def UE:=aC @uu.eq_1 @uu.eq_2
set_option linter.defProp false in
def JE:=aC (aC @fj.eq_1 @fj.eq_2) (aC @fh.eq_1 @fo.eq_1)
set_option linter.defProp false in
def EV:=(aC (aC (aC (aC (aC (aC @bT.eq_1 @bT.eq_2) (aC @bT.eq_3 @bT.eq_4)) (aC (aC @bT.eq_5 @bT.eq_6) (aC @bT.eq_7 @bT.eq_8))) (aC (aC (aC @bT.eq_9 @afY) (aC @unV.eq_1 (aC @unV.eq_2 @unV.eq_3))) (aC (aC @bT.eq_13 @bT.eq_14) (aC @bT.eq_15 (aC @bT.eq_16 @bT.eq_17))))) (aC (aC (aC (aC @bT.eq_18 @bT.eq_19) (aC @bT.eq_20 @bT.eq_21)) (aC (aC @bT.eq_22 @bT.eq_23) (aC @bT.eq_24 @bT.eq_25))) (aC (aC (aC @bT.eq_26 @bT.eq_27) (aC @bT.eq_28 @bT.eq_29)) (aC (aC @bT.eq_30 @bT.eq_31) (aC @bT.eq_32 (aC @dE.eq_1 @dE.eq_2)))))) (aC (aC (aC (aC (aC @dE.eq_3 @dE.eq_4) (aC @dE.eq_5 @dE.eq_6)) (aC (aC @dE.eq_7 @dE.eq_8) (aC @dE.eq_9 @dE.eq_10))) (aC (aC (aC @kM.eq_1 @kM.eq_2) (aC @kM.eq_3 @kM.eq_4)) (aC (aC @kM.eq_5 @kM.eq_6) (aC @kM.eq_7 (aC @kM.eq_8 @kM.eq_9))))) (aC (aC (aC (aC @kM.eq_10 @kM.eq_11) (aC @kM.eq_12 @kM.eq_13)) (aC (aC @kM.eq_14 @kM.eq_15) (aC @kM.eq_16 @kM.eq_17))) (aC (aC (aC @kM.eq_18 @kM.eq_19) (aC @kM.eq_20 @kM.eq_21)) (aC (aC @kM.eq_22 @kM.eq_23) (aC @kM.eq_24 (aC @kM.eq_25 @kM.eq_26)))))))
set_option linter.defProp false in
def W:=aC UE <| aC EV <| aC (aC (aC @zm.eq_1 @zl.eq_1) (aC (aC @zL.eq_1 @zf.eq_1) (aC @z.eq_1 @zs.eq_1))) (aC (aC (aC (aC (aC (aC (aC @Fm.eq_1
 (aC @Fm.eq_2
 @Fm.eq_3))
 (aC (aC @Fm.eq_4
 @Fm.eq_5)
 (aC @Fm.eq_6
 @Fm.eq_7)))
 (aC (aC (aC @Fm.eq_8
 (aC @Fm.eq_9 (aC (aC @Fm.eq_10 @V2.eq_1) (aC (aC (aC @Fm.eq_11 @Ux.eq_1) (aC @Ux.eq_2 (aC (aC @ZA (aC @WL @WM)) (aC (aC (aC @aj9.eq_1 (aC (aC @abr @X0) (aC @T9 (aC @Ua @T8)))) @aj7.eq_1) (aC @aj6.eq_1 @agf.eq_1))))) (aC (aC @ace @Ys) (aC (aC @Ym @Up) (aC @Zv @WE)))))))
 (aC @WO
 @ZC))
 (aC (aC @WN
 @ZB)
 (aC @P2
 @Zx))))
 (aC (aC (aC (aC @WG
 @Si)
 (aC @aci
 @Yt))
 (aC (aC @Yu
 @P7)
 (aC @ZF
 @WT)))
 (aC (aC (aC @aiE
 @ae2)
 (aC @abF
 @Yc))
 (aC (aC @afc
 @abD)
 (aC @aiP
 @aiQ)))))
 (aC (aC (aC (aC @aiR
 (aC @an2
 @aiL))
 (aC (aC @aiS
 @abB)
 (aC @Ya
 @aiI)))
 (aC (aC (aC @aiH
 @ae1)
 (aC @aiJ
 @aiG))
 (aC (aC @afa
 @ae6)
 (aC @afb
 @ae5))))
 (aC (aC (aC (aC @aiO
 @abG)
 (aC @abA
 @aiU))
 (aC (aC @aff
 (aC @an3 @afe))
 (aC @abE
 (aC (aC (aC @aiN @aiM) (aC @afg @aiT)) (aC (aC (aC (aC (aC @aiK (aC @ae0 (aC @aeZ (aC @afd (aC @abz @aiF))))) @ae9) (aC @ae8 @ae7)) (aC (aC @abC @ae3) (aC @adx (aC @aea @ad9)))) (aC @ae4 (aC @aed (aC @aec @aeb))))))))
 (aC (aC (aC @air
 @aeR)
 (aC @abw
 @X8))
 (aC (aC @aeW
 @abv)
 (aC @aix
 @aiy))))))
 (aC (aC (aC (aC (aC @aiz
 (aC @an1
 @aiw))
 (aC (aC @aiA
 @abu)
 (aC @X7
 @aiu)))
 (aC (aC (aC @ait
 @aeQ)
 (aC @aiv
 @ais))
 (aC (aC @aeU
 @aeT)
 (aC @aeV
 (aC @aeS @aeX)))))
 (aC (aC (aC (aC @V.pure.eq_1
 @V.pure.eq_2)
 (aC @V.pure.eq_3
 @V.pure.eq_4))
 (aC (aC @V.pure.eq_5
 @ajc.eq_1)
 (aC @KB.eq_1
 @ab6)))
 (aC (aC (aC @ab7
 @adp)
 (aC @ac0
 @adh))
 (aC (aC @gX.eq_1
 @gX.eq_2)
 (aC @chainB.eq_1
 @chainB.eq_2)))))
 (aC (aC (aC (aC @bT.eq_1
 (aC @bT.eq_2
 @bT.eq_3))
 (aC (aC @bT.eq_4
 @bT.eq_5)
 (aC @bT.eq_6
 @bT.eq_7)))
 (aC (aC (aC @bT.eq_8
 @bT.eq_9)
 (aC @afY
 @unV.eq_1))
 (aC (aC (aC @unV.eq_2 @unV.eq_3)
 @bT.eq_13)
 (aC @bT.eq_14
 @bT.eq_15))))
 (aC (aC (aC (aC @bT.eq_16
 @bT.eq_17)
 (aC @bT.eq_18
 @bT.eq_19))
 (aC (aC @bT.eq_20
 @bT.eq_21)
 (aC @bT.eq_22
 @bT.eq_23)))
 (aC (aC (aC @bT.eq_24
 @bT.eq_25)
 (aC @bT.eq_26
 @bT.eq_27))
 (aC (aC @bT.eq_28
 (aC (aC @bT.eq_29 @bT.eq_30) (aC @bT.eq_31 (aC (aC @bT.eq_32 @bT.eq_33) (aC @bT.eq_34 (aC @bT.eq_35 @bT.eq_36))))))
 (aC @dE.eq_1
 @dE.eq_2)))))))
 (aC (aC (aC (aC (aC (aC @dE.eq_3
 (aC @dE.eq_4
 @dE.eq_5))
 (aC (aC @dE.eq_6
 @dE.eq_7)
 (aC @dE.eq_8
 (aC @dE.eq_9 (aC (aC @dE.eq_11 @dE.eq_12) (aC @dE.eq_13 (aC @dE.eq_14 (aC @dE.eq_15 @Jh.eq_1))))))))
 (aC (aC (aC @ev.eq_1
 @ev.eq_2)
 (aC @fX.eq_1
 @fX.eq_2))
 (aC (aC @RZ.eq_1
 @tf.{0,0})
 (aC @dW.{0,0}
 @aA.{0}))))
 (aC (aC (aC (aC @aR.{0}
 @fK.{0})
 (aC @iE.{0}
 @jw.eq_1))
 (aC (aC @jw.eq_2
 @kt.eq_1)
 (aC @kt.eq_2
 @kq.eq_1)))
 (aC (aC (aC @kq.eq_2
 @kq.eq_3)
 (aC @kq.eq_4
 @kq.eq_5))
 (aC (aC @kq.eq_6
 (aC @kq.eq_7 (aC @kq.eq_8 @kq.eq_9)))
 (aC @eT.eq_1
 @eT.eq_2)))))
 (aC (aC (aC (aC @tJ.eq_1
 (aC @tJ.eq_2
 @tJ.eq_3))
 (aC (aC @Ct.eq_1
 @Ct.eq_2)
 (aC @gO.{0}
 @oL.{0})))
 (aC (aC (aC @uQ
 @df)
 (aC @cc
 @gA))
 (aC (aC @kP
 @jx)
 (aC @jX
 @qv))))
 (aC (aC (aC (aC @yM
 @ub)
 (aC @acm
 @ai.{0}))
 (aC (aC @al.{0}
 @aM.{0})
 (aC @bX.{0}
 @List.getElem?_nil.{0})))
 (aC (aC (aC @de
 @aY)
 (aC @aD
 @kM.eq_1))
 (aC (aC @kM.eq_2
 @kM.eq_3)
 (aC @kM.eq_4
 @kM.eq_5))))))
 (aC (aC (aC (aC (aC @kM.eq_6
 (aC @kM.eq_7
 @kM.eq_8))
 (aC (aC @kM.eq_9
 @kM.eq_10)
 (aC @kM.eq_11
 @kM.eq_12)))
 (aC (aC (aC @kM.eq_13
 @kM.eq_14)
 (aC @kM.eq_15
 @kM.eq_16))
 (aC (aC @kM.eq_17
 @kM.eq_18)
 (aC @kM.eq_19
 @kM.eq_20))))
 (aC (aC (aC (aC @kM.eq_21
 @kM.eq_22)
 (aC @kM.eq_23
 @kM.eq_24))
 (aC (aC @kM.eq_25
 @kM.eq_26)
 (aC @ao
 @mA.{0})))
 (aC (aC (aC @aoi.{0}
 @dt.{0})
 (aC @mD.{0}
 @aok.{0}))
 (aC (aC @iJ.{0}
 @bc.{0})
 (aC @bJ.{0}
 @bL.{0})))))
 (aC (aC (aC (aC @bk.{0}
 (aC @aH.{0,0}
 @bR.{0,0}))
 (aC (aC (aC @forall_const.{0} @forall_const.{1})
 @imp_self)
 (aC @beq_self_eq_true.{0}
 @mC.{0})))
 (aC (aC (aC @eq_self.{1}
 @gw.{0})
 (aC @Gt
 (aC @implies_true.{0} @implies_true.{1})))
 (aC (aC @fO
 @iw)
 (aC @cond_true.{1}
 @cond_false.{1}))))
 (aC (aC (aC (aC @afy
 @ab0)
 (aC @WJ
 @um))
 (aC (aC @qR
 @rowsOf.eq_1)
 (aC @rowsOf.eq_2
 @rowsOf.eq_3)))
 (aC (aC (aC @rowsOf.eq_4
 @rowsOf.eq_5)
 (aC @rowsOf.eq_6
 @E9.eq_1))
 (aC (aC @E9.eq_2
 @E9.eq_3)
 (aC @E9.eq_4
 @E9.eq_5))))))))
set_option linter.defProp false in
def VV:=aC W (aC (aC (aC @dE.eq_10 (aC @xK @iY)) (aC (aC @Bool.or_true @Bool.or_false) (aC @gB @dR)))
 (aC (aC @xG (aC @bytesOf.eq_1 @bytesOf.eq_2)) (aC @yK.eq_1 (aC @yK.eq_2 @Fg))))
set_option linter.defProp false in
def SS:=(aC (aC @ai.{0} (aC @al.{0} @Su.{0})) (aC @BU.{0} (aC @bJ.{0} @bc.{0})))
set_option linter.defProp false in
def RS:=aC (aC (aC @ni.eq_1 @ni.eq_2) (aC @xr.eq_1 @xr.eq_2)) VV
set_option linter.defProp false in
def LW:=aC UE (aC (aC (aC (aC @jP.eq_1 (aC @jP.eq_2 @aA.{0})) (aC @aR.{0} (aC @apa @apb))) (aC (aC @adB (aC @ahm @ahp)) (aC @ahq (aC @GS @amD)))) (aC (aC (aC @Xj (aC @Xi @aho)) (aC @ahl (aC @ahn @amA))) (aC (aC (aC @amB @amC) (aC @aai @ahk)) (aC @kP (aC @gA @jx)))))
def VR.aga{w:bD}{J:ak}{μ:Mem}{J':ak}{μ':Mem}{x:V}{v:Value}(h:VR w J μ x v){m:Nat}(z:m<=J'.length)
  (Q:∀b off,wr J' μ' b off->wr J μ b off) (A:∀id,id<m->J'[id]?=J[id]?) (B:∀id,id<m->μ' id=μ id) (d:x.Lt m):VR w J' μ' x v:=by
 induction h with
 |u v=>exact .u v
 |b x=>exact .b x
 |i k n=>exact .i k n
 |s l x e z=>exact .s l x e z
 |nil=>exact .nil
 |K4 p=>exact .K4 p
 |sle p a=>exact .sle p a
 |sl p q b o S f G U N t I ih =>
  exact .sl p q b o S f G U N (λi j x d=>⟨(t i j x d).1,λh=>(t i j x d).2.1 (Q _ _ h),(t i j x d).2.2⟩) (λi j x d=>ih i j x d (qB (t i j x d).2.2 m))
 |Ou p=>exact .Ou p
 |lit p q b o f U N t I ih =>
  exact .lit p q b o f U N (λi j x d=>⟨(t i j x d).1,λh=>(t i j x d).2.1 (Q _ _ h),(t i j x d).2.2⟩) (λi j x d=>ih i j x d (qB (t i j x d).2.2 m))
 |own id g v L h =>
  cases d with
  |own _ _ e=>exact .own id g v (by omega) λE p y F M q H=>by rw[B id e];exact h E p y F M q (A id e▸H)
 |sub id g Y R v L h =>
  cases d with
  |sub _ _ _ _ e=>exact .sub id g Y R v (by omega) λE p y F M q H=>by rw[B id e];exact h E p y F M q (A id e▸H)
 |ptr id off b h z =>
  cases d with
  |ptr _ _ e =>
   obtain⟨T,P,C⟩:=h;exact .ptr id off b ⟨T,P,(A id e).trans C⟩ ((B id e).trans z)
 |ep p q i off b o f R N t I ih =>
  exact .ep p q i off b o f R N (λj x d=>⟨(t j x d).1,λh=>(t j x d).2.1 (Q _ _ h),(t j x d).2.2⟩) (λj x d=>ih j x d (qB (t j x d).2.2 m))
 |rp id g i off v L h =>
  cases d with
  |rp _ _ _ _ e=>exact .rp id g i off v (by omega) λE p y F M q H=>by rw[B id e];exact h E p y F M q (A id e▸H)
 |mp id r h z =>
  cases d with
  |mp _ e =>
   obtain⟨K,E,Z,C⟩:=h;exact .mp id r ⟨K,E,Z,(A id e).trans C⟩ ((B id e).trans z)
 |it id v h z =>
  cases d with
  |it _ e =>
   obtain⟨X,m',E,n,W,c,C⟩:=h;exact .it id v ⟨X,m',E,n,W,c,(A id e).trans C⟩ ((B id e).trans z)
 |Af id n b h z =>
  cases d with
  |Af _ _ e =>
   obtain⟨T,P,C⟩:=h;exact .Af id n b ⟨T,P,(A id e).trans C⟩ ((B id e).trans z)
 |jG=>exact .jG
 |mu=>exact .mu
 |fn f O D e I ih =>
  cases d with
  |fn _ _ h=>exact .fn f O D e λi x d=>ih i x d (h i x d)
 |agg q D e I ih =>
  cases d with
  |agg _ h=>exact .agg q D e λi x d=>ih i x d (h i x d)
 |iQ q D e I ih =>
  cases d with
  |iQ _ h=>exact .iQ q D e λi x d=>ih i x d (h i x d)
def mv1(n k:Nat):V->V
 |.own id g=>if id=n+k then .own n 0 else .own id g
 |.mp id=>.mp (if id=n+k then n else id)
 |x=>x
def Ob.gen:Ob->Nat
 |.row _ _ _ g _ _=>g
 |_=>0
def Ob.fresh:Ob->Ob
 |.row E sz by' _ sh xs=>.row E sz by' 0 sh xs
 |o=>o
def Hn(n k a:Nat):V->Prop
 |.own id g=>(id=n+k/\g=a)\/id<n
 |.mp id=>id=n+k\/id<n
 |x=>x.Lt n
def Ob.flat:Ob->Bool
 |.row _ _ _ _ _ _=>true
 |.map _ _ es=>es.all λa=>a.2.pure
 |_=>false
def VZ{K E:Nat}{a:List (V×V)}(h:(Ob.map K E a).flat=true)(m:Nat)(j:Nat)(x:V)(b:(a.map (·.2))[j]?=some x):x.Lt m:=by
 rw[ck,aF]at b;obtain⟨c,d,rfl⟩:=b;simp only[Ob.flat,bY]at h;exact qB (h c (bE d)) m
def Wk.amI{P:bo}{xs:aB}{J loc:ak}(k:Nat){o:Ob}(bn:cn J)(hk:loc[k]?=some o)(ho:o.flat=true)(hx:∀x∈xs,Hn J.length k o.gen x):
  Wk P J.length xs (J++loc) (xs.map (mv1 J.length k)) (J++[o.fresh]):=by
 intro B w0 w L vs U hC;have xd:k<loc.length:=(ah.1 hk).1;let q:Mem:=λj=>if j=J.length then L (J.length+k)else L j
 have pQ:∀id,id<J.length->q id=L id:=λid h=>by simp only[q];rw[an (by omega)]
 have V:q J.length=L (J.length+k):=by simp[q]
 have ft:∀id,id<J.length->(J++[o.fresh])[id]?=(J++loc)[id]?:=λid h=>by rw[ay h,ay h]
 have h0:(J++[o.fresh])[J.length]?=some o.fresh:=by simp
 have z:(J++loc)[J.length+k]?=some o:=by rw[aU (by omega),fF];exact hk
 have d:∀{id G},(J++[o.fresh])[id]?=some G->(id<J.length/\(J++loc)[id]?=some G/\q id=L id)\/(id=J.length/\G=o.fresh):=by
  intro id G h;rcases kE id J.length with O|hg
  .exact .inl ⟨O,ft id O▸h,pQ id O⟩
  .right;have fk:=(ah.1 h).1;simp at fk;have:id=J.length:=by omega
   subst this;rw[h0]at h;exact⟨rfl,(gy h).symm⟩
 have hw:∀b M,wr (J++[o.fresh]) q b M->wr (J++loc) L b M:=by
  rintro b M ⟨id,G,l,p,f⟩;rcases d l with⟨a,s,A⟩|⟨rfl,rfl⟩
  .exact⟨id,G,s,A▸p,f⟩
  .exact⟨J.length+k,o,z,V▸p,by cases o<;>exact f⟩
 have D:∀{x v},VR w (J++loc) L x v->x.Lt J.length->VR w (J++[o.fresh]) q x v:=λh O=>h.aga (m:=J.length) (by simp) hw ft pQ O;refine⟨q,⟨U.below,U.base,λid G t=>?_,λi j oi oj b Q I l p f a=>?_⟩,⟨by simp[hC.1],λi y hy=>?_⟩,λx v R O=>D R O⟩
 .rcases d t with⟨a,s,A⟩|⟨rfl,rfl⟩
  .have S:=U.obj id G s;rw[A];cases G with
   |dead=>trivial
   |box T cs =>
    obtain⟨b,us,l,p,f,af,N⟩:=S;have pN:=bn id _ (by rwa [ay a]at s);exact⟨b,us,l,p,f,af,λj x I=>let ⟨u,A,Y⟩:=N j x I;⟨u,A,D Y (pN j x I)⟩⟩
   |row E sz Z g sh H =>
    obtain⟨l,F,p,f⟩:=S;exact⟨l,F,p,f.1,λi j x I=>let ⟨a,u,s,A⟩:=f.2 i j x I;⟨a,u,s,D A (qB a _)⟩⟩
   |map K E es =>
    have N:=s;have X:=a;obtain⟨r,C,clock,l,p,f,a⟩:=S;exact⟨r,C,clock,l,p,f,a.1,λi k x Q=>let ⟨s,A,e,Y,h8,h9⟩:=a.2.1 i k x Q;⟨s,A,e,Y,D h8 (Ea s _),D h9 (map_lt (bn id (.map K E es) (by rwa [ay X]at N)) Q)⟩,a.2.2⟩
   |iter st m E n ps c =>
    have fk:m<J.length:=by
     have:=bn id _ (by rwa [ay a]at s) 0 (.mp m) rfl;cases this;assumption
    exact FX S (ft m fk) (pQ m fk)
  .have S:=U.obj (J.length+k) o z;rw[V];cases o with
   |dead=>trivial
   |box T cs=>simp[Ob.flat]at ho
   |row E sz Z g sh H =>
    obtain⟨l,F,p,f⟩:=S;exact⟨l,F,p,f.1,λi j x I=>let ⟨a,u,s,A⟩:=f.2 i j x I;⟨a,u,s,D A (qB a _)⟩⟩
   |map K E es =>
    obtain⟨r,C,clock,l,p,f,a⟩:=S;exact⟨r,C,clock,l,p,f,a.1,λi k x Q=>let ⟨s,A,e,Y,h8,h9⟩:=a.2.1 i k x Q;⟨s,A,e,Y,D h8 (Ea s _),D h9 (map_lt (VZ ho _) Q)⟩,a.2.2⟩
   |iter st m E n ps c=>simp[Ob.flat]at ho
 .rcases d Q with⟨i1,i2,i3⟩|⟨rfl,rfl⟩<;>rcases d I with⟨j1,j2,j3⟩|⟨rfl,rfl⟩
  .exact U.sep i j oi oj b i2 j2 l p (i3▸f) (j3▸a)
  .have:=U.sep i (J.length+k) oi o b i2 z l (by rintro rfl;exact p rfl) (i3▸f) (V▸a);omega
  .have:=U.sep (J.length+k) j o oj b z j2 (by rintro rfl;exact l rfl) p (V▸f) (j3▸a);omega
  .rfl
 .rw[ck,aF]at hy;obtain⟨x,K5,rfl⟩:=hy;have R:=hC.2 i x K5;have W:=hx x (bE K5);cases x with
  |own id g =>
   simp only[mv1];split
   .rename_i e;subst e
    have hg:g=o.gen:=by
     simp only[Hn,gA]at W;omega
    cases o with
    |row E sz Z g' sh H =>
     have am:g'=g:=hg.symm;subst am;have l:=R.mK z;refine .own _ _ _ (by simp) λE2 aa ab g2 ad ac t=>?_;rw[h0]at t;simp only[Ob.fresh,ae,Ob.row.injEq]at t;rw[V];exact⟨fA _,λ_=>l⟩
    |_=>exact .own _ _ _ (by simp) λE2 aa ab g2 ad ac t=>by rw[h0]at t;simp[Ob.fresh]at t
   .rename_i e;simp only[Hn,e,HG,nk]at W;exact D R (.own _ _ W)
  |mp id =>
   simp only[mv1];split
   .rename_i e;subst e;obtain⟨r,l,p,K,E,es,f⟩:=R.AQ;rw[l];refine .mp _ r ⟨K,E,es,?_⟩ (V.trans p);rw[h0];have a:=z.symm.trans f;simp only[ae]at a;subst a;rfl
   .rename_i e;simp only[Hn,e,nk]at W;exact D R (.mp _ W)
  |_=>exact D R W
def zh{P:bo}{a:List Rs}{Q:V->ak->Prop}{e:Exit}{fr:aB}{J loc:ak}{xs:aB}(k:Nat){o:Ob}(f:cn J)(d:e=.normal\/e=.ret)(i:ni ⟨fr,J++loc⟩ a=some xs)
  (b:loc[k]?=some o) (c:o.flat=true) (g:∀x∈xs,Hn J.length k o.gen x) (h:Q (one (xs.map (mv1 J.length k))) (J++[o.fresh])):rG P J.length a Q e ⟨fr,J++loc⟩ :=
 fH d i (Wk.amI k f b c g) (by simp) h
def PC.post{P:bo}{f:Nat}{args:aB}{J b σ1:ak}{k c:V}(h:PC P f args J (λr J'=>r=k/\J'=b))(t:Wk P J.length [k] b [c] σ1):PC P f args J (λr J'=>r=c/\J'=σ1):=by
 intro B l w j o E C;have z:∀x u,VR w J j x u->x.Lt J.length:=λx u h=>h.lt;refine(h B l w j o E C).mono ?_;rintro e m ⟨r,v,J',d,D,⟨rfl,rfl⟩,q,n,y⟩
 obtain⟨g,p,s,A⟩:=t B l m d #[v] q ⟨rfl,λi x a=>by
  cases i with
  |zero=>simp only[aM,ae]at a;subst a;simpa using n
  |succ i=>simp at a⟩
 exact⟨c,v,σ1,g,D,⟨rfl,rfl⟩,p,by have:=s.2 0 c rfl;simpa using this,λx u a=>A x u (y x u a) (z x u a)⟩
def PC.fz{P:bo}{f:Nat}{args:aB}{J:ak}{E sz by' g:Nat}{sh:Bool}{rows:dF}(a:cn J)
  (h:PC P f args J (λr J'=>r=.own J.length g/\J'=J++[.row E sz by' g sh rows])):PC P f args J (λr J'=>r=.sl sz rows/\J'=J):=by
 refine h.post ?_;refine(Wk.fz J.length (by simp;exact⟨rfl,rfl,rfl,rfl,rfl,rfl⟩)).trans ?_;rw[dA _ _ (aD _),jm];simp only[aH,bR,Pm.fz,oa,jx,aT];exact Wk.vN a (by simp only[jP,GS,jx])
def xl{P:bo}{d:cU}{f:Nat}{args:List O}{K:ca}{fr:aB}{J a:ak}{zs:aB}{v:V}(id:Nat){E sz by' g:Nat}{sh:Bool}{rows:dF}(b:J[id]?=some (.row E sz by' g sh rows))
  (h:PC P f zs (J.set id (.row E sz by' g true rows)) (λr J'=>r=v/\J'=a)) (c:(args.map (ev fr)).map (fz id g sz rows)=zs) (e:K ⟨fX fr d v,a⟩) :
  gI P ⟨d,[],.call f args⟩ K ⟨fr,J⟩:=by
 subst c;exact aw (PC.wk (Wk.fz id b) h) rfl e
def PC.closed{P:bo}{f:Nat}{args:aB}{J:ak}{Q:V->ak->Prop}(h:cn J->PC P f args J Q):PC P f args J Q :=
 λB e w c b a d=>h a.closed B e w c b a d
def Wk.cell{P:bo}{n:Nat}{xs:aB}{J:ak}{id T j:Nat}{cs:aB}{x y:V}(a:J[id]?=some (.box T cs))(A:cs[j]?=some x)
  (U:∀(w:bD) (μ:Mem) (v:Value),(∀i o,J[i]?=some o->∃P B,HE P B w J μ (μ i) o)->VR w J μ x v->VR w J μ y v):Wk P n xs J xs (J.set id (.box T (cs.set j y))):=by
 intro B w0 w μ Z q r;have g:id<J.length:=(ah.1 a).1;have C:j<cs.length:=(ah.1 A).1
 have h:=q.update (w':=w) (J':=J.set id (.box T (cs.set j y))) (μ':=μ) id none (grownBy_refl w none) (by simp) (by simp) (λk d=>bz (λe=>d e.symm)) (λk d=>rfl)
  (λb l=>.inl ⟨_,a,by simp,l⟩)
  (λb L v o c X l W I=>⟨W,λo' N S ha=>I ⟨id,o,c,l,by
   rw[a]at c;cases c;trivial⟩⟩)
  (λT' M h=>by rw[a]at h;cases h;exact⟨⟨_,by rw[aL g]⟩,rfl⟩)
  (λK E es h=>by rw[a]at h;cases h)
  (λE sz H g' Y ys _ h=>by rw[aL g]at h;simp at h)
  (λt o c=>by
   rw[aL g]at c;simp only[ae]at c;subst c;obtain⟨b,R,G,D,O,F,s⟩:=q.obj id _ a;refine⟨b,R,G,D,O,by simpa using F,λk z f=>?_⟩
   by_cases d:j=k
   .subst d;rw[aL C]at f;simp only[ae]at f;subst f;obtain⟨u,p,m⟩:=s j x A;exact⟨u,p,(U w μ u (λi o c=>⟨P,B,q.obj i o c⟩) m).mono t⟩
   .rw[bz d]at f;obtain⟨u,p,m⟩:=s k z f;exact⟨u,p,m.mono t⟩)
 exact⟨μ,h.1,⟨r.1,λi x Q=>(r.2 i x Q).mono h.2⟩,h.2.jF.Wr⟩
def Wk.akc{P:bo}{n:Nat}{xs:aB}{J:ak}{id T j idr E sz by' g:Nat}{cs:aB}{sh:Bool}{rows:dF}(r:J[id]?=some (.box T cs))(L:cs[j]?=some .nil)(f:J[idr]?=some (.row E sz by' g sh rows)):
  Wk P n xs J xs ((J.set idr (.row E sz by' (g+1) false [])).set id (.box T (cs.set j (.own idr (g+1))))):=by
 have iR:id≠idr:=λe=>by subst e;rw[r]at f;cases f
 intro B w0 w μ vs O M;have s:idr<J.length:=(ah.1 f).1;obtain⟨hT,_⟩:=O.obj idr _ f
 have h:=O.update (w':=w) (J':=J.set idr (.row E sz by' (g+1) false [])) (μ':=yO μ idr (.slice none 0 0)) idr none (grownBy_refl w none) (by simp) (by simp) (λk c=>bz (λe=>c e.symm)) (λk c=>sI _ _ _ _ c)
  (λb d=>by rw[gR]at d;simp[lZ]at d)
  (λb F v o a hd d y I=>⟨y,λo' G l=>by rw[gR]at l;simp[lZ]at l⟩)
  (λT' t h=>by rw[f]at h;cases h)
  (λK E es h=>by rw[f]at h;cases h)
  (λE2 R aa U ab ys _ h=>by
   rw[aL s]at h;simp only[ae,Ob.row.injEq]at h;obtain⟨rfl,rfl,rfl,rfl,rfl,rfl⟩:=h;exact⟨g,sh,rows,f,by omega,λe=>by omega⟩)
  (λD o a=>by
   rw[aL s]at a;simp only[ae]at a;subst a;rw[gR];exact⟨hT,[],World.ownsRow_nil w B E sz,by simp,by simp[gj]⟩)
 have m:(J.set idr (.row E sz by' (g+1) false []))[id]?=some (.box T cs):=by rw[bz (λe=>iR e.symm)];exact r
 have X:(J.set idr (.row E sz by' (g+1) false []))[idr]?=some (.row E sz by' (g+1) false []):=by rw[aL s]
 have A:id<(J.set idr (.row E sz by' (g+1) false [])).length:=(ah.1 m).1;have Q:j<cs.length:=(ah.1 L).1
 have p:=h.1.update (w':=w) (J':=(J.set idr (.row E sz by' (g+1) false [])).set id (.box T (cs.set j (.own idr (g+1))))) (μ':=yO μ idr (.slice none 0 0)) id none (grownBy_refl w none) (by simp) (by simp) (λk c=>bz (λe=>c e.symm)) (λk c=>rfl)
  (λb d=>.inl ⟨_,m,by simp,d⟩)
  (λb F v o a hd d y I=>⟨y,λo' G l ha=>I ⟨id,o,a,d,by
   rw[m]at a;cases a;trivial⟩⟩)
  (λT' t h=>by rw[m]at h;cases h;exact⟨⟨_,by rw[aL A]⟩,rfl⟩)
  (λK E es h=>by rw[m]at h;cases h)
  (λE sz by' U sh ys _ h=>by rw[aL A]at h;simp at h)
  (λD o a=>by
   rw[aL A]at a;simp only[ae]at a;subst a;obtain⟨b,Z,h1,p,W,S,N⟩:=h.1.obj id _ m;refine⟨b,Z,h1,p,W,by simpa using S,λk z q=>?_⟩
   by_cases c:j=k
   .subst c;rw[aL Q]at q;simp only[ae]at q;subst q;obtain⟨u,H,C⟩:=N j .nil L;have V:=C.tl;subst V;have:=(VR.uq (w:=w) (μ:=yO μ idr (.slice none 0 0)) X);rw[gR]at this;exact⟨_,H,this.mono D⟩
   .rw[bz c]at q;obtain⟨u,H,C⟩:=N k z q;exact⟨u,H,C.mono D⟩)
 exact⟨_,p.1,⟨M.1,λi x Y=>((M.2 i x Y).mono h.2).mono p.2⟩,λx v hv hl=>(hv.mono h.2).mono p.2⟩
def Wk.Kf{P:bo}{n:Nat}{xs:aB}{J:ak}{id T j E sz by':Nat}{cs:aB}(hT:Ti P E sz by')(l:J[id]?=some (.box T cs))(D:cs[j]?=some .nil):
  Wk P n xs J xs ((J.set id (.box T (cs.set j (.own J.length 0))))++[.row E sz by' 0 false []]):=by
 intro B w0 w μ vs W y;have t:id<J.length:=(ah.1 l).1;have m:=W.z6 (w':=w) (.row E sz by' 0 false []) (.slice none 0 0) (grownBy_refl w none) (by simp[lZ]) (λ_=>⟨hT,[],World.ownsRow_nil w B E sz,by simp,by simp[gj]⟩);have N:(J++[.row E sz by' 0 false []])[J.length]?=some (.row E sz by' 0 false []):=by simp
 have d:(J++[.row E sz by' 0 false []])[id]?=some (.box T cs):=by rw[ay t];exact l
 have s:id<(J++[Ob.row E sz by' 0 false []]).length:=by simp;omega
 have F:j<cs.length:=(ah.1 D).1;have Y:(J.set id (.box T (cs.set j (.own J.length 0))))++[Ob.row E sz by' 0 false []]=(J++[Ob.row E sz by' 0 false []]).set id (.box T (cs.set j (.own J.length 0))):=by rw[iu _ _ t]
 rw[Y]
 have c:=m.1.update (w':=w) (J':=(J++[Ob.row E sz by' 0 false []]).set id (.box T (cs.set j (.own J.length 0)))) (μ':=yO μ J.length (.slice none 0 0)) id none (grownBy_refl w none) (by simp) (by simp) (λk f=>bz (λe=>f e.symm)) (λk f=>rfl)
  (λb p=>.inl ⟨_,d,by simp,p⟩)
  (λb L v o a hd p Z I=>⟨Z,λo' O V ha=>I ⟨id,o,a,p,by
   rw[d]at a;cases a;trivial⟩⟩)
  (λT' M h=>by rw[d]at h;cases h;exact⟨⟨_,by rw[aL s]⟩,rfl⟩)
  (λK E es h=>by rw[d]at h;cases h)
  (λE sz by' g' sh ys _ h=>by rw[aL s]at h;simp at h)
  (λC o a=>by
   rw[aL s]at a;simp only[ae]at a;subst a;obtain⟨b,U,H,c,Q,G,A⟩:=m.1.obj id _ d;refine⟨b,U,H,c,Q,by simpa using G,λk z g=>?_⟩
   by_cases f:j=k
   .subst f;rw[aL F]at g;simp only[ae]at g;subst g;obtain⟨u,r,q⟩:=A j .nil D;have R:=q.tl;subst R;have:=(VR.uq (w:=w) (μ:=yO μ J.length (.slice none 0 0)) N);rw[gR]at this;exact⟨_,r,this.mono C⟩
   .rw[bz f]at g;obtain⟨u,r,q⟩:=A k z g;exact⟨u,r,q.mono C⟩)
 exact⟨_,c.1,⟨y.1,λi x S=>((y.2 i x S).mono m.2).mono c.2⟩,λx v X hl=>(X.mono m.2).mono c.2⟩
def bZ.cut{n:Nat}{P:bo}{a b:bK}{K:bl}{d:St}(h:∀R:ca,(∀c,bZ n P b K c->R c)->Fm n P a (Lj R K) d):bZ n P (.seq a b) K d:=by
 refine bZ.seq ?_;refine(au (h (bZ n P b K) λ_ h=>h)).mono λe c f=>?_;cases e<;>exact f
def bZ.fg{n:Nat}{P:bo}{c:bK}{K:bl}{fr fr':aB}{J:ak}(k:bZ n P c K ⟨fr',J⟩)(a:oJ fr fr'):bZ n P c K ⟨fr,J⟩:=bZ.wk (Wk.fg a) k
def bZ.drop{n:Nat}{P:bo}{c:bK}{K:bl}{fr fr':aB}{J:ak}(l loc:ak)(d:n<=J.length+l.length)(a:cn (J++l))(e:oJ fr fr')(b:jP (J.length+l.length) fr')(k:bZ n P c K ⟨fr',J++l⟩):bZ n P c K ⟨fr,J++(l++loc)⟩:=by
 rw[<- List.append_assoc];exact bZ.wk ((Wk.fg e).trans (Wk.A2 (by rw[aj];exact d) a (by rw[aj];exact gZ.1 b))) k
def Hb{J l b:ak}(h:cn (J++l))(g:l.length<=b.length)(f:∀o∈b,match o with|.box _ cs=>jP (J.length+b.length) cs|.map _ _ es=>jP (J.length+b.length) (es.map (·.2))|.iter _ m _ _ _ _=>m<J.length+b.length|_=>True):cn (J++b):=by
 intro id o a j x d;rw[aj];rcases kE id J.length with c|e
 .rw[ay c]at a;have:=h id o (by rw[ay c];exact a) j x d;rw[aj]at this;exact this.mono (by omega)
 .rw[aU e]at a;exact UY (f _ (bE a)) j x d
def itT{a b:Prop}:((true=true->a)/\(true=false->b))=a:=by simp
def itF{a b:Prop}:((false=true->a)/\(false=false->b))=b:=by simp
def IT:=aC @itT @itF
def bb:(true==true)=true/\(false==true)=false/\(true==false)=false/\(false==false)=true:=⟨rfl,rfl,rfl,rfl⟩
def As{J:ak}{id:Nat}{o:Ob}(h:J[id]?=some o):J.set id o=J:=by
 apply mS;intro j
 by_cases a:id=j
 .subst a;rw[aL (ah.1 h).1,h]
 .rw[bz a]
def PC.fzs{P:bo}{f:Nat}{args zs:aB}{J:ak}{v:V}(id:Nat){E sz by' g:Nat}{rows:dF}(b:J[id]?=some (.row E sz by' g true rows))
  (h:PC P f zs J (λr J'=>r=v/\J'=J)) (c:args.map (Pm.fz id g sz rows)=zs):PC P f args J (λr J'=>r=v/\J'=J):=by
 have a:=Wk.fz (P:=P) (n:=J.length) (xs:=args) id b;rw[As b,c]at a;exact PC.wk a h
def Wk.ag7{P:bo}{n:Nat}{xs:aB}{J:ak}{E sz by' g:Nat}{sh:Bool}{rows:dF}:Wk P n xs (J++[.row E sz by' g sh rows]) xs (J++[.row E sz by' g true rows]):=by
 have:=Wk.share (P:=P) (n:=n) (xs:=xs) (J:=J++[.row E sz by' g sh rows]) (id:=J.length) (E:=E) (sz:=sz) (by':=by') (g:=g) (sh:=sh) (rows:=rows) (by simp)
 rwa [dA _ _ (aD _),jm]at this
def sN{n:Nat}{P:bo}{c:bK}{K:bl}{N:Nat}{b:St}(h:∀R:ca,(∀a,fm n P c K N a->R a)->bZ n P c (Lj R K) b):fm n P c K (N+1) b:=by
 simp only[fm];exact(h (fm n P c K N) λ_ h=>h).mono λe a d=>by cases e<;>exact d
def bZ.HC{n:Nat}{P:bo}{a b:bK}{K:bl}{d:St}(h:∀R:ca,(∀c,bZ n P b K c->R c)->bZ n P a (Lj R K) d):bZ n P (.seq a b) K d:=by
 refine bZ.seq ?_;refine(h (bZ n P b K) λ_ h=>h).mono λe c f=>?_;cases e<;>exact f
def bZ.lZ{n:Nat}{P:bo}{id:Nat}{c:bK}{K:bl}{b:St}(h:bZ n P c (B8 id K) b):bZ n P (.block id c) K b :=
 bZ.block (h.mono λe d a=>by
  cases e with
  |exit g =>
   simp only[B8]at a;simp only[Gm];split at a<;>rename_i f<;>simp only[f,aT,aS]<;>exact a
  |_=>exact a)
def bZ.ahO{n:Nat}{P:bo}{c:O}{x y:bK}{K:bl}{a:St}(d:ev a.fr c=.b true)(h:bZ n P x K a):bZ n P (.ite c x y) K a :=
 bZ.ite d (λ_=>h) (λh=>by cases h)
def bZ.ahP{n:Nat}{P:bo}{c:O}{x y:bK}{K:bl}{a:St}(d:ev a.fr c=.b false)(h:bZ n P y K a):bZ n P (.ite c x y) K a :=
 bZ.ite d (λh=>by cases h) (λ_=>h)
inductive Mv (n:Nat) (loc:ak) (ks:dK):V->V->Prop
 |own (i k E sz by' g:Nat) (sh:Bool) (rows:dF) (hk:ks[i]?=some k) (ho:loc[k]?=some (.row E sz by' g sh rows)):Mv n loc ks (.own (n+k) g) (.own (n+i) 0)
 |jF (x:V) (h:x.Lt n):Mv n loc ks x x
 |forget (x:V):Mv n loc ks x .u
 |agg (xs ys:aB) (hl:ys.length=xs.length) (h:∀(i:Nat) (x y:V),xs[i]?=some x->ys[i]?=some y->Mv n loc ks x y):Mv n loc ks (.agg xs) (.agg ys)
inductive Mvs (n:Nat) (loc:ak) (ks:dK):aB->aB->Prop
 |nil:Mvs n loc ks [] []
 |cons {x y xs ys} (h:Mv n loc ks x y) (t:Mvs n loc ks xs ys):Mvs n loc ks (x::xs) (y::ys)
def Mvs.at{n:Nat}{loc:ak}{c:dK}{xs ys:aB}(h:Mvs n loc c xs ys):ys.length=xs.length/\∀(i:Nat) (x y:V),xs[i]?=some x->ys[i]?=some y->Mv n loc c x y:=by
 induction h with
 |nil=>simp
 |cons h t ih =>
  refine⟨by simp[ih.1],λi x y b a=>?_⟩;cases i with
  |zero=>simp only[aM,ae]at b a;subst b;subst a;exact h
  |succ i=>exact ih.2 i x y (by simpa using b) (by simpa using a)
def Wk.amH{P:bo}{xs ys:aB}{J loc os:ak}(N:dK)(bn:cn J)(sv:N.Nodup)(Q:os.length=N.length)
  (aa:∀(i k:Nat),N[i]?=some k->∃o,loc[k]?=some o/\o.flat=true/\os[i]?=some o.fresh) (hx:Mvs J.length loc N xs ys):Wk P J.length xs (J++loc) ys (J++os):=by
 intro B w0 w R vs S hC;let s:Mem:=λj=>if j<J.length then R j else R (J.length+N.getD (j - J.length) 0)
 have pQ:∀id,id<J.length->s id=R id:=λid h=>by simp only[s];rw[az h]
 have Z:∀i k,N[i]?=some k->s (J.length+i)=R (J.length+k):=λi k H=>by
  simp only[s];rw[an (by omega),fF,aq,H];rfl
 have ft:∀id,id<J.length->(J++os)[id]?=(J++loc)[id]?:=λid h=>by rw[ay h,ay h]
 have ab:∀i,(J++os)[J.length+i]?=os[i]?:=λi=>by rw[aU (by omega),fF]
 have EB:∀i,(J++loc)[J.length+i]?=loc[i]?:=λi=>by rw[aU (by omega),fF]
 have a:∀{id z},(J++os)[id]?=some z->(id<J.length/\(J++loc)[id]?=some z/\s id=R id) \/
   (∃i k o,id=J.length+i/\N[i]?=some k/\(J++loc)[J.length+k]?=some o/\o.flat=true/\z=o.fresh/\s id=R (J.length+k)):=by
  intro id z h;rcases kE id J.length with G|hg
  .exact .inl ⟨G,ft id G▸h,pQ id G⟩
  .right;obtain⟨i,rfl⟩:∃i,id=J.length+i:=⟨id - J.length,by omega⟩;rw[ab]at h;have L:i<N.length:=by rw[<- Q];exact(ah.1 h).1
   obtain⟨k,H⟩:∃k,N[i]?=some k:=⟨_,ax L⟩;obtain⟨o,l,p,f⟩:=aa i k H;rw[h]at f;exact⟨i,k,o,rfl,H,by rw[EB];exact l,p,gy f,Z i k H⟩
 have hw:∀b U,wr (J++os) s b U->wr (J++loc) R b U:=by
  rintro b U ⟨id,z,l,p,f⟩;rcases a l with⟨d,q,t⟩|⟨i,k,o,rfl,_,q,t,rfl,O⟩
  .exact⟨id,z,q,t▸p,f⟩
  .exact⟨J.length+k,o,q,O▸p,by cases o<;>exact f⟩
 have M:∀{x v},VR w (J++loc) R x v->x.Lt J.length->VR w (J++os) s x v:=λh G=>h.aga (m:=J.length) (by simp) hw ft pQ G;obtain⟨xc,af⟩:=hx.at;refine⟨s,⟨S.below,S.base,λid z I=>?_,λi j oi oj b L C l p f d=>?_⟩,⟨by rw[xc];exact hC.1,λi y hy=>?_⟩,λx v Y G=>M Y G⟩
 .rcases a I with⟨d,q,t⟩|⟨i,k,o,rfl,_,q,t,rfl,O⟩
  .have W:=S.obj id z q;rw[t];cases z with
   |dead=>trivial
   |box T cs =>
    obtain⟨b,us,l,p,f,am,V⟩:=W;have pN:=bn id _ (by rwa [ay d]at q);exact⟨b,us,l,p,f,am,λj x C=>let ⟨u,t,O⟩:=V j x C;⟨u,t,M O (pN j x C)⟩⟩
   |row E sz X g sh A =>
    obtain⟨l,F,p,f⟩:=W;exact⟨l,F,p,f.1,λi j x C=>let ⟨d,u,q,t⟩:=f.2 i j x C;⟨d,u,q,M t (qB d _)⟩⟩
   |map K E es =>
    have V:=q;have ac:=d;obtain⟨r,D,clock,l,p,f,d⟩:=W;exact⟨r,D,clock,l,p,f,d.1,λi k x L=>let ⟨q,t,e,O,h8,h9⟩:=d.2.1 i k x L;⟨q,t,e,O,M h8 (Ea q _),M h9 (map_lt (bn id (.map K E es) (by rwa [ay ac]at V)) L)⟩,d.2.2⟩
   |iter st m E n ps c =>
    have fk:m<J.length:=by
     have:=bn id _ (by rwa [ay d]at q) 0 (.mp m) rfl;cases this;assumption
    exact FX W (ft m fk) (pQ m fk)
  .have W:=S.obj (J.length+k) o q;rw[O];cases o with
   |dead=>trivial
   |box T cs=>simp[Ob.flat]at t
   |row E sz X g sh A =>
    obtain⟨l,F,p,f⟩:=W;exact⟨l,F,p,f.1,λi j x C=>let ⟨d,u,q,t⟩:=f.2 i j x C;⟨d,u,q,M t (qB d _)⟩⟩
   |map K E es =>
    have yu:=t;obtain⟨r,D,clock,l,p,f,d⟩:=W;exact⟨r,D,clock,l,p,f,d.1,λi k x L=>let ⟨q,t,e,O,h8,h9⟩:=d.2.1 i k x L;⟨q,t,e,O,M h8 (Ea q _),M h9 (map_lt (VZ yu _) L)⟩,d.2.2⟩
   |iter st m E n ps c=>simp[Ob.flat]at t
 .have nd:∀{o:Ob},o.fresh≠.dead->o≠.dead:=λh e=>h (by rw[e];rfl);rcases a L with⟨i1,i2,i3⟩|⟨i',k,o,rfl,ik,i5,_,rfl,i7⟩<;>rcases a C with⟨j1,j2,j3⟩|⟨j',k',z,rfl,jk,j5,_,rfl,j7⟩
  .exact S.sep i j oi oj b i2 j2 l p (i3▸f) (j3▸d)
  .have:=S.sep i (J.length+k') oi z b i2 j5 l (nd p) (i3▸f) (j7▸d);omega
  .have:=S.sep (J.length+k) j o oj b i5 j2 (nd l) p (i7▸f) (j3▸d);omega
  .have e:=S.sep (J.length+k) (J.length+k') o z b i5 j5 (nd l) (nd p) (i7▸f) (j7▸d);have e:k=k':=by omega
   subst e
   have e2:i'=j':=by
    obtain⟨l1,g1⟩:=ah.1 ik;obtain⟨l2,g2⟩:=ah.1 jk;exact(List.getElem_inj sv).1 (g1.trans g2.symm)
   rw[e2]
 .have wh:i<xs.length:=by rw[<- xc];exact(ah.1 hy).1
  obtain⟨x,K5⟩:∃x,xs[i]?=some x:=⟨_,ax wh⟩;have Y:=hC.2 i x K5;have hm:=af i x y K5 hy;clear K5 hy wh;generalize vs.getD i undef=v at Y |-
  induction hm generalizing v with
  |own i' k E sz X g sh A H ho =>
   have ad:(J++loc)[J.length+k]?=some (.row E sz X g sh A):=by rw[EB];exact ho
   have l:=Y.mK ad;have av:i'<os.length:=by rw[Q];exact(ah.1 H).1
   obtain⟨o,q1,_,q3⟩:=aa i' k H;rw[ho]at q1;simp only[ae]at q1;subst q1;refine .own _ _ _ (by simp;omega) λE2 ap aE g2 a1 a0 I=>?_;rw[ab,q3]at I;simp only[Ob.fresh,ae,Ob.row.injEq]at I;rw[Z i' k H];exact⟨fA _,λ_=>l⟩
  |jF x h=>exact M Y h
  |forget x=>exact .u _
  |agg as bs G h ih =>
   obtain⟨us,rfl,l,p⟩:=Y.mi;refine .agg bs us (by rw[G,l]) λj y C=>?_;have pR:j<as.length:=by rw[<- G];exact(ah.1 C).1
   exact ih j _ y (ax pR) C _ (p j _ (ax pR))
def Mv.Uy{n:Nat}{loc:ak}{a:dK}{xs ys:aB}(h:Mvs n loc a xs ys):Mv n loc a (.agg xs) (.agg ys):=.agg xs ys h.at.1 h.at.2
def Wk.rZ{P:bo}{n:Nat}{xs:aB}{J loc:ak}(k:Nat){E sz by' g:Nat}{sh:Bool}{rows:dF}(a:loc[k]?=some (.row E sz by' g sh rows)):
  Wk P n xs (J++loc) (xs.map (Pm.fz (J.length+k) g sz rows)) (J++loc.set k (.row E sz by' g true rows)):=by
 have:=Wk.fz (P:=P) (n:=n) (xs:=xs) (J:=J++loc) (J.length+k) (by rw[qv];exact a)
 rwa [ub]at this
def Wk.PE{P:bo}{n:Nat}{xs:aB}{J:ak}{id E sz by' g hi:Nat}{rows:dF}(d:J[id]?=some (.row E sz by' g false rows))(j:Nat)(M:xs[j]?=some (.sub id g 0 hi)):
  Wk P n xs J (xs.set j (.own id (g+1))) (J.set id (.row E sz by' (g+1) false (rows.take hi))):=by
 intro B w0 w μ vs R F;have D:id<J.length:=(ah.1 d).1;have V:=F.2 j _ M;obtain⟨_,X,oo⟩:=V.wX d;have C:(rows.take hi).length=hi:=by simp;omega
 have O:=R.obj id _ d
 have G:=R.update (w':=w) (J':=J.set id (.row E sz by' (g+1) false (rows.take hi))) (μ':=yO μ id (pO (μ id) 0 hi sz)) id none (grownBy_refl w none) (by simp) (by simp) (λk v=>bz (λe=>v e.symm)) (λk v=>sI _ _ _ _ v)
  (λb c=>by
   rw[gR]at c;refine .inl ⟨_,d,by simp,?_⟩;obtain⟨_,f,⟨_,z⟩,_⟩:=O;rcases z with⟨m,_⟩|⟨b2,t,s,m,_⟩
   .rw[m]at c;simp only[pO]at c;split at c<;>simp[lZ]at c
   .rw[m]at c |-;simp only[pO]at c;split at c<;>simpa[lZ,Addr.add_lit]using c)
  (λb ab u o a _ p A q=>absurd ⟨id,o,a,p,by rw[d]at a;simp only[ae]at a;subst a;intro Z;simp at Z⟩ q)
  (λT cs h=>by rw[d]at h;simp at h) (λK E es h=>by rw[d]at h;simp at h)
  (λE2 S W g2 ac aa _ h=>by
   simp only[aL D,ae,Ob.row.injEq]at h;obtain⟨rfl,rfl,rfl,rfl,rfl,rfl⟩:=h;exact⟨g,false,rows,d,by omega,λe=>by omega⟩)
  (λY o h=>by
   simp only[aL D,ae]at h;subst h;rw[gR];obtain⟨hT,f,⟨U,z⟩,Q,hr⟩:=O;have I:hi*sz<=rows.length*sz:=bI _ X;refine⟨hT,f.take (hi*sz),⟨by rw[C,aP,U];omega,?_⟩,λr y=>Q r (cF y),λi k x l=>?_⟩
   .rw[C];rcases z with⟨m,hn⟩|⟨b,t,s,m,a,p,A,q,H,h6⟩
    .have:hi=0:=by omega
     subst this;exact .inl ⟨by rw[m];simp[pO],rfl⟩
    .refine .inr ⟨b,t,s,?_,a,p,by omega,q,H,?_⟩
     .rw[m];simp only[pO,xG];split<;>simp[Addr.add_lit]
     .rw[<- h6,lB,fb I]
   .obtain⟨r,a,p⟩:=jz l;have L:i<hi:=by have:=(ah.1 a).1;rw[C]at this;exact this
    rw[cz L]at a;obtain⟨A,u,q,H⟩:=hr i k x (by rw[vW a];exact p);refine⟨A,u,?_,H.mono Y⟩;have v:k<sz:=by rw[<- Q r (bE a)];exact(ah.1 p).1
    rw[cz ?_]
    .exact q
    .have:(i+1)*sz<=hi*sz:=bI _ L;rw[cJ,ir]at this;omega)
 refine⟨_,G.1,⟨by simp[F.1],λi x l=>?_⟩,G.2.jF.Wr⟩
 by_cases N:j=i
 .subst N;rw[aL (ah.1 M).1]at l;simp only[ae]at l;subst l;rw[oo];have:=VR.uq (w:=w) (J:=J.set id (.row E sz by' (g+1) false (rows.take hi))) (μ:=yO μ id (pO (μ id) 0 hi sz)) (id:=id) (E:=E) (sz:=sz) (by':=by') (g:=g+1) (sh:=false) (xs:=rows.take hi) (aL D)
  rwa [gR]at this
 .rw[bz N]at l;exact(F.2 i x l).mono G.2
end Go.Pm
namespace Go.Bt
open Go Go.Pm
section
variable {α β:Type} [DecidableEq α]
def gM(a:α):List (α×β)->Nat->Option (Nat×β)
 |[],_=>none
 |p::l,k=>if a=p.1 then some (k,p.2)else gM a l (k+1)
def cX(a:α)(l:List (α×β)):Option β:=(gM a l 0).map (·.2)
def iZ(l:List (α×β))(a:α)(b:β):List (α×β) :=
 match l with
 |[]=>[(a,b)]
 |p::l=>if a=p.1 then(a,b)::l else p::iZ l a b
def emap(ke:α->V)(ve:β->V)(l:List (α×β)):List (V×V):=l.map λp=>(ke p.1,ve p.2)
def pt(a:α):∀(l:List (α×β)) (k:Nat),(gM a l k).map (·.2)=cX a l
 |[],_=>rfl
 |p::l,k=>by
  simp only[cX,gM];split
  .rfl
  .rw[pt a l (k+1),pt a l (0+1)]
def yz(a:α):cX a ([]:List (α×β))=none:=rfl
def ln(a:α)(p:α×β)(l:List (α×β)):cX a (p::l)=if a=p.1 then some p.2 else cX a l:=by
 simp only[cX,gM];split
 .rfl
 .rw[pt a l (0+1)];rfl
def jy(l:List (α×β))(a:α)(b:β)(x:α):cX x (iZ l a b)=if x=a then some b else cX x l:=by
 induction l with
 |nil=>simp only[iZ,ln,yz]
 |cons p l ih =>
  simp only[iZ];split
  .rename_i h;simp only[ln]
   by_cases c:x=a
   .simp[c]
   .have:¬x=p.1:=λd=>c (d.trans h.symm);simp[c,this]
  .rename_i h;simp only[ln,ih]
   by_cases c:x=p.1
   .have:¬x=a:=λd=>h (d.symm.trans c);simp only[this,aS,c,aT];split
    .rename_i e;exact absurd e.symm h
    .rfl
   .simp[c]
def Pz(l:List (α×β))(a:α)(b:β):(iZ l a b).length<=l.length+1:=by
 induction l with
 |nil=>simp[iZ]
 |cons p l ih =>
  simp only[iZ];split<;>simp<;>omega
def Wo{l:List (α×β)}{a:α}{b:β}(h:cX a l=none):iZ l a b=l++[(a,b)]:=by
 induction l with
 |nil=>rfl
 |cons p l ih =>
  rw[ln]at h;split at h
  .simp at h
  .rename_i c;simp only[iZ,c,aS,bJ];rw[ih h]
variable {kd:Nat} {ke:α->V} {ve:β->V}
def CZ(c:∀a b,dD kd (ke a) (ke b)=some (decide (a=b)))(a:α):∀(l:List (α×β)) (k:Nat),gV kd (ke a) (emap ke ve l) k=some ((gM a l k).map λp=>(p.1,ve p.2))
 |[],k=>rfl
 |p::l,k=>by
  have ih:=CZ c a l (k+1);simp only[emap,aH,gV,c,gM]at ih |-
  by_cases h:a=p.1
  .simp[h]
  .simp only[h,xF,aS];exact ih
def RV(a:α)(b:β):∀(l:List (α×β)) (k i:Nat) (c:β),gM a l k=some (k+i,c)->(emap ke ve l).set i (ke a,ve b)=emap ke ve (iZ l a b)
 |[],k,i,c,h=>by simp[gM]at h
 |p::l,k,i,c,h=>by
  simp only[gM]at h
  by_cases d:a=p.1
  .simp only[d,aT,ae,aQ]at h;have:i=0:=by omega
   subst this;simp[emap,iZ,d]
  .simp only[d,aS]at h
   have e:∃j,i=j+1:=by
    refine⟨i - 1,?_⟩
    have:∀(l:List (α×β)) (k n:Nat) (x:β),gM a l k=some (n,x)->k<=n:=by
     intro l
     induction l with
     |nil=>intro k n x h;simp[gM]at h
     |cons q l ih =>
      intro k n x h;simp only[gM]at h;split at h
      .simp at h;omega
      .have:=ih _ _ _ h;omega
    have:=this _ _ _ _ h;omega
   obtain⟨j,rfl⟩:=e;have:=RV a b l (k+1) j c (by rw[h];congr 2;omega);simp only[emap,aH,iE,iZ,d,aS]at this |-;rw[this]
def oc(d:∀a b,dD kd (ke a) (ke b)=some (decide (a=b)))(l:List (α×β))(a:α):
  (cX a l=none/\gV kd (ke a) (emap ke ve l) 0=some none/\∀b,emap ke ve l++[(ke a,ve b)]=emap ke ve (iZ l a b)) \/
  (∃i c,cX a l=some c/\gV kd (ke a) (emap ke ve l) 0=some (some (i,ve c))/\∀b,(emap ke ve l).set i (ke a,ve b)=emap ke ve (iZ l a b)):=by
 cases h:gM a l 0 with
 |none =>
  have e:cX a l=none:=by simp[cX,h]
  refine .inl ⟨e,by rw[CZ d,h];rfl,λb=>?_⟩;rw[Wo e];simp[emap]
 |some p =>
  obtain⟨i,c⟩:=p;refine .inr ⟨i,c,by simp[cX,h],by rw[CZ d,h];rfl,λb=>?_⟩;exact RV a b l 0 i c (by rw[h];congr 2;omega)
end
def keI(n:Int):V:=.i .i64 n
def TJ(a b:Int):dD 0 (keI a) (keI b)=some (decide (a=b)):=by
 simp[dD,keI];rfl
end Go.Bt

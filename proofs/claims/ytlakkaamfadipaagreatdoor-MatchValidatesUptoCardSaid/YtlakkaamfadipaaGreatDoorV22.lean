/- A part of a proof; the claim's last text says of what. -/
import Derived.Test.YtlakkaamfadipaaGreatDoorV21
set_option linter.all false

namespace Go.Bt
open Go Go.Pm
theorem km{α:Type}(f g:α→Int)(K:List α):cC (fun k=>f k+g k) K=cC f K+cC g K:=by
 induction K with
 | nil=>rfl
 | cons k K ih=>simp only[cC,az,bN]at ih ⊢;omega
theorem nR{α:Type}(f:α→Int){K L:List α}(hK:K.Nodup)(hL:L.Nodup)(h:∀ k,f k≠0→k∈K∧k∈L):cC f K=cC f L:=by
 have key:∀ M:List α,cC f M=cC f (M.filter fun k=>f k != 0):=fun M=>by
  induction M with
  | nil=>rfl
  | cons k M ih =>
   simp only[cC,az,bN,eU]at ih ⊢
   by_cases h0:f k=0
   ·simp only[h0,K8,aA,aJ];omega
   ·have:(f k != 0)=true:=by simpa using h0
    rw[aI this];simp only[az,bN];omega
 rw[key K,key L];refine uc f ((sn (hK.filter _) (hL.filter _)).2 fun k=>?_);simp only[cU,mQ,eX];exact⟨fun⟨_,h2⟩=>⟨(h k h2).2,h2⟩,fun⟨_,h2⟩=>⟨(h k h2).1,h2⟩⟩
theorem kS(k:GK):∀ (ws:List (List UInt8)) (C:List (GK×Int)) (last:List UInt8),(bS k (ek C last ws)).getD 0=(bS k C).getD 0+iL k last ws
 | [],C,last=>by
  simp only[ek,iL,om]
  by_cases h:k=(last,[])<;>simp[h,eq_comm]
 | w::r,C,last=>by
  simp only[ek,iL];rw[kS k r,om]
  by_cases h:k=(last,w)
  ·simp[h];omega
  ·rw[aw h,aw (fun e=>h e.symm)];omega
theorem wP(k:TK):∀ (l:List It) (C:List (TK×Int)),(bS k (jK C l)).getD 0=(bS k C).getD 0+dv k l
 | [],C=>by simp[jK,dv]
 | t::r,C=>by
  simp only[jK,dv];rw[wP k r];unfold rH
  by_cases h:(bZ t).2=true
  ·rw[aI h,aI h,om]
   by_cases h2:k=dq (bZ t).1
   ·subst h2;simp;omega
   ·rw[aw h2,aw (by simpa using fun e=>h2 e.symm)];omega
  ·rw[aw h,aw h];simp
theorem oO(k:GK):∀ (ws:List (List UInt8)) (last:List UInt8),0≤iL k last ws
 | [],last=>by simp only[iL];split<;>omega
 | w::r,last=>by have:=oO k r w;simp only[iL];split<;>omega
theorem ny(k:TK)(l:List It):0≤dv k l:=by
 induction l with
 | nil=>exact cj _
 | cons x l ih=>simp only[dv];split<;>omega
theorem ES(k:TK)(l m:List It):dv k (l++m)=dv k l+dv k m:=by
 induction l with
 | nil=>simp[dv]
 | cons x l ih=>simp only[bg,dv,ih];omega
def Uy(ws:List (List UInt8)):List GK:=(ek [] [] ws).map (·.1)
def SF(l:List It):List TK:=(jK [] l).map (·.1)
theorem uK(ws:List (List UInt8)):(Uy ws).Nodup:=(jx ws [] [] 0 CN.nil).2.1
theorem uQ(l:List It):(SF l).Nodup:=(yK l [] 0 CN.nil).2.1
theorem nh{α:Type}[DecidableEq α]{C:List (α×Int)}{k:α}(h:(bS k C).getD 0≠0):k∈C.map (·.1):=by
 induction C with
 | nil=>simp[bS,dJ]at h
 | cons p C ih =>
  rw[kT]at h
  by_cases e:k=p.1
  ·subst e;simp
  ·rw[aw e]at h;exact de _ (ih h)
theorem IA{k:GK}{ws:List (List UInt8)}(h:iL k [] ws≠0):k∈Uy ws:=nh (by rw[kS];simpa[bS,dJ]using h)
theorem CS{k:TK}{l:List It}(h:dv k l≠0):k∈SF l:=nh (by rw[wP];simpa[bS,dJ]using h)
theorem GQ{ws:List (List UInt8)}{g:Gr}(h:g∈ek [] [] ws):g.2=iL g.1 [] ws:=by
 have h1:=kh (uK ws) h;have h2:=kS g.1 ws [] [];rw[h1]at h2;simpa[bS,dJ]using h2
theorem CO{l:List It}{p:TK×Int}(h:p∈jK [] l):p.2=dv p.1 l:=by
 have h1:=kh (uQ l) h;have h2:=wP p.1 l [];rw[h1]at h2;simpa[bS,dJ]using h2
theorem BI:∀ (gs:List Gr) (n:Int),BJ n gs=n+(gs.map (·.2)).sum
 | [],n=>by simp[BJ]
 | g::gs,n=>by
  have:=BI gs (n+g.2);simp only[BJ,cV,az,bN]at this ⊢;rw[this];omega
theorem Dn{l l':List Int}(h:l.Perm l'):l.sum=l'.sum:=by
 have:=uc (fun x:Int=>x) h;simpa[cC]using this
theorem AM(ws:List (List UInt8)){K:List GK}(hK:K.Nodup)(hm:∀ k,iL k [] ws≠0→k∈K):BJ 0 (b9 ws)=cC (fun k=>iL k [] ws) K:=by
 rw[BI,eE,Dn ((ix ws).map (·.2))]
 have e:(ek [] [] ws).map (·.2)=(Uy ws).map fun k=>iL k [] ws:=by
  unfold Uy;rw[ic];exact cN fun g hg=>GQ hg
 rw[e];exact nR _ (uK ws) hK fun k h=>⟨IA h,hm k h⟩
theorem xi(h:TK→Int){K:List TK}(hK:K.Nodup):∀ (l:List It),(∀ x∈l,∀ k,rH x=some k→k∈K)→cC (fun k=>h k*dv k l) K=(l.map fun x=>match rH x with | some k=>h k | none=>0).sum
 | [],_=>by
  have:cC (fun k=>h k*dv k []) K=cC (fun _=>0) K:=du fun k _=>by simp[dv]
  rw[this,nQ];rfl
 | x::l,hm=>by
  have ih:=xi h hK l fun y hy=>hm y (by simp[hy]);simp only[az,bN];rw[← ih];cases hc:rH x with
  | none =>
   simp only[dv,hc];rw[eE];exact du fun k _=>by simp
  | some k0 =>
   have O7:=hm x (by simp) k0 hc
   have e:cC (fun k=>h k*dv k (x::l)) K=cC (fun k=>(if k0=k then h k else 0)+h k*dv k l) K:=du fun k _=>by
    simp only[dv,hc,aa];split
    ·rw[il,Int.mul_one]
    ·rw[eE,eE]
   rw[e,km];congr 1;clear e ih hm
   induction K with
   | nil=>simp at O7
   | cons k K ih =>
    simp only[eM]at hK;simp only[cC,az,bN]
    by_cases e:k0=k
    ·subst e
     have:cC (fun k=>if k0=k then h k else 0) K=cC (fun _=>0) K:=du fun k hk=>by
      rw[aw];rintro rfl;exact hK.1 hk
     rw[nQ]at this;simp only[cC]at this;simp[this]
    ·have:=ih hK.2 (by rcases bA.1 O7 with rfl | h;exact absurd rfl e;exact h);simp only[cC]at this;simp[this,e]
def hW(k:TK):Int:=if jV k then 0 else wK k
def hT(k:TK):Int:=if jV k then 1 else 0
theorem Oy(t:It)(h:(bZ t).2=true):rH t=some (dq (bZ t).1):=by unfold rH;rw[aI h]
theorem Ox(t:It)(h:¬ (bZ t).2=true):rH t=none:=by unfold rH;rw[aw h]
theorem Hn:∀ (l:List It) (n:Int),Ak n l=n+(l.map fun x=>match rH x with | some k=>hW k | none=>0).sum
 | [],n=>by simp[Ak]
 | t::r,n=>by
  have ih:=Hn r;simp only[Ak,az,bN];rw[ih]
  by_cases h:(bZ t).2=true
  ·rw[Oy t h];have e:jV (dq (bZ t).1)=bG (bZ t).1:=rfl;have e2:wK (dq (bZ t).1)=weight (bZ t).1:=pB rfl;simp only[h,cm,hW,e,e2];cases bG (bZ t).1<;>simp<;>omega
  ·rw[Ox t h];simp only[h,dN,aA,aJ];omega
theorem Hu:∀ (l:List It) (n:Int),Ar n l=n+(l.map fun x=>match rH x with | some k=>hT k | none=>0).sum
 | [],n=>by simp[Ar]
 | t::r,n=>by
  have ih:=Hu r;simp only[Ar,az,bN];rw[ih]
  by_cases h:(bZ t).2=true
  ·rw[Oy t h];have e:jV (dq (bZ t).1)=bG (bZ t).1:=rfl;simp only[h,cm,hT,e];cases bG (bZ t).1<;>simp<;>omega
  ·rw[Ox t h];simp only[h,dN,aA,aJ];omega
theorem II{x:It}{l:List It}(hx:x∈l){k:TK}(hk:rH x=some k):dv k l≠0:=by
 induction l with
 | nil=>simp at hx
 | cons y l ih =>
  have:=ny k l;simp only[dv];rcases bA.1 hx with rfl | h
  ·rw[aI hk];omega
  ·have:=ih h;split<;>omega
theorem Ho{l:List It}{K:List TK}(hK:K.Nodup)(hm:∀ k,dv k l≠0→k∈K):Ak 0 l=cC (fun k=>hW k*dv k l) K:=by
 rw[Hn,eE,xi hW hK l fun x hx k hk=>hm k (II hx hk)]
theorem Hv{l:List It}{K:List TK}(hK:K.Nodup)(hm:∀ k,dv k l≠0→k∈K):Ar 0 l=cC (fun k=>hT k*dv k l) K:=by
 rw[Hu,eE,xi hT hK l fun x hx k hk=>hm k (II hx hk)]
theorem Fe{β:Type}(id:Int):∀ (L:List (Int×β)) (F:Int×β→Option Sm) (s:Sm),(∀ e∈L,e.1≠id)→gM id s (L.filterMap fun e=>(F e).map fun t=>(e.1,t))=s
 | [],F,s,_=>rfl
 | e::L,F,s,h=>by
  have h1:=h e (by simp);have ih:=Fe id L F s fun x hx=>h x (by simp[hx]);rw[fW];cases F e with
  | none=>exact ih
  | some t =>
   show gM id (if e.1=id then s.add t else s) _=s;rw[aw h1];exact ih
theorem y8{β:Type}:∀ (L:List (Int×β)) (F:Int×β→Option Sm),(L.map (·.1)).Nodup→∀ {e:Int×β},e∈L→∀ s:Sm,gM e.1 s (L.filterMap fun e=>(F e).map fun t=>(e.1,t))=s.add ((F e).getD rk)
 | [],F,_,e,he,s=>by simp at he
 | x::L,F,hn,e,he,s=>by
  simp only[az,eM]at hn;rw[fW];rcases bA.1 he with rfl | he
  ·have qe:∀ s,gM e.1 s (L.filterMap fun e=>(F e).map fun t=>(e.1,t))=s:=fun s=>Fe e.1 L F s fun y hy h=>hn.1 (h▸bI.2 ⟨y,hy,rfl⟩);cases hF:F e with
   | none=>simp only[zr,we,Sm.YS];exact qe s
   | some t =>
    show gM e.1 (if e.1=e.1 then s.add t else s) _=_;rw[aI rfl,qe];rfl
  ·have ig:x.1≠e.1:=fun h=>hn.1 (h▸bI.2 ⟨e,he,rfl⟩);have ih:=y8 L F hn.2 he s;cases hF:F x with
   | none=>exact ih
   | some t =>
    show gM e.1 (if x.1=e.1 then s.add t else s) _=_;rw[aw ig];exact ih
theorem H5{n:Int}(h:0≤n):mn 0 n=0:=by unfold mn;split<;>omega
abbrev LF:=Int×(List It×Nat)
def DI(L:List LF)(k:GK):List (Int×Int):=L.filterMap fun e=>(bS k (ek [] [] (aS e.2.1))).map fun c=>(e.1,c)
def DJ(L:List LF)(k:TK):List (Int×Int):=L.filterMap fun e=>(bS k (jK [] e.2.1)).map fun c=>(e.1,c)
theorem QA{L:List LF}(hn:(L.map (·.1)).Nodup){e:LF}(he:e∈L)(k:GK){c:Int}(hc:0≤c)(s:Sm):gM e.1 s (iY c (DI L k))=s.add ⟨mn (iL k [] (aS e.2.1)) c,0,0⟩:=by
 have h:=y8 L (fun e=>(bS k (ek [] [] (aS e.2.1))).map fun v=>(⟨mn v c,0,0⟩:Sm)) hn he s
 have e1:iY c (DI L k)=L.filterMap fun e=>((bS k (ek [] [] (aS e.2.1))).map fun v=>(⟨mn v c,0,0⟩:Sm)).map fun t=>(e.1,t):=by
  unfold iY DI;rw[List.map_filterMap];congr 1;funext e;cases bS k (ek [] [] (aS e.2.1))<;>rfl
 rw[e1,h];congr 1;have h2:=kS k (aS e.2.1) [] [];cases hg:bS k (ek [] [] (aS e.2.1))with
 | none=>rw[hg]at h2;simp[bS,dJ]at h2;rw[← h2];simp[rk,H5 hc]
 | some v=>rw[hg]at h2;simp[bS,dJ]at h2;rw[← h2];rfl
def s8(k:TK)(m:Int):Sm:=if jV k then⟨0,0,m⟩else⟨0,m*wK k,0⟩
theorem Qy{L:List LF}(hn:(L.map (·.1)).Nodup){e:LF}(he:e∈L)(k:TK){c:Int}(hc:0≤c)(s:Sm):gM e.1 s (lZ k c (DJ L k))=s.add (s8 k (mn (dv k e.2.1) c)):=by
 have h:=y8 L (fun e=>(bS k (jK [] e.2.1)).map fun v=>s8 k (mn v c)) hn he s
 have e1:lZ k c (DJ L k)=L.filterMap fun e=>((bS k (jK [] e.2.1)).map fun v=>s8 k (mn v c)).map fun t=>(e.1,t):=by
  unfold lZ DJ;rw[List.map_filterMap];congr 1;funext e;cases bS k (jK [] e.2.1)<;>rfl
 rw[e1,h];congr 1;have h2:=wP k e.2.1 [];cases hg:bS k (jK [] e.2.1)with
 | none=>rw[hg]at h2;simp[bS,dJ]at h2;rw[← h2];simp[rk,s8,H5 hc]
 | some v=>rw[hg]at h2;simp[bS,dJ]at h2;rw[← h2];rfl
theorem Ih{L:List LF}(hn:(L.map (·.1)).Nodup){e:LF}(he:e∈L):∀ (gs:List Gr),(∀ g∈gs,0≤g.2)→∀ s:Sm,gM e.1 s (gs.flatMap fun g=>iY g.2 (DI L g.1))=s.add ⟨(gs.map fun g=>mn (iL g.1 [] (aS e.2.1)) g.2).sum,0,0⟩
 | [],_,s=>by simp[gM,Sm.add]
 | g::gs,h,s=>by
  rw[dP,qW,QA hn he g.1 (h g (by simp)),Ih hn he gs (fun x hx=>h x (by simp[hx])),Sm.add_assoc];simp only[Sm.add,az,bN,Lf]
theorem Ii{L:List LF}(hn:(L.map (·.1)).Nodup){e:LF}(he:e∈L):∀ (D:List (TK×Int)),(∀ p∈D,0≤p.2)→∀ s:Sm,gM e.1 s (D.flatMap fun p=>lZ p.1 p.2 (DJ L p.1)) =
   s.add ⟨0,(D.map fun p=>hW p.1*mn (dv p.1 e.2.1) p.2).sum,(D.map fun p=>hT p.1*mn (dv p.1 e.2.1) p.2).sum⟩
 | [],_,s=>by simp[gM,Sm.add]
 | p::D,h,s=>by
  rw[dP,qW,Qy hn he p.1 (h p (by simp)),Ii hn he D (fun x hx=>h x (by simp[hx])),Sm.add_assoc];simp only[Sm.add,az,bN,s8,hW,hT];split<;>simp[Int.mul_comm]
def py(q s:List It):Sm :=
 ⟨cC (fun k=>mn (iL k [] (aS s)) (iL k [] (aS q))) (Uy (aS q)),cC (fun k=>hW k*mn (dv k s) (dv k q)) (SF q),cC (fun k=>hT k*mn (dv k s) (dv k q)) (SF q)⟩
theorem U2{L:List LF}(hn:(L.map (·.1)).Nodup){e:LF}(he:e∈L)(q:List It){D:List (TK×Int)}(hD:D.Perm (jK [] q)):
  (bS e.1 (cZ (cZ [] ((b9 (aS q)).flatMap fun g=>iY g.2 (DI L g.1))) (D.flatMap fun p=>lZ p.1 p.2 (DJ L p.1)))).getD rk=py q e.2.1:=by
 rw[rZ,rZ];have e0:(bS e.1 ([]:List mU)).getD rk=rk:=rfl;rw[e0,y7 e.1 _ (ix _),y7 e.1 _ hD];have hg:∀ g∈ek [] [] (aS q),0≤g.2:=fun g h=>by rw[GQ h];exact oO _ _ _
 have hc:∀ p∈jK [] q,0≤p.2:=fun p h=>by rw[CO h];exact ny _ _
 rw[Ih hn he _ hg,Ii hn he _ hc]
 have e1:(ek [] [] (aS q)).map (fun g=>mn (iL g.1 [] (aS e.2.1)) g.2)=(Uy (aS q)).map fun k=>mn (iL k [] (aS e.2.1)) (iL k [] (aS q)):=by
  unfold Uy;rw[ic];exact cN fun g hg=>by rw[GQ hg];rfl
 have e2:∀ h:TK→Int,(jK [] q).map (fun p=>h p.1*mn (dv p.1 e.2.1) p.2)=(SF q).map fun k=>h k*mn (dv k e.2.1) (dv k q):=fun h=>by
  unfold SF;rw[ic];exact cN fun p hp=>by rw[CO hp];rfl
 rw[e1,e2,e2];simp[py,Sm.add,rk,cC]
def zK(q s:List It)(k:TK):Int:=hW k*pos (dv k q - dv k s)
def oq(q s:List It)(k:TK):Int:=hT k*l9 (dv k q - dv k s)
theorem vr(q s:List It)(k:TK):gj q s k=zK q s k+oq q s k:=by
 unfold gj zK oq hW hT;split<;>simp
theorem MJ(a b:Int):b=mn a b+pos (b - a):=by unfold mn pos;(repeat' split)<;>omega
theorem H6(a b:Int):a=mn a b+pos (a - b):=by unfold mn pos;(repeat' split)<;>omega
theorem Th(a b:Int):b+a=2*mn a b+l9 (b - a):=by unfold mn l9;(repeat' split)<;>omega
theorem Bk(a b:Int):l9 (a - b)=l9 (b - a):=by unfold l9;(repeat' split)<;>omega
theorem AR{a:Int}(h:0≤a):mn a 0=0:=by unfold mn;split<;>omega
def l8(q s:List It):List TK:=SF (q++s)
theorem jo(q s:List It):(l8 q s).Nodup:=uQ _
theorem uW{q s:List It}{k:TK}(h:dv k q≠0):k∈l8 q s:=CS (by rw[ES];have:=ny k q;have:=ny k s;omega)
theorem yY{q s:List It}{k:TK}(h:dv k s≠0):k∈l8 q s:=CS (by rw[ES];have:=ny k q;have:=ny k s;omega)
theorem CK(h:TK→Int)(q s:List It):cC (fun k=>h k*mn (dv k s) (dv k q)) (SF q)=cC (fun k=>h k*mn (dv k s) (dv k q)) (l8 q s) :=
 nR _ (uQ q) (jo q s) fun k hk=>by
  have h0:dv k q≠0:=fun e=>hk (by simp only[e];rw[AR (ny k s),Int.mul_zero]);exact⟨CS h0,uW h0⟩
theorem LR(q s:List It):Ak 0 q=(py q s).weight+cC (zK q s) (l8 q s):=by
 rw[Ho (jo q s) fun k h=>uW h];simp only[py];rw[CK,← km];refine du fun k _=>?_;simp only[zK];rw[← Int.mul_add,← MJ]
theorem LQ(q s:List It):Ak 0 s=(py q s).weight+cC (zK s q) (l8 q s):=by
 rw[Ho (jo q s) fun k h=>yY h];simp only[py];rw[CK,← km];refine du fun k _=>?_;simp only[zK];rw[← Int.mul_add,← H6]
theorem L2{α:Type}(c:Int)(f:α→Int)(K:List α):cC (fun k=>c*f k) K=c*cC f K:=by
 induction K with
 | nil=>simp[cC]
 | cons k K ih=>simp only[cC,az,bN]at ih ⊢;rw[ih,il]
theorem Pw(q s:List It):Ar 0 q+Ar 0 s=2*(py q s).tags+cC (oq q s) (l8 q s):=by
 rw[Hv (jo q s) fun k h=>uW h,Hv (jo q s) fun k h=>yY h];simp only[py];rw[CK,← km,← L2,← km];refine du fun k _=>?_;simp only[oq];have h:=Th (dv k s) (dv k q);have e:hT k*dv k q+hT k*dv k s=hT k*(dv k q+dv k s):=(il ..).symm;rw[e,h,il,Int.mul_left_comm]
theorem wN{k:TK}(hk:jV k=true)(l:List It):gf k l=dv k l:=by
 induction l with
 | nil=>rfl
 | cons x l ih =>
  simp only[gf,dv,ih];congr 1
  have e:dq x=k↔rH x=some k:=by
   constructor
   ·rintro rfl;have ht:bG x=true:=hk
    have hc:bZ x=(⟨x.ahr,x.aht,0⟩,bG x):=by
     unfold bZ;rw[aw];simp only[bG,c8,bR]at ht;omega
    unfold rH;rw[hc];simp only[ht,aO];rfl
   ·intro h;have h1:=wO h;have ht:bG x=true:=by rw[← h1.2.1];exact hk
    have hc:bZ x=(⟨x.ahr,x.aht,0⟩,bG x):=by
     unfold bZ;rw[aw];simp only[bG,c8,bR]at ht;omega
    unfold rH at h;rw[hc]at h;simp only[ht,aO,aa]at h;exact h
  by_cases h:dq x=k
  ·rw[aI h,aI (e.1 h)]
  ·rw[aw h,aw (fun h2=>h (e.2 h2))]
theorem xf(q s:List It):ub q s=cC (oq q s) (l8 q s):=by
 rw[Av]
 have nq:(Fk [] q++Fl q [] s).Nodup:=by
  rw[fR];refine⟨ur _ _,uv _ _ _,fun x hx y hy=>?_⟩;rintro rfl;exact((ni _ _ _).1 hx).2.2 ((lV _ _ _ _).1 hy).2.2.1
 have e:cC (fun k=>l9 (gf k q - gf k s)) (Fk [] q++Fl q [] s)=cC (oq q s) (Fk [] q++Fl q [] s):=du fun k hk=>by
  have ht:jV k=true:=by
   rcases bP.1 hk with h | h
   ·exact((ni _ _ _).1 h).1
   ·exact((lV _ _ _ _).1 h).1
  simp only[oq,hT,ht,aO,Int.one_mul,wN ht]
 rw[e];refine nR _ nq (jo q s) fun k hk=>?_
 have ht:jV k=true:=by
  cases h:jV k with
  | true=>rfl
  | false=>exact absurd (by simp[oq,hT,h]) hk
 by_cases h1:dv k q=0
 ·have h2:dv k s≠0:=fun h2=>hk (by simp[oq,h1,h2,l9]);refine⟨List.mem_append_right _ ((lV _ _ _ _).2 ⟨ht,rfl,?_,?_⟩),yY h2⟩
  ·rw[wN ht];exact h1
  ·rw[wN ht];exact h2
 ·exact⟨List.mem_append_left _ ((ni _ _ _).2 ⟨ht,rfl,by rw[wN ht];exact h1⟩),uW h1⟩
def CU(a b:List (List UInt8)):List GK:=(ek (ek [] [] a) [] b).map (·.1)
theorem mO(a b:List (List UInt8)):(CU a b).Nodup:=(jx b _ [] _ (jx a [] [] 0 CN.nil)).2.1
theorem Fb(a b:List (List UInt8))(k:GK):(bS k (ek (ek [] [] a) [] b)).getD 0=iL k [] a+iL k [] b:=by
 rw[kS,kS];simp[bS,dJ]
theorem OS{a b:List (List UInt8)}{k:GK}(h:iL k [] a≠0):k∈CU a b:=nh (by rw[Fb];have:=oO k a [];have:=oO k b [];omega)
theorem Vb{a b:List (List UInt8)}{k:GK}(h:iL k [] b≠0):k∈CU a b:=nh (by rw[Fb];have:=oO k a [];have:=oO k b [];omega)
theorem YQ(q s:List It):(py q s).ed=cC (fun k=>mn (iL k [] (aS s)) (iL k [] (aS q))) (CU (aS q) (aS s)) :=
 nR _ (uK _) (mO _ _) fun k hk=>by
  have h0:iL k [] (aS q)≠0:=fun e=>hk (by simp only[e];rw[AR (oO k _ _)]);exact⟨IA h0,OS h0⟩
theorem PL(q s:List It):BJ 0 (b9 (aS q))=(py q s).ed+cC (jf [] (aS q) [] (aS s)) (CU (aS q) (aS s)):=by
 rw[AM _ (mO (aS q) (aS s)) fun k h=>OS h,YQ,← km];exact du fun k _=>MJ _ _
theorem PK(q s:List It):BJ 0 (b9 (aS s))=(py q s).ed+cC (jf [] (aS s) [] (aS q)) (CU (aS q) (aS s)):=by
 rw[AM _ (mO (aS q) (aS s)) fun k h=>Vb h,YQ,← km];exact du fun k _=>H6 _ _
theorem OJ(q s:List It):qt (gR q) (gR s) (py q s)≤iN s q:=by
 have hA:=rl s q;have hK:=jo q s;have h1:=Ib hK hA.symm;have h2:=Ib hK hA
 have e1:cC (gj q s) (l8 q s)=cC (zK q s) (l8 q s)+cC (oq q s) (l8 q s):=by
  rw[← km];exact du fun k _=>vr q s k
 have e2:cC (gj s q) (l8 q s)=cC (zK s q) (l8 q s)+cC (oq q s) (l8 q s):=by
  rw[← km];refine du fun k _=>?_;rw[vr s q k];simp only[oq,Bk (dv k s)]
 have e3:ub s q=cC (oq q s) (l8 q s):=by
  have h:ub s q=ub q s:=by
   have a:=rK s q
   have hh:cC (oq s q) (l8 s q)=cC (oq q s) (l8 q s):=by
    have:cC (oq s q) (l8 s q)=cC (oq q s) (l8 s q):=du fun k _=>by simp only[oq,Bk (dv k s)]
    rw[this];refine nR _ (jo s q) hK fun k hk=>?_
    by_cases h1:dv k q=0
    ·have h2:dv k s≠0:=fun h2=>hk (by simp[oq,h1,h2,l9]);exact⟨uW h2,yY h2⟩
    ·exact⟨yY h1,uW h1⟩
   rw[xf,xf,hh]
  rw[h,xf]
 obtain⟨k1,_,g1,g2⟩:=Ec (mO (aS q) (aS s)) hA.symm;obtain⟨k2,_,g3,g4⟩:=Ec (mO (aS q) (aS s)) hA;have g2:=g2 [] [];have g4:=g4 [] [];rw[aI rfl]at g2 g4;have w1:=LR q s;have w2:=LQ q s;have t1:=Pw q s;have p1:=PL q s;have p2:=PK q s;have hs:=(Hy s q).1;rw[EL]
 have O6:∀ f:GK→Int,(∀ k,0≤f k)→∀ K:List GK,0≤cC f K:=fun f hf K=>by
  have:=sD (f:=f) (g:=fun _=>0) (K:=K) fun k _=>hf k;rw[nQ]at this;exact this
 have n1:=O6 (jf [] (aS q) [] (aS s)) (fun k=>by unfold jf pos;split<;>omega) (CU (aS q) (aS s));generalize cC (gj q s) (l8 q s)=x1 at *;generalize cC (gj s q) (l8 q s)=x2 at *;generalize cC (zK q s) (l8 q s)=y1 at *;generalize cC (zK s q) (l8 q s)=y2 at *;generalize cC (oq q s) (l8 q s)=z at *;generalize cC (jf [] (aS q) [] (aS s)) (CU (aS q) (aS s))=u1 at *;generalize cC (jf [] (aS s) [] (aS q)) (CU (aS q) (aS s))=u2 at *;simp only[qt,gR];generalize (py q s).weight=cw at *;generalize (py q s).tags=ct at *;generalize (py q s).ed=cp at *;generalize tv s q=d at *;generalize ub s q=r at *
 have m1:mx (BJ 0 (b9 (aS q))) (BJ 0 (b9 (aS s))) - cp+1≤d.ediv 4*2+1∧0≤mx (BJ 0 (b9 (aS q))) (BJ 0 (b9 (aS s))) - cp+1:=by
  unfold mx;have:d.ediv 4=d / 4:=rfl;rw[this];split<;>omega
 rw[fS m1.2]
 have m2:(mx (BJ 0 (b9 (aS q))) (BJ 0 (b9 (aS s))) - cp+1) / 2≤d / 4:=by
  have:d.ediv 4=d / 4:=rfl;rw[this]at m1;omega
 generalize (mx (BJ 0 (b9 (aS q))) (BJ 0 (b9 (aS s))) - cp+1) / 2=m at *
 have m3:mx (Ak 0 q) (Ak 0 s) - cw+3*(Ar 0 q+Ar 0 s - 2*ct)≤d+2*r:=by
  unfold mx;split<;>omega
 unfold mx at m3 ⊢;split<;>omega
theorem PT(a b:Int):mx a b=mx b a:=by unfold mx;(repeat' split)<;>omega
theorem Cl(q s:List It)(p:Int)(hp:1≤p∧p≤100)(h:p≤dF s q)(hq:q.length≤2^20)(hs:s.length≤2^20):qt (gR q) (gR s) (py q s)≤ky (mx (gH q) (gH s)) p:=by
 have hb:=OJ q s;have hd:=Oe s q;have ht:=yR s q;have e:mx (gH q) (gH s)=jn s q:=PT _ _;rw[e];generalize qt (gR q) (gR s) (py q s)=B at *;unfold dF at h;generalize jn s q=T at *;generalize iN s q=d at *;unfold ky;rw[aw (by omega)];split
 ·omega
 ·rename_i hc;have hT:1≤T:=by omega
  rw[aw (by omega)]at h;rw[aw (by omega:¬ (1073741824:Int)<T)];have h0:0≤mx (T - d) 0:=by unfold mx;split<;>omega
  rw[fS (by omega)]at h;rw[fS (sv (by omega) (by omega))]
  have h1:p*T≤100*mx (T - d) 0:=by
   have:=Int.mul_le_of_le_ediv (by omega:(0:Int)<T) h;exact this
  refine(Int.le_ediv_iff_mul_le (by decide)).2 ?_;have h2:1*T≤p*T:=o7 hp.1 (by omega);have h3:mx (T - d) 0=T - d:=by unfold mx at h1 ⊢;split<;>simp_all<;>omega
  rw[h3]at h1;rw[Int.mul_sub,Int.mul_comm T p];omega
structure kj where
 id:Int
 key:List UInt8
 en:En
 dR:List It
def kj.ahq(s:kj):List V:=[.i .i64 s.id,.s s.key,.sl 3 (s.en.ahu.map It.ahq),.sl 3 (s.en.ahB.map It.ahq),.s s.en.bM,.s s.en.next,.s s.en.cY,.s s.en.cE,.i .i64 s.en.ahD,.i .i64 s.en.ahI,.sl 3 (s.dR.map It.ahq)]
def pw{α:Type}(p:α→Bool)(l:List α):Nat:=(l.takeWhile p).length
theorem HF{α:Type}(p:α→Bool)(l:List α):pw p l≤l.length:=List.Sublist.length_le (List.takeWhile_sublist _)
theorem qH{α:Type}{p:α→Bool}{l:List α}(h:l.Pairwise fun a b=>p b=true→p a=true):∀ (k:Nat) (y:α),l[k]?=some y→(p y=true↔k<pw p l):=by
 induction l with
 | nil=>intro k y h;simp at h
 | cons a l ih =>
  replace h:=so.1 h
  intro k y hk
  by_cases ha:p a=true
  ·have e:pw p (a::l)=pw p l+1:=by simp[pw,fV,ha]
   cases k with
   | zero=>simp only[aq,aa]at hk;subst hk;rw[e];simp[ha]
   | succ k =>
    have:=ih h.2 k y (by simpa using hk);rw[this,e];omega
  ·have e:pw p (a::l)=0:=by simp[pw,fV,ha]
   rw[e];refine⟨fun hy=>?_,fun h=>by omega⟩;cases k with
   | zero=>simp only[aq,aa]at hk;subst hk;exact absurd hy ha
   | succ k=>exact absurd (h.1 y (aV (by simpa using hk)) hy) ha
theorem DO{β:Type}{lt:β→β→Prop}[DecidableRel lt](irr:∀ x,¬ lt x x)(tr:∀ x y z,lt x y→lt y z→lt x z){l:List β}(h:l.Pairwise lt){t:β}:t∈l↔l[pw (fun x=>decide (lt x t)) l]?=some t:=by
 have hp:l.Pairwise fun a b=>decide (lt b t)=true→decide (lt a t)=true:=h.imp fun {a b} Pc hb=>by
  simp only[aU]at hb ⊢;exact tr _ _ _ Pc hb
 refine⟨fun hm=>?_,aV⟩;obtain⟨k,hk⟩:=eZ.1 hm;have h1:=qH hp k t hk;have h1:¬ k<pw (fun x=>decide (lt x t)) l:=fun h=>irr t (by simpa using h1.2 h);have tR:=(ab.1 hk).1
 have e:pw (fun x=>decide (lt x t)) l=k:=by
  refine a8 fun ig=>?_;have h2:l[pw (fun x=>decide (lt x t)) l]?=some l[pw (fun x=>decide (lt x t)) l]:=al (by omega);have h3:=qH hp _ _ h2;have h4:=VE.1 h _ k (by omega:pw (fun x=>decide (lt x t)) l<l.length) tR (by omega);have h5:l[k]=t:=by rw[al tR]at hk;simpa using hk
  rw[h5]at h4;have:=h3.1 (by simpa using h4);omega
 rw[e];exact hk
abbrev y9(M:List kj):Prop:=(M.map kj.key).Pairwise fun a b=>fZ a b<0
def lW(M:List kj)(k:List UInt8):Nat:=pw (fun s=>decide (fZ s.key k<0)) M
theorem Qq(M:List kj)(k:List UInt8):lW M k≤M.length:=HF _ _
theorem Ke{M:List kj}(h:y9 M)(k:List UInt8)(i:Nat)(x:kj)(hx:M[i]?=some x):fZ x.key k<0↔i<lW M k:=by
 have hp:M.Pairwise fun a b=>decide (fZ b.key k<0)=true→decide (fZ a.key k<0)=true:=(Lb.1 h).imp fun {a b} Pc hb=>by
  simp only[aU]at hb ⊢;exact rF Pc hb
 have:=qH hp i x hx;simpa[lW]using this
theorem Mu{α β:Type}(f:α→β)(p:β→Bool)(l:List α):pw p (l.map f)=pw (fun x=>p (f x)) l:=by
 induction l with
 | nil=>rfl
 | cons a l ih =>
  simp only[pw,az,fV]at ih ⊢;split
  ·simp[ih]
  ·rfl
theorem Qs{M:List kj}(h:y9 M)(k:List UInt8):k∈M.map kj.key↔∃ x,M[lW M k]?=some x∧x.key=k:=by
 have:=DO (lt:=fun a b=>fZ a b<0) (fun x hx=>by rw[mJ.self]at hx;omega) (fun x y z=>rF) h (t:=k);rw[this,Mu,bf,aj];exact C4
def s9(l:List Int)(t:Int):Nat:=pw (fun x=>decide (x<t)) l
theorem Kn{l:List Int}(h:l.Pairwise fun a b=>a<b)(t:Int)(i:Nat)(x:Int)(hx:l[i]?=some x):x<t↔i<s9 l t:=by
 have hp:l.Pairwise fun a b=>decide (b<t)=true→decide (a<t)=true:=h.imp fun {a b} Pc hb=>by
  simp only[aU]at hb ⊢;omega
 have:=qH hp i x hx;simpa[s9]using this
theorem QB{l:List Int}(h:l.Pairwise fun a b=>a<b)(t:Int):t∈l↔l[s9 l t]?=some t :=
 DO (lt:=fun a b:Int=>a<b) (fun x hx=>by omega) (fun x y z h1 h2=>by omega) h
theorem Dm{α:Type}[DecidableEq α](a:α)(v:Int):∀ C:List (α×Int),((eW C a v).map (·.2)).sum=(C.map (·.2)).sum - (bS a C).getD 0+v
 | []=>by simp[eW,bS,dJ]
 | p::C=>by
  have ih:=Dm a v C;rw[kT]
  by_cases h:a=p.1
  ·simp only[eW,aI h,az,bN,fB];omega
  ·simp only[eW,aw h,az,bN,ih];omega
theorem xh{α:Type}[DecidableEq α](C:List (α×Int))(a:α)(d:Int):((bump C a d).map (·.2)).sum=(C.map (·.2)).sum+d:=by
 unfold bump;rw[Dm];omega
theorem yo:∀ (ws:List (List UInt8)) (C:List (GK×Int)) (last:List UInt8),((ek C last ws).map (·.2)).sum=(C.map (·.2)).sum+ws.length+1
 | [],C,last=>by simp only[ek,xh];simp
 | w::r,C,last=>by simp only[ek,yo r,xh,ag];omega
theorem IJ:∀ (l:List It) (C:List (TK×Int)),((jK C l).map (·.2)).sum≤(C.map (·.2)).sum+l.length
 | [],C=>by simp[jK]
 | t::r,C=>by
  have h:=IJ r (if(bZ t).2 then bump C (dq (bZ t).1) 1 else C);simp only[jK,ag];split at h
  ·rename_i hc;rw[xh]at h;rw[aI hc];omega
  ·rename_i hc;rw[aw hc];omega
theorem yn(ws:List (List UInt8)):((b9 ws).map (·.2)).sum=(ws.length:Int)+1:=by
 rw[Dn ((ix ws).map (·.2)),yo];simp
theorem Qz(c:Int)(hc:0≤c)(N:Nat):∀ ps:List (Int×Int),ps.length≤N→iq (iY c ps)≤N*c:=by
 have key:∀ ps:List (Int×Int),iq (iY c ps)≤ps.length*c:=by
  intro ps
  induction ps with
  | nil=>simp[iq,iY]
  | cons p ps ih =>
   have h:mn p.2 c≤c:=by unfold mn;split<;>omega
   have e:(((p::ps).length:Nat):Int)*c=ps.length*c+c:=by simp only[ag,qx,Ph];omega
   rw[e];simp only[iq,iY,az,bN,Sm.size]at ih ⊢;omega
 intro ps hp;refine dL (key ps) (o7 (by omega) hc)
theorem Qx(k:TK)(c:Int)(hc:0≤c)(N:Nat):∀ ps:List (Int×Int),(∀ p∈ps,0≤p.2)→ps.length≤N→iq (lZ k c ps)≤N*(4*c):=by
 have key:∀ ps:List (Int×Int),(∀ p∈ps,0≤p.2)→iq (lZ k c ps)≤ps.length*(4*c):=by
  intro ps
  induction ps with
  | nil=>intro _;simp[iq,lZ]
  | cons p ps ih =>
   intro hp;have ih:=ih fun x hx=>hp x (by simp[hx]);have h0:=hp p (by simp);have h:0≤mn p.2 c∧mn p.2 c≤c:=by unfold mn;split<;>omega
   have hw:=tU ⟨k.1,k.2,0⟩;have hm:mn p.2 c*weight ⟨k.1,k.2,0⟩≤mn p.2 c*4:=jT hw.2 h.1;have e:(((p::ps).length:Nat):Int)*(4*c)=ps.length*(4*c)+4*c:=by simp only[ag,qx,Ph];omega
   rw[e];simp only[iq,lZ,az,bN,Sm.size]at ih ⊢
   by_cases ht:jV k=true
   ·simp only[ht,aO]at ih ⊢;omega
   ·simp only[ht,aA,aJ]at ih ⊢;omega
 intro ps h0 hp;refine dL (key ps h0) (o7 (by omega) (by omega))
theorem Eo(N:Nat)(f:GK→List (Int×Int))(hf:∀ k,(f k).length≤N):∀ gs:List Gr,(∀ g∈gs,0≤g.2)→iq (gs.flatMap fun g=>iY g.2 (f g.1))≤N*(gs.map (·.2)).sum
 | [],_=>by simp[iq]
 | g::gs,h=>by
  have h1:=Qz g.2 (h g (by simp)) N (f g.1) (hf _);have h2:=Eo N f hf gs fun x hx=>h x (by simp[hx]);rw[dP,nS,az,bN,il];omega
theorem Em(N:Nat)(f:TK→List (Int×Int))(hf:∀ k,(f k).length≤N)(h0:∀ k,∀ p∈f k,0≤p.2):∀ D:List (TK×Int),(∀ p∈D,0≤p.2)→iq (D.flatMap fun p=>lZ p.1 p.2 (f p.1))≤N*(4*(D.map (·.2)).sum)
 | [],_=>by simp[iq]
 | p::D,h=>by
  have h1:=Qx p.1 p.2 (h p (by simp)) N (f p.1) (h0 _) (hf _);have h2:=Em N f hf h0 D fun x hx=>h x (by simp[hx]);rw[dP,nS,az,bN,il 4,il];omega
theorem LP:∀ (l:List It) (n:Int),n≤Ak n l∧Ak n l≤n+4*l.length
 | [],n=>by simp[Ak]
 | t::r,n=>by
  have h:=LP r (if(bZ t).2&&!bG (bZ t).1 then n+weight (bZ t).1 else n);have hw:=tU (bZ t).1;simp only[Ak,ag];split at h
  ·rename_i hc;rw[aI hc];omega
  ·rename_i hc;rw[aw hc];omega
theorem L0:∀ (l:List It) (n:Int),n≤Ar n l∧Ar n l≤n+l.length
 | [],n=>by simp[Ar]
 | t::r,n=>by
  have h:=L0 r (if(bZ t).2&&bG (bZ t).1 then n+1 else n);simp only[Ar,ag];split at h
  ·rename_i hc;rw[aI hc];omega
  ·rename_i hc;rw[aw hc];omega
theorem Dl(l:List It)(h:l.length<2^27):(gR l).ok (2^40)∧0≤gH l∧gH l≤2^40:=by
 have h1:=LP l 0;have h2:=L0 l 0;have h3:=wv l;have h4:=ml l;have h5:BJ 0 (b9 (aS l))=((aS l).length:Int)+1:=by rw[BI,yn];omega
 refine⟨⟨?_,?_,?_⟩,by omega,by omega⟩
 ·simp only[gR,h5];omega
 ·simp only[gR];omega
 ·simp only[gR];omega
theorem Ey{k:TK}{l:List It}{v:Int}(h:bS k (jK [] l)=some v):0≤v:=by
 have:=(yK l [] 0 CN.nil).2.2 k v h;omega
theorem GP{k:GK}{ws:List (List UInt8)}{v:Int}(h:bS k (ek [] [] ws)=some v):0≤v:=by
 have:=(jx ws [] [] 0 CN.nil).2.2 k v h;omega
def lG:List It:=[⟨1,[83,97,118,101],0⟩]
def Ll:En:=⟨lG,[⟨1,[83,105,99,104,101,114,110],0⟩],[97],[98],[],[],0,3⟩
def Lk:Qr:=⟨lG,[97],[98],0,50,5⟩
def ZO:Pn:=⟨3,[],[],0,10⟩
theorem XJ:fk Ll=0:=by decide +kernel
theorem TI:dE Lk=0:=by decide +kernel
theorem ZN:pY []=0:=by decide +kernel
theorem rQ:dR lG=[⟨6,[83,97,118,101],0⟩]:=by rfl
theorem Qp:(Mg Ll [ZO] Lk).ahq=[.i .i64 0,.i .i64 100,.i .i64 2,.i .i64 10,.i .i64 92]:=by rfl
end Go.Bt

/- A part of the proof of the statement of the last text of this claim; its conditions stand there. -/
import Derived.Test.YtkkjfegefckehaaGreatDoorB21
set_option linter.all false

namespace Go.Bt
open Go Go.Pm
theorem encode_inj{a b:aJ}(ha:a.small)(hb:b.small)(h1:cw a=0)(h2:cw b=0)(h:(encode a).1=(encode b).1):a=b:=by
 have e1:(encode a).1=bX a:=by simp[encode,h1]
 have e2:(encode b).1=bX b:=by simp[encode,h2]
 rw[e1,e2]at h;have:=CG ha h1;rw[h,CG hb h2]at this;simpa using this.symm
theorem QP{arr:List aJ}{x:aJ}(h:x∈arr):x.aA.time≤fh arr:=by
 have key:∀ (arr:List aJ) (c:Int),c≤arr.foldl yW c∧∀ x∈arr,x.aA.time≤arr.foldl yW c:=by
  intro arr
  induction arr with
  | nil=>intro c;simp
  | cons a arr ih =>
   intro c;rw[bd];have h1:=ih (yW c a);have h2:=Of c a;refine⟨by omega,fun x hx=>?_⟩;rcases aU.1 hx with rfl | hx
   ·omega
   ·exact h1.2 x hx
 exact(key arr 0).2 x h
theorem PD(n:Int)(arr:List aJ)(x:aJ):lq n (arr++[x])=lq n arr+if x.aA.aS=n then 1 else 0:=by
 simp only[lq,List.filter_append,List.length_append]
 by_cases h:x.aA.aS=n<;>simp[h]
theorem o6.lex{α:Type}{c d:α→α→Int}(h:o6 c)(k:o6 d):o6 (wh c d):=by
 refine⟨fun a b=>?_,fun a b e h1 h2=>?_⟩
 ·have h1:=h.mI a b;have h2:=k.mI a b;simp only[wh];split<;>split<;>omega
 ·have g1:=h.mI a b;have g2:=h.mI b e;have g3:=h.trans a b e;have g4:=h.trans e a b;have g5:=h.mI e b;have g6:=h.mI a e;have g7:=h.trans b e a;have g8:=h.mI b a;have k3:=k.trans a b e;simp only[wh]at h1 h2 ⊢;split at h1<;>split at h2<;>split<;>omega
theorem qt:o6 eV:=by
 refine⟨fun a b=>?_,fun a b d=>?_⟩<;>simp only[eV]<;>(repeat' split)<;>omega
theorem r5{a b:Int}:eV a b=0↔a=b:=by
 simp only[eV]
 (repeat' split)<;>omega
theorem zB:iq=wh (fun a b=>eV a.time b.time) (wh (fun a b=>eV a.aS b.aS) (fun a b=>eV a.number b.number)):=by
 funext a b;simp only[iq,rz,wh]
 (repeat' split)<;>omega
theorem ID:o6 iq:=by
 rw[zB];exact(qt.on (fun s:bc=>s.time)).lex ((qt.on (fun s:bc=>s.aS)).lex (qt.on (fun s:bc=>s.number)))
theorem PL:o6 mP:=by
 rw[Ak];exact(qt.on (fun s:aJ=>s.aA.aS)).lex ((qt.on (fun s:aJ=>s.aA.number)).lex ((qt.on (fun s:aJ=>s.aA.time)).lex ((qt.on (fun s:aJ=>s.kind)).lex (eI.on (fun o:aJ=>(encode o).1)))))
def pT:aJ→aJ→Int:=wh (fun a b=>iq a.aA b.aA) mP
theorem kU:o6 pT:=(ID.on (fun o:aJ=>o.aA)).lex PL
theorem pS{a b:aJ}:l8 a b=true↔0<pT a b:=by
 simp only[l8,pT,wh,gm,aC,decide_eq_true_eq];split<;>omega
theorem OQ(a:aJ):l8 a a=false:=by
 have h:¬ l8 a a=true:=by rw[pS,kU.self];omega
 simpa using h
theorem LA{a b:aJ}(h:l8 a b=true):l8 b a=false:=by
 have h2:¬ l8 b a=true:=by
  rw[pS]at *;have:=kU.mI a b;omega
 simpa using h2
theorem I2{a b:aJ}(h:pT a b=0):a.aA=b.aA∧a.kind=b.kind∧(encode a).1=(encode b).1:=by
 simp only[pT,wh]at h;split at h
 ·rename_i h1;exact absurd h h1
 ·rename_i h1;rw[zB]at h1;rw[Ak]at h;simp only[wh]at h h1;obtain⟨⟨t,f,n⟩,k,e,s⟩:=a;obtain⟨⟨t',f',n'⟩,k',e',s'⟩:=b;simp only at h h1;have ht:t=t':=r5.1 (by split at h1<;>omega);subst ht;have z:∀ x,eV x x=0:=fun x=>r5.2 rfl;simp only[z,ne_eq,not_true,if_false]at h h1;have hf:f=f':=r5.1 (by split at h1<;>omega);subst hf;simp only[z,not_true,if_false]at h h1;have hn:n=n':=r5.1 (by omega);subst hn;simp only[z,not_true,if_false]at h;split at h
  ·rename_i h2;exact absurd h h2
  ·rename_i h2;exact⟨rfl,r5.1 (by simpa using h2),lZ.1 h⟩
theorem DH{k:List UInt8}{o:aJ}:∀ {l:List aJ},ko k l=some o→o∈l∧bE o=k
 | [],h=>by simp[ko]at h
 | x::r,h=>by
  simp only[ko]at h;split at h
  ·simp only[aa]at h;subst h;exact⟨by simp,by assumption⟩
  ·exact⟨cY _ (DH h).1,(DH h).2⟩
theorem Qt{x:aJ}{l:List aJ}(h:lu l)(hx:x∈l):ko (bE x) l=some x:=by
 induction l with
 | nil=>simp at hx
 | cons y l ih =>
  simp only[lu,ck]at h;simp only[ko];rcases aU.1 hx with rfl | hx
  ·rw[if_pos rfl]
  ·have:=h.1 x hx;rw[if_neg (fun e=>by rw[e,eI.self]at this;omega)];exact ih h.2 hx
def Nd(l:List aJ):Option aJ:=l.foldl better none
def tu(k:List UInt8)(l:List aJ):List aJ:=l.filter fun o=>decide (bE o=k)
theorem yi(k:List UInt8)(hk:k≠[])(l:List aJ)(hl:l.length≤1024):gz k (fA l)=Nd (tu k l):=by
 have key:∀ (l:List aJ) (m:List (List UInt8×aJ)),gz k (l.foldl gu m)=(tu k l).foldl better (gz k m):=by
  intro l
  induction l with
  | nil=>intro m;rfl
  | cons o l ih =>
   intro m;simp only[bd,ih,tQ,tu,fQ]
   by_cases h:bE o=k
   ·rw[if_neg (by rw[h];exact hk),if_pos h];simp[h]
   ·rw[if_neg h];simp[h]
 simp only[fA];rw[if_neg (by omega),key];rfl
theorem IY(l:List aJ):gz [] (fA l)=none:=by
 have key:∀ (l:List aJ) (m:List (List UInt8×aJ)),gz [] m=none→gz [] (l.foldl gu m)=none:=by
  intro l
  induction l with
  | nil=>intro m h;exact h
  | cons o l ih =>
   intro m h;simp only[bd];refine ih _ ?_;rw[tQ];split
   ·exact h
   ·exact h
 simp only[fA];split
 ·rfl
 ·exact key l [] rfl
theorem uC{a b d:aJ}(h1:l8 a b=false)(h2:l8 b d=false):l8 a d=false:=by
 cases h:l8 a d with
 | false=>rfl
 | true =>
  have n1:¬ 0<pT a b:=fun e=>by rw[pS.2 e]at h1;simp at h1
  have n2:¬ 0<pT b d:=fun e=>by rw[pS.2 e]at h2;simp at h2
  have h3:=pS.1 h;have a1:=kU.mI a b;have a2:=kU.mI b d;have a3:=kU.mI a d;exfalso
  by_cases e1:pT b a=0
  ·
   by_cases e2:pT d b=0
   ·have:=kU.trans d b a (by omega) (by omega);omega
   ·have:=kU.trans d b a (by omega) (by omega);omega
  ·have:=kU.trans d b a (by omega) (by omega);omega
theorem Gs:∀ (l:List aJ) (w:aJ),Nd l=some w→w∈l∧∀ x∈l,l8 x w=false:=by
 have key:∀ (l:List aJ) (acc:Option aJ) (w:aJ),l.foldl better acc=some w→(w∈l∨acc=some w)∧(∀ x∈l,l8 x w=false)∧∀ a,acc=some a→l8 a w=false:=by
  intro l
  induction l with
  | nil =>
   intro acc w h;refine⟨.inr h,by simp,fun a ha=>?_⟩;have h:acc=some w:=h;rw[h]at ha;simp only[aa]at ha;subst ha;exact OQ _
  | cons o l ih =>
   intro acc w h;simp only[bd]at h;obtain⟨h1,h2,h3⟩:=ih _ _ h
   have ho:l8 o w=false:=by
    cases acc with
    | none=>exact h3 o rfl
    | some a =>
     simp only[better]at h3
     by_cases hw:l8 o a=true
     ·exact h3 o (by rw[if_pos hw])
     ·exact uC (by simpa using hw) (h3 a (by rw[if_neg hw]))
   refine⟨?_,fun x hx=>?_,fun a ha=>?_⟩
   ·rcases h1 with h1 | h1
    ·exact .inl (by simp[h1])
    ·cases acc with
     | none=>simp only[better,aa]at h1;exact .inl (by simp[h1])
     | some a =>
      simp only[better]at h1;split at h1
      ·simp only[aa]at h1;exact .inl (by simp[h1])
      ·exact .inr h1
   ·rcases aU.1 hx with rfl | hx
    ·exact ho
    ·exact h2 x hx
   ·subst ha;simp only[better]at h3
    by_cases hw:l8 o a=true
    ·exact uC (LA hw) ho
    ·exact h3 a (by rw[if_neg hw])
 intro l w h;obtain⟨h1,h2,_⟩:=key l none w h;exact⟨by simpa using h1,h2⟩
theorem Gt{l:List aJ}(h:Nd l=none):l=[]:=by
 cases l with
 | nil=>rfl
 | cons o l =>
  have key:∀ (l:List aJ) (a:aJ),∃ w,l.foldl better (some a)=some w:=by
   intro l
   induction l with
   | nil=>intro a;exact⟨a,rfl⟩
   | cons o l ih =>
    intro a;simp only[bd,better];split
    ·exact ih o
    ·exact ih a
  obtain⟨w,hw⟩:=key l o;simp only[Nd,bd,better]at h;rw[hw]at h;simp at h
theorem SH{a b:aJ}(ha:a.small)(hb:b.small)(h1:cw a=0)(h2:cw b=0)(h3:l8 a b=false)(h4:l8 b a=false):a=b:=by
 have n1:¬ 0<pT a b:=fun e=>by rw[pS.2 e]at h3;simp at h3
 have n2:¬ 0<pT b a:=fun e=>by rw[pS.2 e]at h4;simp at h4
 have:=kU.mI a b;exact encode_inj ha hb h1 h2 (I2 (a:=a) (b:=b) (by omega)).2.2
theorem SM{o:aJ}(h:bE o≠[]):cw o=0:=by
 by_cases h1:cw o=0
 ·exact h1
 ·exact absurd (by simp only[bE,ne_eq,h1,not_false_eq_true,if_true]) h
theorem Uj{k:List UInt8}(hk:k≠[]){l:List aJ}(hs:∀ o∈l,o.small){w:aJ}:Nd (tu k l)=some w↔(w∈l∧bE w=k∧∀ x∈l,bE x=k→l8 x w=false):=by
 constructor
 ·intro h;obtain⟨h1,h2⟩:=Gs _ _ h;simp only[tu,cV,decide_eq_true_eq]at h1 h2;exact⟨h1.1,h1.2,fun x hx Q5=>h2 x ⟨hx,Q5⟩⟩
 ·rintro⟨h1,h2,h3⟩;have hm:w∈tu k l:=by simp[tu,h1,h2]
  cases hb:Nd (tu k l)with
  | none=>rw[Gt hb]at hm;simp at hm
  | some v =>
   obtain⟨g1,g2⟩:=Gs _ _ hb;simp only[tu,cV,decide_eq_true_eq]at g1 g2;have e:=SH (hs v g1.1) (hs w h1) (SM (by rw[g1.2];exact hk)) (SM (by rw[h2];exact hk)) (h3 v g1.1 g1.2) (g2 w ⟨h1,h2⟩);rw[e]
theorem K3{l:List aJ}(hl:l.length≤1024)(hs:∀ o∈l,o.small){k:List UInt8}{w:aJ}:ko k (current l)=some w↔(k≠[]∧w∈l∧bE w=k∧∀ x∈l,bE x=k→l8 x w=false):=by
 rw[sR]
 by_cases hk:k=[]
 ·subst hk;rw[IY];simp
 ·rw[yi k hk l hl,Uj hk hs];simp[hk]
theorem M5{k:List UInt8}{a b:List (List UInt8)}(h:KA (a++k::b)):ka k (a++k::b)=a.length:=by
 simp only[KA,fy,ck]at h;obtain⟨_,⟨h2,_⟩,h3⟩:=h;simp only[ka,List.countP_append,Uz]
 have e1:a.countP (fun y=>decide (y<k))=a.length:=List.countP_eq_length.2 fun x hx=>by
  simp only[decide_eq_true_eq,qO];exact h3 x hx k (by simp)
 have e2:b.countP (fun y=>decide (y<k))=0:=we.2 fun x hx=>by
  simp only[decide_eq_true_eq,qO];have:=h2 x hx;have:=eI.mI k x;omega
 have e3:decide (k<k)=false:=by simp only[decide_eq_false_iff_not,qO,eI.self];omega
 rw[e1,e2,e3];simp
theorem Xe{m:List En}(h:wP m){e:En}(he:e∈m):0≤find m (cf e)∧find m (cf e)<m.length∧m[(find m (cf e)).toNat]?=some e:=by
 obtain⟨a,b,rfl⟩:=Np he
 have hc:ka (cf e) ((a++e::b).map cf)=a.length:=by
  have:=M5 (k:=cf e) (a:=a.map cf) (b:=b.map cf) (by have:=h.asc;simpa using this);simpa using this
 have hf:find (a++e::b) (cf e)=a.length:=by
  simp only[find,h.keys,hc];rw[if_neg];simp[List.getD_eq_getElem?_getD]
 rw[hf];refine⟨by omega,by simp;omega,?_⟩;simp
theorem TS{m:List En}(h:wP m){k:List UInt8}(hk:∀ e∈m,cf e≠k):find m k = -1:=by
 simp only[find,h.keys];rw[if_pos]
 by_cases h1:ka k (m.map cf)=(m.map cf).length
 ·exact .inr (.inl h1)
 ·refine .inr (.inr fun e=>?_);have fk:ka k (m.map cf)<(m.map cf).length:=by have:=DY k (m.map cf);omega
  rw[List.getD_eq_getElem?_getD,aw fk,oS]at e;have hm:=cK fk;rw[e,bK]at hm;obtain⟨x,hx,hxe⟩:=hm;exact hk x hx hxe
theorem Zy{o:aJ}(h:cw o=0):bE o≠[]:=by
 simp[bE,h,dL,(mi h).looked,cf]
theorem keeps{m:List aJ}(hm:∀ o∈m,cw o=0∧o.small)(hl:m.length≤1024){x:aJ}(hx:x∈m):
  (current m).countP (fun y=>bE x==bE y)=1∧∀ y∈current m,bE x=bE y→l8 x y=false ∧
   (y.kind=1→0≤find (cq m) (bE x)∧find (cq m) (bE x)<(cq m).length∧(cq m)[(find (cq m) (bE x)).toNat]?=some y.entry) ∧
   (y.kind≠1→find (cq m) (bE x) = -1):=by
 have hs:∀ o∈m,o.small:=fun o ho=>(hm o ho).2;have hk:=Zy (hm x hx).1;have hS:=xU m;have hM:=nn fun o ho=>(hm o ho).1
 obtain⟨w,hw⟩:∃ w,ko (bE x) (current m)=some w:=by
  cases hb:Nd (tu (bE x) m)with
  | some v=>exact⟨v,by rw[sR,yi _ hk m hl,hb]⟩
  | none =>
   have e:=Gt hb;have:x∈tu (bE x) m:=by simp[tu,hx]
   rw[e]at this;simp at this
 obtain⟨_,w1,w2,w3⟩:=(K3 hl hs).1 hw;have hwc:w∈current m:=(DH hw).1
 have only:∀ y∈current m,bE x=bE y→y=w:=fun y hy he=>by
  have:=Qt hS hy;rw[← he,hw]at this;exact(dJ this).symm
 refine⟨?_,fun y hy he=>?_⟩
 ·obtain⟨a,b,tD⟩:=Np hwc;rw[tD,lu,fy,ck]at hS
  have no:∀ y∈current m,y∈a∨y∈b→(bE x==bE y)=false:=by
   intro y hy ah8;cases hq:bE x==bE y with
   | false=>rfl
   | true =>
    have hq:=only y hy (by simpa using hq);subst hq;rcases ah8 with h | h
    ·have:=hS.2.2 y h y (by simp);rw[eI.self]at this;omega
    ·have:=hS.2.1.1 y h;rw[eI.self]at this;omega
  rw[tD,List.countP_append,Uz];rw[we.2 fun y hy=>by rw[no y (by rw[tD];simp[hy]) (.inl hy)];simp,we.2 fun y hy=>by rw[no y (by rw[tD];simp[hy]) (.inr hy)];simp];simp[w2]
 ·obtain rfl:=only y hy he;refine⟨w3 x hx rfl,fun h1=>?_,fun h1=>?_⟩
  ·have hc:=zA (hm y w1).1 h1;rw[he,hc.2];exact Xe hM (by simp only[cq,bK];exact⟨y,by simp[hy,h1],rfl⟩)
  ·refine TS hM fun e WI hj=>h1 ?_;simp only[cq,bK,cV]at WI;obtain⟨z,⟨hz,hz1⟩,rfl⟩:=WI;have hz1:z.kind=1:=by simpa using hz1
   have:=zA (hm z (mU hz)).1 hz1;rw[← this.2]at hj;rw[← only z hz hj.symm];exact hz1
theorem RL{o:aJ}(h:cw o=0):je o.seen o.aA.aS=o.aA.number - 1:=by
 simp only[cw]at h
 by_cases hv:je o.seen o.aA.aS=o.aA.number - 1
 ·exact hv
 ·rw[if_pos hv]at h
  (repeat' split at h)<;>simp at h
theorem Uo:∀ (F:List aJ) (a:Int),F.Pairwise (fun x y=>x.aA.number<y.aA.number)→(∀ x∈F,a<x.aA.number∧x.aA.number≤a+F.length)→∀ (j:Nat) (y:aJ),F[j]?=some y→y.aA.number=a+j+1
 | [],_,_,_,j,y,h=>by simp at h
 | x::r,a,hp,hb,j,y,h=>by
  have hx:=hb x (by simp);rw[ck]at hp
  have hr:∀ z∈r,a+1<z.aA.number∧z.aA.number≤a+1+r.length:=fun z hz=>by
   have h1:=hp.1 z hz;have h2:=(hb z (by simp[hz])).2;simp only[ab]at h2;omega
  have ih:=Uo r (a+1) hp.2 hr;cases j with
  | zero =>
   simp only[ao,aa]at h;subst h;cases r with
   | nil=>simp only[ab,ah]at hx;omega
   | cons z r =>
    have h1:=ih 0 z rfl;have h2:=hp.1 z (by simp);omega
  | succ j =>
   simp only[bQ]at h;have:=ih j y h;omega
theorem Me{n:Int}{arr:List aJ}(h:yd n arr)(j:Nat)(y:aJ)(hy:((dz arr).filter fun x=>x.aA.aS==n)[j]?=some y):y.aA.number=j+1:=by
 have hp:((dz arr).filter fun x=>x.aA.aS==n).Pairwise fun a b=>da a b<0:=tN _ (nS h.one)
 have:=Uo ((dz arr).filter fun x=>x.aA.aS==n) 0 (hp.imp_of_mem fun {a b} ha hb tD=>by
  have ha:=(cV.1 ha).2;have hb:=(cV.1 hb).2;rw[kD]at tD;simp only[beq_iff_eq]at ha hb;omega) (fun x hx=>by
  obtain⟨tC,BR⟩:=cV.1 hx;obtain⟨i,hi⟩:=dr.1 (cV.2 ⟨dA.1 tC,BR⟩:x∈arr.filter fun x=>x.aA.aS==n);have h1:=h.own i x hi;have h2:=(ae.1 hi).1;rw[mh arr n]at h2;omega) j y hy
 omega
def sr(n:Int)(l:List aJ):Nat:=(l.filter fun x=>x.aA.aS==n).length
theorem PB(n:Int)(l:List aJ)(x:aJ):sr n (l++[x])=sr n l+if x.aA.aS=n then 1 else 0:=PD n l x
theorem YQ{n:Int}{arr:List aJ}(h:yd n arr){pre rest:List aJ}{x:aJ}(he:dz arr=pre++x::rest)(hx:x.aA.aS=n):x.aA.number=sr n pre+1∧je x.seen n=sr n pre:=by
 have h1:x.aA.number=sr n pre+1:=by
  refine Me h (sr n pre) x ?_;rw[he,List.filter_append,kf (by simpa using hx),sr,aN (aB _),iu];rfl
 refine⟨h1,?_⟩;have hm:x∈arr:=dA.1 (by rw[he];simp);have:=RL (h.op x hm).ok;rw[hx]at this;omega
theorem Fs{x y:aJ}(h:y.aA.time<x.aA.time):l8 x y=true:=by
 have e:iq x.aA y.aA=1:=by
  have e1:eV x.aA.time y.aA.time=1:=by
   simp only[eV];rw[if_neg (by omega),if_pos h]
  simp only[iq,rz,e1];rfl
 simp[l8,e]
theorem YW{m:List aJ}(hm:∀ o∈m,cw o=0∧o.small)(hl:m.length≤1024){x:aJ}(hx:x∈m)(hk:x.kind=1)(hw:∀ y∈m,y=x∨l8 x y=true):
  0≤find (cq m) (dL x.entry)∧find (cq m) (dL x.entry)<(cq m).length∧(cq m)[(find (cq m) (dL x.entry)).toNat]?=some x.entry:=by
 obtain⟨h1,h2⟩:=keeps hm hl hx
 obtain⟨y,hy,XX⟩:∃ y∈current m,bE x=bE y:=by
  have:0<(current m).countP (fun y=>bE x==bE y):=by omega
  obtain⟨y,hy,h⟩:=List.countP_pos_iff.1 this;exact⟨y,hy,by simpa using h⟩
 obtain⟨h3,h4,-⟩:=h2 y hy XX
 have e:bE x=dL x.entry:=by
  obtain⟨a,b⟩:=zA (hm x hx).1 hk;rw[b,dL,if_neg (by simp[a])]
 rcases hw y (mU hy)with rfl | hw
 ·rw[← e];exact h4 hk
 ·rw[hw]at h3;cases h3
theorem kZ:cw eY=1:=by decide +kernel
theorem kT:eY.small:=⟨⟨by decide,by decide,by decide,by decide,by decide,by decide,fun x hx=>by cases hx⟩,by decide,by decide,by decide⟩
end Go.Bt

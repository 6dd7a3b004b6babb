/- A part of a proof; the claim's last text says of what. -/
import Derived.Test.YtfeddmfijllgmaaGreatDoorB38
set_option linter.all false
set_option maxHeartbeats 4000000
open Option renaming some->S,none->Z
open Bool renaming true->θ,false->G
open Go.Proofs.Tryz renaming prog->κ
open List renaming length->Y

namespace Go.Proofs.Tryz
open Go Go.Pm
set_option maxRecDepth 100000
def W5:bl κ f78:=⟨_,by cbv⟩
def Xm:bl κ f35:=⟨_,by cbv⟩
def kI:aJ:=(⟨_,by cbv⟩:Nf (sc κ f20 [1,1,0,1,0,0])).1
def gn:aJ:=(⟨_,by cbv⟩:Nf (sc κ f20 [1,1,1,0,1,0,0,1,1,0,0,0])).1
def fY:aJ:=(⟨_,by cbv⟩:Nf (sc κ f20 [1,1,1,0,1,0,0,1,1,0,0,1,1])).1
def je:aJ:=(⟨_,by cbv⟩:Nf (sc κ f20 [1,1,1,1,0,1,0,0])).1
def wA:aJ:=(⟨_,by cbv⟩:Nf (sc κ f20 [0])).1
def rF:aJ:=(⟨_,by cbv⟩:Nf (sc κ f20 [1,0])).1
def nn:aJ:=(⟨_,by cbv⟩:Nf (sc κ f20 [1,1,0,0])).1
def lU:aJ:=(⟨_,by cbv⟩:Nf (sc κ f20 [1,1,1,0,0])).1
def kH:aJ:=(⟨_,by cbv⟩:Nf (sc κ f20 [1,1,1,1,0,0])).1
def oY:aJ:=(⟨_,by conv=>lhs;simp only[kI]⟩:Nf (kI:aJ)).1
def oX:aJ:=(⟨_,by conv=>lhs;simp only[gn,fY]⟩:Nf (.seq (.ij [] [z 57 (.bin .lss (.t 56) (.t 55))]) (.seq (.ite (.t 57) (.skip) (.exit 2)) (.seq (.block 3 (.seq (gn) (.seq (.pO [] [zf 61 0 7,zl 62 61,zf 63 1 3,zl 64 63,zm 65 6,z 66 (.idx 15 (.t 64) (.t 65)),zf 67 0 66,zl 68 67,z 69 (.bin .neq (.t 62) (.t 68)),zm 70 69,⟨S 71,[(70,G)],.tU 1 (.t 7)⟩,⟨S 72,[(70,G)],.load Z (.t 71)⟩,⟨S 73,[(70,G)],.tU 1 (.t 3)⟩,⟨S 74,[(70,G)],.load Z (.t 73)⟩,⟨S 75,[(70,G)],.nL (.t 6)⟩,⟨S 76,[(70,G)],.idx 15 (.t 74) (.t 75)⟩,⟨S 77,[(70,G)],.tU 1 (.t 76)⟩,⟨S 78,[(70,G)],.load Z (.t 77)⟩,⟨S 79,[(70,G)],.bin .neq (.t 72) (.t 78)⟩,z 80 (.pick (.t 70) (.c (.b θ)) (.t 79)),zm 81 80,⟨S 82,[(81,G)],.tU 2 (.t 7)⟩,⟨S 83,[(81,G)],.load (S 13) (.t 82)⟩,⟨S 84,[(81,G)],.tU 1 (.t 3)⟩,⟨S 85,[(81,G)],.load Z (.t 84)⟩,⟨S 86,[(81,G)],.nL (.t 6)⟩,⟨S 87,[(81,G)],.idx 15 (.t 85) (.t 86)⟩,⟨S 88,[(81,G)],.tU 2 (.t 87)⟩,⟨S 89,[(81,G)],.load (S 13) (.t 88)⟩] [71,72,73,74,75,76,77,78,79,82,83,84,85,86,87,88,89,90,91] [⟨S 90,[(81,G)],.call 58 [.t 83,.t 89]⟩,⟨S 91,[(81,G)],.un .not (.t 90)⟩,z 92 (.pick (.t 81) (.c (.b θ)) (.t 91))]) (fY)))) (.ij [] [z 93 (.bin .add (.t 56) (.c (.I 1))),zm 56 93]))):aJ)).1
def oW:aJ:=(⟨_,by conv=>lhs;simp only[je]⟩:Nf (je:aJ)).1
def Xw:bl κ f20:=⟨(⟨_,by conv=>lhs;simp only[wA,rF,nn,lU,kH]⟩:Nf (⟨112,[.t 4],.seq (wA) (.seq (rF) (.seq (.seq (nn) (.block 0 (.loop oY))) (.seq (.seq (lU) (.block 2 (.loop oX))) (.seq (.seq (kH) (.block 4 (.loop oW))) (.seq (.ij [] [z 4 (.nL (.c (.b θ)))]) (.ret))))))⟩:nR)).1,by kernel_rfl⟩
def lM:aJ:=(⟨_,by cbv⟩:Nf (sc κ f22 [1,1,1,0,1,0,0])).1
def kG:aJ:=(⟨_,by cbv⟩:Nf (sc κ f22 [1,1,1,1,0,1,0,0])).1
def fA:aJ:=(⟨_,by cbv⟩:Nf (sc κ f22 [1,1,1,1,1,1,1,0,1,0,0,1,1,0,0,1,1,0,0])).1
def gi:aJ:=(⟨_,by cbv⟩:Nf (sc κ f22 [1,1,1,1,1,1,1,0,1,0,0,1,1,0,0,0])).1
def fW:aJ:=(⟨_,by cbv⟩:Nf (sc κ f22 [1,1,1,1,1,1,1,0,1,0,0,1,1,0,0,1,0])).1
def fa:aJ:=(⟨_,by cbv⟩:Nf (sc κ f22 [1,1,1,1,1,1,1,1,0,1,0,0,1,1,0,0,1,0,1,0,0])).1
def fy:aJ:=(⟨_,by cbv⟩:Nf (sc κ f22 [1,1,1,1,1,1,1,1,0,1,0,0,1,1,0,0,1,0,0])).1
def fG:aJ:=(⟨_,by cbv⟩:Nf (sc κ f22 [1,1,1,1,1,1,1,1,0,1,0,0,1,1,0,0,1,1])).1
def vt:aJ:=(⟨_,by cbv⟩:Nf (sc κ f22 [1,0])).1
def oe:aJ:=(⟨_,by cbv⟩:Nf (sc κ f22 [1,1,1,0,0])).1
def mI:aJ:=(⟨_,by cbv⟩:Nf (sc κ f22 [1,1,1,1,0,0])).1
def jX:aJ:=(⟨_,by cbv⟩:Nf (sc κ f22 [1,1,1,1,1,1,1,0,0])).1
def jq:aJ:=(⟨_,by cbv⟩:Nf (sc κ f22 [1,1,1,1,1,1,1,1,0,0])).1
def jW:aJ:=(⟨_,by cbv⟩:Nf (sc κ f22 [1,1,1,1,1,1,1,1,1])).1
def rO:aJ:=(⟨_,by conv=>lhs;simp only[lM]⟩:Nf (lM:aJ)).1
def rN:aJ:=(⟨_,by conv=>lhs;simp only[kG]⟩:Nf (kG:aJ)).1
def rM:aJ:=(⟨_,by conv=>lhs;simp only[fA]⟩:Nf (fA:aJ)).1
def rL:aJ:=(⟨_,by conv=>lhs;simp only[gi,fW]⟩:Nf (.seq (.ij [] [z 94 (.bin .lss (.t 93) (.t 92))]) (.seq (.ite (.t 94) (.skip) (.exit 4)) (.seq (.block 5 (.seq (gi) (.seq (fW) (.block 6 (.loop rM))))) (.ij [] [z 121 (.bin .add (.t 93) (.c (.I 1))),zm 93 121]))):aJ)).1
def rK:aJ:=(⟨_,by conv=>lhs;simp only[fa]⟩:Nf (fa:aJ)).1
def rJ:aJ:=(⟨_,by conv=>lhs;simp only[fy,fG]⟩:Nf (.seq (.ij [] [z 126 (.bin .lss (.t 125) (.t 124))]) (.seq (.ite (.t 126) (.skip) (.exit 8)) (.seq (.block 9 (.seq (.ij [] [zm 127 125,zm 19 127]) (.seq (.seq (fy) (.block 10 (.loop rK))) (fG)))) (.ij [] [z 168 (.bin .add (.t 125) (.c (.I 1))),zm 125 168]))):aJ)).1
def p22:bl κ f22:=⟨(⟨_,by conv=>lhs;simp only[vt,oe,mI,jX,jq,jW]⟩:Nf (⟨170,[.c 2 (S 3)],.seq (.ij [] [z 1 (.box 29 (.t 0)),z 2 (.alloc 29 [.nil,.nil,.nil])]) (.seq (vt) (.seq (.ij [] [zf 28 2 3,zs (.store 1 [S 2] (.t 28) (.c .nil))]) (.seq (.seq (oe) (.block 0 (.loop rO))) (.seq (.seq (mI) (.block 2 (.loop rN))) (.seq (.ij [] [zf 89 1 3,zs (.store 1 [S 15] (.t 89) (.c .nil))]) (.seq (.ij [] [z 12 (.nL (.c .nil))]) (.seq (.seq (jX) (.block 4 (.loop rL))) (.seq (.seq (jq) (.block 8 (.loop rJ))) (jW)))))))))⟩:nR)).1,by kernel_rfl⟩
def aiU:aJ:=(⟨_,by cbv⟩:Nf (sc κ f8 [1,0])).1
def abN:aJ:=(⟨_,by cbv⟩:Nf (sc κ f8 [1,1,0])).1
def Wy:aJ:=(⟨_,by cbv⟩:Nf (sc κ f8 [1,1,1,0])).1
def RF:aJ:=(⟨_,by cbv⟩:Nf (sc κ f8 [1,1,1,1,0])).1
def Mz:aJ:=(⟨_,by cbv⟩:Nf (sc κ f8 [1,1,1,1,1,0])).1
def IM:aJ:=(⟨_,by cbv⟩:Nf (sc κ f8 [1,1,1,1,1,1,0])).1
def Ga:aJ:=(⟨_,by cbv⟩:Nf (sc κ f8 [1,1,1,1,1,1,1,0])).1
def DJ:aJ:=(⟨_,by cbv⟩:Nf (sc κ f8 [1,1,1,1,1,1,1,1,0])).1
def Cd:aJ:=(⟨_,by cbv⟩:Nf (sc κ f8 [1,1,1,1,1,1,1,1,1,0])).1
def Af:aJ:=(⟨_,by cbv⟩:Nf (sc κ f8 [1,1,1,1,1,1,1,1,1,1,0])).1
def zn:aJ:=(⟨_,by cbv⟩:Nf (sc κ f8 [1,1,1,1,1,1,1,1,1,1,1,0])).1
def xC:aJ:=(⟨_,by cbv⟩:Nf (sc κ f8 [1,1,1,1,1,1,1,1,1,1,1,1,0])).1
def wy:aJ:=(⟨_,by cbv⟩:Nf (sc κ f8 [1,1,1,1,1,1,1,1,1,1,1,1,1,0])).1
def p8:bl κ f8:=⟨(⟨_,by conv=>lhs;simp only[aiU,abN,Wy,RF,Mz,IM,Ga,DJ,Cd,Af,zn,xC,wy]⟩:Nf (⟨127,[.t 4],.seq (.ij [] [z 4 (.nL (.c (.b G)))]) (.seq (aiU) (.seq (abN) (.seq (Wy) (.seq (RF) (.seq (Mz) (.seq (IM) (.seq (Ga) (.seq (DJ) (.seq (Cd) (.seq (Af) (.seq (zn) (.seq (xC) (.seq (wy) (.seq (.pO [([zm 99 15,z 100 (.bin .eql (.t 99) (.c (.I 0))),zm 101 100,⟨S 102,[(101,θ)],.tU 0 (.t 12)⟩,⟨S 103,[(101,θ)],.load Z (.t 102)⟩,⟨S 104,[(101,θ)],.nL (.t 16)⟩,⟨S 105,[(101,θ)],.idx 6 (.t 103) (.t 104)⟩,⟨S 106,[(101,θ)],.load (S 6) (.t 105)⟩,⟨S 107,[(101,θ)],.tU 0 (.t 14)⟩,⟨S 108,[(101,θ)],.load Z (.t 107)⟩,⟨S 109,[(101,θ)],.nL (.t 16)⟩,⟨S 110,[(101,θ)],.idx 6 (.t 108) (.t 109)⟩,⟨S 111,[(101,θ)],.load (S 6) (.t 110)⟩],⟨S 112,[(101,θ)],.call 35 [.t 106,.t 111]⟩,[])] [z 113 (.pick (.t 101) (.t 112) (.c (.b G))),zm 114 113,⟨S 115,[(114,θ)],.tU 1 (.t 14)⟩,⟨S 116,[(114,θ)],.load Z (.t 115)⟩,⟨S 117,[(114,θ)],.len G (.t 116)⟩,⟨S 118,[(114,θ)],.tU 1 (.t 5)⟩,⟨S 119,[(114,θ)],.load Z (.t 118)⟩,⟨S 120,[(114,θ)],.len G (.t 119)⟩,⟨S 121,[(114,θ)],.bin .sub (.t 120) (.c (.I 1))⟩] [102,103,104,105,106,107,108,109,110,111,112,115,116,117,118,119,120,121,122,125] [⟨S 122,[(114,θ)],.bin .eql (.t 117) (.t 121)⟩,z 123 (.pick (.t 114) (.t 122) (.c (.b G))),zm 124 123,⟨S 125,[(124,θ)],.call 10 []⟩,z 126 (.pick (.t 124) (.t 125) (.c (.b G))),zm 4 126]) (.ret)))))))))))))))⟩:nR)).1,by kernel_rfl⟩
end Go.Proofs.Tryz
namespace Go.Bt
open Go Go.Pm
variable{X:Int}
theorem vT{W:List aV}(hp:Pl X W):∀(l:List aV) (p:aV),(∀z∈p::l,z∈W)->(p::l).Pairwise (λx y=>¬iq y x<0) ->nW (p::jB (λa b=>iq a b==0) p l)/\∀z,z∈p::jB (λa b=>iq a b==0) p l<->z∈p::l:=by
 intro l;induction l with
 |nil=>intro p _ _;simp[jB]
 |cons y r ih =>
 intro p g d;have h:=g p (by simp);have j:=g y (by simp);replace d:=cy.1 d;obtain⟨f,k⟩:=ih y (λz c=>g z (bJ _ c)) d.2;have o:=d.1 y (by simp);by_cases i:y=p
 .subst i;have e:jB (λa b=>iq a b==0) y (y::r)=jB (λa b=>iq a b==0) y r:=by rw[jB,aQ (by simp[vw])]
  rw[e];exact⟨f,λz=>by rw[k];simp⟩
 have m:dH y p≠0:=λe=>i (hp.uniq j h e);have e:jB (λa b=>iq a b==0) p (y::r)=y::jB (λa b=>iq a b==0) y r:=by rw[jB,aw λe=>i (Au (hp.op y j).ok (hp.op p h).ok (hp.op y j).azU (hp.op p h).azU (by simpa using e))]
 rw[e];have n:dH p y<0:=by rw[As m]at o;rw[jz]at o |-;rw[gA,jr]at m;omega
 refine⟨cy.2 ⟨λz c=>?_,f⟩,λz=>by rw[bd,k,<- List.mem_cons]⟩;rcases bd.1 c with rfl|c;.exact n
 have:=(cy.1 f).1 z c;rw[jz]at this n |-;omega
theorem fq{W:List aV}(hp:Pl X W){aK:List bO}(h:∀o∈aK,∀x∈o.azS,x∈W):nW (ff aK)/\∀x,x∈ff aK<->∃o∈aK,x∈o.azS:=by
 have a:∀x,x∈qf (cI aK)<->∃o∈aK,x∈o.azS:=λx=>by rw[u0];simp[cI]
 have b:=zT (cI aK);unfold ff;cases c:qf (cI aK)with|nil=>rw[c]at a;exact⟨List.Pairwise.nil,a⟩|cons p r =>rw[c]at b a;obtain⟨f,g⟩:=vT hp r p (λz d=>by obtain⟨o,e,i⟩:=(a z).1 d;exact h o e z i) b;exact⟨f,λx=>(g x).trans (a x)⟩
open Classical in
noncomputable def eE  {W:List aV} (hp:Pl X W):eK where
 o6 o:=∃n:Int,GO W n o
 ok x:=x∈W
 fR:=QF W
 fV:=sP
 fS:=yq
 azS:=λo ⟨_,h⟩=>h.azS.1
 val:=λx g=>⟨(hp.op x g).ok,(hp.op x g).azU⟩
 sml:=λo ⟨_,h⟩=>h.azU hp
 len:=λo ⟨_,h⟩=>by
  have:=q8 (xL (h.azS.2.imp λ{a b} sY e=>by omega)) h.azS.1;have:=hp.len;omega
 gR:=λo ⟨n,h⟩ c=>by
  rcases vi h with⟨_,e⟩|⟨_,f,i,_,e⟩
  .rw[e]at c;cases c
  .rw[e];exact⟨n,f,i,.inl (H7 n f)⟩
 gV:=λo x ⟨n,h⟩ g c=>by
  cases d:o.down with
  |true=>rw[sP,d]at c;cases c
  |false=>rw[sP,d];exact⟨n,(h.recv hp d g).1⟩
 gS:=λo ⟨n,h⟩ c=>by
  cases d:o.down with
  |true=>rw[yq,d]at c;cases c
  |false=>rw[yq,d];exact⟨n,h.sync d⟩
section
variable {m:Int} {W:List aV} (hp:Pl m W)
theorem H6{aK:List bO}(h:Gs W aK):Gs W ((eE hp).up aK)/\xk ((eE hp).up aK):=by
 refine⟨λi o a=>?_,λo a=>?_⟩;.obtain⟨c,b,rfl⟩:=bR ..▸a |> aL.1;exact(uI (h i c b)).1
 obtain⟨c,b,rfl⟩:=cv.1 a;obtain⟨n,d⟩:=h.mem b;exact(uI d).2
theorem r5{aK:List bO}(c:xk aK)(i:Nat)(x:aV):(eE hp).nN aK i x=match aK[i]? with|some o=>aK.set i (cQ o x)|none=>aK:=by
 unfold eK.nN;split
 .rename_i o a;have b:=c o (aS a);have e:(eE hp).fV o x=(cQ o x,0):=by show sP o x=_;rw[sP,b];rfl
  simp only[a,e,aU]
 rename_i a;simp only[a]
theorem r4{aK:List bO}(b:Gs W aK)(a:xk aK){i:Nat}{x:aV}(e:x∈W):Gs W ((eE hp).nN aK i x)/\xk ((eE hp).nN aK i x):=by
 rw[r5 hp a];split;.rename_i o c;obtain⟨d,f,_⟩:=(b i o c).recv hp (a o (aS c)) e;exact⟨b.set d,a.set f⟩
 exact⟨b,a⟩
theorem qC(c:List Let):∀{aK:List bO},Gs W aK->xk aK->(∀x∈c,x.op∈W)->Gs W ((eE hp).ax c aK)/\xk ((eE hp).ax c aK):=by induction c with|nil=>intro aK d e _;exact⟨d,e⟩|cons x r ih =>intro aK d e f;obtain⟨a,b⟩:=r4 hp d e (i:=x.dst.toNat) (f x (by simp));exact ih a b λy g=>f y (by simp[g])
include hp in
theorem kF{n:Int}(g:List aV):∀{o:bO},GO W n o->o.down=G->(∀x∈g,x∈W)->GO W n (g.foldl cQ o)/\(g.foldl cQ o).down=G/\∀y,y∈(g.foldl cQ o).azS<->y∈g\/y∈o.azS:=by
 induction g with
 |nil=>intro o i j _;exact⟨i,j,by simp⟩
 |cons x r ih =>
 intro o i j k;obtain⟨a,b,c⟩:=i.recv hp j (k x (by simp));obtain⟨d,e,f⟩:=ih a b λy l=>k y (by simp[l]);refine⟨d,e,λy=>?_⟩;rw[bH,f,c,bd];constructor
 .rintro(h|h|h);.exact .inl (.inr h)
  .exact .inl (.inl h)
  exact .inr h
 rintro((h|h)|h);.exact .inr (.inl h)
 .exact .inl h
 exact .inr (.inr h)
theorem vQ(i:Nat)(d:List aV):∀{aK:List bO},Gs W aK->xk aK->(∀x∈d,x∈W)->∀{o:bO},aK[i]?=S o->(eE hp).mT i d aK=aK.set i (d.foldl cQ o):=by
 induction d with
 |nil =>intro aK _ _ _ o c;obtain⟨f,rfl⟩:=ag.1 c;simp[eK.mT]
 |cons x r ih =>intro aK j g h o c;obtain⟨a,b⟩:=r4 hp j g (i:=i) (h x (by simp));have e:=r5 hp g i x;rw[c]at e;have f:=(ag.1 c).1;have k:(eE hp).mT i (x::r) aK=(eE hp).mT i r ((eE hp).nN aK i x):=rfl;rw[k,ih a b (λy l=>h y (by simp[l])) (o:=cQ o x) (by rw[e];simp[f]),e];simp
theorem all_eq{U:List aV}:∀(a b:List bO),Gs W (b.map (λo=>U.foldl cQ o)++a)->xk (b.map (λo=>U.foldl cQ o)++a)->ff (b.map (λo=>U.foldl cQ o)++a)=U ->(eE hp).all (List.range' b.length (Y a)) (b.map (λo=>U.foldl cQ o)++a)=(b++a).map λo=>U.foldl cQ o:=by
 intro a;induction a with
 |nil=>intro b _ _ _;simp[eK.all]
 |cons o a ih =>
 intro b e k m;have hU:=(fq hp e.sub).2;rw[m]at hU;have h:∀x∈U,x∈W:=λx c=>by obtain⟨o,g,c⟩:=(hU x).1 c;exact e.sub o g x c
 have g:(b.map (λo=>U.foldl cQ o)++o::a)[Y b]?=S o:=by rw[bn (by simp)];simp
 have f:o∈b.map (λo=>U.foldl cQ o)++o::a:=aS g;obtain⟨u,v,q⟩:=kF hp U (e _ _ g) (k o f) h;have j:(b.map (λo=>U.foldl cQ o)++o::a).set b.length (U.foldl cQ o)=(b++[o]).map (λo=>U.foldl cQ o)++a:=by rw[dX _ _ (by simp)];simp
 have l:=e.set u;have t:=k.set v (i:=Y b);have s:ff ((b++[o]).map (λo=>U.foldl cQ o)++a)=U:=by
  rw[j]at l;have n:=fq hp l.sub;refine jT n.1 (m▸(fq hp e.sub).1) λx=>?_;rw[n.2];constructor
  .rintro⟨p,d,c⟩;rw[fQ,aO]at d;rcases bW.1 d with d|d;.exact(hU x).2 ⟨p,fv _ d,c⟩
   rcases bd.1 d with rfl|d;.exact((q x).1 c).elim id λc=>(hU x).2 ⟨o,f,c⟩
   exact(hU x).2 ⟨p,mE _ (bJ _ d),c⟩
  exact λc=>⟨_,fv _ (cv.2 ⟨o,by simp,rfl⟩),(q x).2 (.inl c)⟩
 have r:(eE hp).all (List.range' b.length (Y (o::a))) (b.map (λo=>U.foldl cQ o)++o::a)=(eE hp).all (List.range' (b++[o]).length (Y a)) ((b++[o]).map (λo=>U.foldl cQ o)++a):=by rw[ae,HG];show(eE hp).all _ ((eE hp).mT b.length (ff _) _)=_;rw[m,vQ hp b.length U e k h g,j];simp
 rw[r,ih (b++[o]) (j▸l) (j▸t) s];simp
theorem yp{aK:List bO}(h:xk aK):(eE hp).sync aK=aK.map tD:=by refine dA λo a=>?_;show dv (yq o) o=tD o;rw[yq,h o a];rfl
noncomputable def iH (n:Net):List bO:=(eE hp).ax n.ax ((eE hp).up n.an)
theorem oF{n:Net}(h:Gs W n.an)(c:∀x∈n.ax,x.op∈W):Gs W (iH hp n)/\xk (iH hp n):=by obtain⟨a,b⟩:=H6 hp h;exact qC hp n.ax a b c
theorem oG(n:Net):Y (iH hp n)=Y n.an:=by rw[iH,eK.nq];simp[eK.up]
theorem nf{n:Net}(h:Gs W n.an)(m:∀x∈n.ax,x.op∈W):(eE hp).settle n=(iH hp n).map λo=>tD ((ff (iH hp n)).foldl cQ o):=by
 obtain⟨a,b⟩:=oF hp h m;have e:=all_eq hp (U:=ff (iH hp n)) (iH hp n) [] a b rfl;simp only[ar,ay,ai,oG]at e;have l:(eE hp).settle n=(eE hp).sync ((eE hp).all (List.range (Y n.an)) (iH hp n)):=rfl;rw[l,ta,e,yp hp,jQ];.rfl
 intro o g;obtain⟨f,d,rfl⟩:=cv.1 g;obtain⟨i,j⟩:=cm.1 d;exact(kF hp _ (a i f j) (b f d) λx c=>by obtain⟨p,k,c⟩:=((fq hp a.sub).2 x).1 c;exact a.sub p k x c).2.1
theorem wH{n:Net}(h:Gs W n.an)(l:∀x∈n.ax,x.op∈W)(s:m=n.an.length):ff (iH hp n)=ej W:=by
 obtain⟨a,b⟩:=oF hp h l;have f:=fq hp a.sub;refine jT f.1 (lr hp.one) λx=>?_;rw[f.2,dU];constructor;.rintro⟨o,d,c⟩;exact a.sub o d x c
 intro c;have r:=(D2 (hp.op x c).ok).2.1;have q:=hp.off x c;have g:x.aY.bS.toNat<(iH hp n).length:=by rw[oG];omega
 have d:(iH hp n)[x.aY.bS.toNat]?=some (iH hp n)[x.aY.bS.toNat]:=aD g;obtain⟨j,i,⟨k,_,_,e⟩|⟨p,_,_,e⟩⟩:=a _ _ d;.refine⟨_,aS d,?_⟩;rw[e];exact dU.2 (i.own x c (by omega))
 have:=b _ (aS d);rw[e]at this;cases this
theorem sO{n:Net}(h:Gs W n.an)(k:∀x∈n.ax,x.op∈W)(s:m=Y n.an): Gs W ((eE hp).settle n)/\Y ((eE hp).settle n)=Y n.an/\∀o∈(eE hp).settle n,o.down=G/\o.azS=ej W/\o.aAe=Y o.log:=by
 obtain⟨a,b⟩:=oF hp h k;have e:=nf hp h k;rw[wH hp h k s]at e;have c:∀(i:Nat) o,(iH hp n)[i]?=S o->GO W i (tD ((ej W).foldl cQ o))/\(tD ((ej W).foldl cQ o)).down=G/\(tD ((ej W).foldl cQ o)).azS=ej W:=λi o d=>by obtain⟨p,q,r⟩:=kF hp (ej W) (a i o d) (b o (aS d)) λx j=>dU.1 j;refine⟨p.sync q,q,jT p.azS.2 (lr hp.one) λx=>(r x).trans ?_⟩;exact⟨λh=>h.elim id λj=>dU.2 (a.sub o (aS d) x j),.inl⟩
 rw[e];refine⟨λi o d=>?_,by rw[aa,oG],λo d=>?_⟩;.obtain⟨f,g,rfl⟩:=bR ..▸d |> aL.1;exact(c i f g).1
 obtain⟨f,g,rfl⟩:=cv.1 d;obtain⟨i,l⟩:=cm.1 g;exact⟨(c i f l).2.1,(c i f l).2.2,rfl⟩
theorem z6{o:bO}:∀(a:List aV),(∀x∈a,x∈o.azS)->a.foldl cQ o=o
 |[],_=>rfl
 |x::r,h=>by
  have e:cQ o x=o:=by rw[cQ,aQ];exact dF.2 ⟨x,h x (by simp),by simp[pj]⟩
  rw[bH,e];exact z6 r λy b=>h y (by simp[b])
theorem N2{n:Net}(b:Gs W n.an)(l:m=Y n.an)(h:∀o∈n.an,o.down=G/\o.azS=ej W/\o.aAe=Y o.log):(eE hp).settle ⟨n.an,[],[]⟩=n.an:=by
 have e:=nf hp (n:=⟨n.an,[],[]⟩) b (by simp);rw[wH hp (n:=⟨n.an,[],[]⟩) b (by simp) l]at e;have k:iH hp ⟨n.an,[],[]⟩=n.an:=by
  refine(dA λo a=>?_).trans (List.map_id _);show dv (QF W o) o=id o;obtain⟨i,c⟩:=b.mem a;rcases vi c with⟨_,e⟩|⟨d,_⟩;.rw[e];rfl
  rw[(h o a).1]at d;cases d
 rw[e,k];refine(dA λo a=>?_).trans (List.map_id _);obtain⟨p,g,j⟩:=h o a;rw[z6 _ λx f=>by rw[g];exact f,tD,<- j];rfl
def mH(l:List aV):List aV:=l.foldl (λa x=>if a.any (λy=>dH y x==0)then a else ud a x) []
include hp in
theorem sS(l:List aV):∀a:List aV,(∀x∈l,x∈W)->(∀x∈a,x∈W)->nW a ->nW (l.foldl (λa x=>if a.any (λy=>dH y x==0)then a else ud a x) a)/\∀x,x∈l.foldl (λa x=>if a.any (λy=>dH y x==0)then a else ud a x) a<->x∈l\/x∈a:=by
 induction l with
 |nil=>intro a _ _ h;exact⟨h,by simp⟩
 |cons x r ih =>
 intro a o g m;have k:=o x (by simp);have p:=λy b=>o y (bJ _ b);simp only[bH];by_cases c:a.any (λy=>dH y x==0)=θ;.rw[aQ c];obtain⟨y,b,i⟩:=dF.1 c;have j:x∈a:=hp.uniq (g y b) k (by simpa using i)▸b;obtain⟨f,d⟩:=ih a p g m;refine⟨f,λz=>?_⟩;rw[d,bd];exact⟨λh=>h.elim (λh=>.inl (.inr h)) .inr,λh=>h.elim (λh=>h.elim (λe=>.inr (e▸j)) .inl) .inr⟩
 rw[aw c];have n:∀y∈a,dH y x≠0:=λy b i=>c (dF.2 ⟨y,b,by simpa using i⟩);rw[mJ n];obtain⟨f,d⟩:=ih (qn a x) p (λz q=>(lj.1 q).elim (λe=>e▸k) (g z)) (u1 m n);refine⟨f,λz=>?_⟩;rw[d,lj,bd];constructor
 .rintro(h|h|h);.exact .inl (.inr h)
  .exact .inl (.inl h)
  exact .inr h
 rintro((h|h)|h);.exact .inr (.inl h)
 .exact .inl h
 exact .inr (.inr h)
include hp in
theorem yA{aK:List bO}(h:Gs W aK):mH (cI aK)=ff aK:=by
 have d:=fq hp h.sub;have e:∀x,x∈cI aK<->∃o∈aK,x∈o.azS:=λx=>by simp[cI]
 obtain⟨a,b⟩:=sS hp (cI aK) [] (λx c=>by obtain⟨o,f,c⟩:=(e x).1 c;exact h.sub o f x c) (by simp) List.Pairwise.nil;refine jT a d.1 λx=>?_;rw[d.2,<- e,mH,b];simp
end
end Go.Bt
namespace Go.Proofs.Tryz
open Go Go.Pm Go.Bt Go.RowKit
theorem lF(a b:aR)(J:aj):bh κ 78 [.sl 1 (aN a),.sl 1 (aN b)] J (.b (a==b)):=by refine aW func78 W5.2 λbc c=>aq ?_;simp only[W5,SS,seval];simp only[iB,VV,seval];exact bK (.inr rfl) (by simp only[RS,seval];rfl) ⟨rfl,rfl⟩
theorem jV(o:bO)(c:o.azU)(J:aj):bh κ 35 [.agg o.azR,.agg o.azR] J (.b θ):=by
 refine aW func35 Xm.2 λbc e=>aq ?_;have f:=c.log;have d:qj o.azS o.azS=θ:=pG.2 rfl;have a:(o.down==o.down)=θ:=by cases o.down<;>rfl
 simp only[Xm,SS,seval];simp only[bO.azR,a,VV,seval];refine bV (by simp only[VV,seval]<;>rfl) (λ_=>nI o.azS o.azS _) rfl ?_;simp only[d,VV,seval];refine bV (by simp only[VV,seval]<;>rfl) (λ_=>lF o.log o.log _) rfl ?_;simp only[a,VV,seval];exact gm bc (by rfl) (by simp[LW])
section
variable {J:aj} {K:bL} (n:Net)
def dN(n:Net):Ob:=.box 29 n.azR
theorem oB(bc:bT J):bT (J++[dN n,dN n]):=cj bc (by simp only[dN,Net.azR,bF,bD,cA,cW,cK,LW])
theorem rV(g:n.azU):∀(b a:List bO),n.an=a++b->(((fj 2 (fh (.ptr J.length 0) (fh (.ptr (Y J+1) 0) (fj 108 fo)))) λh=>K (.exit 0) ⟨h,J++[dN n,dN n]⟩)) ->gw (Y J) κ oY K (Y b+1) ⟨(uu 2 (.ptr J.length 0::.ptr (Y J+1) 0::uu 32 (.I (Y n.an)::.I (Y a)::uu 74 []))),J++[dN n,dN n]⟩:=by
 have l:=g.uE;intro b;induction b with
 |nil =>
  intro a c d;have c:n.an=a:=by simpa using c
  refine az λR f=>?_;simp only[oY,c,dt,bZ,↓IT,VV,seval];exact d ..
 |cons o b ih =>
 intro a c d;have m:Y n.an=Y a+(Y b+1):=by rw[c];simp
 have k:=dD a o (by omega);have e:(n.an.map bO.azR).getD a.length []=o.azR:=by rw[c];exact dR
 have i:(0:Int)<=(Y a:Int):=by omega
 have j:(Y a:Int)<(Y n.an:Int):=by omega
 simp only[bO.azR]at e;refine az λR f=>?_;simp only[oY,dN,Net.azR,ak,e,i,j,bt,aa,↓IT,VV,seval];refine al (jV o (g.aK o (by rw[c];simp)) _) (by simp only[bO.azR,VV,seval]) ?_;simp only[k,bb,↓IT,VV,seval];exact f _ (bX (by repeat' constructor) (ih (a++[o]) (by rw[c];simp) d))
theorem rU(bc:bT J)(q:n.azU):∀(b a:List Let),n.ax=a++b->(((fj 2 (fh (.ptr J.length 0) (fh (.ptr (Y J+1) 0) (fj 108 fo)))) λm=>K (.exit 2) ⟨m,J++[dN n,dN n]⟩)) ->gw (Y J) κ oX K (Y b+1) ⟨(uu 2 (.ptr J.length 0::.ptr (Y J+1) 0::uu 50 (.sl 15 (n.ax.map Let.azR)::.I (Y n.ax)::.I (Y a)::uu 55 []))),J++[dN n,dN n]⟩:=by
 have s:=q.pT;intro b;induction b with
 |nil =>
  intro a d f;have d:n.ax=a:=by simpa using d
  refine az λR l=>?_;simp only[oX,d,dt,bZ,↓IT,VV,seval];exact f ..
 |cons o b ih =>
 intro a d f;have t:Y n.ax=Y a+(Y b+1):=by rw[d];simp
 have r:=dD a o (by omega);have e:(n.ax.map Let.azR).getD a.length []=mC o:=by rw[d,<- lh];exact dR
 have k:(0:Int)<=(Y a:Int):=by omega
 have j:(Y a:Int)<(Y n.ax:Int):=by omega
 have i:n.ax[Y a]?=S o:=by rw[d];simp
 have h:gv (n.ax.map Let.azR) a.length 0=S (.I o.src):=by simp[gv,i,Let.azR]
 have g:gv (n.ax.map Let.azR) a.length 1=S (.I o.dst):=by simp[gv,i,Let.azR]
 simp only[mC]at e;refine az λR l=>?_;simp only[oX,dN,Net.azR,ak,e,h,g,k,j,bt,ao,db,aa,bb,↓IT,VV,seval];refine⟨_,rfl,?_⟩;simp only[dN,Net.azR,ak,e,k,j,bt,ao,db,aa,bb,↓IT,VV,seval];refine⟨_,rfl,?_⟩;refine bV (c:=θ) (by simp only[bb,VV,seval]<;>rfl) (λ_=>oD o.op o.op _) (by simp only[gy,qA,VV,seval]) ?_;have p:Fb o.op o.op=θ:=vx.2 rfl;simp only[p,r,bb,↓IT,VV,seval];refine l _ (cn [dN n,dN n] [_] (oB n bc) (by repeat' constructor) ?_ (ih (a++[o]) (by rw[d];simp) f));simp only[LW,ae,ai,aG];omega
theorem rT(j:n.azU):∀(b a:gh),n.cw=a++b->(((fj 2 (fh (.ptr J.length 0) (fh (.ptr (Y J+1) 0) (fj 108 fo)))) λf=>K (.exit 4) ⟨f,J++[dN n,dN n]⟩)) ->gw (Y J) κ oW K (Y b+1) ⟨(uu 2 (.ptr J.length 0::.ptr (Y J+1) 0::uu 92 (.I (Y n.cw)::.I (Y a)::uu 14 []))),J++[dN n,dN n]⟩:=by
 have l:=j.um;intro b;induction b with
 |nil =>
  intro a c d;have c:n.cw=a:=by simpa using c
  refine az λR e=>?_;simp only[oW,c,dt,bZ,↓IT,VV,seval];exact d ..
 |cons o b ih =>
 intro a c d;have m:Y n.cw=Y a+(Y b+1):=by rw[c];simp
 have k:=dD a o (by omega);have i:(n.cw.map cF).getD a.length []=[.I o.1,.I o.2]:=by rw[c];exact dR
 have g:(0:Int)<=(Y a:Int):=by omega
 have h:(Y a:Int)<(Y n.cw:Int):=by omega
 refine az λR e=>?_;simp only[oW,dN,Net.azR,ak,i,g,h,bt,ao,iF,eQ,k,aa,bb,↓IT,VV,seval];exact e _ (bX (by repeat' constructor) (ih (a++[o]) (by rw[c];simp) d))
end
set_option maxRecDepth 4000 in
theorem jo(n:Net)(a:n.azU)(J:aj):bh κ 20 [.agg n.azR,.agg n.azR] J (.b θ):=by refine aW func20 Xw.2 λbc f=>aq ?_;have d:=λK=>rV (J:=J) (K:=K) n a n.an [] rfl;have c:=λK=>rU (J:=J) (K:=K) n bc a n.ax [] rfl;have e:=λK=>rT (J:=J) (K:=K) n a n.cw [] rfl;simp only[dN,Net.azR]at d c e;simp only[Xw,SS,seval];simp only[Net.azR,db,aa,bb,↓IT,VV,seval];refine cB.wk (Wk.fw (by repeat' constructor)) (cB.kT (Y n.an+1) (d _ ?_));simp only[JE];intros;simp only[aa,↓IT,VV,seval];refine cB.wk (Wk.fw (by repeat' constructor)) (cB.kT (Y n.ax+1) (c _ ?_));simp only[JE];intros;simp only[aa,↓IT,VV,seval];refine cB.wk (Wk.fw (by repeat' constructor)) (cB.kT (Y n.cw+1) (e _ ?_));simp only[JE];intros;simp only[↓IT,VV,seval];exact gm bc (by rfl) (by simp[LW])
section
variable {E:eK} (hE:A9 E) {J:aj} {K:bL} (b0 b1:Ob) (vb vc:V) (bc:∀aK,bT (S4 J b0 b1 vb vc aK))
include hE bc
set_option maxRecDepth 4000 in
theorem vK(n:Nat)(w:n<2^30):∀(a b:List bO),n=Y b+Y a->E.jj a ->(((fj 2 (fh (.ptr (Y J+1) 0) (fh (.ptr (Y J+3) 0) (fj 166 fo)))) λm=>K (.exit 0) ⟨m,S4 J b0 b1 vb vc (b++E.up a)⟩)) ->gw (Y J) κ rO K (Y a+1) ⟨(uu 2 (.ptr (Y J+1) 0::.ptr (Y J+3) 0::uu 26 (.own (Y J+2) 0::.I n::.I (Y b)::uu 137 []))),S4 J b0 b1 vb vc (b++a)⟩:=by
 intro a;induction a with
 |nil =>
  intro b d g f;have r:decide ((Y b:Int)<(n:Int))=G:=by simp at d;simp;omega
  refine az λR i=>?_;simp only[rO,r,↓IT,VV,seval];simp only[eK.up,ar,bI]at f;exact f ..
 |cons o a ih =>
 intro b d g f;have s:=g o (cU ..);have x:n=Y b+(Y a+1):=by rw[d];simp
 have k:IntKind.i64.wrap ((Y b:Int)+1)=((Y (b++[dv (E.fR o) o]):Nat):Int):=by rw[da (by omega)];simp
 have h:((b++o::a).map bO.azR).getD b.length []=o.azR:=dR;have l:(0:Int)<=(Y b:Int):=by omega
 have q:(Y b:Int)<(n:Int):=by omega
 have j:(Y b:Int)<(Y (b++o::a):Int):=by simp<;>omega
 have v:Y b<Y (b++o::a):=by simp
 simp only[bO.azR]at h;refine az λR i=>?_;simp only[rO,S4,bC,h,l,q,j,k,bt,ao,aa,ak,↓IT,VV,seval];refine al (hE.cR o s _) (by simp only[bO.azR,VV,seval]) ?_;simp only[fm,bO.azR,h,l,j,k,ao,bP,Nat.reduceAdd,aa,ak,↓IT,VV,seval];have t:b++E.up (o::a)=(b++[dv (E.fR o) o])++E.up a:=by simp[eK.up]
 rw[t]at f;have e:=ih (b++[dv (E.fR o) o]) (by simp;omega) (λo u=>g o (bJ _ u)) f;have c:=bc (b++dv (E.fR o) o::a);simp only[aO,aF,ay,S4,bC]at e c;refine⟨λd=>⟨v,?_⟩,λd=>?_⟩
 .have d:(E.fR o).2=0:=by simpa using d
  rw[nr (E.fR o) d];refine i _ (cn [b0,b1,bC 0 (b++dv (E.fR o) o::a),.box 29 [.own (Y J+2) 0,vb,vc]] [_,_] c (by repeat' constructor) ?_ e);simp only[LW,ae,ai,aG];omega
 have d:¬(E.fR o).2=0:=by simpa using d
 have p:dv (E.fR o) o=o:=by rw[dv,aw d]
 rw[p]at e c |-;refine i _ (cn [b0,b1,bC 0 (b++o::a),.box 29 [.own (Y J+2) 0,vb,vc]] [_,_] c (by repeat' constructor) ?_ e);simp only[LW,ae,ai,aG];omega
set_option maxRecDepth 4000 in
theorem vJ(azY:List Let)(m:Nat)(O:Y azY<2^30)(N:m<2^30)(L:∀x∈azY,0<=x.dst/\x.dst<m/\E.ok x.op):∀(a b:List Let) (aK:List bO),azY=b++a->E.jj aK->Y aK=m ->(((fj 2 (fh (.ptr (Y J+1) 0) (fh (.ptr (Y J+3) 0) (fj 166 fo)))) λz=>K (.exit 2) ⟨z,S4 J b0 b1 vb vc (E.ax a aK)⟩)) ->gw (Y J) κ rN K (Y a+1) ⟨(uu 2 (.ptr (Y J+1) 0::.ptr (Y J+3) 0::uu 47 (.sl 15 (azY.map Let.azR)::.I (Y azY)::.I (Y b)::uu 116 []))),S4 J b0 b1 vb vc aK⟩:=by
 intro a;induction a with
 |nil =>
  intro b aK d k v h;have d:azY=b:=by simpa using d
  refine az λR n=>?_;simp only[rN,d,dt,bZ,↓IT,VV,seval];exact h ..
 |cons x a ih =>
 intro b aK d k v h;have q:=L x (by rw[d];simp);have P:=gY d;have u:=dD b x (by omega);have r:(azY.map Let.azR).getD b.length []=mC x:=by rw[d,dR,lh]
 have M:(0:Int)<=(Y b:Int):=by omega
 have C:(Y b:Int)<(Y azY:Int):=by omega
 obtain⟨j,y⟩:∃j:Nat,x.dst=j:=⟨x.dst.toNat,by omega⟩;have p:j<Y aK:=by omega
 obtain⟨o,f⟩:∃o,aK[j]?=S o:=⟨_,aD p⟩;have l:(aK.map bO.azR).getD j []=o.azR:=by simp[aA,f]
 have H:=k o (aS f);have s:E.nN aK x.dst.toNat x.op=aK.set j (dv (E.fV o x.op) o):=by
  rw[y,ak,eK.nN,f];simp only[dv];split;.rfl
  obtain⟨_,rfl⟩:=ag.1 f;simp
 have t:(0:Int)<=(j:Int):=by omega
 have w:(j:Int)<(Y aK:Int):=by omega
 have D:¬(j:Int)<0:=by omega
 have A:¬(Y aK:Int)<=(j:Int):=by omega
 simp only[mC,y]at r;simp only[bO.azR]at l;refine az λR n=>?_;simp only[rN,S4,bC,r,l,M,C,t,w,D,A,u,bt,bZ,ao,aa,ak,bb,↓IT,VV,seval];intro X;refine al (hE.cV o x.op H q.2.2 _) (by simp only[gy,qA,bO.azR,VV,seval]) ?_;simp only[fm,bO.azR,l,t,w,u,ao,bP,Nat.reduceAdd,aa,ak,↓IT,VV,seval];have F:E.ax (x::a) aK=E.ax a (aK.set j (dv (E.fV o x.op) o)):=by rw[<- s];rfl
 rw[F]at h;have g:=eK.re (i:=x.dst.toNat) k q.2.2;rw[s]at g;have e:=ih (b++[x]) (aK.set j (dv (E.fV o x.op) o)) (by rw[d];simp) g (by simpa using v) h;have c:=bc (aK.set j (dv (E.fV o x.op) o));simp only[S4]at e c;refine⟨λd=>⟨p,?_⟩,λd=>?_⟩
 .have d:(E.fV o x.op).2=0:=by simpa using d
  rw[dv,aQ d]at e c;rw[uF];refine n _ (cn [b0,b1,bC 0 (aK.set j (E.fV o x.op).1),.box 29 [.own (Y J+2) 0,vb,vc]] [_,_] c (by repeat' constructor) ?_ e);simp only[LW,ae,ai,aG];omega
 have d:¬(E.fV o x.op).2=0:=by simpa using d
 have B:aK.set j (dv (E.fV o x.op) o)=aK:=by rw[dv,aw d];obtain⟨_,rfl⟩:=ag.1 f;simp
 rw[B]at e c;refine n _ (cn [b0,b1,bC 0 aK,.box 29 [.own (Y J+2) 0,vb,vc]] [_,_] c (by repeat' constructor) ?_ e);simp only[LW,ae,ai,aG];omega
end
variable(T:eK)(a:List aV)(X:aV)(o:bO){l:List aV}{R:aj}
def iW:List aV:=if a.any (λy=>dH y X==0)then a else ud a X
theorem vS:(a.any λy=>dH y X==0)=(ka a X.aY.bS X.aY.azW).isSome:=by rw[ka,eD,EP,dF];simp[jr]
theorem pA{x z:aV}(h:z∈iW l x):z=x\/z∈l:=by
 unfold iW at h;split at h;.exact .inr h
 rename_i a;rw[mJ λy c b=>a (dF.2 ⟨y,c,by simpa using b⟩)]at h;exact lj.1 h
theorem pB:Y (iW a X)<=Y a+1:=by
 unfold iW;split;.omega
 rename_i b;rw[mJ λy d c=>b (dF.2 ⟨y,d,by simpa using c⟩)];simp[qn];omega
set_option maxRecDepth 4000 in
theorem vI{n:Nat}{K:bL}(P:n<=R.length)(bc:bT R)(k o g f h:V)(J:k.Lt R.length)(M:o.Lt R.length)(t:g.Lt R.length)(s:f.Lt R.length)(v:h.Lt R.length)(l:List aV)(L:∀x∈l,x.azU)(W:l.length<2^29): ∀(d c a:List aV),l=c++d->(∀x∈a,x.azU)->a.length+d.length<2^30 ->(((fj 2 (fh (k) (fh (o) (fj 8 (fh (.sl 13 ((d.foldl iW a).map aV.azR)) (fj 78 (fh (g) (fh (f) (fh (h) (fj 76 fo)))))))))) λH=>K (.exit 6) ⟨H,R⟩)) ->gw n κ rM K (d.length+1) ⟨(uu 2 (k::o::uu 8 (.sl 13 (a.map aV.azR)::uu 78 (g::f::h::uu 4 (.sl 13 (l.map aV.azR)::.I l.length::.I c.length::uu 69 []))))),R⟩:=by
 intro d;induction d with
 |nil =>
  intro c a j _ _ u;have j:l=c:=by simpa using j
  refine az λb D=>?_;simp only[rM,j,dt,bZ,↓IT,VV,seval];exact u ..
 |cons x d ih =>
 intro c a j E U u;simp only[ae]at U;have X:=gY j;have q:=dD c x (by omega);have B:(l.map aV.azR).getD c.length []=qA x:=by rw[j,dR,gy]
 have T:(0:Int)<=(c.length:Int):=by omega
 have Q:(c.length:Int)<(l.length:Int):=by omega
 have C:=L x (by rw[j];simp);simp only[qA]at B;refine az λb D=>?_;simp only[rM,B,T,Q,q,bt,ao,aa,ak,bb,↓IT,VV,seval];refine al (qU a (by omega) x.aY.bS x.aY.azW _) rfl ?_;have O:∀A,jt R.length (uu 2 (k::o::uu 8 (.sl 13 (List.map aV.azR A)::uu 78 (g::f::h::uu 4 (.sl 13 (l.map aV.azR)::.I l.length::.I (c++[x]).length::uu 69 []))))):=λA=>by simp only[LW];exact⟨J,M,t,s,v⟩
 have i:∀r m,rk r (uu 2 (k::o::uu 8 (.sl 13 ((iW a x).map aV.azR)::uu 78 (g::f::h::uu 4 (.sl 13 (l.map aV.azR)::.I l.length::.I (c++[x]).length::uu 69 [])))))->b ⟨r,R++m⟩:=λr m N =>
  D _ (ub ((Wk.fw N).trans (Wk.lS P bc (ed.1 (O _)))) (ih (c++[x]) (iW a x) (by rw[j];simp) (λz F=>(pA F).elim (λe=>e▸C) (E z)) (by have:=pB a x;omega) u));have p:=vS a x;cases w:ka a x.aY.bS x.aY.azW with
 |some y =>
  rw[w]at p;have e:iW a x=a:=by rw[iW,p];rfl
  rw[e]at i;simp only[qD,gy,qA,q,bP,Nat.reduceAdd,bb,↓IT,VV,seval];exact i _ _ (by repeat' constructor)
 |none =>
 rw[w]at p;have e:iW a x=ud a x:=by rw[iW,p];rfl
 rw[e]at i;simp only[qD,gy,qA,nG,q,bP,Nat.reduceAdd,bb,↓IT,VV,seval];refine al (yz a x (by omega) E C _) (by simp only[gy,qA,VV,seval]) ?_;simp only[q,↓IT,VV,seval];exact i _ _ (by repeat' constructor)
theorem jY:∀{a:List aV} {z:aV},z∈l.foldl iW a->z∈l\/z∈a:=by
 induction l with
 |nil=>intro a z h;exact .inr h
 |cons x r ih =>
 intro a z h;rcases ih h with h|h;.exact .inl (bJ _ h)
 exact(pA h).elim (λe=>.inl (e▸cU ..)) .inr
theorem jZ:∀b:List aV,Y (a.foldl iW b)<=Y b+Y a:=by induction a with|nil=>intro b;simp|cons x r ih=>intro b;have:=ih (iW b x);have:=pB b x;simp only[bH,ae];omega
set_option maxRecDepth 4000 in
theorem vH{K:bL}(b0 b1:Ob)(aK:List bO)(C:Y aK<2^30)(t:∀o∈aK,o.azU/\Y o.azS<2^20/\∀x∈o.azS,x.azU)(A:Y (cI aK)<2^29)(bc:bT (S4 R b0 b1 .nil .nil aK)):∀(c d:List bO) (a:List aV),aK=d++c->(∀x∈a,x.azU)->Y a+Y (cI c)<2^29 ->(((fj 2 (fh (.ptr (Y R+1) 0) (fh (.ptr (Y R+3) 0) (fj 8 (fh (.sl 13 (((cI c).foldl iW a).map aV.azR)) (fj 157 fo)))))) λs=>K (.exit 4) ⟨s,S4 R b0 b1 .nil .nil aK⟩)) ->gw (Y R) κ rL K (Y c+1) ⟨(uu 2 (.ptr (Y R+1) 0::.ptr (Y R+3) 0::uu 8 (.sl 13 (a.map aV.azR)::uu 78 (.own (Y R+2) 0::.I (Y aK)::.I (Y d)::uu 76 [])))),S4 R b0 b1 .nil .nil aK⟩:=by
 intro c;induction c with
 |nil =>
  intro d a e _ _ i;have e:aK=d:=by simpa using e
  refine az λb p=>?_;simp only[rL,e,dt,bZ,↓IT,VV,seval];rw[e]at i;exact i ..
 |cons o c ih =>
 intro d a e q w i;have g:cI (o::c)=o.azS++cI c:=by simp[cI]
 rw[g,ah]at w;rw[g,nF]at i;have D:=gY e;have m:=dD d o (by omega);have j:(aK.map bO.azR).getD d.length []=o.azR:=by rw[e,dR]
 have v:(0:Int)<=(Y d:Int):=by omega
 have u:(Y d:Int)<(Y aK:Int):=by omega
 obtain⟨y,B,f⟩:=t o (by rw[e];simp);simp only[bO.azR]at j;have h:=ih (d++[o]) (o.azS.foldl iW a) (by rw[e];simp) (λz r=>(jY r).elim (f z) (q z)) (by have:=jZ o.azS a;omega) i;simp only[S4,bC]at h bc;have k:bT (R++[b0,b1,.row 61 6 80 0 G (aK.map bO.azR),.box 29 [.own (Y R+2) 0,.nil,.nil],.box 61 o.azR]):=by have:=cj bc (l:=[.box 61 o.azR]) (by simp only[bO.azR,bF,bD,cA,cW,cK,LW]);simpa using this
 simp only[bO.azR]at k;refine az λb p=>?_;simp only[rL,S4,bC,j,v,u,m,bt,ao,aa,ak,bb,↓IT,VV,seval];refine cB.wk (Wk.fw (by repeat' constructor)) (cB.kT (Y o.azS+1) (vI (n:=Y R) (by simp) k (.ptr (Y R+1) 0) (.ptr (Y R+3) 0) (.own (Y R+2) 0) (.I (Y aK)) (.I (Y d)) ?_ ?_ ?_ ?_ ?_ o.azS f (by omega) o.azS [] a rfl q (by omega) ?_));.simp only[LW,ah,ae,ai];omega
 .simp only[LW,ah,ae,ai];omega
 .simp only[LW,ah,ae,ai];omega
 .simp only[LW]
 .simp only[LW]
 simp only[JE];intros;simp only[m,↓IT,VV,seval];refine p _ (cn [b0,b1,.row 61 6 80 0 G (aK.map bO.azR),.box 29 [.own (Y R+2) 0,.nil,.nil]] [_] bc (by repeat' constructor) ?_ h);simp only[LW,ae,ai,aG];omega
def pV:bO:=a.foldl (λo x=>dv (T.fV o x) o) o
def l7:bO:=dv (T.fS (pV T a o)) (pV T a o)
theorem rZ{E:eK}:∀(U:List aV) {o:bO},E.o6 o->(∀x∈U,E.ok x)->E.o6 (pV E U o)|[],_,h,_=>h|x::U,o,h,hx=>rZ U (o:=dv (E.fV o x) o) (eK.pH h (E.gV o x h (hx x (by simp)))) λy a=>hx y (by simp[a])
section
variable {E:eK} (hE:A9 E) {J:aj} {K:bL} (b0 b1:Ob) (bc:∀aK,bT (S4 J b0 b1 .nil .nil aK)) (U:List aV) (hU:∀x∈U,E.ok x) (J0:U.length<2^30)
include hE bc hU J0
set_option maxRecDepth 4000 in
theorem vG(A B:List bO)(n:Nat)(y:n<2^30)(p:Y A+(Y B+1)=n):∀(b a:List aV) (o:bO),U=a++b->E.o6 o ->(((fj 2 (fh (.ptr (Y J+1) 0) (fh (.ptr (Y J+3) 0) (fj 8 (fh (.sl 13 (U.map aV.azR)) (fj 6 (fh (.I (Y A)) (fj 104 (fh (.I n) (fh (.I (Y A)) (fj 44 fo))))))))))) λr=>K (.exit 10) ⟨r,S4 J b0 b1 .nil .nil (A++pV E b o::B)⟩)) ->gw (Y J) κ rK K (Y b+1) ⟨(uu 2 (.ptr (Y J+1) 0::.ptr (Y J+3) 0::uu 8 (.sl 13 (U.map aV.azR)::uu 6 (.I (Y A)::uu 104 (.I n::.I (Y A)::uu 2 (.sl 13 (U.map aV.azR)::.I (Y U)::.I (Y a)::uu 39 [])))))),S4 J b0 b1 .nil .nil (A++o::B)⟩:=by
 intro b;induction b with
 |nil =>
  intro a o c f h;have c:U=a:=by simpa using c
  have v:decide ((Y a:Int)<(Y U:Int))=G:=by rw[c];simp
  refine az λR i=>?_;simp only[rK,v,↓IT,VV,seval];exact h ..
 |cons x b ih =>
 intro a o c f h;have j:=hU x (by rw[c];simp);have z:=gY c;have m:=dD a x (by omega);have k:(U.map aV.azR).getD a.length []=qA x:=by rw[c,dR,gy]
 have g:((A++o::B).map bO.azR).getD A.length []=o.azR:=dR;have w:(0:Int)<=(Y a:Int):=by omega
 have t:(Y a:Int)<(Y U:Int):=by omega
 have l:(0:Int)<=(Y A:Int):=by omega
 have q:(Y A:Int)<(Y (A++o::B):Int):=by simp;omega
 have u:Y A<Y (A++o::B):=by simp
 simp only[qA]at k;simp only[bO.azR]at g;refine az λR i=>?_;simp only[rK,S4,bC,k,g,w,t,l,q,m,bt,ao,aa,ak,bb,↓IT,VV,seval];intro X;refine al (hE.cV o x f j _) (by simp only[gy,qA,bO.azR,VV,seval]) ?_;simp only[fm,bO.azR,g,l,q,m,ao,bP,Nat.reduceAdd,aa,ak,↓IT,VV,seval];have e:=ih (a++[x]) (dv (E.fV o x) o) (by rw[c];simp) (eK.pH f (E.gV o x f j)) h;have d:=bc (A++dv (E.fV o x) o::B);simp only[S4,bC]at e d;refine⟨λc=>⟨u,?_⟩,λc=>?_⟩
 .have c:(E.fV o x).2=0:=by simpa using c
  rw[nr (E.fV o x) c];refine i _ (cn [b0,b1,bC 0 (A++dv (E.fV o x) o::B),.box 29 [.own (Y J+2) 0,.nil,.nil]] [_,_] d (by repeat' constructor) ?_ e);simp only[LW,ae,ai,aG];omega
 have c:¬(E.fV o x).2=0:=by simpa using c
 have s:dv (E.fV o x) o=o:=by rw[dv,aw c]
 rw[s]at e d;refine i _ (cn [b0,b1,bC 0 (A++o::B),.box 29 [.own (Y J+2) 0,.nil,.nil]] [_,_] d (by repeat' constructor) ?_ e);simp only[LW,ae,ai,aG];omega
set_option maxRecDepth 4000 in
theorem vF(n:Nat)(r:n<2^30):∀(a b:List bO),Y b+Y a=n->E.jj a ->(((fj 2 (fh (.ptr (Y J+1) 0) (fh (.ptr (Y J+3) 0) (fj 166 fo)))) λm=>K (.exit 8) ⟨m,S4 J b0 b1 .nil .nil (b++a.map (l7 E U))⟩)) ->gw (Y J) κ rJ K (Y a+1) ⟨(uu 2 (.ptr (Y J+1) 0::.ptr (Y J+3) 0::uu 8 (.sl 13 (U.map aV.azR)::uu 111 (.I n::.I (Y b)::uu 44 [])))),S4 J b0 b1 .nil .nil (b++a)⟩:=by
 intro a;induction a with
 |nil =>
  intro b d f g;have s:decide ((Y b:Int)<(n:Int))=G:=by simp at d;simp;omega
  simp only[ar,bI]at g;refine az λR i=>?_;simp only[rJ,s,↓IT,VV,seval];exact g ..
 |cons o a ih =>
 intro b d f g;have u:=rZ U (f o (cU ..)) hU;simp only[ae]at d;have j:IntKind.i64.wrap ((Y b:Int)+1)=((Y (b++[l7 E U o]):Nat):Int):=by rw[da (by omega)];simp
 have k:(0:Int)<=(Y b:Int):=by omega
 have t:(Y b:Int)<(n:Int):=by omega
 refine az λR i=>?_;simp only[rJ,t,bt,aa,↓IT,VV,seval];refine cB.wk (Wk.fw (by repeat' constructor)) (cB.kT (Y U+1) (vG hE b0 b1 bc U hU J0 b a n r (by omega) U [] o rfl (f o (cU ..)) ?_));simp only[JE];intros;have h:((b++pV E U o::a).map bO.azR).getD b.length []=(pV E U o).azR:=dR;have l:(Y b:Int)<(Y (b++pV E U o::a):Int):=by simp;omega
 have q:Y b<Y (b++pV E U o::a):=by simp
 simp only[bO.azR]at h;simp only[S4,bC,h,k,l,j,ao,aa,ak,↓IT,VV,seval];refine al (hE.cS (pV E U o) u _) (by simp only[bO.azR,VV,seval]) ?_;simp only[fm,bO.azR,h,k,l,j,ao,bP,Nat.reduceAdd,aa,ak,↓IT,VV,seval];have e:=ih (b++[l7 E U o]) (by simp;omega) (λo v=>f o (bJ _ v)) (by simpa using g);have c:=bc (b++l7 E U o::a);simp only[aO,aF,ay,S4,bC]at e c;refine⟨λd=>⟨q,?_⟩,λd=>?_⟩
 .have d:(E.fS (pV E U o)).2=0:=by simpa using d
  rw[nr (E.fS (pV E U o)) d];refine i _ (cn [b0,b1,bC 0 (b++l7 E U o::a),.box 29 [.own (Y J+2) 0,.nil,.nil]] [_] c (by repeat' constructor) ?_ e);simp only[LW,ae,ai,aG];omega
 have d:¬(E.fS (pV E U o)).2=0:=by simpa using d
 have p:l7 E U o=pV E U o:=by rw[l7,dv,aw d]
 rw[p]at e c |-;refine i _ (cn [b0,b1,bC 0 (b++pV E U o::a),.box 29 [.own (Y J+2) 0,.nil,.nil]] [_] c (by repeat' constructor) ?_ e);simp only[LW,ae,ai,aG];omega
end
theorem jy{J:aj}(bc:bT J)(n:Net)(vb vc:V)(a:vb=.nil\/vb=.sl 15 (n.ax.map Let.azR))(b:vc=.nil)(aK:List bO):bT (S4 J (.box 29 n.azR) (.box 29 [.nil,.nil,.nil]) vb vc aK):=by
 subst b;rcases a with rfl|rfl <;>
 .refine cj bc ?_;simp only[bC,Net.azR,bF,bD,cA,cW,cK,ae,ai,LW];omega
def rA(E:eK)(n:Net):List bO:=(E.ax n.ax (E.up n.an)).map (l7 E (mH (cI (E.ax n.ax (E.up n.an)))))
set_option maxRecDepth 4000 in
theorem qz{E:eK}(hE:A9 E)(n:Net)(l:n.azU)(y:n.an≠[])(v:Y n.an<=8)(r:E.jj n.an)(u:∀x∈n.ax,0<=x.dst/\x.dst<Y n.an/\E.ok x.op)(J:aj): bh κ 22 [.agg n.azR] J (.agg (Net.azR ⟨rA E n,[],[]⟩)):=by
 have p:=l.uE;refine aW func22 p22.2 λbc z=>aq ?_;have s:E.jj (E.up n.an):=eK.Dm r;have J0:Y (E.up n.an)=Y n.an:=by simp[eK.up]
 have c:E.jj (E.ax n.ax (E.up n.an)):=eK.rW n.ax s λx b=>(u x b).2.2;have f:Y (E.ax n.ax (E.up n.an))=Y n.an:=(eK.nq n.ax).trans J0;have q:=λK=>vK (K:=K) hE (.box 29 n.azR) (.box 29 [.nil,.nil,.nil]) (.sl 15 (n.ax.map Let.azR)) .nil (jy bc n _ _ (.inr rfl) rfl) n.an.length p n.an [] (by simp) r;have i:=λK=>vJ (K:=K) hE (.box 29 n.azR) (.box 29 [.nil,.nil,.nil]) (.sl 15 (n.ax.map Let.azR)) .nil (jy bc n _ _ (.inr rfl) rfl) n.ax n.an.length l.pT p u n.ax [] (E.up n.an) rfl s J0;rw[rA];generalize E.ax n.ax (E.up n.an)=aK at i c f |-;have t:Y (cI aK)<2^29:=by have:=wa (m:=2^16) λo d=>E.len o (c o d);omega
 have w:∀o∈aK,o.azU/\Y o.azS<2^20/\∀x∈o.azS,x.azU:=λo d=>⟨E.sml o (c o d),by have:=E.len o (c o d);omega,λx b=>(E.val x (E.azS o (c o d) x b)).2⟩;have hU:∀x∈mH (cI aK),E.ok x:=λx b=>by
  rcases jY (a:=[]) b with h|h;.obtain⟨o,d,b⟩:=qa.1 h;exact E.azS o (c o d) x b
  simp at h
 have k:Y (mH (cI aK))<2^30:=by have:=jZ (cI aK) [];have e:(mH (cI aK))=(cI aK).foldl iW []:=rfl;rw[e];simp at this;omega
 have g:=λK=>vH (K:=K) (.box 29 n.azR) (.box 29 [.nil,.nil,.nil]) aK (by omega) w t (jy bc n _ _ (.inl rfl) rfl aK) aK [] [] rfl (by simp) (by simpa using t);have j:=λK=>vF (K:=K) hE (.box 29 n.azR) (.box 29 [.nil,.nil,.nil]) (jy bc n _ _ (.inl rfl) rfl) (mH (cI aK)) hU k n.an.length p aK [] (by simpa using f) c;have e:(cI aK).foldl iW []=mH (cI aK):=rfl;rw[e]at g;simp only[S4,bC,Net.azR,ay,ai]at q i g j;rw[f]at g j;simp only[p22,SS,seval];simp only[Net.azR,aa,↓IT,VV,seval];refine al (qV n l y _) rfl ?_;simp only[bC,ao,bP,Nat.reduceAdd,aa,↓IT,VV,seval];refine cB.wk (Wk.fw (by repeat' constructor)) (cB.kT (Y n.an+1) (q _ ?_));simp only[JE];intros;simp only[ao,aa,↓IT,VV,seval];refine cB.wk (Wk.fw (by repeat' constructor)) (cB.kT (Y n.ax+1) (i _ ?_));simp only[JE];intros;simp only[ao,aa,f,↓IT,VV,seval];refine cB.wk (Wk.fw (by repeat' constructor)) (cB.kT (Y n.an+1) (g _ ?_));simp only[JE];intros;simp only[ao,aa,f,↓IT,VV,seval];refine cB.wk (Wk.fw (by repeat' constructor)) (cB.kT (Y n.an+1) (j _ ?_));simp only[JE];intros;simp only[ao,aa,↓IT,VV,seval];refine dS (xs:=[.agg [.own (Y J+2) 0,.nil,.nil]]) (xs':=[.agg (Net.azR ⟨aK.map (l7 E (mH (cI aK))),[],[]⟩)]) (.inr rfl) (by simp only[RS,seval]) ?_ rfl ⟨rfl,rfl⟩;refine(Wk.px 2 rfl).trans ((Wk.fw (ys:=[.agg (Net.azR ⟨aK.map (l7 E (mH (cI aK))),[],[]⟩)]) ?_).trans (Wk.yQ bc (by simp only[Net.azR,LW])));simp only[aI,ar,Pm.fz,kE,cG,aU];exact .cons (.iV (.cons (.refl _) (.cons (.nil 15) (.cons (.nil 2) .nil)))) .nil
section
variable {m:Int} {W:List aV} (hp:Pl m W)
theorem Is:HC (eE hp) where
 cR:=λo ⟨n,h⟩=>(nA hp h).1
 cV:=λo x ⟨n,h⟩ a=>(lR hp h a).1
 cS:=λo ⟨n,h⟩=>(r7 hp h).1
theorem Ir:A9 (eE hp) where
 cR:=λo ⟨n,h⟩=>(nA hp h).2
 cV:=λo x ⟨n,h⟩ a=>(lR hp h a).2
 cS:=λo ⟨n,h⟩=>(r7 hp h).2
theorem AO{n:Int}:∀(U:List aV) {o:bO},GO W n o->o.down=G->(∀x∈U,x∈W)->pV (eE hp) U o=U.foldl cQ o
 |[],_,_,_,_=>rfl
 |x::U,o,h,hd,hx=>by
  have e:dv ((eE hp).fV o x) o=cQ o x:=by show dv (sP o x) o=_;rw[sP,hd];rfl
  obtain⟨a,b,_⟩:=h.recv hp hd (hx x (by simp));have:=AO U a b λy c=>hx y (by simp[c]);rw[pV,bH,e,bH];exact this
theorem yw{n:Net}(h:Gs W n.an)(j:∀x∈n.ax,x.op∈W):rA (eE hp) n=(eE hp).settle n:=by
 obtain⟨a,b⟩:=oF hp h j;rw[nf hp h j,rA];show(iH hp n).map (l7 (eE hp) (mH (cI (iH hp n))))=_;rw[yA hp a];refine dA λo c=>?_;obtain⟨i,f⟩:=cm.1 c;have g:∀x∈ff (iH hp n),x∈W:=λx d=>by obtain⟨p,l,d⟩:=((fq hp a.sub).2 x).1 d;exact a.sub p l x d
 have e:=AO hp (ff (iH hp n)) (a i o f) (b o c) g;have k:=(kF hp (ff (iH hp n)) (a i o f) (b o c) g).2.1;rw[l7,e];show dv (yq _) _=_;rw[yq,k];rfl
end
variable{X:Int}{N:Nat}
noncomputable def gr  {W:List aV} (hp:Pl X W) (n:Net):Net:=⟨(eE hp).settle n,[],[]⟩
theorem mr{W:List aV}{n:Net}(h:GN X W N n)(m:N<=100): (∀J,bh κ 21 [.agg n.azR] J (.agg (gr h.pl n).azR))/\(∀J,bh κ 22 [.agg n.azR] J (.agg (gr h.pl n).azR)) /\GN X W N (gr h.pl n)/\∀o∈(gr h.pl n).an,o.down=G/\o.azS=ej W/\o.aAe=Y o.log:=by
 have f:=h.azU m;have c:=h.len;have l:=h.m8;have r:=h.pT;have i:∀x∈n.ax,x.op∈W:=λx d=>(h.SA x d).2;have g:(eE h.pl).jj n.an:=λo p=>h.gs.mem p;have e:∀x∈n.ax,0<=x.dst/\x.dst<Y n.an/\(eE h.pl).ok x.op:=λx d=>by obtain⟨a,b⟩:=h.SA x d;exact⟨a.1,by omega,b⟩
 obtain⟨j,q,k⟩:=sO h.pl h.gs i c.symm;refine⟨?_,?_,⟨h.pl,h.wl,j,by rw[gr,q];exact c,h.m8,by simp[gr],by simp[gr],List.Pairwise.nil,by simp[gr]⟩,k⟩;.exact xy (Is h.pl) n f g (by omega) e
 have:=qz (Ir h.pl) n f h.ne (by omega) g e;rw[yw h.pl h.gs i]at this;exact this
theorem Yx{W:List aV}{n:Net}(h:GN X W N n)(a:N<=100){hp:Pl X W}:gr hp (gr h.pl n)=gr h.pl n:=by obtain⟨_,_,g,s⟩:=mr h a;have:=N2 hp (n:=gr h.pl n) g.gs g.len.symm s;unfold gr at this |-;rw[this]
end Go.Proofs.Tryz
namespace Go.Proofs.Tryz
open Go Go.Pm Go.Bt
variable(R:aj)(l:bU){T:Int}
theorem rv(a:Nat)(e:a<Y R)(l:bU)(k:Nat)(j:k<2^40)(N:Nat)(f:N<=24): PC κ 13 [.ptr a 0,.I N] (mb R a l k) (λr i=>∃(n:Net) (b:List Ev) (c:Nat),r=.jg [.agg n.azR,.sl 12 (b.map Ev.azR)]/\qL N n b/\c<=k+8000/\i=mb R a l c) :=(sJ R a e l k j N f).mono λ_ _ ⟨n,b,c,h,m,d,g,_⟩=>⟨n,b,c,h,m,d,g⟩
theorem ux(b1:Ob)(a:aj)(l:bU)(k:Nat)(f:k<2^40)(N:Nat)(d:N<=24):
  PC κ 13 [.ptr (Y R+1) 0,.I N] (R++(b1::.box 84 [.sl 1 (l.map cN),.I k]::a)) (λr e=>∃(n:Net) (b:List Ev) (c:Nat),r=.jg [.agg n.azR,.sl 12 (b.map Ev.azR)]/\qL N n b/\c<=k+8000/\e=R++(b1::.box 84 [.sl 1 (l.map cN),.I c]::a)):=by have:=rv (R++(b1::.dead::a)) (Y R+1) (by simp) l k f N d;simpa[mb]using this
def xa(c a b:Ob)(n:Net):aj:=[c,a,b,eI n,eI n]
set_option maxRecDepth 4000 in
theorem CW{J:aj}{K:bL}(k h o:Ob)(bc:∀n,bT (J++xa k h o n))(m:Nat)(c:List Ev)(Q:Y c<=30)(L:Evs m c):∀(b a:List Ev) (W:List aV) (n:Net),c=a++b->GN m W a.length n ->(∀(W:List aV) (n:Net),GN m W c.length n->((fj 2 (fh (.ptr J.length 0) (fj 3 (fh (.sl 12 (c.map Ev.azR)) (fh (.ptr (Y J+3) 0) (fj 69 fo)))))) λA=>K (.exit 0) ⟨A,J++xa k h o n⟩)) ->gw (Y J) κ qi K (Y b+1) ⟨(uu 2 (.ptr J.length 0::uu 3 (.sl 12 (c.map Ev.azR)::.ptr (Y J+3) 0::uu 1 (.ptr (Y J+4) 0::uu 31 (.sl 12 (c.map Ev.azR)::.I (Y c)::.I (Y a)::uu 33 []))))),J++xa k h o n⟩:=by
 intro b;induction b with
 |nil =>
  intro a W n d i p;have d:c=a:=by simpa using d
  refine az λR v=>?_;simp only[qi,d,dt,bZ,↓IT,VV,seval];rw[d]at p;exact p W n i ..
 |cons e b ih =>
 intro a W n d i p;have T:=gY d;have x:=dD a e (by omega);have u:(c.map Ev.azR).getD a.length []=e.azR:=by rw[d,dR]
 have O:(0:Int)<=(Y a:Int):=by omega
 have H:(Y a:Int)<(Y c:Int):=by omega
 have C:=i.azU (by omega);obtain⟨y,z,B,⟨E,w⟩,P⟩:=yS i (by omega) e (L e (by rw[d];simp)).1;have F:Y (a++[e])=Y a+1:=by simp
 simp only[Ev.azR,En.azR]at u;refine az λR v=>?_;have g:∀(t:List aV) (n2:Net) (f:aj) (r:aB),GN m t (Y a+1) n2->rk r (uu 2 (.ptr J.length 0::uu 3 (.sl 12 (c.map Ev.azR)::.ptr (Y J+3) 0::uu 1 (.ptr (Y J+4) 0::uu 31 (.sl 12 (c.map Ev.azR)::.I (Y c)::.I (Y (a++[e]))::uu 33 [])))))->R ⟨r,J++(xa k h o n2++f)⟩:=by intro t n2 f r D M;refine v _ (cn (xa k h o n2) f (bc n2) M ?_ (ih (a++[e]) t n2 (by rw[d];simp) (by rw[F];exact D) p));simp only[LW,xa,ae,ai,aG];omega
 simp only[xa,eI,Net.azR,aF,ay]at g;simp only[qi,xa,eI,Net.azR,u,O,H,bt,aa,ak,bb,↓IT,VV,seval];refine al (E _) (by simp only[Net.azR,Ev.azR,En.azR,VV,seval]) ?_;by_cases q:z=0;.subst q;obtain⟨l,_⟩:=P rfl;have s:=l.azU (by omega);have j:=jo y s;simp only[Net.azR]at j;simp only[gf,aU,Net.azR,↓IT,VV,seval];refine al (w _) (by simp only[Net.azR,Ev.azR,En.azR,VV,seval]) ?_;simp only[gf,aU,Net.azR,ao,db,bP,Nat.reduceAdd,bb,↓IT,VV,seval];refine al (j _) rfl ?_;simp only[x,bb,↓IT,VV,seval];exact g B y [_,_,_] _ l (by repeat' constructor)
 have N:(z==0)=G:=by simpa using q
 have j:=jo n C;simp only[Net.azR]at j;simp only[gf,aw q,Net.zero,Net.azR,ar,↓IT,VV,seval];refine al (w _) (by simp only[Net.azR,Ev.azR,En.azR,VV,seval]) ?_;simp only[gf,aw q,Net.zero,Net.azR,ar,N,db,bP,Nat.reduceAdd,bb,↓IT,VV,seval];refine al (j _) rfl ?_;simp only[x,bb,↓IT,VV,seval];exact g W n [_,_,_] _ (i.mono (mh _)) (by repeat' constructor)
set_option maxRecDepth 4000 in
theorem sU(J:aj):PC κ 11 [.sl 1 (l.map cN)] J (λr p=>∃(n:Net) (a:List Ev),r=.jg [.agg n.azR,.sl 12 (a.map Ev.azR),.b θ]/\qL 24 n a/\p=J):=by
 refine aW func11 K7.2 λbc s=>aq ?_;simp only[K7,SS,seval];simp only[↓IT,VV,seval];refine al (yN l _) rfl ?_;simp only[ah,ae,ai,↓IT,VV,seval];refine dZ (ux J _ [] l 0 (by decide) 24 (by decide)) rfl ?_;rintro _ _ ⟨h,a,i,rfl,⟨⟨m,t,c,k,e⟩,d⟩,q,rfl⟩;have u:=c.len;have o:=c.m8;have f:Y h.an=m:=by omega
 simp only[Net.azR,aa,f,↓IT,VV,seval];refine al (sW m (by omega) (by omega) _) rfl ?_;simp only[Net.azR,ar,aa,f,↓IT,VV,seval];refine al (sR m (by omega) (by omega) _) rfl ?_;simp only[Net.azR,ar,aa,db,bb,↓IT,VV,seval];have g:=λK=>CW (J:=J) (K:=K) (.box 29 [.nil,.nil,.nil]) (.box 84 [.sl 1 (l.map cN),.I i]) (eI h) (λn=>cj bc (by simp only[xa,eI,Net.azR,bF,bD,cA,cW,cK,LW])) m a (by omega) e a [] [] ⟨mw m,[],[]⟩ rfl (Fw (by omega));simp only[xa,eI,Net.azR,ar,ai]at g;refine cB.wk (Wk.fw (by repeat' constructor)) (cB.kT (Y a+1) (g _ ?_));intro W n j;simp only[JE];intros;simp only[↓IT,VV,seval];exact bA bc (.inr rfl) (by simp only[RS,seval];rfl) (by simp[LW]) ⟨n,a,rfl,⟨⟨m,W,j,k,e⟩,d⟩,rfl⟩
theorem Uz{W:List aV}{n:Int}{o:bO}{x:aV}(hp:Pl T W)(h:GO W n o)(a:o.down=G)(b:x∈W):cQ (cQ o x) x=cQ o x :=z6 [x] (λy c=>by rw[dn.1 c];exact((h.recv hp a b).2.2 x).2 (.inl rfl))
def GV(a:Int)(k:Nat):Ev:=⟨a,0,0,k,⟨[],[],[],[],[],[],0,0⟩⟩
theorem Kq{n:Net}{k:Nat}(h:T=4\/T=5\/T=6)(a:k<Y n.ax):kh n (GV T k)=θ:=by rcases h with rfl|rfl|rfl<;>simp[kh,GV,LK,a]
set_option maxRecDepth 4000 in
theorem Hi(letter:Int)(J:aj):bh κ 8 [.sl 1 (l.map cN),.I letter] J (.b θ):=by
 refine aW func8 p8.2 λbc dQ=>aq ?_;simp only[p8,SS,seval];simp only[V.pure,↓IT,VV,seval];refine iN (zs:=[.sl 1 ([l].map Cp)]) (.cons (.lit _ _) .nil) (yE [l] _) ?_;simp only[↓IT,VV,seval];refine⟨λ_=>?_,λ_=>?_⟩;.refine al (ki _) rfl ?_;simp only[↓IT,VV,seval];exact bK (.inr rfl) (by simp only[RS,seval];rfl) ⟨rfl,rfl⟩
 refine dZ (sU l _) rfl ?_;rintro _ _ ⟨n,es,rfl,⟨⟨m,W,a,hm,BV⟩,am⟩,rfl⟩;obtain⟨Q,_,K8,mq⟩:=mr a (by omega);obtain⟨E,_,_,_⟩:=mr K8 (by omega);rw[Yx a (by omega)]at E;have hs:=a.azU (by omega);have LL:=K8.azU (by omega);have N:=jo _ LL;have e1:(gr a.pl n).ax=[]:=rfl;have e2:(gr a.pl n).cw=[]:=rfl;generalize gr a.pl n=n2 at Q E N e1 e2;simp only[Net.azR,e1,e2,ar]at Q E N;simp only[Net.azR,bb,↓IT,VV,seval];refine al (Q _) rfl ?_;simp only[bb,↓IT,VV,seval];refine al (E _) rfl ?_;simp only[bb,↓IT,VV,seval];refine al (N _) rfl ?_;simp only[aa,bb,↓IT,VV,seval];refine⟨λh0=>?_,λh0=>?_⟩;.refine al (ki _) rfl ?_;simp only[↓IT,VV,seval];exact gm bc (by rfl) (by simp[LW])
 have P7:0<Y n.ax:=by
  have:¬(Y n.ax:Int)=0:=by simpa using h0
  omega
 have qw:=a.pT;refine al (tN letter n.ax.length (by omega) (by omega) _) rfl ?_;obtain⟨k,hk,vO⟩:∃k:Nat,place letter (Y n.ax)=k/\k<Y n.ax:=by have:=tM (x:=letter) (n:=Y n.ax) (by omega);exact⟨(place letter (Y n.ax)).toNat,by omega,by omega⟩
 rw[hk];have EI:=a.len;obtain⟨x,v⟩:∃x,n.ax[k]?=S x:=⟨_,aD vO⟩;obtain⟨⟨ap,au⟩,f⟩:=a.SA x (aS v);obtain⟨j,o,t,F⟩:∃(j:Nat) (o:bO),x.dst=j/\n.an[j]?=S o:=⟨x.dst.toNat,n.an[x.dst.toNat]'(by omega),by omega,aD _⟩;have D:=a.gs j o F;obtain⟨r1,r2⟩:=lR a.pl D f;have b6:=(BM n hs a.pT (GV 6 k) (.inr (.inr rfl)) (Kq (.inr (.inr rfl)) vO) k rfl x v j t o F _ _ r1 r2).1;have p:∀(kd:Int) (q:Nat),rk [.I kd,.I 0,.I 0,.I q,.nil,.nil,.s [],.s [],.s [],.s [],.I 0,.I 0] (GV kd q).azR:=λkd q=>by simp only[GV,Ev.azR,En.azR,ar,aF,ay];repeat first|exact .nil|refine .cons (.refl _) ?_|refine .cons (.nil _) ?_
 simp only[↓IT,VV,seval];refine iN (zs:=[.agg n.azR,.agg (GV 6 k).azR]) (.cons (.refl _) (.cons (.iV (p 6 k)) .nil)) (b6 _) ?_;by_cases w:Y n.ax=256
 .have d:ji n (GV 6 k).azT k x (sP o x.op).1 (sP o x.op).2=(Net.zero,3):=by simp[ji,GV,w]
  have bz:=(Yf Net.zero (GV 4 k) (by simp[kh,GV,LK,Net.zero];exact rl (by omega))).1;simp only[d,gf,Int.reduceEq,bw,Net.zero,Net.azR,ar,↓IT,VV,seval]at bz |-;refine iN (zs:=[.agg [.sl 6 [],.sl 15 [],.sl 2 []],.agg (GV 4 k).azR]) (.cons (.refl _) (.cons (.iV (p 4 k)) .nil)) (bz _) ?_;simp only[Int.reduceEq,bb,↓IT,VV,seval];refine al (ki _) rfl ?_;simp only[↓IT,VV,seval];exact gm bc (by rfl) (by simp[LW])
 have d:ji n (GV 6 k).azT k x (sP o x.op).1 (sP o x.op).2=(⟨n.an,n.ax++[x],n.cw⟩,0):=by simp[ji,GV,w]
 have H:GN m W es.length ⟨n.an,n.ax++[x],n.cw⟩:=by have:=a.post (kd:=6) (er:=(sP o x.op).2) (o':=(sP o x.op).1) (i:=k) (aS v) t (λh1=>by cases g:o.down with|true=>rw[sP,g]at h1;cases h1|false=>rw[sP,g];exact(D.recv a.pl g f).1) (by rw[show(6:Int)=(GV 6 k).azT from rfl,d]);rwa [show(6:Int)=(GV 6 k).azT from rfl,d]at this
 have Vn:=H.azU (by omega);have zw:(n.ax++[x])[k]?=S x:=by rw[bg vO];exact v
 have b4:=(BM ⟨n.an,n.ax++[x],n.cw⟩ Vn H.pT (GV 4 k) (.inl rfl) (Kq (.inl rfl) (by simp;omega)) k rfl x zw j t o F _ _ r1 r2).1;simp only[d,gf,aU,Net.azR,↓IT,VV,seval]at b4 |-;refine iN (zs:=[.agg [.sl 6 (n.an.map bO.azR),.sl 15 ((n.ax++[x]).map Let.azR),.sl 2 (n.cw.map cF)],.agg (GV 4 k).azR]) (.cons (.refl _) (.cons (.iV (p 4 k)) .nil)) (b4 _) ?_;have e:(mO n x.src x.dst=G/\o.down=G/\ji ⟨n.an,n.ax++[x],n.cw⟩ (GV 4 k).azT k x (sP o x.op).1 (sP o x.op).2=(⟨n.an.set j (cQ o x.op),(n.ax++[x]).take k++(n.ax++[x]).drop (k+1),n.cw⟩,0))\/∃er,er≠0/\ji ⟨n.an,n.ax++[x],n.cw⟩ (GV 4 k).azT k x (sP o x.op).1 (sP o x.op).2=(Net.zero,er):=by
  have u:mO ⟨n.an,n.ax++[x],n.cw⟩ x.src x.dst=mO n x.src x.dst:=rfl;cases y:mO n x.src x.dst with
  |true=>exact .inr ⟨8,by decide,by simp[ji,GV,u,y]⟩
  |false =>cases g:o.down with|true=>exact .inr ⟨15,by decide,by simp[ji,GV,u,y,sP,g]⟩|false=>exact .inl ⟨rfl,rfl,by simp[ji,GV,u,y,sP,g];rw[t,ak]⟩
 rcases e with⟨y,g,e⟩|⟨er,oz,e⟩
 .have h:=D.recv a.pl g f;have C:(n.ax++[x]).take k++(n.ax++[x]).drop (k+1)=(n.ax.take k++n.ax.drop (k+1))++[x]:=by rw[dW (by omega),na (by omega),aO]
  have g2:GN m W es.length ⟨n.an.set j (cQ o x.op),(n.ax.take k++n.ax.drop (k+1))++[x],n.cw⟩:=by have:=(H.drop k).set (i:=j) h.1;rwa [C]at this
  have B:Y (n.ax.take k++n.ax.drop (k+1))=Y n.ax - 1:=by simp;omega
  have X:=g2.azU (by omega);have Di:((n.ax.take k++n.ax.drop (k+1))++[x])[Y n.ax - 1]?=S x:=by rw[bn (by omega),B];simp
  have tY:j<Y n.an:=(ag.1 F).1;have z:(n.an.set j (cQ o x.op))[j]?=S (cQ o x.op):=by simp[tY]
  obtain⟨q1,q2⟩:=lR a.pl h.1 f;have r:=(BM ⟨n.an.set j (cQ o x.op),(n.ax.take k++n.ax.drop (k+1))++[x],n.cw⟩ X g2.pT (GV 4 (Y n.ax - 1)) (.inl rfl) (Kq (.inl rfl) (by simp;omega)) (Y n.ax - 1) rfl x Di j t _ z _ _ q1 q2).1;have EJ:Y ((n.ax.take k++n.ax.drop (k+1))++[x])=Y n.ax:=by rw[ah,B];simp;omega
  have P5:IntKind.i64.wrap ((Y n.ax:Int) - 1)=((Y n.ax - 1:Nat):Int):=by rw[IntWalk.i64_in _ (by omega)];omega
  have P:=Uz a.pl D g f;have af:mO ⟨n.an.set j (cQ o x.op),(n.ax.take k++n.ax.drop (k+1))++[x],n.cw⟩ x.src x.dst=G:=y;have K:sP (cQ o x.op) x.op=(cQ o x.op,0):=by rw[sP,h.2.1,P];rfl
  have R:∀L:List Let,Y L=Y n.ax - 1->(L++[x]).take (Y n.ax - 1)++(L++[x]).drop (Y n.ax - 1+1)=L:=λL C=>by rw[<- C,pZ,KZ (by simp),bI]
  have M:ji ⟨n.an.set j (cQ o x.op),(n.ax.take k++n.ax.drop (k+1))++[x],n.cw⟩ (GV 4 (Y n.ax - 1)).azT (Y n.ax - 1) x (sP (cQ o x.op) x.op).1 (sP (cQ o x.op) x.op).2=(⟨n.an.set j (cQ o x.op),n.ax.take k++n.ax.drop (k+1),n.cw⟩,0):=by rw[K,show(GV 4 (Y n.ax - 1)).azT=4 from rfl,ji,aw (by decide),aw (by decide),af,aw (by decide),aQ rfl,t,ak];simp only[l9];rw[R _ B]
  rw[e,C];rw[M]at r;generalize av:(n.ax.take k++n.ax.drop (k+1))++[x]=L2 at *;generalize aE:n.ax.take k++n.ax.drop (k+1)=L3 at *;simp only[gf,aU,Net.azR,db,aa,EJ,P5,bb,↓IT,VV,seval]at r |-;refine iN (zs:=[.agg [.sl 6 ((n.an.set j (cQ o x.op)).map bO.azR),.sl 15 (L2.map Let.azR),.sl 2 (n.cw.map cF)],.agg (GV 4 (Y n.ax - 1)).azR]) (.cons (.refl _) (.cons (.iV (p 4 _)) .nil)) (r _) ?_;have O:gv (n.ax.map Let.azR) k 1=S (.I (j:Int)):=by simp[gv,v,Let.azR,t]
  have S3:(0:Int)<=(k:Int):=by omega
  have tX:(k:Int)<(Y n.ax:Int):=by omega
  have T:¬(j:Int)<0:=by omega
  have ac:¬(Y n.an:Int)<=(j:Int):=by omega
  have C1:((n.an.set j (cQ o x.op)).map bO.azR).getD j []=(cQ o x.op).azR:=by rw[aA,bR,z];rfl
  have ad:(0:Int)<=(j:Int):=by omega
  have U:(j:Int)<(Y n.an:Int):=by omega
  have A:Y L3=Y n.ax - 1:=B;have Fp:=jV (cQ o x.op) (h.1.azU a.pl);simp only[bO.azR]at C1 Fp;simp only[O,C1,ad,U,A,S3,tX,T,ac,bt,bZ,aa,fT,bb,↓IT,VV,seval];refine⟨_,rfl,_,rfl,?_⟩;refine bV (c:=θ) (by simp only[bb,VV,seval]<;>rfl) (λ_=>Fp _) rfl ?_;simp only[aa,A,P5,ao,bb,↓IT,VV,seval];refine bV (c:=θ) (by simp only[bb,VV,seval]<;>rfl) (λ_=>ki _) rfl ?_;simp only[bb,↓IT,VV,seval];exact gm bc (by rfl) (by simp[LW])
 have ZT:(er != 0)=θ:=by simpa using oz
 simp only[e,gf,aw oz,Net.zero,Net.azR,ar,ZT,db,bb,↓IT,VV,seval];refine al (ki _) rfl ?_;simp only[↓IT,VV,seval];exact gm bc (by rfl) (by simp[LW])
end Go.Proofs.Tryz

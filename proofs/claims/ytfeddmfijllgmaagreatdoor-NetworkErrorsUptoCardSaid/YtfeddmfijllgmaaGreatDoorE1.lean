/- A part of a proof; the claim's last text says of what. -/
import Derived.Deep.Slices
import Derived.Deep.Strs
import Derived.Test.YtfeddmfijllgmaaGreatDoorB38
set_option linter.all false
set_option maxHeartbeats 4000000
open Option renaming some->S,none->Z
open Bool renaming true->θ,false->G
open Go.Proofs.Tryz renaming prog->κ
open List renaming length->Y

namespace Go.Proofs.Tryz
open Go Go.Pm
set_option maxRecDepth 100000
def W5:bl κ f78:=⟨_,by cbv⟩
def Xm:bl κ f35:=⟨_,by cbv⟩
def kI:aJ:=(⟨_,by cbv⟩:Nf (sc κ f20 [1,1,0,1,0,0])).1
def gn:aJ:=(⟨_,by cbv⟩:Nf (sc κ f20 [1,1,1,0,1,0,0,1,1,0,0,0])).1
def fY:aJ:=(⟨_,by cbv⟩:Nf (sc κ f20 [1,1,1,0,1,0,0,1,1,0,0,1,1])).1
def je:aJ:=(⟨_,by cbv⟩:Nf (sc κ f20 [1,1,1,1,0,1,0,0])).1
def wA:aJ:=(⟨_,by cbv⟩:Nf (sc κ f20 [0])).1
def rF:aJ:=(⟨_,by cbv⟩:Nf (sc κ f20 [1,0])).1
def nn:aJ:=(⟨_,by cbv⟩:Nf (sc κ f20 [1,1,0,0])).1
def lU:aJ:=(⟨_,by cbv⟩:Nf (sc κ f20 [1,1,1,0,0])).1
def kH:aJ:=(⟨_,by cbv⟩:Nf (sc κ f20 [1,1,1,1,0,0])).1
def oY:aJ:=(⟨_,by conv=>lhs;simp only[kI]⟩:Nf (kI:aJ)).1
def oX:aJ:=(⟨_,by conv=>lhs;simp only[gn,fY]⟩:Nf (.seq (.ij [] [z 57 (.bin .lss (.t 56) (.t 55))]) (.seq (.ite (.t 57) (.skip) (.exit 2)) (.seq (.block 3 (.seq (gn) (.seq (.pO [] [zf 61 0 7,zl 62 61,zf 63 1 3,zl 64 63,zm 65 6,z 66 (.idx 15 (.t 64) (.t 65)),zf 67 0 66,zl 68 67,z 69 (.bin .neq (.t 62) (.t 68)),zm 70 69,⟨S 71,[(70,G)],.tU 1 (.t 7)⟩,⟨S 72,[(70,G)],.load Z (.t 71)⟩,⟨S 73,[(70,G)],.tU 1 (.t 3)⟩,⟨S 74,[(70,G)],.load Z (.t 73)⟩,⟨S 75,[(70,G)],.nL (.t 6)⟩,⟨S 76,[(70,G)],.idx 15 (.t 74) (.t 75)⟩,⟨S 77,[(70,G)],.tU 1 (.t 76)⟩,⟨S 78,[(70,G)],.load Z (.t 77)⟩,⟨S 79,[(70,G)],.bin .neq (.t 72) (.t 78)⟩,z 80 (.pick (.t 70) (.c (.b θ)) (.t 79)),zm 81 80,⟨S 82,[(81,G)],.tU 2 (.t 7)⟩,⟨S 83,[(81,G)],.load (S 13) (.t 82)⟩,⟨S 84,[(81,G)],.tU 1 (.t 3)⟩,⟨S 85,[(81,G)],.load Z (.t 84)⟩,⟨S 86,[(81,G)],.nL (.t 6)⟩,⟨S 87,[(81,G)],.idx 15 (.t 85) (.t 86)⟩,⟨S 88,[(81,G)],.tU 2 (.t 87)⟩,⟨S 89,[(81,G)],.load (S 13) (.t 88)⟩] [71,72,73,74,75,76,77,78,79,82,83,84,85,86,87,88,89,90,91] [⟨S 90,[(81,G)],.call 58 [.t 83,.t 89]⟩,⟨S 91,[(81,G)],.un .not (.t 90)⟩,z 92 (.pick (.t 81) (.c (.b θ)) (.t 91))]) (fY)))) (.ij [] [z 93 (.bin .add (.t 56) (.c (.I 1))),zm 56 93]))):aJ)).1
def oW:aJ:=(⟨_,by conv=>lhs;simp only[je]⟩:Nf (je:aJ)).1
def Xw:bl κ f20:=⟨(⟨_,by conv=>lhs;simp only[wA,rF,nn,lU,kH]⟩:Nf (⟨112,[.t 4],.seq (wA) (.seq (rF) (.seq (.seq (nn) (.block 0 (.loop oY))) (.seq (.seq (lU) (.block 2 (.loop oX))) (.seq (.seq (kH) (.block 4 (.loop oW))) (.seq (.ij [] [z 4 (.nL (.c (.b θ)))]) (.ret))))))⟩:nR)).1,by kernel_rfl⟩
def q12:=(⟨_,by cbv⟩:Nf (gK κ f12))
def Ar:aJ:=(⟨_,by cbv⟩:Nf (gg q12.1 0 [])).1
def p12:bl κ f12:=⟨(λa=>(⟨_,by cbv⟩:Nf (gU q12.1 [a])).1) Ar,by kernel_rfl⟩
def Aj:aJ:=(⟨_,by cbv⟩:Nf (sc κ f4 [1,1,1,1,1,1,1,0,1,0,0])).1
def ai3:aJ:=(⟨_,by cbv⟩:Nf (sc κ f4 [1,0])).1
def abV:aJ:=(⟨_,by cbv⟩:Nf (sc κ f4 [1,1,0])).1
def WI:aJ:=(⟨_,by cbv⟩:Nf (sc κ f4 [1,1,1,0])).1
def RO:aJ:=(⟨_,by cbv⟩:Nf (sc κ f4 [1,1,1,1,0])).1
def MG:aJ:=(⟨_,by cbv⟩:Nf (sc κ f4 [1,1,1,1,1,0])).1
def DN:aJ:=(⟨_,by cbv⟩:Nf (sc κ f4 [1,1,1,1,1,1,1,0,0])).1
def Gd:aJ:=(⟨_,by cbv⟩:Nf (sc κ f4 [1,1,1,1,1,1,1,1])).1
def afV:aJ:=(⟨_,by conv=>lhs;simp only[Aj]⟩:Nf (Aj:aJ)).1
def p4:bl κ f4:=⟨(⟨_,by conv=>lhs;simp only[ai3,abV,WI,RO,MG,DN,Gd]⟩:Nf (⟨111,[.t 6],.seq (.ij [] [z 4 (.box 38 (.t 1)),z 6 (.nL (.c (.b G)))]) (.seq (ai3) (.seq (abV) (.seq (WI) (.seq (RO) (.seq (MG) (.seq (.pO [([zf 47 0 4,zl 48 47,zf 50 1 4,zl 51 50,zf 52 0 7,zl 53 52,z 54 (.len G (.t 53)),z 55 (.bin .add (.t 54) (.c (.I 1))),zf 57 2 4,zl 58 57,zf 59 0 7,zl 60 59,z 61 (.len G (.t 60)),z 62 (.bin .add (.t 61) (.c (.I 1))),zf 64 3 4,zl 65 64,zf 66 1 7,zl 67 66,z 68 (.len G (.t 67)),z 69 (.bin .add (.t 68) (.c (.I 1)))],z 49 (.call 17 [.t 48,.c (.I 13)]),[zf 50 1 4,zl 51 50,zf 52 0 7,zl 53 52,z 54 (.len G (.t 53)),zf 57 2 4,zl 58 57,zf 59 0 7,zl 60 59,z 61 (.len G (.t 60)),zf 64 3 4,zl 65 64,zf 66 1 7,zl 67 66,z 68 (.len G (.t 67))]),([zf 71 0 13],z 56 (.call 17 [.t 51,.t 55]),[zf 57 2 4,zl 58 57,zf 59 0 7,zl 60 59,z 61 (.len G (.t 60)),zf 64 3 4,zl 65 64,zf 66 1 7,zl 67 66,z 68 (.len G (.t 67)),zf 71 0 13]),([],z 63 (.call 17 [.t 58,.t 62]),[zf 64 3 4,zl 65 64,zf 66 1 7,zl 67 66,z 68 (.len G (.t 67)),zf 71 0 13]),([],z 70 (.call 17 [.t 65,.t 69]),[zf 71 0 13])] [] [] [zs (.store 1 [Z] (.t 71) (.t 49)),zf 72 1 13,zs (.store 1 [Z] (.t 72) (.t 56)),zf 73 2 13,zs (.store 1 [Z] (.t 73) (.t 63)),zf 74 3 13,zs (.store 1 [Z] (.t 74) (.t 70))]) (.seq (.seq (DN) (.block 0 (.loop afV))) (Gd))))))))⟩:nR)).1,by kernel_rfl⟩
end Go.Proofs.Tryz
namespace Go.Bt
open Go Go.Pm
def H3:nG.azU:=⟨⟨by decide,by decide,by decide,by decide,by decide,by decide,λx a=>by cases a⟩,by decide,by decide,by decide⟩
end Go.Bt
namespace Go.Proofs.Tryz
open Go Go.Pm Go.Bt Go.ChangeShapes Go.WideShapes Go.ChangeAt Go.RowKit Go.Proofs.YtfeddmfijllgmaaGreatDoor
def s7{H:Type}{d:DataW H}:∀{l:List (DataW H)},d∈l->Rows.uptoBulk d<=Rows.uptoBulkAll l
 |[],h=>by cases h
 |x::r,h=>by
  simp only[Rows.uptoBulkAll];rcases bd.1 h with rfl|h;.omega
  have:=s7 h;omega
def EC{H:Type}{d:DataW H}{l:List (DataW H)}(h:d∈l):Rows.uptoBulk d<=Rows.uptoBulk (.agg l):=by have:=s7 h;simp only[Rows.uptoBulk];omega
def nO:prog.cellsOf 3=1/\prog.cellsOf 9=1/\prog.cellsOf 34=1/\prog.cellsOf 22=1/\prog.cellsOf 70=3/\prog.cellsOf 55=3/\prog.cellsOf 36=8/\prog.cellsOf 57=13:=by refine⟨by kernel_rfl,by kernel_rfl,by kernel_rfl,by kernel_rfl,by kernel_rfl,by kernel_rfl,by kernel_rfl,by kernel_rfl⟩
def acW{d:Type}:∀{l:List d},Y l=3->∃a b c,l=[a,b,c]|[a,b,c],_=>⟨a,b,c,rfl⟩
def SF{i:Type}:∀{l:List i},Y l=8->∃a b c d e f g h,l=[a,b,c,d,e,f,g,h]|[a,b,c,d,e,f,g,h],_=>⟨a,b,c,d,e,f,g,h,rfl⟩
section
variable {H:Type} {enc:TypeId×Value->H} {W:bQ} {base:Nat} {held:Bool} (μ:Mem)
def s6(b:ByteArray):Y b.data.toList=b.size:=by simp
def rE{n:Nat}{v:Value}{x:DataW H×List MemPlace}(h:DataW.trod enc κ W base (λ_=>θ) held n 9 [v]=S x):∃s:aR,VR W [] μ (.s s) v/\Y s<=Rows.uptoBulk x.1:=by obtain⟨b,a,rfl,c⟩:=DataW.trod_string underlying9 h;simp only[fF,cK]at a;subst a;refine⟨b.data.toList,.s _ b rfl (by rw[s6];exact c),?_⟩;simp[Rows.uptoBulk]
def oc{n:Nat}{v:Value}{x:DataW H×List MemPlace}(h:DataW.trod enc κ W base (λ_=>θ) held n 3 [v]=S x):∃k:Int,v=.int .i64 k /\ -9223372036854775808<=k/\k<=9223372036854775807:=by obtain⟨k,a,rfl,b⟩:=DataW.trod_int underlying3 h;simp only[fF,cK]at a;have:=bounds_i64 b;exact⟨k,a,this.1,this.2⟩
structure ItC (cs:List Value) (y:Int×ByteArray×Int) (B:Nat):Prop where
 azR:cs=[.int .i64 y.1,.string y.2.1,.int .i64 y.2.2]
 size:y.2.1.size<=maxLen
 id : -9223372036854775808<=y.2.2/\y.2.2<=9223372036854775807
 aml:y.2.1.size+1<=B
def E9{n:Nat}{f:List Value}{x:DataW H×List MemPlace}(h:DataW.trod enc κ W base (λ_=>θ) held n 70 f=S x):∃y:Int×ByteArray×Int,ItC f y (Rows.uptoBulk x.1):=by obtain⟨y0,y1,p,m,rfl,g,d,c,a⟩:=Deep.trod_struct3 underlying70 h;rw[nO.2.2.2.2.1]at g;obtain⟨r,o,q,rfl⟩:=acW g;simp only[nO.1,nO.2.1,oL,kQ,fe,jE]at d c a;obtain⟨k,rfl,_⟩:=oc d;obtain⟨b,e,rfl,l⟩:=DataW.trod_string underlying9 c;simp only[fF,cK]at e;subst e;obtain⟨i,rfl,j⟩:=oc a;refine⟨(k,b,i),rfl,l,j,?_⟩;simp[Rows.uptoBulk,Rows.uptoBulkAll];omega
def vD(y:Int×ByteArray×Int):It:=⟨y.1,y.2.1.data.toList,y.2.2⟩
def vZ{D:Nat->DataW H}{F:Nat->Int×ByteArray×Int}:∀(l:fb),(∀i∈l,(F i).2.1.size+1<=Rows.uptoBulk (D i))->Y (l.map λi=>vD (F i))+bo (l.map λi=>vD (F i))<=Rows.uptoBulkAll (l.map D)|[],_=>by simp[bo,Rows.uptoBulkAll]|i::l,h=>by have c:=h i (by simp);have a:=vZ l λj b=>h j (by simp[b]);have e:Y (vD (F i)).azX=(F i).2.1.size:=s6 _;simp only[aI,ae,bo,Rows.uptoBulkAll,e]at a |-;omega
def zR{b o k:Nat}:(Addr.mk b o Z).add k=⟨b,o+k,Z⟩:=by
 simp only[Addr.add];split;.rename_i h;subst h;simp
 rfl
def N0{n:Nat}{t e:TypeId}{v:Value}{x:DataW H×List MemPlace}(p:prog.underlying t=S (.slice e))(j:0<prog.cellsOf e)(h:DataW.trod enc κ W base (λ_=>θ) held n t [v]=S x): (∀a len c,v=.slice (S a) len c->a.spot=Z)\/∃a,v=.slice (S a) 0 0:=by
 rcases Deep.open_slice p h with⟨d,_⟩|⟨a,len,c,m,y,D,Pl,d,_,A,w,f,_,l⟩;.simp only[fF,cK]at d;subst d;exact .inl λa len c h=>by simp at h
 simp only[fF,cK]at d;simp only[aU]at f;subst f;by_cases r:m=0
 .subst r;have:len=0:=by omega
  subst this;exact .inr ⟨a,d⟩
 refine .inl λu g i h=>?_;rw[d]at h;simp only[Value.slice.injEq,ab]at h;obtain⟨rfl,_,_⟩:=h;obtain⟨q,k,_⟩:=l 0 (by omega);obtain⟨_,z,b⟩:=World.cells?_some k;have b:=b 0 j;rw[aD (by omega)]at b;simp only[aaE,Addr.add,aU,World.cell?]at b;cases o:a.spot with|none=>rfl|some s =>rw[o]at b;split at b<;>simp at b
def vk{n:Nat}{v:Value}{x:DataW H×List MemPlace}(h:DataW.trod enc κ W base (λ_=>θ) held n 34 [v]=S x): ∃f:List It,VR W [] μ (.sl 3 (f.map It.azR)) v/\Y f+bo f<=Rows.uptoBulk x.1/\∀y∈f,-9223372036854775808<=y.id/\y.id<=9223372036854775807:=by
 rcases N0 underlying34 (by rw[nO.2.2.2.2.1];decide) h with T|⟨a,rfl⟩;case inr=>exact⟨[],.sle _ a,by simp[bo],by simp⟩
 rcases Deep.open_slice underlying34 h with⟨t,rfl⟩|⟨a,len,N,m,n',D,Pl,t,_,hl,U,L,rfl,d⟩;.simp only[fF,cK]at t;subst t;exact⟨[],.FX _,by simp[bo],by simp⟩
 simp only[fF,cK]at t;have P:=T _ _ _ t;obtain⟨b,o,s⟩:=a;simp only at P;subst P;subst t;have V:len<=m:=by rw[L];split<;>omega
 obtain⟨F,C⟩:=Deep.choose_lt (α:=Int×ByteArray×Int) (n:=len) (p:=λi y=>∃c,W.cells? base ((Addr.mk b o Z).add (i*3)) 3=S c/\ItC c y (Rows.uptoBulk (D i))) (λi e=>by obtain⟨c,q,g⟩:=d i (by omega);obtain⟨y,M⟩:=E9 g;rw[nO.2.2.2.2.1]at q;exact⟨y,c,q,M⟩);refine⟨(List.range len).map λi=>vD (F i),?_,?_,?_⟩
 .have R:∀i,i<len->W.cell? ⟨b,o+i*3,Z⟩=S (.int .i64 (F i).1)/\W.cell? ⟨b,o+i*3+1,Z⟩=S (.string (F i).2.1)/\W.cell? ⟨b,o+i*3+2,Z⟩=S (.int .i64 (F i).2.2):=by intro i e;obtain⟨c,q,g⟩:=C i e;rw[g.azR,zR]at q;obtain⟨_,_,K⟩:=World.cells?_some q;have B:=K 0 (by decide);have A:=K 1 (by decide);have E:=K 2 (by decide);simp only[zR,cu]at B A E;exact⟨B,A,E⟩
  let f:Nat->Nat->Value:=λi j=>if j=0 then .int .i64 (F i).1 else if j=1 then .string (F i).2.1 else .int .i64 (F i).2.2;have Q:∀i j x,gv (((List.range len).map λi=>vD (F i)).map It.azR) i j=S x->i<len/\((j=0/\x=.I (F i).1)\/(j=1/\x=.s (F i).2.1.data.toList)\/(j=2/\x=.I (F i).2.2)):=by
   intro i j x d;simp only[gv,HF,bR,aL]at d;obtain⟨row,⟨y,⟨k,z,rfl⟩,rfl⟩,l⟩:=d;have O:i<len:=by simpa using(ag.1 z).1
   rw[kP O]at z;simp only[ab]at z;subst z;refine⟨O,?_⟩;rcases j with _|_|_|j;.simp only[It.azR,vD,aC,ab]at l;exact .inl ⟨rfl,l.symm⟩
   .simp only[It.azR,vD,aC,bY,ab]at l;exact .inr (.inl ⟨rfl,l.symm⟩)
   .simp only[It.azR,vD,aC,bY,ab]at l;exact .inr (.inr ⟨rfl,l.symm⟩)
   simp[It.azR,vD]at l
  have u:Y (((List.range len).map λi=>vD (F i)).map It.azR)=len:=by simp
  have:=VR.sl (w:=W) (J:=[]) (μ:=μ) 3 (((List.range len).map λi=>vD (F i)).map It.azR) b o N f (by omega) U (λr X=>by
   obtain⟨y,_,rfl⟩:=cv.1 X;rfl) (λi j x d=>by
   obtain⟨e,d⟩:=Q i j x d;obtain⟨B,A,E⟩:=R i e;rcases d with⟨rfl,rfl⟩|⟨rfl,rfl⟩|⟨rfl,rfl⟩;.exact⟨B,JB,rfl⟩
   .exact⟨A,JB,rfl⟩
   exact⟨E,JB,rfl⟩) (λi j x d=>by
   obtain⟨e,d⟩:=Q i j x d;rcases d with⟨rfl,rfl⟩|⟨rfl,rfl⟩|⟨rfl,rfl⟩;.exact .i _ _
   .obtain⟨c,q,g⟩:=C i e;exact .s _ _ rfl (by rw[s6];exact g.size)
   exact .i _ _);rwa [u]at this
 .have:=vZ (D:=D) (F:=F) (List.range len) (λi e=>by obtain⟨_,_,g⟩:=C i (eU.1 e);exact g.aml);simp only[Rows.uptoBulk];omega
 intro y M;obtain⟨i,e,rfl⟩:=cv.1 M;obtain⟨_,_,g⟩:=C i (eU.1 e);exact g.id
def Reads(W:bQ)(μ:Mem)(a:aB)(b:List Value):Prop:=Y a=Y b/\∀(i:Nat) (x:V) (v:Value),a[i]?=S x->b[i]?=S v->VR W [] μ x v
def Reads.nil:Reads W μ [] []:=⟨rfl,by simp⟩
def Reads.cons{x:V}{v:Value}{d:aB}{c:List Value}(h:VR W [] μ x v)(t:Reads W μ d c):Reads W μ (x::d) (v::c):=by refine⟨by simp[t.1],λi y u b a=>?_⟩;cases i with|zero=>simp only[aC,ab]at b a;subst b;subst a;exact h|succ i=>exact t.2 i y u (by simpa using b) (by simpa using a)
def drop_take{i:Type}{a b c d e f g h:i}:([a,b,c,d,e,f,g,h].drop 0).take 1=[a]/\([a,b,c,d,e,f,g,h].drop 1).take 1=[b]/\([a,b,c,d,e,f,g,h].drop 2).take 1=[c]/\([a,b,c,d,e,f,g,h].drop 3).take 1=[d] /\([a,b,c,d,e,f,g,h].drop 4).take 1=[e]/\([a,b,c,d,e,f,g,h].drop 5).take 1=[f]/\([a,b,c,d,e,f,g,h].drop 6).take 1=[g]/\([a,b,c,d,e,f,g,h].drop 7).take 1=[h]:=⟨rfl,rfl,rfl,rfl,rfl,rfl,rfl,rfl⟩
def CK{n:Nat}{P:List Value}{x:DataW H×List MemPlace}(h:DataW.trod enc κ W base (λ_=>θ) held n 36 P=S x): ∃e:En,Reads W μ e.azR P/\(Y e.azZ+bo e.azZ<=Rows.uptoBulk x.1/\Y e.az0+bo e.az0<=Rows.uptoBulk x.1/\Y e.cM<=Rows.uptoBulk x.1/\Y e.next<=Rows.uptoBulk x.1/\Y e.eu<=Rows.uptoBulk x.1/\Y e.dC<=Rows.uptoBulk x.1) /\(∀y∈e.azZ++e.az0,-9223372036854775808<=y.id/\y.id<=9223372036854775807) /\ -9223372036854775808<=e.aAc/\e.aAc<=9223372036854775807:=by
 obtain⟨xs,m,_,rfl,hl,BC,s⟩:=DataW.trod_struct underlying36 h;rw[nO.2.2.2.2.2.2.1]at hl;obtain⟨t,j,C,v,z,A,w,D,rfl⟩:=SF hl;obtain⟨y0,y1,J,I,F,K,L,M,rfl⟩:=SF (l:=xs) (by rw[BC];rfl);have Q:DataW.trod enc κ W base (λ_=>θ) held m 34 (([t,j,C,v,z,A,w,D].drop 0).take (prog.cellsOf 34))=S y0:=s 0 _ rfl;have T:DataW.trod enc κ W base (λ_=>θ) held m 34 (([t,j,C,v,z,A,w,D].drop 1).take (prog.cellsOf 34))=S y1:=s 1 _ rfl;have V:DataW.trod enc κ W base (λ_=>θ) held m 9 (([t,j,C,v,z,A,w,D].drop 2).take (prog.cellsOf 9))=S J:=s 2 _ rfl;have R:DataW.trod enc κ W base (λ_=>θ) held m 9 (([t,j,C,v,z,A,w,D].drop 3).take (prog.cellsOf 9))=S I:=s 3 _ rfl;have U:DataW.trod enc κ W base (λ_=>θ) held m 9 (([t,j,C,v,z,A,w,D].drop 4).take (prog.cellsOf 9))=S F:=s 4 _ rfl;have X:DataW.trod enc κ W base (λ_=>θ) held m 9 (([t,j,C,v,z,A,w,D].drop 5).take (prog.cellsOf 9))=S K:=s 5 _ rfl;have N:DataW.trod enc κ W base (λ_=>θ) held m 3 (([t,j,C,v,z,A,w,D].drop 6).take (prog.cellsOf 3))=S L:=s 6 _ rfl;have O:DataW.trod enc κ W base (λ_=>θ) held m 3 (([t,j,C,v,z,A,w,D].drop 7).take (prog.cellsOf 3))=S M:=s 7 _ rfl;clear s;obtain⟨t0,t1,t2,t3,t4,t5,t6,t7⟩:=drop_take (a:=t) (b:=j) (c:=C) (d:=v) (e:=z) (f:=A) (g:=w) (h:=D);simp only[nO.1,nO.2.1,nO.2.2.1,t0,t1,t2,t3,t4,t5,t6,t7]at Q T V R U X N O;obtain⟨a,va,ba,ia⟩:=vk μ Q;obtain⟨b,vb,bb,ib⟩:=vk μ T;obtain⟨p,vp,bp⟩:=rE μ V;obtain⟨q,vq,bq⟩:=rE μ R;obtain⟨u,vu,bu⟩:=rE μ U;obtain⟨r,vr,br⟩:=rE μ X;obtain⟨k,rfl,hk⟩:=oc N;obtain⟨o,rfl,ho⟩:=oc O;have B:∀y∈[y0,y1,J,I,F,K,L,M],Rows.uptoBulk y.1<=Rows.uptoBulk (.agg ([y0,y1,J,I,F,K,L,M].map (·.1))):=λy E=>EC (cv.2 ⟨y,E,rfl⟩);refine⟨⟨a,b,p,q,u,r,k,o⟩,.cons μ va (.cons μ vb (.cons μ vp (.cons μ vq (.cons μ vu (.cons μ vr (.cons μ (.i _ _) (.cons μ (.i _ _) (.nil μ)))))))),⟨cE ba (B y0 (by simp)),cE bb (B y1 (by simp)),cE bp (B J (by simp)),cE bq (B I (by simp)),cE bu (B F (by simp)),cE br (B K (by simp))⟩,λy E=>?_,ho⟩;rcases bW.1 E with E|E;.exact ia y E
 exact ib y E
def Reads.app{c d:aB}{f g:List Value}(h:Reads W μ c f)(k:Reads W μ d g):Reads W μ (c++d) (f++g):=by
 refine⟨by simp[h.1,k.1],λi x v b a=>?_⟩;rcases jP i (Y c) with j|e;.rw[bg j]at b;rw[bg (by rw[<- h.1];exact j)]at a;exact h.2 i x v b a
 rw[bn e]at b;rw[bn (by rw[<- h.1];exact e),<- h.1]at a;exact k.2 _ x v b a
end
def aiy:prog.cellsOf 38=12:=by kernel_rfl
def aqE{f:Type}:∀{l:List f},Y l=5->∃a b c d e,l=[a,b,c,d,e]|[a,b,c,d,e],_=>⟨a,b,c,d,e,rfl⟩
def akJ{n:Type}:∀{l:List n},Y l=12->∃a b c d e f g h i j k m,l=[a,b,c,d,e,f,g,h,i,j,k,m]|[a,b,c,d,e,f,g,h,i,j,k,m],_=>⟨a,b,c,d,e,f,g,h,i,j,k,m,rfl⟩
section
variable {H:Type} {enc:TypeId×Value->H} {W:bQ} {base:Nat} {held:Bool} (μ:Mem)
def Of{n:Nat}{cs:List Value}{x:DataW H×List MemPlace}(h:DataW.trod enc κ W base (λ_=>θ) held n 36 cs=S x)(m:Rows.uptoBulk x.1<=1048576):∃e:En,Reads W μ e.azR cs/\e.azU:=by
 obtain⟨e,g,⟨o,l,p,r,k,q⟩,d,_⟩:=CK μ h;have c:Y e.azZ<2^30:=by omega
 have f:bo e.azZ<2^30:=by omega
 have a:Y e.az0<2^30:=by omega
 have j:bo e.az0<2^30:=by omega
 have i:Y e.cM<2^30:=by omega
 have b:Y e.next<2^30:=by omega
 exact⟨e,g,c,f,a,j,i,b,d⟩
def afH{n:Nat}{cs:List Value}{x:DataW H×List MemPlace}(h:DataW.trod enc κ W base (λ_=>θ) held n 38 cs=S x)(L:Rows.uptoBulk x.1<=1048576):∃e:Ev,Reads W μ e.azR cs/\e.azV.azU:=by obtain⟨K,m,_,rfl,F,M,c⟩:=DataW.trod_struct underlying38 h;rw[aiy]at F;obtain⟨s,d,r,f,o,q,j,v,p,t,g,u,rfl⟩:=akJ F;obtain⟨y0,y1,C,E,w,rfl⟩:=aqE (l:=K) (by rw[M];rfl);have y:DataW.trod enc κ W base (λ_=>θ) held m 3 (([s,d,r,f,o,q,j,v,p,t,g,u].drop 0).take (prog.cellsOf 3))=S y0:=c 0 _ rfl;have A:DataW.trod enc κ W base (λ_=>θ) held m 3 (([s,d,r,f,o,q,j,v,p,t,g,u].drop 1).take (prog.cellsOf 3))=S y1:=c 1 _ rfl;have D:DataW.trod enc κ W base (λ_=>θ) held m 3 (([s,d,r,f,o,q,j,v,p,t,g,u].drop 2).take (prog.cellsOf 3))=S C:=c 2 _ rfl;have z:DataW.trod enc κ W base (λ_=>θ) held m 3 (([s,d,r,f,o,q,j,v,p,t,g,u].drop 3).take (prog.cellsOf 3))=S E:=c 3 _ rfl;have B:DataW.trod enc κ W base (λ_=>θ) held m 36 (([s,d,r,f,o,q,j,v,p,t,g,u].drop 4).take (prog.cellsOf 36))=S w:=c 4 _ rfl;clear c;simp only[nO.1,nO.2.2.2.2.2.2.1,oL,kQ,fe,jE]at y A D z B;obtain⟨k,rfl,_⟩:=oc y;obtain⟨a,rfl,_⟩:=oc A;obtain⟨b,rfl,_⟩:=oc D;obtain⟨i,rfl,_⟩:=oc z;have I:Rows.uptoBulk w.1<=Rows.uptoBulk (.agg ([y0,y1,C,E,w].map (·.1))):=EC (cv.2 ⟨w,by simp,rfl⟩);obtain⟨e,N,J⟩:=Of μ B (cE I L);exact⟨⟨k,a,b,i,e⟩,.cons μ (.i _ _) (.cons μ (.i _ _) (.cons μ (.i _ _) (.cons μ (.i _ _) N))),J⟩
def Reads.agg{b:aB}{a:Array Value}(h:Reads W μ b a.toList):VR W [] μ (.agg b) (.agg a):=by
 refine .agg b a (by rw[h.1];simp) λi x c=>?_;have d:i<a.size:=by have:=(ag.1 c).1;rw[h.1]at this;simpa using this
 have:=h.2 i x a[i] c (by rw[kX];simp[d]);simpa[Array.getD,d]using this
end
variable{X:Nat}
set_option maxRecDepth 20000 in
def amo{H:Type}{enc:TypeId×Value->H}{W:bQ}{r:Reach}{v:Value}{d:DataW H}{p:List MemPlace}(μ:Mem)(b:Value.okWide κ W r X 38 v)(f:DataW.Trod enc κ W 0 (λ_=>θ) θ 38 v d p)(i:Rows.uptoBulk d<=1048576): ∃e:Ev,VR W [] μ (.agg e.azR) v/\e.azV.azU:=by obtain⟨a,g⟩:=f;simp only[Value.okWide,underlying38]at b;obtain⟨cs,rfl,_⟩:=b;obtain⟨e,c,h⟩:=afH μ (cs:=cs.toList) g i;exact⟨e,c.agg,h⟩
end Go.Proofs.Tryz
namespace Go.Proofs.Tryz
open Go Go.Pm Go.Bt Go.RowKit
def lF(a b:aR)(J:aj):bh κ 78 [.sl 1 (aN a),.sl 1 (aN b)] J (.b (a==b)):=by refine aW func78 W5.2 λc d=>aq ?_;simp only[W5,SS,seval];simp only[iB,VV,seval];exact bK (.inr rfl) (by simp only[RS,seval];rfl) ⟨rfl,rfl⟩
def jV(o:bO)(c:o.azU)(J:aj):bh κ 35 [.agg o.azR,.agg o.azR] J (.b θ):=by
 refine aW func35 Xm.2 λd f=>aq ?_;have g:=c.log;have e:qj o.azS o.azS=θ:=pG.2 rfl;have a:(o.down==o.down)=θ:=by cases o.down<;>rfl
 simp only[Xm,SS,seval];simp only[bO.azR,a,VV,seval];refine bV (by simp only[VV,seval]<;>rfl) (λ_=>nI o.azS o.azS _) rfl ?_;simp only[e,VV,seval];refine bV (by simp only[VV,seval]<;>rfl) (λ_=>lF o.log o.log _) rfl ?_;simp only[a,VV,seval];exact gm d (by rfl) (by simp[LW])
section
variable {J:aj} {K:bL} (n:Net)
def dN(n:Net):Ob:=.box 29 n.azR
def oB(a:bT J):bT (J++[dN n,dN n]):=cj a (by simp only[dN,Net.azR,bF,bD,cA,cW,cK,LW])
def rV(g:n.azU):∀(b a:List bO),n.an=a++b->(((fj 2 (fh (.ptr J.length 0) (fh (.ptr (Y J+1) 0) (fj 108 fo)))) λh=>K (.exit 0) ⟨h,J++[dN n,dN n]⟩)) ->gw (Y J) κ oY K (Y b+1) ⟨(uu 2 (.ptr J.length 0::.ptr (Y J+1) 0::uu 32 (.I (Y n.an)::.I (Y a)::uu 74 []))),J++[dN n,dN n]⟩:=by
 have l:=g.uE;intro b;induction b with
 |nil =>
  intro a c d;have c:n.an=a:=by simpa using c
  refine az λR f=>?_;simp only[oY,c,dt,bZ,↓IT,VV,seval];exact d ..
 |cons o b ih =>
 intro a c d;have m:Y n.an=Y a+(Y b+1):=by rw[c];simp
 have k:=dD a o (by omega);have e:(n.an.map bO.azR).getD a.length []=o.azR:=by rw[c];exact dR
 have i:(0:Int)<=(Y a:Int):=by omega
 have j:(Y a:Int)<(Y n.an:Int):=by omega
 simp only[bO.azR]at e;refine az λR f=>?_;simp only[oY,dN,Net.azR,ak,e,i,j,bt,aa,↓IT,VV,seval];refine al (jV o (g.aK o (by rw[c];simp)) _) (by simp only[bO.azR,VV,seval]) ?_;simp only[k,bb,↓IT,VV,seval];exact f _ (bX (by repeat' constructor) (ih (a++[o]) (by rw[c];simp) d))
def rU(q:bT J)(r:n.azU):∀(b a:List Let),n.ax=a++b->(((fj 2 (fh (.ptr J.length 0) (fh (.ptr (Y J+1) 0) (fj 108 fo)))) λm=>K (.exit 2) ⟨m,J++[dN n,dN n]⟩)) ->gw (Y J) κ oX K (Y b+1) ⟨(uu 2 (.ptr J.length 0::.ptr (Y J+1) 0::uu 50 (.sl 15 (n.ax.map Let.azR)::.I (Y n.ax)::.I (Y a)::uu 55 []))),J++[dN n,dN n]⟩:=by
 have t:=r.pT;intro b;induction b with
 |nil =>
  intro a d f;have d:n.ax=a:=by simpa using d
  refine az λR l=>?_;simp only[oX,d,dt,bZ,↓IT,VV,seval];exact f ..
 |cons o b ih =>
 intro a d f;have u:Y n.ax=Y a+(Y b+1):=by rw[d];simp
 have s:=dD a o (by omega);have e:(n.ax.map Let.azR).getD a.length []=mC o:=by rw[d,<- lh];exact dR
 have k:(0:Int)<=(Y a:Int):=by omega
 have j:(Y a:Int)<(Y n.ax:Int):=by omega
 have i:n.ax[Y a]?=S o:=by rw[d];simp
 have h:gv (n.ax.map Let.azR) a.length 0=S (.I o.src):=by simp[gv,i,Let.azR]
 have g:gv (n.ax.map Let.azR) a.length 1=S (.I o.dst):=by simp[gv,i,Let.azR]
 simp only[mC]at e;refine az λR l=>?_;simp only[oX,dN,Net.azR,ak,e,h,g,k,j,bt,ao,db,aa,bb,↓IT,VV,seval];refine⟨_,rfl,?_⟩;simp only[dN,Net.azR,ak,e,k,j,bt,ao,db,aa,bb,↓IT,VV,seval];refine⟨_,rfl,?_⟩;refine bV (c:=θ) (by simp only[bb,VV,seval]<;>rfl) (λ_=>oD o.op o.op _) (by simp only[gy,qA,VV,seval]) ?_;have p:Fb o.op o.op=θ:=vx.2 rfl;simp only[p,s,bb,↓IT,VV,seval];refine l _ (cn [dN n,dN n] [_] (oB n q) (by repeat' constructor) ?_ (ih (a++[o]) (by rw[d];simp) f));simp only[LW,ae,ai,aG];omega
def rT(j:n.azU):∀(b a:gh),n.cw=a++b->(((fj 2 (fh (.ptr J.length 0) (fh (.ptr (Y J+1) 0) (fj 108 fo)))) λf=>K (.exit 4) ⟨f,J++[dN n,dN n]⟩)) ->gw (Y J) κ oW K (Y b+1) ⟨(uu 2 (.ptr J.length 0::.ptr (Y J+1) 0::uu 92 (.I (Y n.cw)::.I (Y a)::uu 14 []))),J++[dN n,dN n]⟩:=by
 have l:=j.um;intro b;induction b with
 |nil =>
  intro a c d;have c:n.cw=a:=by simpa using c
  refine az λR e=>?_;simp only[oW,c,dt,bZ,↓IT,VV,seval];exact d ..
 |cons o b ih =>
 intro a c d;have m:Y n.cw=Y a+(Y b+1):=by rw[c];simp
 have k:=dD a o (by omega);have i:(n.cw.map cF).getD a.length []=[.I o.1,.I o.2]:=by rw[c];exact dR
 have g:(0:Int)<=(Y a:Int):=by omega
 have h:(Y a:Int)<(Y n.cw:Int):=by omega
 refine az λR e=>?_;simp only[oW,dN,Net.azR,ak,i,g,h,bt,ao,iF,eQ,k,aa,bb,↓IT,VV,seval];exact e _ (bX (by repeat' constructor) (ih (a++[o]) (by rw[c];simp) d))
end
set_option maxRecDepth 4000 in
def jo(n:Net)(a:n.azU)(J:aj):bh κ 20 [.agg n.azR,.agg n.azR] J (.b θ):=by refine aW func20 Xw.2 λe g=>aq ?_;have d:=λK=>rV (J:=J) (K:=K) n a n.an [] rfl;have c:=λK=>rU (J:=J) (K:=K) n e a n.ax [] rfl;have f:=λK=>rT (J:=J) (K:=K) n a n.cw [] rfl;simp only[dN,Net.azR]at d c f;simp only[Xw,SS,seval];simp only[Net.azR,db,aa,bb,↓IT,VV,seval];refine cB.wk (Wk.fw (by repeat' constructor)) (cB.kT (Y n.an+1) (d _ ?_));simp only[JE];intros;simp only[aa,↓IT,VV,seval];refine cB.wk (Wk.fw (by repeat' constructor)) (cB.kT (Y n.ax+1) (c _ ?_));simp only[JE];intros;simp only[aa,↓IT,VV,seval];refine cB.wk (Wk.fw (by repeat' constructor)) (cB.kT (Y n.cw+1) (f _ ?_));simp only[JE];intros;simp only[↓IT,VV,seval];exact gm e (by rfl) (by simp[LW])
end Go.Proofs.Tryz
namespace Go.Proofs.Tryz
open Go Go.Pm Go.Bt
variable(U:aj)(T:Ob)(X:Int)
def U5{J:aj}{K:bL}(m:bT J)(f:List It)(g:Y f<2^32)(q:bo f<2^32):∀(a b:List It) (n:Nat),f=b++a->n+bo a<2^40 ->(((fj 3 (fh (.I (n+bo a:Nat)) (fj 37 fo))) λj=>K (.exit 0) ⟨j,J⟩)) ->gw (Y J) κ Ar K (Y a+1) ⟨(uu 3 (.I n::uu 23 (.sl 3 (f.map It.azR)::.I (Y f)::.I (Y b)::uu 11 []))),J⟩:=by
 intro a;induction a with
 |nil =>intro b n c e d;have c:=dL c;subst c;refine az λR i=>?_;simp only[Ar,VV,seval];simp only[bo,cu]at d;exact⟨λh=>by simp at h,λ_=>d ..⟩
 |cons x a ih =>
 intro b n c e d;have r:=gY c;have o:=dD b x (by omega);have l:(List.map It.azR f).getD b.length []=x.azR:=by rw[c];exact dR
 have p:decide ((Y b:Int)<(Y f:Int))=θ:=by simp;omega
 simp only[bo]at e d;have k:IntKind.i64.wrap ((n:Int)+(Y x.azX:Int))=((n+Y x.azX:Nat):Int):=by rw[IntWalk.i64_in _ (by omega)];omega
 refine az λR i=>?_;simp only[Ar,ak,l,p,o,k,It.azR,aa,V.pure,VV,seval];refine⟨⟨by omega,by omega⟩,?_⟩;refine i _ (vj (aM _) m ?_ ?_ (ih (b++[x]) (n+Y x.azX) (by rw[c];simp) (by omega) (by rw[bP];exact d)));.repeat' constructor
 simp only[LW]
def o9(a b:List It):bo (a++b)=bo a+bo b:=by induction a with|nil=>simp[bo]|cons x r ih=>simp only[aF,bo,ih];omega
def CH(e:En)(d:e.azU)(J:aj):bh κ 12 [.agg e.azR] J (.b (decide (oV e<300))):=by
 refine aW func12 p12.2 λm z=>?_;simp only[p12,SS,seval];have n:=d.azZ;have l:=d.az0;have B:=d.lC;have D:=d.td;have C:=d.cM;have F:=d.next;have o:IntKind.i64.wrap ((Y e.azZ:Int)+Y e.az0)=((Y e.azZ+Y e.az0:Nat):Int):=by rw[IntWalk.i64_in _ (by omega)];omega
 have y:IntKind.i64.wrap (((Y e.azZ+Y e.az0:Nat):Int)+Y e.cM)=((Y e.azZ+Y e.az0+Y e.cM:Nat):Int):=by rw[IntWalk.i64_in _ (by omega)];omega
 have x:IntKind.i64.wrap (((Y e.azZ+Y e.az0+Y e.cM:Nat):Int)+Y e.next)=((Y e.azZ+Y e.az0+Y e.cM+Y e.next:Nat):Int):=by rw[IntWalk.i64_in _ (by omega)];omega
 refine cB.cut λR i=>?_;simp only[En.azR,VV,seval];refine i _ ?_;clear i R;refine cB.cut λR i=>?_;simp only[aa,o,y,x,V.pure,VV,seval];refine i _ (cB.fw (fr':=(uu 1 (.ptr J.length 0::uu 1 (.I (Y e.azZ+Y e.az0+Y e.cM+Y e.next:Nat)::uu 37 [])))) ?_ (by repeat' constructor));clear i R;generalize A:Y e.azZ+Y e.az0+Y e.cM+Y e.next=n0 at *;have p:n0+bo (e.azZ++e.az0)=oV e:=by rw[o9,oV];omega
 have v:decide (((oV e:Nat):Int)<300)=decide (oV e<300):=by rw[aeX];omega
 clear d;refine cB.cut λR i=>?_;have c:∀(f:List It) {k:aB} {s:aj},f=e.azZ++e.az0->(∃loc,Wk κ J.length k s (uu 3 (.I n0::uu 23 (.sl 3 (f.map It.azR)::.I (Y f)::.I (Y ([]:List It):Nat)::uu 11 []))) (J++loc)) ->
   cB (Y J) κ (.loop Ar) (HA 0 (Hd R (zy κ J.length [.t 2] λr w=>r=.b (decide (oV e<300))/\w=J))) ⟨k,s⟩:=by rintro f k s rfl ⟨loc,q⟩;refine cB.wk (q.trans (Wk.lS (J:=J) (loc:=loc) (aM _) m (ed.1 (by simp[LW])))) (cB.kT (_+1) (U5 m (e.azZ++e.az0) (by simp;omega) (by rw[o9];omega) (e.azZ++e.az0) [] n0 rfl (by rw[o9];omega) ?_));rw[p];simp only[JE];intros;simp only[VV,seval];refine i _ (aq ?_);simp only[v,VV,seval];exact bK (.inr rfl) (by simp only[RS,seval];rfl) ⟨rfl,rfl⟩
 cases h:e.azZ with
 |nil =>
  cases j:e.az0 with
  |nil =>simp only[h,j,ar,iZ,ai,maxLen,V.pure,VV,seval];refine c [] (by simp[h,j]) ⟨_,Wk.fw ?_⟩;simp only[ar,ai];repeat' constructor
  |cons b t =>rw[j]at l;simp only[ae]at l;simp only[h,j,ar,iZ,aI,gq,aP,ae,aa,maxLen,V.pure,VV,seval];refine⟨⟨by omega,by omega⟩,c (b::t) (by simp[h,j]) ⟨_,(Wk.px 1 (E:=70) (sz:=3) (by':=32) (g:=0) (sh:=G) (rows:=b.azR::t.map It.azR) rfl).trans (Wk.fw ?_)⟩⟩;simp only[aI,ar,ae,ai,fz,kE,cG,aU];repeat' constructor
 |cons a s =>
 rw[h]at n;simp only[ae]at n;simp only[h,aI,gq,aP,ae,aa,maxLen,V.pure,VV,seval];have u:Y (s.map It.azR++e.az0.map It.azR)+1=Y (a::(s++e.az0)):=by simp
 rw[u,<- List.map_append];refine⟨⟨by omega,by omega⟩,⟨by omega,by omega⟩,c (a::(s++e.az0)) (by simp[h]) ⟨_,(Wk.px 1 (E:=70) (sz:=3) (by':=32) (g:=1) (sh:=G) (rows:=a.azR::(s++e.az0).map It.azR) rfl).trans (Wk.fw ?_)⟩⟩;simp only[aI,ar,fz,kE,cG,aU];repeat' constructor
def Rz(h:X<1\/8<X)(J:aj):bh κ 16 [.I X] J (gf Net.zero 1):=by
 refine aW func16 p16.2 λa c=>aq ?_;simp only[p16,SS,seval];rcases h with h|h;.simp only[h,bt,bb,↓IT,VV,seval];exact nh rfl a (by simp only[RS,seval]) ⟨rfl,rfl⟩
 have b:¬X<1:=by omega
 simp only[h,b,bt,bZ,bb,↓IT,VV,seval];exact nh rfl a (by simp only[RS,seval]) ⟨rfl,rfl⟩
def UX(h:X<1\/8<X)(J:aj):bh κ 15 [.I X] J (gf Net.zero 1):=by
 refine aW func15 p15.2 λa c=>aq ?_;simp only[p15,SS,seval];rcases h with h|h;.simp only[h,bt,bb,↓IT,VV,seval];exact nh rfl a (by simp only[RS,seval]) ⟨rfl,rfl⟩
 have b:¬X<1:=by omega
 simp only[h,b,bt,bZ,bb,↓IT,VV,seval];exact nh rfl a (by simp only[RS,seval]) ⟨rfl,rfl⟩
def rv(a:Nat)(e:a<Y U)(l:bU)(k:Nat)(j:k<2^40)(N:Nat)(f:N<=24): PC κ 13 [.ptr a 0,.I N] (mb U a l k) (λr i=>∃(n:Net) (b:List Ev) (c:Nat),r=.jg [.agg n.azR,.sl 12 (b.map Ev.azR)]/\qL N n b/\c<=k+8000/\i=mb U a l c) :=(sJ U a e l k j N f).mono λ_ _ ⟨n,b,c,h,m,d,g,_⟩=>⟨n,b,c,h,m,d,g⟩
def ux(a:aj)(l:bU)(k:Nat)(f:k<2^40)(N:Nat)(d:N<=24):
  PC κ 13 [.ptr (Y U+1) 0,.I N] (U++(T::.box 84 [.sl 1 (l.map cN),.I k]::a)) (λr e=>∃(n:Net) (b:List Ev) (c:Nat),r=.jg [.agg n.azR,.sl 12 (b.map Ev.azR)]/\qL N n b/\c<=k+8000/\e=U++(T::.box 84 [.sl 1 (l.map cN),.I c]::a)):=by have:=rv (U++(T::.dead::a)) (Y U+1) (by simp) l k f N d;simpa[mb]using this
def H3:Net.zero.azU:=⟨by simp[Net.zero],by simp[Net.zero],by simp[Net.zero],by simp[Net.zero],by simp[Net.zero]⟩
set_option maxRecDepth 4000 in
def aqC{J:aj}{K:bL}(k j l i:Ob)(n:Net){m:Int}{W:List aV}{N:Nat}(z:GN m W N n)(L:N<100)(A:bT (J++[T,k,eI n,j,l,i]))(h:Int)(f:List Ev)(H:Y f<=30)(y:∀e∈f,aaB e):∀(b a:List Ev),f=a++b ->(((fj 10 (fh (.I h) (fj 1 (fh (.I h) (fj 98 fo))))) λw=>K (.exit 0) ⟨w,J++[T,k,eI n,j,l,i]⟩)) ->gw (Y J) κ afV K (Y b+1) ⟨(uu 7 (.ptr (Y J+2) 0::uu 2 (.I h::uu 1 (.I h::uu 64 (.sl 12 (f.map Ev.azR)::.I (Y f)::.I (Y a)::uu 31 []))))),J++[T,k,eI n,j,l,i]⟩:=by
 intro b;induction b with
 |nil =>
  intro a d o;have d:f=a:=by simpa using d
  refine az λR v=>?_;simp only[afV,d,dt,bZ,↓IT,VV,seval];exact o ..
 |cons e b ih =>
 intro a d o;have O:=gY d;have B:=dD a e (by omega);have t:(f.map Ev.azR).getD a.length []=e.azR:=by rw[d,dR]
 have E:(0:Int)<=(Y a:Int):=by omega
 have x:(Y a:Int)<(Y f:Int):=by omega
 obtain⟨u,g,M,⟨s,q⟩,F⟩:=yS z L e (y e (by rw[d];simp));obtain⟨n2,C,D⟩:∃n2:Net,gf u g=.jg [.agg n2.azR,.I g]/\n2.azU:=by
  by_cases p:g=0;.exact⟨u,by rw[gf,aQ p],(F p).1.azU (by omega)⟩
  exact⟨Net.zero,by rw[gf,aw p],H3⟩
 have r:=jo n2 D;rw[C]at s q;simp only[Ev.azR,En.azR]at t;simp only[Net.azR]at r;refine az λR v=>?_;simp only[afV,eI,Net.azR,t,E,x,bt,aa,ak,bb,↓IT,VV,seval];refine al (s _) (by simp only[Net.azR,Ev.azR,En.azR,VV,seval]) ?_;simp only[Net.azR,bP,Nat.reduceAdd,↓IT,VV,seval];refine al (q _) (by simp only[Net.azR,Ev.azR,En.azR,VV,seval]) ?_;simp only[Net.azR,db,bP,Nat.reduceAdd,bb,↓IT,VV,seval];refine bV (c:=θ) (by simp only[bb,VV,seval]<;>rfl) (λ_=>r _) rfl ?_;simp only[B,bb,↓IT,VV,seval];refine v _ (cn [T,k,eI n,j,l,i] [_,_,_] A (by repeat' constructor) ?_ (ih (a++[e]) (by rw[d];simp) o));simp only[LW,ae,ai,aG];omega
set_option maxRecDepth 4000 in
def Fi(d:Ev)(g:d.azV.azU)(l:bU)(k:Int)(J:aj):bh κ 4 [.sl 1 (l.map cN),.agg d.azR,.I k] J (.b θ):=by
 refine aW func4 p4.2 λr E=>aq ?_;have u:=CH d.azV g;simp only[p4,SS,seval];simp only[Ev.azR,En.azR,V.pure,↓IT,VV,seval]at u |-;refine iN (zs:=[.sl 1 ([l].map Cp)]) (.cons (.lit _ _) .nil) (yE [l] _) ?_;simp only[bb,↓IT,VV,seval];refine bV (by simp only[bb,VV,seval]<;>rfl) (λ_=>u _) rfl ?_;simp only[bb,↓IT,VV,seval];refine⟨λ_=>?_,λh=>?_⟩;.refine al (ki _) rfl ?_;simp only[↓IT,VV,seval];exact gm r (by rfl) (by simp[LW])
 simp only[kn,eP,bE]at h;refine al (yN l _) rfl ?_;simp only[ah,ae,ai,↓IT,VV,seval];refine dZ (ux J _ [] l 0 (by decide) 12 (by decide)) rfl ?_;rintro _ _ ⟨n,M,z,rfl,⟨⟨m,W,o,H,F⟩,x⟩,D,rfl⟩;have N:=o.len;have C:=o.m8;have L:=o.pT;obtain⟨i,p,y,A⟩:∃(i:Net) (p:Int),(∀J,bh κ 15 [.I k] J (.jg [.agg i.azR,.I p]))/\(∀J,bh κ 16 [.I k] J (.jg [.agg i.azR,.I p])):=by
  by_cases t:k<1\/8<k;.exact⟨Net.zero,1,UX k t,Rz k t⟩
  obtain⟨q,rfl⟩:∃q:Nat,k=q:=⟨k.toNat,by omega⟩;exact⟨_,_,sW q (by omega) (by omega),sR q (by omega) (by omega)⟩
 have f:IntKind.i64.wrap ((Y n.an:Int)+1)=((Y n.an+1:Nat):Int):=da (by omega);have j:IntKind.i64.wrap ((Y n.ax:Int)+1)=((Y n.ax+1:Nat):Int):=da (by omega);simp only[Net.azR,aa,↓IT,VV,seval];refine al (y _) rfl ?_;simp only[Net.azR,aa,↓IT,VV,seval];refine al (A _) rfl ?_;simp only[Net.azR,aa,f,j,bP,Nat.reduceAdd,↓IT,VV,seval];refine al (tN d.azT 13 (by decide) (by decide) _) rfl ?_;simp only[Net.azR,aa,f,j,bP,Nat.reduceAdd,bb,↓IT,VV,seval];refine al (tN d.a (Y n.an+1:Nat) (by omega) (by omega) _) rfl ?_;simp only[Net.azR,aa,f,j,bP,Nat.reduceAdd,bb,↓IT,VV,seval];refine al (tN d.b (Y n.an+1:Nat) (by omega) (by omega) _) rfl ?_;simp only[Net.azR,aa,f,j,bP,Nat.reduceAdd,bb,↓IT,VV,seval];refine al (tN d.n (Y n.ax+1:Nat) (by omega) (by omega) _) rfl ?_;simp only[Net.azR,aa,f,j,bP,Nat.reduceAdd,bb,↓IT,VV,seval];have s:=h.2;have B:bT (J++[.box 38 d.azR,.box 84 [.sl 1 (l.map cN),.I z],eI n,eI i,eI i,.box 38 (Ev.azR ⟨place d.azT 13,place d.a (Y n.an+1:Nat),place d.b (Y n.an+1:Nat),place d.n (Y n.ax+1:Nat),d.azV⟩)]) :=
  cj r (by simp only[eI,Net.azR,Ev.azR,En.azR,bF,bD,cA,cW,cK,LW]);have w:=λK=>aqC (J:=J) (K:=K) _ _ _ _ _ n o (by omega) B p [d,⟨place d.azT 13,place d.a (Y n.an+1:Nat),place d.b (Y n.an+1:Nat),place d.n (Y n.ax+1:Nat),d.azV⟩] (by simp) (by intro e v;simp only[bd,bD,mZ]at v;rcases v with rfl|rfl<;>exact⟨g,s⟩) _ [] rfl;simp only[eI,Net.azR,Ev.azR,En.azR,aI,ar,ae,ai]at w;refine cB.wk (Wk.fw (by repeat' constructor)) (cB.kT 3 (w _ ?_));simp only[JE];intros;simp only[ao,bb,↓IT,VV,seval];refine bV (c:=θ) (by simp only[bb,VV,seval]<;>rfl) (λ_=>ki _) rfl ?_;simp only[bb,↓IT,VV,seval];exact gm r (by rfl) (by simp[LW])
end Go.Proofs.Tryz

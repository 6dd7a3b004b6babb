/- A part of a proof; the claim's last text says of what. -/
import Derived.Test.YtlakkaamfadipaaGreatDoorA1
import Derived.Test.YtlakkaamfadipaaGreatDoorB30
set_option linter.all false
set_option maxHeartbeats 4000000

namespace Go.Proofs.Tryz
open Go Go.Pm Go.Bt Go.ChangeShapes Go.WideShapes Go.ChangeAt Go.RowKit Go.Proofs.YtlakkaamfadipaaGreatDoor
def BP{H:Type}{d:DataW H}:∀{l:List (DataW H)},d∈l->Rows.uptoBulk d<=Rows.uptoBulkAll l
 |[],h=>by cases h
 |x::r,h=>by
  simp only[Rows.uptoBulkAll];rcases bC.1 h with rfl|h
  .omega
  .have:=BP h;omega
def acf{H:Type}{d:DataW H}{l:List (DataW H)}(h:d∈l):Rows.uptoBulk d<=Rows.uptoBulk (.agg l):=by
 have:=BP h;simp only[Rows.uptoBulk];omega
def zM:prog.cellsOf 3=1/\prog.cellsOf 9=1/\prog.cellsOf 22=1/\prog.cellsOf 25=1/\prog.cellsOf 61=3/\prog.cellsOf 24=6/\prog.cellsOf 37=8:=by
 refine⟨by kernel_rfl,by kernel_rfl,by kernel_rfl,by kernel_rfl,by kernel_rfl,by kernel_rfl,by kernel_rfl⟩
def amF{α:Type}:∀{l:List α},l.length=3->∃a b c,l=[a,b,c]
 |[a,b,c],_=>⟨a,b,c,rfl⟩
def age{α:Type}:∀{l:List α},l.length=8->∃a b c d e f g h,l=[a,b,c,d,e,f,g,h]
 |[a,b,c,d,e,f,g,h],_=>⟨a,b,c,d,e,f,g,h,rfl⟩
section
variable {H:Type} {enc:TypeId×Value->H} {W:bD} {base:Nat} {held:Bool} (μ:Mem)
def Gl(b:ByteArray):b.data.toList.length=b.size:=by simp
def DG{n:Nat}{v:Value}{x:DataW H×List MemPlace}(h:DataW.trod enc prog W base (λ_=>true) held n 9 [v]=some x):∃s:aG,VR W [] μ (.s s) v/\s.length<=Rows.uptoBulk x.1:=by
 obtain⟨b,a,rfl,c⟩:=DataW.trod_string underlying9 h;simp only[jU,kP]at a;subst a;refine⟨b.data.toList,.s _ b rfl (by rw[Gl];exact c),?_⟩;simp[Rows.uptoBulk]
def DH{n:Nat}{v:Value}{x:DataW H×List MemPlace}(h:DataW.trod enc prog W base (λ_=>true) held n 3 [v]=some x):∃k:Int,v=.int .i64 k /\ -9223372036854775808<=k/\k<=9223372036854775807:=by
 obtain⟨k,a,rfl,b⟩:=DataW.trod_int underlying3 h;simp only[jU,kP]at a;have:=bounds_i64 b;exact⟨k,a,this.1,this.2⟩
def WV{n:Nat}{cs:List Value}{x:DataW H×List MemPlace}(h:DataW.trod enc prog W base (λ_=>true) held n 61 cs=some x):∃y:Int×ByteArray×Int,ItC cs y (Rows.uptoBulk x.1):=by
 obtain⟨q,l,s,m,rfl,e,c,d,a⟩:=Deep.trod_struct3 underlying61 h;rw[zM.2.2.2.2.1]at e;obtain⟨r,o,p,rfl⟩:=amF e;simp only[zM.1,zM.2.1,mD,iJ,dt,mA]at c d a;obtain⟨k,rfl,_⟩:=DH c;obtain⟨b,f,rfl,g⟩:=DataW.trod_string underlying9 d;simp only[jU,kP]at f;subst f;obtain⟨i,rfl,j⟩:=DH a;refine⟨(k,b,i),rfl,g,j,?_⟩;simp[Rows.uptoBulk,Rows.uptoBulkAll];omega
def Jk(y:Int×ByteArray×Int):It:=⟨y.1,y.2.1.data.toList,y.2.2⟩
def KE{D:Nat->DataW H}{F:Nat->Int×ByteArray×Int}:∀(l:dK),(∀i∈l,(F i).2.1.size+1<=Rows.uptoBulk (D i))->(l.map λi=>Jk (F i)).length+bd (l.map λi=>Jk (F i))<=Rows.uptoBulkAll (l.map D)
 |[],_=>by simp[bd,Rows.uptoBulkAll]
 |i::l,h=>by
  have c:=h i (by simp);have b:=KE l λj a=>h j (by simp[a]);have e:(Jk (F i)).awd.length=(F i).2.1.size:=Gl _;simp only[aH,ai,bd,Rows.uptoBulkAll,e]at b |-;omega
def PX{b o k:Nat}:(Addr.mk b o none).add k=⟨b,o+k,none⟩:=by
 simp only[Addr.add];split
 .rename_i h;subst h;simp
 .rfl
def ac9{n:Nat}{t e:TypeId}{v:Value}{x:DataW H×List MemPlace}(k:prog.underlying t=some (.slice e))(l:0<prog.cellsOf e)(h:DataW.trod enc prog W base (λ_=>true) held n t [v]=some x):
  (∀a len b,v=.slice (some a) len b->a.spot=none)\/∃a,v=.slice (some a) 0 0:=by
 rcases Deep.open_slice k h with⟨d,_⟩|⟨a,len,b,m,u,D,B,d,_,z,A,f,_,r⟩
 .simp only[jU,kP]at d;subst d;exact .inl λa len b h=>by simp at h
 .simp only[jU,kP]at d;simp only[aT]at f;subst f
  by_cases o:m=0
  .subst o;have:len=0:=by omega
   subst this;exact .inr ⟨a,d⟩
  .refine .inl λw i g h=>?_;rw[d]at h;simp only[Value.slice.injEq,ae]at h;obtain⟨rfl,_,_⟩:=h;obtain⟨p,j,_⟩:=r 0 (by omega);obtain⟨_,y,c⟩:=World.cells?_some j;have c:=c 0 l;rw[ax (by omega)]at c;simp only[YC,Addr.add,aT,World.cell?]at c;cases q:a.spot with
   |none=>rfl
   |some s =>
    rw[q]at c;split at c<;>simp at c
def CM{n:Nat}{v:Value}{x:DataW H×List MemPlace}(h:DataW.trod enc prog W base (λ_=>true) held n 22 [v]=some x):
  ∃f:List It,VR W [] μ (.sl 3 (f.map It.awa)) v/\f.length+bd f<=Rows.uptoBulk x.1/\∀y∈f,-9223372036854775808<=y.id/\y.id<=9223372036854775807:=by
 rcases ac9 underlying22 (by rw[zM.2.2.2.2.1];decide) h with R|⟨a,rfl⟩
 case inr=>exact⟨[],.sle _ a,by simp[bd],by simp⟩
 rcases Deep.open_slice underlying22 h with⟨q,rfl⟩|⟨a,len,K,m,V,D,Y,q,_,X,S,G,rfl,d⟩
 .simp only[jU,kP]at q;subst q;exact⟨[],.K4 _,by simp[bd],by simp⟩
 .simp only[jU,kP]at q;have P:=R _ _ _ q;obtain⟨b,o,s⟩:=a;simp only at P;subst P;subst q;have U:len<=m:=by rw[G];split<;>omega
  obtain⟨F,A⟩:=Deep.choose_lt (α:=Int×ByteArray×Int) (n:=len) (p:=λi y=>∃c,W.cells? base ((Addr.mk b o none).add (i*3)) 3=some c/\ItC c y (Rows.uptoBulk (D i))) (λi e=>by
   obtain⟨c,t,g⟩:=d i (by omega);obtain⟨y,L⟩:=WV g;rw[zM.2.2.2.2.1]at t;exact⟨y,c,t,L⟩)
  refine⟨(List.range len).map λi=>Jk (F i),?_,?_,?_⟩
  .have T:∀i,i<len->W.cell? ⟨b,o+i*3,none⟩=some (.int .i64 (F i).1)/\W.cell? ⟨b,o+i*3+1,none⟩=some (.string (F i).2.1)/\W.cell? ⟨b,o+i*3+2,none⟩=some (.int .i64 (F i).2.2):=by
    intro i e;obtain⟨c,t,g⟩:=A i e;rw[g.awa,PX]at t;obtain⟨_,_,M⟩:=World.cells?_some t;have B:=M 0 (by decide);have C:=M 1 (by decide);have E:=M 2 (by decide);simp only[PX,de]at B C E;exact⟨B,C,E⟩
   let f:Nat->Nat->Value:=λi j=>if j=0 then .int .i64 (F i).1 else if j=1 then .string (F i).2.1 else .int .i64 (F i).2.2
   have N:∀i j x,gj (((List.range len).map λi=>Jk (F i)).map It.awa) i j=some x->i<len/\((j=0/\x=.I (F i).1)\/(j=1/\x=.s (F i).2.1.data.toList)\/(j=2/\x=.I (F i).2.2)):=by
    intro i j x d;simp only[gj,HH,ck,aF]at d;obtain⟨row,⟨y,⟨k,z,rfl⟩,rfl⟩,l⟩:=d;have O:i<len:=by simpa using(ah.1 z).1
    rw[np O]at z;simp only[ae]at z;subst z;refine⟨O,?_⟩;rcases j with _|_|_|j
    .simp only[It.awa,Jk,aM,ae]at l;exact .inl ⟨rfl,l.symm⟩
    .simp only[It.awa,Jk,aM,bX,ae]at l;exact .inr (.inl ⟨rfl,l.symm⟩)
    .simp only[It.awa,Jk,aM,bX,ae]at l;exact .inr (.inr ⟨rfl,l.symm⟩)
    .simp[It.awa,Jk]at l
   have u:(((List.range len).map λi=>Jk (F i)).map It.awa).length=len:=by simp
   have:=VR.sl (w:=W) (J:=[]) (μ:=μ) 3 (((List.range len).map λi=>Jk (F i)).map It.awa) b o K f (by omega) S (λr Q=>by
    obtain⟨y,_,rfl⟩:=bF.1 Q;rfl) (λi j x d=>by
    obtain⟨e,d⟩:=N i j x d;obtain⟨B,C,E⟩:=T i e;rcases d with⟨rfl,rfl⟩|⟨rfl,rfl⟩|⟨rfl,rfl⟩
    .exact⟨B,Vw,rfl⟩
    .exact⟨C,Vw,rfl⟩
    .exact⟨E,Vw,rfl⟩) (λi j x d=>by
    obtain⟨e,d⟩:=N i j x d;rcases d with⟨rfl,rfl⟩|⟨rfl,rfl⟩|⟨rfl,rfl⟩
    .exact .i _ _
    .obtain⟨c,t,g⟩:=A i e;exact .s _ _ rfl (by rw[Gl];exact g.size)
    .exact .i _ _)
   rwa [u]at this
  .have:=KE (D:=D) (F:=F) (List.range len) (λi e=>by
    obtain⟨_,_,g⟩:=A i (eC.1 e);exact g.arx)
   simp only[Rows.uptoBulk];omega
  .intro y L;obtain⟨i,e,rfl⟩:=bF.1 L;obtain⟨_,_,g⟩:=A i (eC.1 e);exact g.id
def S9{n:Nat}{cs:List Value}{x:DataW H×List MemPlace}(h:DataW.trod enc prog W base (λ_=>true) held n 37 cs=some x):
  ∃e:En,Reads W μ e.awa cs/\(e.awc.length+bd e.awc<=Rows.uptoBulk x.1/\e.awf.length+bd e.awf<=Rows.uptoBulk x.1/\e.bU.length<=Rows.uptoBulk x.1/\e.next.length<=Rows.uptoBulk x.1/\e.c8.length<=Rows.uptoBulk x.1/\e.cA.length<=Rows.uptoBulk x.1) /\
   (∀y∈e.awc++e.awf,-9223372036854775808<=y.id/\y.id<=9223372036854775807)/\(-9223372036854775808<=e.awq/\e.awq<=9223372036854775807) /\ -9223372036854775808<=e.awh/\e.awh<=9223372036854775807:=by
 obtain⟨xs,m,_,rfl,P,xc,z⟩:=DataW.trod_struct underlying37 h;rw[zM.2.2.2.2.2.2]at P;obtain⟨t,w,j,A,s,C,c6,v,rfl⟩:=age P;obtain⟨F,G,K,E,J,I,M,L,rfl⟩:=age (l:=xs) (by rw[xc];rfl);have T:DataW.trod enc prog W base (λ_=>true) held m 22 (([t,w,j,A,s,C,c6,v].drop 0).take (prog.cellsOf 22))=some F:=z 0 _ rfl;have O:DataW.trod enc prog W base (λ_=>true) held m 22 (([t,w,j,A,s,C,c6,v].drop 1).take (prog.cellsOf 22))=some G:=z 1 _ rfl;have R:DataW.trod enc prog W base (λ_=>true) held m 9 (([t,w,j,A,s,C,c6,v].drop 2).take (prog.cellsOf 9))=some K:=z 2 _ rfl;have V:DataW.trod enc prog W base (λ_=>true) held m 9 (([t,w,j,A,s,C,c6,v].drop 3).take (prog.cellsOf 9))=some E:=z 3 _ rfl;have S:DataW.trod enc prog W base (λ_=>true) held m 9 (([t,w,j,A,s,C,c6,v].drop 4).take (prog.cellsOf 9))=some J:=z 4 _ rfl;have Q:DataW.trod enc prog W base (λ_=>true) held m 9 (([t,w,j,A,s,C,c6,v].drop 5).take (prog.cellsOf 9))=some I:=z 5 _ rfl;have U:DataW.trod enc prog W base (λ_=>true) held m 3 (([t,w,j,A,s,C,c6,v].drop 6).take (prog.cellsOf 3))=some M:=z 6 _ rfl;have N:DataW.trod enc prog W base (λ_=>true) held m 3 (([t,w,j,A,s,C,c6,v].drop 7).take (prog.cellsOf 3))=some L:=z 7 _ rfl;clear z;obtain⟨t0,t1,t2,t3,Y,t5,t6,Z⟩:=drop_take (a:=t) (b:=w) (c:=j) (d:=A) (e:=s) (f:=C) (g:=c6) (h:=v);simp only[zM.1,zM.2.1,zM.2.2.1,t0,t1,t2,t3,Y,t5,t6,Z]at T O R V S Q U N;obtain⟨a,va,ba,ia⟩:=CM μ T;obtain⟨b,vb,bb,ib⟩:=CM μ O;obtain⟨p,vp,bp⟩:=DG μ R;obtain⟨q,vq,bq⟩:=DG μ V;obtain⟨u,X,bu⟩:=DG μ S;obtain⟨r,vr,br⟩:=DG μ Q;obtain⟨k,rfl,hk⟩:=DH U;obtain⟨o,rfl,ho⟩:=DH N;have B:∀y∈[F,G,K,E,J,I,M,L],Rows.uptoBulk y.1<=Rows.uptoBulk (.agg ([F,G,K,E,J,I,M,L].map (·.1))):=λy D=>acf (bF.2 ⟨y,D,rfl⟩);refine⟨⟨a,b,p,q,u,r,k,o⟩,.cons μ va (.cons μ vb (.cons μ vp (.cons μ vq (.cons μ X (.cons μ vr (.cons μ (.i _ _) (.cons μ (.i _ _) (.nil μ)))))))),⟨cu ba (B F (by simp)),cu bb (B G (by simp)),cu bp (B K (by simp)),cu bq (B E (by simp)),cu bu (B J (by simp)),cu br (B I (by simp))⟩,λy D=>?_,ho,hk⟩;rcases bP.1 D with D|D
 .exact ia y D
 .exact ib y D
end
set_option maxRecDepth 20000 in
def afF{H:Type}{enc:TypeId×Value->H}{W:bD}{r:Reach}{base:Nat}{v:Value}{d:DataW H}{p:List MemPlace}(μ:Mem)(m:Value.okWide prog W r base 37 v)(n:DataW.Trod enc prog W 0 (λ_=>true) true 37 v d p)(b:Rows.uptoBulk d<=1048576):
  ∃e:En,VR W [] μ (.agg e.awa) v/\acq e:=by
 obtain⟨l,j⟩:=n;simp only[Value.okWide,underlying37]at m;obtain⟨c,rfl,_⟩:=m;have h:(Value.agg c).cells.toList=c.toList:=rfl;rw[h]at j;obtain⟨o,g,a,f,_,q⟩:=S9 μ j;refine⟨o,.agg o.awa c (by rw[g.1];simp) λi x k=>?_,⟨cu a.1 b,cu a.2.1 b,cu a.2.2.1 b,cu a.2.2.2.1 b,cu a.2.2.2.2.1 b,cu a.2.2.2.2.2 b,f,q⟩⟩
 have f:i<c.size:=by
  have:=(ah.1 k).1;rw[g.1]at this;simpa using this
 have:=g.2 i x c[i] k (by rw[l6];simp[f]);simpa[Array.getD,f]using this
end Go.Proofs.Tryz
set_option maxHeartbeats 4000000
namespace Go.Proofs.Tryz
open Go Go.Pm Go.Bt
def OX(l:bH)(i:Nat)(hi:i<l.length)(c:l.length<2^30)(b g:Nat)(J:ak)(a:J[b]?=some (jL g l)):PC prog 144 [.own b g,.I i,.I ((i:Int)+1)] J (λr J'=>r=.own b (g+1)/\J'=J.set b (jL (g+1) (l.take i++l.drop (i+1)))):=by
 have:=PC.yF Tryz.ai2 (k:=1) (by':=8) (g:=g) (i:=i) (rows:=l.map bV) (by kernel_rfl) (by simpa using hi) (by simpa using c) a;rw[<- List.map_take,<- List.map_drop,<- List.map_append]at this;exact this
def Jt{J:ak}{K:bl}(w:cn J)(a:List It)(xs:bH)(r p:Int)(b:List It)(H:b.length<2^29)(n:Int)(x:It)(left fr f:bH)(c g gt:Nat)(C:left.length<2^30)(L:fr.length<2^40)(G:f.length<2^40):∀(rest pre:bH),left=pre++rest->(∀m∈pre,vB b x m=false) ->
  (rest.find? (vB b x)=none->((fh (.sl 3 (a.map It.awa)) (fh (.sl 3 (b.map It.awa)) (fj 2 (fh (.own (J.length+1) g) (fh (.own (J.length+2) gt) (fh (.own J.length c) (fj 9 (fh (.sl 1 (xs.map bV)) (fh (.I r) (fh (.I p) (fj 45 fo))))))))))) λo=>K (.exit 2) ⟨o,J++[jL c left,jL g fr,jL gt f,.box 61 x.awa]⟩)) ->
  (∀m,rest.find? (vB b x)=some m->∀y,((fh (.sl 3 (a.map It.awa)) (fh (.sl 3 (b.map It.awa)) (fj 2 (fh (.own (J.length+1) (g+1)) (fh (.own (J.length+2) (gt+1)) (fh (.own J.length (c+1)) (fj 9 (fh (.sl 1 (xs.map bV)) (fh (.I r) (fh (.I p) (fj 45 fo))))))))))) λo=>K (.exit 2) ⟨o,J++[jL (c+1) (left.erase m),jL (g+1) (fr++[n]),jL (gt+1) (f++[m]),.box 61 x.awa,y]⟩)) ->
  fm J.length prog AJ K (rest.length+1) ⟨(.sl 3 (a.map It.awa)::.sl 3 (b.map It.awa)::uu 2 (.own (J.length+1) g::.own (J.length+2) gt::.own J.length c::uu 1 (.I n::.ptr (J.length+3) 0::uu 6 (.sl 1 (xs.map bV)::.I r::.I p::uu 6 (.own J.length c::.I left.length::.I pre.length::uu 36 []))))),J++[jL c left,jL g fr,jL gt f,.box 61 x.awa]⟩:=by
 intro rest
 induction rest with
 |nil =>
  intro pre d q j e;have d:left=pre:=by simpa using d
  have k:decide ((pre.length:Int)<(left.length:Int))=false:=by rw[d];simp
  refine ar λR u=>?_;simp only[AJ,k,↓IT,VV,seval];exact j rfl ..
 |cons m rest ih =>
  intro pre d q j e;have A:pre.length<left.length:=by rw[d];simp
  have k:decide ((pre.length:Int)<(left.length:Int))=true:=by simp;omega
  have v:gj (left.map bV) pre.length 0=some (.I m):=by rw[d];exact l5
  have B:=dh pre m (by omega)
  have F:((pre++[m]).length:Int)=(pre.length:Int)+1:=by simp
  have E:(0:Int)<=(pre.length:Int)/\(pre.length:Int)<(left.length:Int):=by omega
  have z:((fE b m).awb==x.awb&&(fE b m).awd==x.awd)=vB b x m:=by
   rw[vB,BEq.comm (a:=x.awb),BEq.comm (a:=x.awd)]
  have okF:(fr.length+1)*8<=2^47/\fr.length+1<=maxLen:=by simp[maxLen];omega
  have s:(f.length+1)*8<=2^47/\f.length+1<=maxLen:=by simp[maxLen];omega
  rw[ng]at j e;refine ar λR u=>?_;simp only[AJ,jL,It.awa,k,v,ag,ao,↓IT,VV,seval];refine⟨E,?_⟩;refine aw (yB b m (by omega) _) rfl ?_;simp only[It.awa,B,z,ag,ao,↓IT,VV,seval];refine⟨λh=>?_,λh=>?_⟩
  .have l:left.take pre.length++left.drop (pre.length+1)=left.erase m:=by
    have t:m ∉ pre:=λD=>by rw[q m D]at h;cases h
    rw[d,ao0 _ t];simp
   rw[h]at e;refine⟨okF,s,?_⟩;refine aw (OX left pre.length A C J.length c _ (by simp only[jX];rfl)) (by simp only[F,VV,seval]) ?_;rw[l];simp only[nF,yM,fK,↓IT,VV,seval];exact e m rfl _ ..
  .rw[h]at j e;refine u _ (cG [_,_,_,_] [_] (cC w (by simp[LW])) ?_ ?_ (ih (pre++[m]) (by rw[d];simp) (λy i=>?_) j e))
   .repeat' constructor
   .simp only[LW,ai,al,aY];omega
   .rcases bP.1 i with i|i
    .exact q y i
    .rw[cv]at i;rw[i];exact h
def Js{J:ak}{K:bl}(o:cn J)(a b:List It)(C:a.length<2^29)(u:b.length<2^29)(c:bH)(D:c.length<2^30):∀(rest pre left:bH) (fr g:bH) (d f gt:Nat),c=pre++rest->left.length<2^30->fr.length<=pre.length->g.length<=pre.length ->
  (∀d f gt x,((fj 4 (fh (.own (J.length+1) f) (fh (.own (J.length+2) gt) (fj 58 fo)))) λv=>K (.exit 0) ⟨v,J++[jL d x,jL f (fr++(jR a b rest left).map (·.1)),jL gt (g++(jR a b rest left).map (·.2))]⟩)) ->
  fm J.length prog DZ K (rest.length+1) ⟨(.sl 3 (a.map It.awa)::.sl 3 (b.map It.awa)::uu 2 (.own (J.length+1) f::.own (J.length+2) gt::.own J.length d::uu 9 (.sl 1 (c.map bV)::.I c.length::.I pre.length::uu 45 []))),J++[jL d left,jL f fr,jL gt g]⟩:=by
 intro rest
 induction rest with
 |nil =>
  intro pre left fr g d f gt i p w t j;have i:c=pre:=by simpa using i
  have k:decide ((pre.length:Int)<(c.length:Int))=false:=by rw[i];simp
  simp only[jR,bR,bL]at j;refine ar λR q=>?_;simp only[DZ,k,↓IT,VV,seval];exact j d f gt left ..
 |cons n rest ih =>
  intro pre left fr g d f gt i p w t j;have A:pre.length<c.length:=by rw[i];simp
  have k:decide ((pre.length:Int)<(c.length:Int))=true:=by simp;omega
  have s:gj (c.map bV) pre.length 0=some (.I n):=by rw[i];exact l5
  have r:=dh pre n (by omega)
  have z:(0:Int)<=(pre.length:Int)/\(pre.length:Int)<(c.length:Int):=by omega
  refine ar λR q=>?_;simp only[DZ,jL,k,s,ag,ao,↓IT,VV,seval];refine⟨z,?_⟩;refine aw (yB a n (by omega) _) rfl ?_;simp only[It.awa,ag,↓IT,VV,seval];refine bZ.aK (fr':=(.sl 3 (a.map It.awa)::.sl 3 (b.map It.awa)::uu 2 (.own (J.length+1) f::.own (J.length+2) gt::.own J.length d::uu 1 (.I n::.ptr (J.length+3) 0::uu 6 (.sl 1 (c.map bV)::.I c.length::.I pre.length::uu 6 (.own J.length d::.I left.length::.I (([]:bH).length:Nat)::uu 36 [])))))) (by repeat' constructor) (left.length+1) (Jt o a c c.length pre.length b u n (fE a n) left fr g d f gt p (by omega) (by omega) left [] rfl (nofun) ?_ ?_)
  .intro h;have e:jR a b (n::rest) left=jR a b rest left:=by simp only[jR,h]
   rw[e]at j;simp only[JE];intros;simp only[jL,r,↓IT,VV,seval];refine q _ (cG [_,_,_] [_] (cC o (by simp[LW])) ?_ ?_ (ih (pre++[n]) left fr g d f gt (by rw[i];simp) p (by simp;omega) (by simp;omega) j))
   .repeat' constructor
   .simp only[LW,ai,al,aY];omega
  .intro m h y;have e:jR a b (n::rest) left=(n,m)::jR a b rest (left.erase m):=by simp only[jR,h]
   rw[e]at j;have B:=List.length_erase_le (a:=m) (l:=left);simp only[JE];intros;simp only[jL,r,↓IT,VV,seval];refine q _ (cG [_,_,_] [_,_] (cC o (by simp[LW])) ?_ ?_ (ih (pre++[n]) (left.erase m) (fr++[n]) (g++[m]) (d+1) (f+1) (gt+1) (by rw[i];simp) (by omega) (by simp;omega) (by simp;omega) ?_))
   .repeat' constructor
   .simp only[LW,ai,al,aY];omega
   .simpa only[aH,bk,fI]using j
def ND(a b:List It)(e:a.length<2^29)(f:b.length<2^29)(J:ak):bM prog 84 [.sl 3 (a.map It.awa),.sl 3 (b.map It.awa)] J (.iQ [.sl 1 (((kI a b).map (·.1)).map bV),.sl 1 (((kI a b).map (·.2)).map bV)]):=by
 refine aZ func84 p84.2 λc h=>au ?_;have i:=jE a;have j:=jE b;simp only[p84,SS,seval];simp only[VV,seval];refine aw (wR b (by omega) _) rfl ?_;simp only[VV,seval];refine aw (CQ a (by omega) _) rfl ?_;simp only[ag,VV,seval];refine bZ.wk (((Wk.jA [_] (k:=4) sK rfl).trans (Wk.jA [_,_] (k:=5) sK rfl)).trans (Wk.fg (ys:=(.sl 3 (a.map It.awa)::.sl 3 (b.map It.awa)::uu 2 (.own (J.length+1) 0::.own (J.length+2) 0::.own J.length 0::uu 9 (.sl 1 ((awm a).map bV)::.I (awm a).length::.I (([]:bH).length:Nat)::uu 45 [])))) ?_)) (bZ.uh ((awm a).length+1) (Js c a b e f (awm a) (by omega) (awm a) [] (awm b) [] [] 0 0 0 rfl (by omega) (aD _) (aD _) ?_))
 .simp only[ai,al,VV,seval]
  repeat' constructor
 .intro g d gt l;simp only[JE];intros;simp only[bc,VV,seval];refine fH (xs:=[.own (J.length+1) d,.own (J.length+2) gt]) (xs':=[.sl 1 (((kI a b).map (·.1)).map bV),.sl 1 (((kI a b).map (·.2)).map bV)]) (.inr rfl) (by simp only[RS,seval]) ((Wk.rZ 1 rfl).trans ((Wk.rZ 2 rfl).trans ((Wk.fg ?_).trans (Wk.vN c (by simp only[LW]))))) rfl ⟨?_,rfl⟩
  .simp[fz,oa]
   repeat' constructor
  .rfl

set_option maxHeartbeats 1000000
def py{pre rest:dq}{x:aG}:gj (List.map ix (pre++x::rest)) pre.length 0=some (.s x):=by
 simp[gj,ix]
def On{J:ak}{K:bl}(a b:dq)(j:a.length<2^63)(q:a.length=b.length):∀(d c f g:dq),a=f++d->b=g++c->f.length=g.length ->
  (d=c->((fj 26 fo) λn=>K (.exit 0) ⟨n,J⟩))->(d≠c->((fj 4 (fh (.b false) (fj 21 fo))) λn=>K .ret ⟨n,J⟩)) ->
  fm J.length prog zq K (d.length+1) ⟨(.sl 1 (a.map ix)::.sl 1 (b.map ix)::uu 10 (.I a.length::.I f.length::uu 12 [])),J⟩:=by
 intro d
 induction d with
 |nil =>
  intro c f g i k l o m
  have:c=[]:=by
   subst i;subst k;simp at q;have:c.length=0:=by omega
   exact fG.1 this
  subst this;subst i;refine ar λR p=>?_;simp only[zq,VV,seval];exact⟨λh=>by simp at h,λ_=>o rfl ..⟩
 |cons x d ih =>
  intro c f g i k l o m;cases c with
  |nil=>subst i;subst k;simp at q;omega
  |cons y c =>
   subst i;subst k;refine ar λR p=>?_;have r:gj (List.map ix (g++y::c)) f.length 0=some (.s y):=by rw[l];exact py
   simp only[zq,r,py,ix,VV,seval];refine⟨λ_=>⟨by simp;omega,by simp;omega,λh=>?_,λh=>?_⟩,λh=>by simp at h;omega⟩
   .simp at h;exact m (by simp[h]) ..
   .simp at h;subst h;refine p _ (aK ?_ (ih c (f++[x]) (g++[x]) (by simp) (by simp) (by simp[l]) (λe=>o (by rw[e])) (λe=>m (by simp[e]))));rw[cm (by simp at j;omega)];simp only[aj,ai,al]
    repeat' constructor
def zJ(a b:dq)(J:ak):bM prog 149 [.sl 1 (a.map ix),.sl 1 (b.map ix)] J (.b (a==b)):=by
 refine aZ func149 Z0.2 λg f=>au ?_;have c:=mG (f 0 _ rfl).1;rw[ag]at c;simp only[Z0,SS,seval];simp only[ag,VV,seval];refine⟨λh=>?_,λh=>?_⟩
 .refine aO (.inr rfl) rfl ⟨?_,rfl⟩;simp at h;simp only[Pm.one,aA,aR,V.b.injEq];exact(beq_eq_false_iff_ne.2 λe=>h (by rw[e])).symm
 .simp at h;refine bZ.aK ?_ (a.length+1) (On a b c (by omega) a b [] [] rfl rfl rfl (λd=>?_) (λd=>?_))
  .simp only[VV,seval]
   repeat' constructor
  .simp only[VV,seval];simp only[JE];intros;exact aO (.inr rfl) rfl ⟨by simp[Pm.one,d],rfl⟩
  .simp only[VV,seval];simp only[JE];intros;exact aO (.inr rfl) rfl ⟨by simp[Pm.one,d],rfl⟩
def Om{J:ak}{K:bl}(f:List It)(k:cn J)(a:f.length<2^40):∀(rest pre:List It) (out:dq) (g:Nat),f=pre++rest->out.length<=pre.length ->
  (∀g,((fj 3 (fh (.own J.length g) (fj 20 fo))) λl=>K (.exit 0) ⟨l,J++[.row 9 1 16 g false ((out++iM rest).map ix)]⟩)) ->
  fm J.length prog zp K (rest.length+1) ⟨(uu 3 (.own J.length g::uu 2 (.sl 3 (f.map It.awa)::.I f.length::.I pre.length::uu 15 []))),J++[.row 9 1 16 g false (out.map ix)]⟩:=by
 intro rest
 induction rest with
 |nil =>
  intro pre out g c n b;have c:=cN c
  subst c;rw[show iM []=[]from rfl,bL]at b;refine ar λR j=>?_;simp only[zp,VV,seval];exact⟨λh=>by simp at h,λ_=>b g ..⟩
 |cons y rest ih =>
  intro pre out g c n b;subst c;have i:(out.length+1)*16<=2^47/\out.length+1<=maxLen:=by simp at a;simp[maxLen];omega
  have m:=dh pre y (by simp at a;omega)
  refine ar λR j=>?_;simp only[zp,It.awa,m,VV,seval];refine⟨λ_=>⟨by simp;omega,λd=>⟨by rw[ag];exact i,?_⟩,λd=>?_⟩,λh=>by simp at h;omega⟩
  .have e:out++iM (y::rest)=(out++[y.awd])++iM rest:=by simp[iM,d]
   have o:out.map ix++[[.s y.awd]]=(out++[y.awd]).map ix:=by simp[ix]
   rw[e]at b;rw[o];refine j _ (cG [_] [_] (cC k (by simp)) ?_ ?_ (ih (pre++[y]) (out++[y.awd]) (g+1) (by simp) (by simp;omega) b))
   .repeat' constructor
   .simp only[LW,ai,al,aY];omega
  .have e:out++iM (y::rest)=out++iM rest:=by simp[iM,d]
   rw[e]at b;refine j _ (cG [_] [_] (cC k (by simp)) ?_ ?_ (ih (pre++[y]) out g (by simp) (by simp;omega) b))
   .repeat' constructor
   .simp only[LW,ai,al,aY];omega
def Nj:Ti prog 9 1 16:=qJ (by kernel_rfl)
def Fx(f:List It):(iM f).length<=f.length:=by simp only[iM,ag];exact eB _ _
def Ap(f:List It)(a:f.length<2^30)(J:ak):bM prog 150 [.sl 3 (f.map It.awa)] J (.sl 1 ((iH f).map ix)):=by
 refine aZ func150 ZY.2 λb d=>au ?_;have c:=Fx f;simp only[ZY,SS,seval];simp only[ag,VV,seval];refine bZ.wk ((Wk.ij (k:=3) Nj rfl).trans (Wk.fg ?_)) (bZ.uh (f.length+1) (Om f b (by omega) f [] [] 0 rfl (aD _) ?_))
 .simp only[VV,seval]
  repeat' constructor
 .intro g;simp only[JE];intros;simp only[bc,VV,seval];refine aw (PC.IC Tryz.SY (id:=J.length) (E:=9) (by':=16) (g:=g) (iM f) (by omega) (by simp only[jX];rfl)) rfl ?_;simp only[yM,fK,VV,seval];refine mW 0 b (.inr rfl) rfl rfl ?_ ?_
  .simp[fz,oa,LW]
  .exact⟨by simp[fz,oa,Pm.one,iH];rfl,rfl⟩

set_option maxHeartbeats 2000000
def ry{α:Type}{p:α->Bool}{pre rest:List α}(b:∀y∈pre,p y=true)(e:∀y r,rest=y::r->p y=false):(pre++rest).takeWhile p=pre/\(pre++rest).dropWhile p=rest:=by
 induction pre with
 |nil =>
  cases rest with
  |nil=>exact⟨rfl,rfl⟩
  |cons y r=>simp[e y r rfl]
 |cons a pre ih =>
  have c:=ih λy d=>b y (eV _ d);simp[b a (by simp),c.1,c.2]
def Ol{J:ak}{K:bl}(l:dq)(s:aG)(j:l.length<2^40):∀(rest pre:dq),l=pre++rest->(∀y∈pre,Bt.leB y s=true) ->
  (∀k:Nat,k<=l.length->l.take k++s::l.drop k=mw l s->((fh (.sl 1 (l.map ix)) (fh (.s s) (fj 3 (fh (.I k) (fj 27 fo))))) λp=>K (.exit 0) ⟨p,J⟩)) ->
  fm J.length prog zo K (rest.length+1) ⟨(.sl 1 (l.map ix)::.s s::uu 3 (.I pre.length::uu 27 [])),J⟩:=by
 intro rest
 induction rest with
 |nil =>
  intro pre a c d;have e:decide ((pre.length:Int)<(l.length:Int))=false:=by rw[a];simp
  have n:l.take pre.length++s::l.drop pre.length=mw l s:=by
   have:=ry (rest:=[]) c (λy r h=>by cases h);rw[<- a]at this;rw[mw,this.1,this.2,a];simp
  refine ar λR i=>?_;simp only[zo,e,ag,↓IT,VV,seval];refine⟨nofun,.s [],nofun,?_⟩;simp only[↓IT,VV,seval];exact d pre.length (by rw[a];simp) n ..
 |cons y rest ih =>
  intro pre a c d;have q:pre.length<l.length:=by rw[a];simp
  have e:decide ((pre.length:Int)<(l.length:Int))=true:=by simp;omega
  have m:gj (l.map ix) pre.length 0=some (.s y):=by rw[a];exact py
  have o:(0:Int)<=(pre.length:Int)/\(pre.length:Int)<(l.length:Int):=by omega
  have g:=dh pre y (by omega)
  refine ar λR i=>?_;simp only[zo,e,m,g,ag,ao,↓IT,VV,seval];refine⟨o,_,rfl,?_⟩
  have f:(Op.bytesLess y s||y==s)=Bt.leB y s:=by
   rw[fU,pe,cB];simp only[eD,aV,cE];rw[<- kh];omega
  simp only[g,f,↓IT,VV,seval];refine⟨λh=>?_,λh=>?_⟩
  .refine i _ (aK (by repeat' constructor) (ih (pre++[y]) (by rw[a];simp) (λz b=>?_) d));rcases bP.1 b with b|b
   .exact c z b
   .rw[cv]at b;rw[b];exact h
  .refine d pre.length (by omega) ?_ ..;have:=ry (rest:=y::rest) c (λz r b=>by cases b;exact h);rw[<- a]at this;rw[mw,this.1,this.2,a];simp
def Ty{J:ak}{K:bl}(f:List It)(x:It)(a:f.length<2^40):∀(rest pre:List It) (n:Nat),f=pre++rest->n<=pre.length ->
  ((fj 5 (fh (.I ((n+rest.count x:Nat):Int)) (fj 16 fo))) λl=>K (.exit 0) ⟨l,J++[.box 61 x.awa]⟩) ->
  fm J.length prog DT K (rest.length+1) ⟨(.sl 3 (f.map It.awa)::uu 2 (.ptr J.length 0::uu 1 (.I n::uu 2 (.I f.length::.I pre.length::uu 12 [])))),J++[.box 61 x.awa]⟩:=by
 intro rest
 induction rest with
 |nil =>
  intro pre n c m b;have c:=cN c
  subst c;rw[List.count_nil,de]at b;refine ar λR g=>?_;simp only[DT,VV,seval];exact⟨λh=>by simp at h,λ_=>b ..⟩
 |cons y rest ih =>
  intro pre n c m b;subst c;have p:pre.length<(pre++y::rest).length:=by simp
  have j:decide ((pre.length:Int)<((pre++y::rest).length:Int))=true:=by simp;omega
  have o:(0:Int)<=(pre.length:Int)/\(pre.length:Int)<((pre++y::rest).length:Int):=by omega
  have i:=dh pre y (by simp at a;omega)
  have d:IntKind.i64.wrap ((n:Int)+1)=((n+1:Nat):Int):=cm (by simp at a;omega);refine ar λR g=>?_;simp only[DT,It.awa,j,i,gC,dD,ag,↓IT,VV,seval];have k:Hp y x=(y.awb==x.awb&&(y.awd==x.awd&&y.id==x.id)):=rfl;refine⟨o,?_⟩;simp only[<- k,d,i,↓IT,VV,seval];refine⟨λh=>?_,λh=>?_⟩
  .have h:y=x:=vC.1 h;have e:n+(y::rest).count x=(n+1)+rest.count x:=by rw[h,List.count_cons_self];omega
   rw[e]at b;exact g _ (aK (by repeat' constructor) (ih (pre++[y]) (n+1) (by simp) (by simp;omega) b))
  .have h:¬y=x:=λe=>by rw[vC.2 e]at h;cases h
   have e:n+(y::rest).count x=n+rest.count x:=by rw[List.count_cons_of_ne h]
   rw[e]at b;exact g _ (aK (by repeat' constructor) (ih (pre++[y]) n (by simp) (by simp;omega) b))
def vn(f:List It)(x:It)(a:f.length<2^40)(J:ak):bM prog 93 [.sl 3 (f.map It.awa),.agg x.awa] J (.I (f.count x:Nat)):=by
 refine aZ func93 p93.2 λb c=>au ?_;simp only[p93,SS,seval];simp only[It.awa,ag,V.pure,↓IT,VV,seval];refine bZ.aK (fr':=(.sl 3 (f.map It.awa)::uu 2 (.ptr J.length 0::uu 1 (.I (0:Nat)::uu 2 (.I f.length::.I (([]:List It).length:Nat)::uu 12 []))))) (by repeat' constructor) (f.length+1) (Ty f x a f [] 0 rfl (aD _) ?_);rw[aY];simp only[JE];intros;simp only[It.awa,↓IT,VV,seval];exact bg b (.inr rfl) (by simp only[RS,seval];rfl) (by simp only[LW]) ⟨rfl,rfl⟩
def TB{J:ak}{K:bl}(a b:dq)(j:a.length<2^63)(q:a.length=b.length):∀(d c f g:dq),a=f++d->b=g++c->f.length=g.length ->
  (d=c->((fj 26 fo) λn=>K (.exit 0) ⟨n,J⟩))->(d≠c->((fj 4 (fh (.b false) (fj 21 fo))) λn=>K .ret ⟨n,J⟩)) ->
  fm J.length prog DW K (d.length+1) ⟨(.sl 1 (a.map ix)::.sl 1 (b.map ix)::uu 10 (.I a.length::.I f.length::uu 12 [])),J⟩:=by
 intro d
 induction d with
 |nil =>
  intro c f g i k l o m
  have:c=[]:=by
   subst i;subst k;simp at q;have:c.length=0:=by omega
   exact fG.1 this
  subst this;subst i;refine ar λR p=>?_;simp only[DW,VV,seval];exact⟨λh=>by simp at h,λ_=>o rfl ..⟩
 |cons x d ih =>
  intro c f g i k l o m;cases c with
  |nil=>subst i;subst k;simp at q;omega
  |cons y c =>
   subst i;subst k;refine ar λR p=>?_;have r:gj (List.map ix (g++y::c)) f.length 0=some (.s y):=by rw[l];exact py
   simp only[DW,r,py,ix,VV,seval];refine⟨λ_=>⟨by simp;omega,by simp;omega,λh=>?_,λh=>?_⟩,λh=>by simp at h;omega⟩
   .simp at h;exact m (by simp[h]) ..
   .simp at h;subst h;refine p _ (aK ?_ (ih c (f++[x]) (g++[x]) (by simp) (by simp) (by simp[l]) (λe=>o (by rw[e])) (λe=>m (by simp[e]))));rw[cm (by simp at j;omega)];simp only[aj,ai,al]
    repeat' constructor
def vo(a b:dq)(J:ak):bM prog 90 [.sl 1 (a.map ix),.sl 1 (b.map ix)] J (.b (a==b)):=by
 refine aZ func90 p90.2 λg f=>au ?_;have c:=mG (f 0 _ rfl).1;rw[ag]at c;simp only[p90,SS,seval];simp only[ag,VV,seval];refine⟨λh=>?_,λh=>?_⟩
 .refine aO (.inr rfl) rfl ⟨?_,rfl⟩;simp at h;simp only[Pm.one,aA,aR,V.b.injEq];exact(beq_eq_false_iff_ne.2 λe=>h (by rw[e])).symm
 .simp at h;refine bZ.aK ?_ (a.length+1) (TB a b c (by omega) a b [] [] rfl rfl rfl (λd=>?_) (λd=>?_))
  .simp only[VV,seval]
   repeat' constructor
  .simp only[VV,seval];simp only[JE];intros;exact aO (.inr rfl) rfl ⟨by simp[Pm.one,d],rfl⟩
  .simp only[VV,seval];simp only[JE];intros;exact aO (.inr rfl) rfl ⟨by simp[Pm.one,d],rfl⟩
def JF(l:dq)(s:aG):(mw l s).length=l.length+1:=(sX l s).length_eq
def Ay(l:dq)(s:aG)(a:l.length<2^30)(J:ak):bM prog 152 [.sl 1 (l.map ix),.s s] J (.sl 1 ((mw l s).map ix)):=by
 refine aZ func152 ZX.2 λe g=>au ?_;simp only[ZX,SS,seval];simp only[ag,↓IT,VV,seval];refine bZ.aK (fr':=(.sl 1 (l.map ix)::.s s::uu 3 (.I (([]:dq).length:Nat)::uu 27 []))) (by repeat' constructor) (l.length+1) (Ol l s (by omega) l [] rfl (λy h=>by cases h) ?_);intro k i f;have d:(List.take k (l.map ix)).length=k:=by rw[aP,ag];omega
 have b:List.take (l.length - k) (List.drop k (l.map ix))=List.drop k (l.map ix):=bW (by simp);have c:(List.drop k (l.map ix)).length=l.length - k:=by simp
 simp only[JE];intros;simp only[ag,aj,d,b,c,ao,V.pure,↓IT,VV,seval];refine⟨⟨by omega,by omega⟩,⟨by omega,by unfold maxLen;omega⟩,⟨by omega,by unfold maxLen;omega⟩,⟨by omega,by omega,by omega⟩,⟨by omega,by unfold maxLen;omega⟩,?_⟩;refine mW 0 e (.inr rfl) rfl rfl ?_ ?_
 .simp[fz,oa,LW]
 .refine⟨?_,rfl⟩;rw[<- f];simp[fz,oa,Pm.one,ix,eu,eO]
def TA{J:ak}{K:bl}(f:List It)(a:f.length<2^29):∀(rest pre:List It) (out:dq),f=pre++rest->out.length<=pre.length ->
  ((fj 3 (fh (.sl 1 (((iM rest).foldl mw out).map ix)) (fj 21 fo))) λk=>K (.exit 0) ⟨k,J⟩) ->
  fm J.length prog DV K (rest.length+1) ⟨(.sl 3 (f.map It.awa)::uu 2 (.sl 1 (out.map ix)::uu 2 (.I f.length::.I pre.length::uu 17 []))),J⟩:=by
 intro rest
 induction rest with
 |nil =>
  intro pre out c l b;have c:=cN c
  subst c;refine ar λR d=>?_;simp only[DV,VV,seval];exact⟨λh=>by simp at h,λ_=>b ..⟩
 |cons y rest ih =>
  intro pre out c l b;subst c;have m:pre.length<(pre++y::rest).length:=by simp
  have j:decide ((pre.length:Int)<((pre++y::rest).length:Int))=true:=by simp;omega
  have i:(0:Int)<=(pre.length:Int)/\(pre.length:Int)<((pre++y::rest).length:Int):=by omega
  have g:=dh pre y (by simp at a;omega)
  refine ar λR d=>?_;simp only[DV,It.awa,j,g,ag,↓IT,VV,seval];refine⟨i,λh=>⟨i,?_⟩,λh=>?_⟩
  .have e:(iM (y::rest)).foldl mw out=(iM rest).foldl mw (mw out y.awd):=by simp[iM,h]
   rw[e]at b;refine aw (Ay out y.awd (by simp at a;omega) _) rfl ?_;simp only[g,↓IT,VV,seval];exact d _ (aK (by repeat' constructor) (ih (pre++[y]) (mw out y.awd) (by simp) (by rw[JF];simp;omega) b))
  .have e:(iM (y::rest)).foldl mw out=(iM rest).foldl mw out:=by simp[iM,h]
   rw[e]at b;exact d _ (aK (by repeat' constructor) (ih (pre++[y]) out (by simp) (by simp;omega) b))
def vl(f:List It)(a:f.length<2^29)(J:ak):bM prog 91 [.sl 3 (f.map It.awa)] J (.sl 1 ((iH f).map ix)):=by
 refine aZ func91 p91.2 λc b=>au ?_;simp only[p91,SS,seval];simp only[ag,↓IT,VV,seval];refine bZ.aK (fr':=(.sl 3 (f.map It.awa)::uu 2 (.sl 1 (([]:dq).map ix)::uu 2 (.I f.length::.I (([]:List It).length:Nat)::uu 17 [])))) (by repeat' constructor) (f.length+1) (TA f a f [] [] rfl (aD _) ?_);have e:(iM f).foldl mw []=iH f:=pD f;rw[e];simp only[JE];intros;simp only[↓IT,VV,seval];exact aO (.inr rfl) rfl ⟨rfl,rfl⟩

set_option maxHeartbeats 4000000
def TE{J:ak}{K:bl}(s t:List It)(m:s.length<2^40)(l:t.length<2^40):∀(rest pre:List It),s=pre++rest ->
  ((rest.all λx=>s.count x==t.count x)=true->((fj 80 fo) λg=>K (.exit 0) ⟨g,J⟩))->((rest.all λx=>s.count x==t.count x)=false->((fj 4 (fh (.b false) (fj 75 fo))) λg=>K .ret ⟨g,J⟩)) ->
  fm J.length prog D3 K (rest.length+1) ⟨(uu 11 (.sl 3 (s.map It.awa)::.sl 3 (t.map It.awa)::uu 49 (.I s.length::.I pre.length::uu 16 []))),J⟩:=by
 intro rest
 induction rest with
 |nil =>
  intro pre c d a;have e:decide ((pre.length:Int)<(s.length:Int))=false:=by rw[c];simp
  refine ar λR k=>?_;simp only[D3,e,↓IT,VV,seval];exact d rfl ..
 |cons y rest ih =>
  intro pre c d a;have n:pre.length<s.length:=by rw[c];simp
  have e:decide ((pre.length:Int)<(s.length:Int))=true:=by simp;omega
  have f:(0:Int)<=(pre.length:Int)/\(pre.length:Int)<(s.length:Int):=by omega
  have j:(List.map It.awa s).getD pre.length []=y.awa:=by rw[c];exact um
  have i:=dh pre y (by omega)
  refine ar λR k=>?_;simp only[D3,It.awa,e,i,j,ag,ao,↓IT,VV,seval];refine⟨f,f,?_⟩;refine aw (vn s y m _) rfl ?_;simp only[It.awa,j,ag,ao,↓IT,VV,seval];refine⟨f,?_⟩;refine aw (vn t y l _) rfl ?_;simp only[i,↓IT,VV,seval];rw[gO]at d a;refine⟨λh=>?_,λh=>?_⟩
  .have h:(s.count y==t.count y)=false:=by rw[di];simp at h;omega
   rw[h]at a;exact a rfl ..
  .have h:(s.count y==t.count y)=true:=by rw[cE];simp at h;omega
   rw[h,cc]at d a;exact k _ (aK (by repeat' constructor) (ih (pre++[y]) (by rw[c];simp) d a))
def xT(s:List It):∃c o k,Hi s=.iQ [.sl 1 (c.map bV),.sl 1 (o.map bV),.b k]/\Bt.shape s=if k then some (c,o)else none:=by
 unfold Hi;cases h:Bt.shape s with
 |none=>exact⟨[],[],false,rfl,rfl⟩
 |some p=>exact⟨p.1,p.2,true,rfl,rfl⟩
def qA(s t:List It)(B:s.length<2^29)(w:t.length<2^29)(J:ak):bM prog 40 [.sl 3 (s.map It.awa),.sl 3 (t.map It.awa)] J (.b (jN s t)):=by
 refine aZ func40 p40.2 λG F=>au ?_;have K:(tg s).length<=s.length:=eB _ _;have L:(tg t).length<=t.length:=eB _ _;rw[<- O0];simp only[p40,SS,seval];simp only[VV,seval]
 have a:∀{i:aB},ow s t=false->i[4]?=some (.b false)->rG prog J.length [.t 4] (λr y=>r=.b (ow s t)/\y=J) .ret ⟨i,J⟩:=by
  intro i h z;refine aO (.inr rfl) (xs:=[.b false]) ?_ ⟨by rw[h];rfl,rfl⟩;simp[ni,xr,aq,z]
 obtain⟨m,n,u,D,g⟩:=xT s;obtain⟨o,l,C,A,f⟩:=xT t;refine aw (vm s (by omega) _) rfl ?_;rw[D];simp only[↓IT,VV,seval];refine aw (vm t (by omega) _) rfl ?_;rw[A];have H:∀{c:Bool},c=false->ow s t=c->ow s t=false:=λh e=>e.trans h;cases u with
 |false =>
  simp only[↓IT,VV,seval]
  iterate 5 refine bB (c:=false) (v:=.b false) (by simp only[VV,seval]<;>rfl) (nofun) rfl ?_;simp only[↓IT,VV,seval]
  exact a (by simp[ow,g]) rfl
 |true =>
 cases C with
 |false =>
  simp only[↓IT,VV,seval]
  iterate 5 refine bB (c:=false) (v:=.b false) (by simp only[VV,seval]<;>rfl) (nofun) rfl ?_;simp only[↓IT,VV,seval]
  exact a (by simp[ow,f]) rfl
 |true =>
 simp only[↓IT,VV,seval];refine bB (c:=true) (by simp only[VV,seval]<;>rfl) (λ_=>pX m o _) rfl ?_;cases q:m==o with
 |false =>
  simp only[↓IT,VV,seval]
  iterate 4 refine bB (c:=false) (v:=.b false) (by simp only[VV,seval]<;>rfl) (nofun) rfl ?_;simp only[↓IT,VV,seval]
  exact a (by have:=beq_eq_false_iff_ne.1 q;simp[ow,g,f,this]) rfl
 |true =>
 simp only[↓IT,VV,seval];refine bB (c:=true) (by simp only[VV,seval]<;>rfl) (λ_=>pX n l _) rfl ?_;cases p:n==l with
 |false =>
  simp only[↓IT,VV,seval]
  iterate 3 refine bB (c:=false) (v:=.b false) (by simp only[VV,seval]<;>rfl) (nofun) rfl ?_;simp only[↓IT,VV,seval]
  exact a (by have:=beq_eq_false_iff_ne.1 p;simp[ow,g,f,this]) rfl
 |true =>
 have E:((Bt.shape s).isSome&&(Bt.shape t).isSome&&(Bt.shape s==Bt.shape t))=true:=by
  rw[g,f,eq_of_beq q,eq_of_beq p];simp
 simp only[↓IT,VV,seval];refine bB (c:=true) (by simp only[VV,seval]<;>rfl) (λ_=>vl s B _) rfl ?_;simp only[↓IT,VV,seval];refine bB (c:=true) (by simp only[VV,seval]<;>rfl) (λ_=>vl t w _) rfl ?_;simp only[↓IT,VV,seval];refine bB (c:=true) (by simp only[VV,seval]<;>rfl) (λ_=>vo (iH s) (iH t) _) rfl ?_
 have d:ow s t=((iH s==iH t)&&decide ((tg s).length=(tg t).length)&&(tg s).all λx=>(tg s).count x==(tg t).count x):=by
  rw[ow,E,cc,pD,pD]
 cases k:iH s==iH t with
 |false =>
  simp only[↓IT,VV,seval];exact a (by rw[d,k];rfl) rfl
 |true =>
 rw[k,cc]at d;simp only[↓IT,VV,seval];refine aw (xY s (by omega) _) rfl ?_;simp only[↓IT,VV,seval];refine aw (xY t (by omega) _) rfl ?_;simp only[ag,↓IT,VV,seval];refine⟨λh=>?_,λh=>?_⟩
 .have h:(tg s).length≠(tg t).length:=by simp at h;omega
  exact a (by rw[d,nf h];rfl) rfl
 .have h:(tg s).length=(tg t).length:=by simp at h;omega
  rw[lz h,cc]at d;refine bZ.aK (fr':=(uu 11 (.sl 3 ((tg s).map It.awa)::.sl 3 ((tg t).map It.awa)::uu 49 (.I (tg s).length::.I (([]:List It).length:Nat)::uu 16 [])))) (by repeat' constructor) ((tg s).length+1) (TE (tg s) (tg t) (by omega) (by omega) (tg s) [] rfl (λj=>?_) (λj=>?_))
  .simp only[JE];intros;simp only[↓IT,VV,seval];exact aO (.inr rfl) rfl ⟨by rw[d,j];rfl,rfl⟩
  .simp only[JE];intros;simp only[↓IT,VV,seval];exact a (by rw[d,j]) rfl

set_option maxHeartbeats 2000000
def JB(a b:It):dD 5 (uv a) (uv b)=some (decide (a=b)):=by
 obtain⟨k,t,i⟩:=a;obtain⟨e,c,d⟩:=b;simp only[dD,uv,It.awa,Ik,jx,aT,ae];rw[cB];simp
def Jr{J:ak}{K:bl}(z u:List It)(l:List It)(B:cn J)(d:l.length<2^38):∀(rest pre:List It) (C:List (It×Int)) (n:Nat),l=pre++rest->CB n C->n+rest.length<2^39 ->
  ((fh (.sl 3 (z.map It.awa)) (fh (.sl 3 (u.map It.awa)) (fj 9 (fh (.mp J.length) (fj 78 fo))))) λD=>K (.exit 0) ⟨D,J++[.map 61 3 (emap uv fZ (fy 1 C rest))]⟩) ->
  fm J.length prog AI K (rest.length+1) ⟨(.sl 3 (z.map It.awa)::.sl 3 (u.map It.awa)::uu 9 (.mp J.length::uu 38 (.sl 3 (l.map It.awa)::.I l.length::.I pre.length::uu 37 []))),J++[.map 61 3 (emap uv fZ C)]⟩:=by
 intro rest
 induction rest with
 |nil =>
  intro pre C n g o w a;have g:=cN g
  subst g;refine ar λR s=>?_;simp only[AI,VV,seval];exact⟨λh=>by simp at h,λ_=>a ..⟩
 |cons x rest ih =>
  intro pre C n g o w a;subst g
  have v:=dh pre x (by simp at d;omega)
  simp only[ai]at w;have p:=o.getD x;have E:∀b,(cX x C).getD 0=b->IntKind.i64.wrap (b+1)=b+1:=λb A=>IntWalk.i64_in _ (by rw[A]at p;have:=p.1;have:=p.2;omega);have t:∀C,cn (J++[.map 61 3 (emap uv fZ C)]):=λC=>cC B (by simp[l3]);have m:=o.bump x 1 (by omega);have e:fy 1 C (x::rest)=fy 1 (bump C x 1) rest:=rfl;rw[e]at a;refine ar λR s=>?_;rcases r9 JB C x with⟨k,c,j,f,y⟩|⟨i,b,k,c,j,f⟩
  .have q:IntKind.i64.wrap 1=1:=by decide
   have r:bump C x 1=iZ C x 1:=by simp[bump,k]
   rw[r]at m a;simp only[uv,It.awa]at c j f y;simp only[AI,It.awa,v,ek,c,j,f,y,q,eS,V.lO,V.cell,VV,seval];refine⟨λ_=>⟨by simp;omega,?_⟩,λh=>by simp at h;omega⟩;refine s _ (cG [_] [_,_] (t _) ?_ ?_ (ih (pre++[x]) _ (n+1) (by simp) m (by omega) a))
   .repeat' constructor
   .simp only[LW,ai,al,aY];omega
  .have q:=E b (by rw[k];rfl);have r:bump C x 1=iZ C x (b+1):=by simp[bump,k]
   rw[r]at m a;simp only[uv,It.awa]at c j f;simp only[AI,It.awa,v,ek,c,j,f,q,eS,V.lO,V.cell,VV,seval];refine⟨λ_=>⟨by simp;omega,?_⟩,λh=>by simp at h;omega⟩;refine s _ (cG [_] [_,_] (t _) ?_ ?_ (ih (pre++[x]) _ (n+1) (by simp) m (by omega) a))
   .repeat' constructor
   .simp only[LW,ai,al,aY];omega
def Jq{J:ak}{K:bl}(z u:List It)(l:List It)(B:cn J)(d:l.length<2^38):∀(rest pre:List It) (C:List (It×Int)) (n:Nat),l=pre++rest->CB n C->n+rest.length<2^39 ->
  ((fh (.sl 3 (z.map It.awa)) (fh (.sl 3 (u.map It.awa)) (fj 9 (fh (.mp J.length) (fj 78 fo))))) λD=>K (.exit 2) ⟨D,J++[.map 61 3 (emap uv fZ (fy (-1) C rest))]⟩) ->
  fm J.length prog AH K (rest.length+1) ⟨(.sl 3 (z.map It.awa)::.sl 3 (u.map It.awa)::uu 9 (.mp J.length::uu 52 (.sl 3 (l.map It.awa)::.I l.length::.I pre.length::uu 23 []))),J++[.map 61 3 (emap uv fZ C)]⟩:=by
 intro rest
 induction rest with
 |nil =>
  intro pre C n g o w a;have g:=cN g
  subst g;refine ar λR s=>?_;simp only[AH,VV,seval];exact⟨λh=>by simp at h,λ_=>a ..⟩
 |cons x rest ih =>
  intro pre C n g o w a;subst g
  have v:=dh pre x (by simp at d;omega)
  simp only[ai]at w;have p:=o.getD x;have E:∀b,(cX x C).getD 0=b->IntKind.i64.wrap (b - 1)=b - 1:=λb A=>IntWalk.i64_in _ (by rw[A]at p;have:=p.1;have:=p.2;omega);have t:∀C,cn (J++[.map 61 3 (emap uv fZ C)]):=λC=>cC B (by simp[l3]);have m:=o.bump x (-1) (by omega);have e:fy (-1) C (x::rest)=fy (-1) (bump C x (-1)) rest:=rfl;rw[e]at a;refine ar λR s=>?_;rcases r9 JB C x with⟨k,c,j,f,y⟩|⟨i,b,k,c,j,f⟩
  .have q:IntKind.i64.wrap (-1) = -1:=by decide
   have r:bump C x (-1)=iZ C x (-1):=by simp[bump,k]
   rw[r]at m a;simp only[uv,It.awa]at c j f y;simp only[AH,It.awa,v,ek,c,j,f,y,q,eS,V.lO,V.cell,VV,seval];refine⟨λ_=>⟨by simp;omega,?_⟩,λh=>by simp at h;omega⟩;refine s _ (cG [_] [_,_] (t _) ?_ ?_ (ih (pre++[x]) _ (n+1) (by simp) m (by omega) a))
   .repeat' constructor
   .simp only[LW,ai,al,aY];omega
  .have q:=E b (by rw[k];rfl);have r:bump C x (-1)=iZ C x (b - 1):=by simp[bump,k];rfl
   rw[r]at m a;simp only[uv,It.awa]at c j f;simp only[AH,It.awa,v,ek,c,j,f,q,eS,V.lO,V.cell,VV,seval];refine⟨λ_=>⟨by simp;omega,?_⟩,λh=>by simp at h;omega⟩;refine s _ (cG [_] [_,_] (t _) ?_ ?_ (ih (pre++[x]) _ (n+1) (by simp) m (by omega) a))
   .repeat' constructor
   .simp only[LW,ai,al,aY];omega
def Jp{J:ak}{K:bl}(o s:List It)(C:List (It×Int))(d:It×Int):∀(N:Nat) (c:dK) (a:cU),c.length<=N->(∀p∈c,p<C.length) ->
  ((∀p∈c,(C.getD p d).2=0)->∀c a,((fh (.sl 3 (o.map It.awa)) (fh (.sl 3 (s.map It.awa)) (fj 88 fo))) λm=>K (.exit 4) ⟨m,J++[.map 61 3 (emap uv fZ C),.iter false J.length 3 (emap uv fZ C).length c a]⟩)) ->
  (∀p∈c,(C.getD p d).2≠0->∀c a,((fj 4 (fh (.b false) (fj 85 fo))) λm=>K .ret ⟨m,J++[.map 61 3 (emap uv fZ C),.iter false J.length 3 (emap uv fZ C).length c a]⟩)) ->
  fm J.length prog DY K (N+1) ⟨(.sl 3 (o.map It.awa)::.sl 3 (s.map It.awa)::uu 76 (.it (J.length+1)::uu 11 [])),J++[.map 61 3 (emap uv fZ C),.iter false J.length 3 (emap uv fZ C).length c a]⟩:=by
 intro N
 induction N with
 |zero =>
  intro c a u f g j;have n:c=[]:=aW (by omega);subst n;refine ar λR r=>?_;simp only[DY,VV,seval];exact g (λp f=>by cases f) _ _ ..
 |succ N ih =>
  intro c a u f g j;refine ar λR r=>?_;simp only[DY,VV,seval];refine⟨λn=>?_,λq l=>?_⟩
  .subst n;exact g (λp f=>by cases f) _ _ ..
  .have t:=xg (ke:=uv) (ve:=fZ) C d (f q l);simp only[t,fZ,VV,seval];refine⟨λh=>?_,λh=>?_⟩
   .have h:(C.getD q d).2≠0:=by simpa using h
    exact j q l h _ _ ..
   .have h:(C.getD q d).2=0:=by simpa using h
    refine r _ (aK ?_ (ih (c.filter λi=>i != q) (some q) (by have:=pv l;omega) (λp h=>f p (cZ.1 h).1) (λv=>g λp k=>?_) (λp k=>j p (cZ.1 k).1)))
    .repeat' constructor
    .by_cases e:p=q
     .rw[e];exact h
     .exact v p (cZ.2 ⟨k,by simpa using e⟩)
def C5{C:List (It×Int)}(d:It×Int):ky C=true<->∀p<C.length,(C.getD p d).2=0:=by
 simp only[ky,bY,cE];constructor
 .intro h p b;exact h _ (yx b)
 .intro h x c;obtain⟨i,a,rfl⟩:=BW c;have:=h i a;simpa[aq,a]using this
def Dp(f:List It):(tg f).length<=f.length:=eB _ _
def xB(s t:List It)(P:s.length<2^29)(N:t.length<2^29)(J:ak):bM prog 86 [.sl 3 (s.map It.awa),.sl 3 (t.map It.awa)] J (.b (jN s t)):=by
 refine aZ func86 p86.2 λe O=>au ?_;have Q:=Dp s;have R:=Dp t;simp only[p86,SS,seval];simp only[VV,seval]
 have d:∀{fr:aB} {loc:ak},jN s t=false->fr[4]?=some (.b false)->rG prog J.length [.t 4] (λr n=>r=.b (jN s t)/\n=J) .ret ⟨fr,J++loc⟩:=by
  intro fr loc h j;refine bg e (.inr rfl) (xs:=[.b false]) ?_ (by simp only[LW]) ⟨by rw[h];rfl,rfl⟩;simp[ni,xr,aq,j]
 have a:∀{fr:aB},jN s t=false->fr[4]?=some (.b false)->rG prog J.length [.t 4] (λr n=>r=.b (jN s t)/\n=J) .ret ⟨fr,J⟩:=by
  intro fr h j;have:=d (fr:=fr) (loc:=[]) h j
  rwa [bL]at this
 obtain⟨B,D,L,K,g⟩:∃c o k,Hi s=.iQ [.sl 1 (c.map bV),.sl 1 (o.map bV),.b k]/\Bt.shape s=if k then some (c,o)else none:=by
  unfold Hi;cases h:Bt.shape s with
  |none=>exact⟨[],[],false,rfl,rfl⟩
  |some p=>exact⟨p.1,p.2,true,rfl,rfl⟩
 obtain⟨x,A,H,G,f⟩:∃c o k,Hi t=.iQ [.sl 1 (c.map bV),.sl 1 (o.map bV),.b k]/\Bt.shape t=if k then some (c,o)else none:=by
  unfold Hi;cases h:Bt.shape t with
  |none=>exact⟨[],[],false,rfl,rfl⟩
  |some p=>exact⟨p.1,p.2,true,rfl,rfl⟩
 refine aw (Aq s (by omega) _) rfl ?_;rw[K];simp only[↓IT,VV,seval];refine aw (Aq t (by omega) _) rfl ?_;rw[G];cases L with
 |false =>
  simp only[↓IT,VV,seval];refine bB (c:=false) (v:=.b false) (by simp only[VV,seval]<;>rfl) (nofun) rfl ?_;simp only[↓IT,VV,seval];refine bB (c:=false) (v:=.b false) (by simp only[VV,seval]<;>rfl) (nofun) rfl ?_;simp only[↓IT,VV,seval];exact a (by simp[jN,g]) rfl
 |true =>
 cases H with
 |false =>
  simp only[↓IT,VV,seval];refine bB (c:=false) (v:=.b false) (by simp only[VV,seval]<;>rfl) (nofun) rfl ?_;simp only[↓IT,VV,seval];refine bB (c:=false) (v:=.b false) (by simp only[VV,seval]<;>rfl) (nofun) rfl ?_;simp only[↓IT,VV,seval];exact a (by simp[jN,f]) rfl
 |true =>
 simp only[↓IT,VV,seval];refine bB (c:=true) (by simp only[VV,seval]<;>rfl) (λ_=>r7 B x _) rfl ?_;cases z:B==x with
 |false =>
  simp only[↓IT,VV,seval];refine bB (c:=false) (v:=.b false) (by simp only[VV,seval]<;>rfl) (nofun) rfl ?_;simp only[↓IT,VV,seval];exact a (by have:=beq_eq_false_iff_ne.1 z;simp[jN,g,f,this]) rfl
 |true =>
 simp only[↓IT,VV,seval];refine bB (c:=true) (by simp only[VV,seval]<;>rfl) (λ_=>r7 D A _) rfl ?_;cases y:D==A with
 |false =>
  simp only[↓IT,VV,seval];exact a (by have:=beq_eq_false_iff_ne.1 y;simp[jN,g,f,this]) rfl
 |true =>
 have M:((Bt.shape s).isSome&&(Bt.shape t).isSome&&(Bt.shape s==Bt.shape t))=true:=by
  rw[g,f,eq_of_beq z,eq_of_beq y];simp
 have i:jN s t=(ky (oE s t)&&(iH s==iH t)):=by rw[jN,M,cc]
 simp only[↓IT,VV,seval];refine aw (Dq s (by omega) _) rfl ?_;simp only[ag,↓IT,VV,seval];have u:CB (0+(tg s).length) (fy 1 [] (tg s)):=CB.fy (by omega) (tg s) CB.nil;refine bZ.aK (fr':=(.sl 3 (s.map It.awa)::.sl 3 (t.map It.awa)::uu 9 (.mp J.length::uu 38 (.sl 3 ((tg s).map It.awa)::.I (tg s).length::.I (([]:List It).length:Nat)::uu 37 [])))) (by repeat' constructor) ((tg s).length+1) (Jr s t (tg s) e (by omega) (tg s) [] [] 0 rfl CB.nil (by omega) ?_);simp only[JE];intros;simp only[↓IT,VV,seval];refine aw (Dq t (by omega) _) rfl ?_;simp only[ag,↓IT,VV,seval];refine bZ.aK (fr':=(.sl 3 (s.map It.awa)::.sl 3 (t.map It.awa)::uu 9 (.mp J.length::uu 52 (.sl 3 ((tg t).map It.awa)::.I (tg t).length::.I (([]:List It).length:Nat)::uu 23 [])))) (by repeat' constructor) ((tg t).length+1) (Jq s t (tg t) e (by omega) (tg t) [] _ _ rfl u (by omega) ?_);simp only[JE];intros;simp only[↓IT,VV,seval];have w:=C5 (C:=oE s t) (⟨0,[],0⟩,0);refine bZ.aK (fr':=(.sl 3 (s.map It.awa)::.sl 3 (t.map It.awa)::uu 76 (.it (J.length+1)::uu 11 []))) (by repeat' constructor) ((emap uv fZ (oE s t)).length+1) (Jp s t (oE s t) (⟨0,[],0⟩,0) _ (List.range (emap uv fZ (oE s t)).length) none (by simp) (by simp[emap]) (λh F l=>?_) (λp q h F l=>?_))
 .have m:ky (oE s t)=true:=w.2 λp q=>h p (by simpa[emap]using q);rw[m,cc]at i;simp only[JE];intros;simp only[↓IT,VV,seval];refine aw (Ap s (by omega) _) rfl ?_;simp only[↓IT,VV,seval];refine aw (Ap t (by omega) _) rfl ?_;simp only[↓IT,VV,seval];refine aw (zJ (iH s) (iH t) _) rfl ?_;simp only[↓IT,VV,seval];exact bg e (.inr rfl) (by simp only[RS,seval];rfl) (by simp only[LW]) ⟨by rw[i];rfl,rfl⟩
 .have m:ky (oE s t)=false:=Bool.eq_false_iff.2 λE=>h (w.1 E p (by simpa[emap]using q));rw[m,dR]at i;simp only[JE];intros;simp only[↓IT,VV,seval];exact d i rfl

set_option maxHeartbeats 1000000
def vZ(e:En)(src:List It):(nK e src).length<=e.awf.length:=by
 have a:=(pd (awv e.awf ((kI e.awc src).map (·.1)) ((kI e.awc src).map (·.2)))).2;have b:=tE e.awf ((kI e.awc src).map (·.1)) ((kI e.awc src).map (·.2));simp only[nK,rename];omega
def Wd(e:En)(src:List It):V:=.iQ [.sl 3 ((jY e src).1.map It.awa),.b (jY e src).2]
def KP(e:En)(src:List It)(h1:e.awc.length<2^29)(i:e.awf.length<2^29)(d:bd e.awf<2^40)(a:src.length<2^29)(J:ak):
  bM prog 37 [.agg e.awa,.sl 3 (src.map It.awa)] J (Wd e src):=by
 refine aZ func37 p37.2 λc f=>au ?_;have g:=vZ e src;simp only[p37,SS,seval];simp only[En.awa,↓IT,VV,seval];refine aw (ND e.awc src h1 a _) rfl ?_;simp only[↓IT,VV,seval];refine aw (Bx e.awf ((kI e.awc src).map (·.1)) ((kI e.awc src).map (·.2)) (by omega) d _) rfl ?_;simp only[↓IT,VV,seval];refine aw (xB src (nK e src) a (by omega) _) rfl ?_;simp only[↓IT,VV,seval];refine⟨λh=>?_,λh=>?_⟩
 .have h:jN src (nK e src)=false:=by simpa using h
  exact kb (ys:=[.sl 3 [],.b false]) c (.inr rfl) (by simp only[RS,seval]) (.cons (.nil _) (.cons (.refl _) .nil)) (by simp[LW]) ⟨by simp[Wd,jY,h];rfl,rfl⟩
 .have h:jN src (nK e src)=true:=by simpa using h
  exact bg c (.inr rfl) (by simp only[RS,seval];rfl) (by simp[LW]) ⟨by simp only[Wd,jY,h,aT];rfl,rfl⟩
def Gs{e:En}{h:List It}(a:(jY e h).2=true):jN h (jY e h).1=true:=by
 unfold jY at a |-;split
 .assumption
 .rename_i b;rw[an b]at a;cases a

set_option maxHeartbeats 4000000
def YN(g:Nat)(l:bH):Ob:=.row 3 1 8 g true (l.map bV)
def aam{J:ak}{K:bl}(A:cn J)(a:List It)(xs:bH)(i:Nat)(b:List It)(F:b.length<2^29)(n:Int)(D:gj (xs.map bV) i 0=some (.I n))(hi:i<xs.length)(x:It)(ys fr c:bH)(d gt:Nat)(L:ys.length<2^30)(H:fr.length<2^40)(E:c.length<2^40):∀(rest pre:bH),ys=pre++rest ->
  (rest.find? (λm=>!c.contains m&&vB b x m)=none->((fh (.sl 3 (a.map It.awa)) (fh (.sl 3 (b.map It.awa)) (fj 4 (fh (.own J.length d) (fh (.own (J.length+1) gt) (fh (.sl 1 (xs.map bV)) (fh (.sl 1 (ys.map bV)) (fj 9 (fh (.I xs.length) (fh (.I i) (fj 58 fo))))))))))) λv=>K (.exit 2) ⟨v,J++[jL d fr,YN gt c,.box 61 x.awa]⟩)) ->
  (∀m,rest.find? (λm=>!c.contains m&&vB b x m)=some m->∀y,((fh (.sl 3 (a.map It.awa)) (fh (.sl 3 (b.map It.awa)) (fj 4 (fh (.own J.length (d+1)) (fh (.own (J.length+1) (gt+1)) (fh (.sl 1 (xs.map bV)) (fh (.sl 1 (ys.map bV)) (fj 9 (fh (.I xs.length) (fh (.I i) (fj 58 fo))))))))))) λv=>K (.exit 2) ⟨v,J++[jL (d+1) (fr++[n]),YN (gt+1) (c++[m]),.box 61 x.awa,y]⟩)) ->
  fm J.length prog My K (rest.length+1) ⟨(.sl 3 (a.map It.awa)::.sl 3 (b.map It.awa)::uu 4 (.own J.length d::.own (J.length+1) gt::.sl 1 (xs.map bV)::.sl 1 (ys.map bV)::.I i::.ptr (J.length+2) 0::uu 7 (.I xs.length::.I i::uu 9 (.I ys.length::.I pre.length::uu 47 [])))),J++[jL d fr,YN gt c,.box 61 x.awa]⟩:=by
 intro rest
 induction rest with
 |nil =>
  intro pre k g f;have q:decide ((pre.length:Int)<(ys.length:Int))=false:=by rw[k];simp
  refine ar λR l=>?_;simp only[My,q,↓IT,VV,seval];exact g rfl ..
 |cons m rest ih =>
  intro pre k g f;have G:pre.length<ys.length:=by rw[k];simp
  have q:decide ((pre.length:Int)<(ys.length:Int))=true:=by simp;omega
  have r:gj (ys.map bV) pre.length 0=some (.I m):=by rw[k];exact l5
  have z:=dh pre m (by omega)
  have o:(0:Int)<=(pre.length:Int)/\(pre.length:Int)<(ys.length:Int):=by omega
  have C:(0:Int)<=(i:Int)/\(i:Int)<(xs.length:Int):=by omega
  have okF:(fr.length+1)*8<=2^47/\fr.length+1<=maxLen:=by simp[maxLen];omega
  have w:(c.length+1)*8<=2^47/\c.length+1<=maxLen:=by simp[maxLen];omega
  have u:cn (J++[jL d fr,YN gt c,.box 61 x.awa]):=cC A (by simp[jL,YN,It.awa,LW]);rw[ng]at g f
  have e:∀{s:Ob} {R:ca} {t:aB},(!c.contains m&&vB b x m)=false->(∀j,fm J.length prog My K (rest.length+1) j->R j) ->
    oJ t (.sl 3 (a.map It.awa)::.sl 3 (b.map It.awa)::uu 4 (.own J.length d::.own (J.length+1) gt::.sl 1 (xs.map bV)::.sl 1 (ys.map bV)::.I i::.ptr (J.length+2) 0::uu 7 (.I xs.length::.I i::uu 9 (.I ys.length::.I (pre++[m]).length::uu 47 []))))->R ⟨t,J++([jL d fr,YN gt c,.box 61 x.awa]++[s])⟩:=by
   intro s R t h l p;rw[h]at g f;refine l _ (cG [_,_,_] [s] u p ?_ (ih (pre++[m]) (by rw[k];simp) g f));simp only[LW,ai,al,aY];omega
  refine ar λR l=>?_;simp only[My,jL,YN,It.awa,q,r,ag,ao,↓IT,VV,seval];refine⟨o,?_⟩;refine aw (IP b m (by omega) _) rfl ?_;simp only[It.awa,r,ag,ao,↓IT,VV,seval];refine⟨o,?_⟩;refine aw (PC.fzs (J.length+1) (by simp only[qv];rfl) (Qa c m _) (by simp only[aH,bR,ev,aR,aA,fz,oa,jx,aT])) rfl ?_;cases p:c.contains m with
  |true =>
   simp only[It.awa,z,↓IT,VV,seval];exact e (by rw[p];rfl) l (by repeat' constructor)
  |false =>
   have B:(x.awb==(fE b m).awb&&x.awd==(fE b m).awd)=vB b x m:=rfl;simp only[It.awa,r,D,z,B,ag,ao,↓IT,VV,seval];refine⟨λh=>⟨C,o,okF,o,w,?_⟩,λh=>?_⟩
   .simp only[p,h,iw,uQ]at f;rw[nF,nF];exact f m rfl _ ..
   .exact e (by rw[h,gB]) l (by repeat' constructor)
def aal{J:ak}{K:bl}(j:cn J)(a b:List It)(x:a.length<2^29)(q:b.length<2^29)(xs ys:bH)(w:xs.length<2^30)(t:ys.length<2^30):∀(rest pre:bH) (fr c:bH) (d gt:Nat),xs=pre++rest->fr.length<=pre.length->c.length<=pre.length ->
  (∀d gt,((fj 6 (fh (.own J.length d) (fh (.own (J.length+1) gt) (fj 71 fo)))) λr=>K (.exit 0) ⟨r,J++[jL d (fr++(wM a b ys rest c).map (·.1)),YN gt (c++(wM a b ys rest c).map (·.2))]⟩)) ->
  fm J.length prog U2 K (rest.length+1) ⟨(.sl 3 (a.map It.awa)::.sl 3 (b.map It.awa)::uu 4 (.own J.length d::.own (J.length+1) gt::.sl 1 (xs.map bV)::.sl 1 (ys.map bV)::uu 9 (.I xs.length::.I pre.length::uu 58 []))),J++[jL d fr,YN gt c]⟩:=by
 intro rest
 induction rest with
 |nil =>
  intro pre fr c d gt g u p f;have i:decide ((pre.length:Int)<(xs.length:Int))=false:=by rw[g];simp
  simp only[wM,bR,bL]at f;refine ar λR k=>?_;simp only[U2,i,↓IT,VV,seval];exact f d gt ..
 |cons n rest ih =>
  intro pre fr c d gt g u p f;have s:pre.length<xs.length:=by rw[g];simp
  have i:decide ((pre.length:Int)<(xs.length:Int))=true:=by simp;omega
  have l:gj (xs.map bV) pre.length 0=some (.I n):=by rw[g];exact l5
  have o:=dh pre n (by omega)
  have v:(0:Int)<=(pre.length:Int)/\(pre.length:Int)<(xs.length:Int):=by omega
  refine ar λR k=>?_;simp only[U2,jL,YN,i,l,ag,ao,↓IT,VV,seval];refine⟨v,?_⟩;refine aw (IP a n (by omega) _) rfl ?_;simp only[It.awa,ag,↓IT,VV,seval];refine bZ.aK (fr':=(.sl 3 (a.map It.awa)::.sl 3 (b.map It.awa)::uu 4 (.own J.length d::.own (J.length+1) gt::.sl 1 (xs.map bV)::.sl 1 (ys.map bV)::.I pre.length::.ptr (J.length+2) 0::uu 7 (.I xs.length::.I pre.length::uu 9 (.I ys.length::.I (([]:bH).length:Nat)::uu 47 []))))) (by repeat' constructor) (ys.length+1) (aam j a xs pre.length b q n l s (fE a n) ys fr c d gt t (by omega) (by omega) ys [] rfl ?_ ?_)
  .intro h;have e:wM a b ys (n::rest) c=wM a b ys rest c:=by simp only[wM,h]
   rw[e]at f;simp only[JE];intros;simp only[jL,YN,o,↓IT,VV,seval];refine k _ (cG [_,_] [_] (cC j (by simp[LW])) ?_ ?_ (ih (pre++[n]) fr c d gt (by rw[g];simp) (by simp;omega) (by simp;omega) f))
   .repeat' constructor
   .simp only[LW,ai,al,aY];omega
  .intro m h y;have e:wM a b ys (n::rest) c=(n,m)::wM a b ys rest (c++[m]):=by simp only[wM,h]
   rw[e]at f;simp only[JE];intros;simp only[jL,YN,o,↓IT,VV,seval];refine k _ (cG [_,_] [_,_] (cC j (by simp[LW])) ?_ ?_ (ih (pre++[n]) (fr++[n]) (c++[m]) (d+1) (gt+1) (by rw[g];simp) (by simp;omega) (by simp;omega) ?_))
   .repeat' constructor
   .simp only[LW,ai,al,aY];omega
   .simpa only[aH,bk,fI]using f
def WZ(a b:List It)(g:a.length<2^29)(f:b.length<2^29)(J:ak):bM prog 87 [.sl 3 (a.map It.awa),.sl 3 (b.map It.awa)] J (.iQ [.sl 1 (((kI a b).map (·.1)).map bV),.sl 1 (((kI a b).map (·.2)).map bV)]):=by
 refine aZ func87 p87.2 λc h=>au ?_;have i:=jE a;have j:=jE b;simp only[p87,SS,seval];simp only[VV,seval];refine aw (rJ a (by omega) _) rfl ?_;simp only[VV,seval];refine aw (rJ b (by omega) _) rfl ?_;simp only[ag,VV,seval];refine bZ.wk (((Wk.ij (k:=6) tI rfl).trans ((Wk.jA [_] (k:=7) tI rfl).trans (Wk.share (id:=J.length+1) (by simp only[qv];rfl)))).trans (Wk.fg (ys:=(.sl 3 (a.map It.awa)::.sl 3 (b.map It.awa)::uu 4 (.own J.length 0::.own (J.length+1) 0::.sl 1 ((awm a).map bV)::.sl 1 ((awm b).map bV)::uu 9 (.I (awm a).length::.I (([]:bH).length:Nat)::uu 58 [])))) ?_)) ?_
 .simp only[ai,al,VV,seval]
  repeat' constructor
 .rw[ub];refine bZ.uh ((awm a).length+1) (aal c a b g f (awm a) (awm b) (by omega) (by omega) (awm a) [] [] [] 0 0 rfl (aD _) (aD _) ?_)
  have e:wM a b (awm b) (awm a) []=kI a b:=by
   rw[IZ a b _ (Ci b),kI];congr 1;exact kg.2 λx _=>rfl
  rw[e];intro d gt;simp only[JE];intros;simp only[bc,VV,seval];refine fH (xs:=[.own J.length d,.own (J.length+1) gt]) (xs':=[.sl 1 (((kI a b).map (·.1)).map bV),.sl 1 (((kI a b).map (·.2)).map bV)]) (.inr rfl) (by simp only[RS,seval]) ((Wk.rZ 0 rfl).trans ((Wk.rZ 1 rfl).trans ((Wk.fg ?_).trans (Wk.vN c (by simp only[LW]))))) rfl ⟨rfl,rfl⟩;simp[fz,oa]
  repeat' constructor
def Qc(e:En)(src:List It)(h1:e.awc.length<2^29)(k:e.awf.length<2^29)(f:bd e.awf<2^40)(d:src.length<2^29)(J:ak):
  bM prog 38 [.agg e.awa,.sl 3 (src.map It.awa)] J (Wd e src):=by
 refine aZ func38 p38.2 λc i=>au ?_;have j:=vZ e src
 have g:(kI e.awc src).length<=(awm e.awc).length:=by
  have a:∀(l left:bH),(jR e.awc src l left).length<=l.length:=by
   intro l
   induction l with
   |nil=>intro _;exact aD _
   |cons n l ih =>
    intro left;simp only[jR];split
    .have:=ih left;simp only[ai];omega
    .have:=ih (left.erase ‹_›);simp only[ai];omega
  exact a _ _
 have m:=jE e.awc;simp only[p38,SS,seval];simp only[En.awa,↓IT,VV,seval];refine aw (WZ e.awc src h1 d _) rfl ?_;simp only[↓IT,VV,seval];refine aw (tF e.awf ((kI e.awc src).map (·.1)) ((kI e.awc src).map (·.2)) (by omega) f (by rw[ag];omega) _) rfl ?_;simp only[↓IT,VV,seval];refine aw (qA src (nK e src) d (by omega) _) rfl ?_;simp only[↓IT,VV,seval];refine⟨λh=>?_,λh=>?_⟩
 .have h:jN src (nK e src)=false:=by simpa using h
  exact kb (ys:=[.sl 3 [],.b false]) c (.inr rfl) (by simp only[RS,seval]) (.cons (.nil _) (.cons (.refl _) .nil)) (by simp[LW]) ⟨by simp[Wd,jY,h];rfl,rfl⟩
 .have h:jN src (nK e src)=true:=by simpa using h
  exact bg c (.inr rfl) (by simp only[RS,seval];rfl) (by simp[LW]) ⟨by simp only[Wd,jY,h,aT];rfl,rfl⟩

set_option maxHeartbeats 2000000
set_option maxRecDepth 8000
structure afJ (e:En):Prop where
 awc:e.awc.length<2^29
 awf:e.awf.length<2^29
 awd:bd e.awf<2^40
def UA(e:En)(h:List It):(jY e h).1.length<=e.awf.length:=by
 have:=vZ e h;unfold jY;split
 .exact this
 .exact fA _
def adE{S:ak}{n0:Nat}{K:bl}(f g:List It)(A:f.length<2^29)(s:g.length<2^29)(m:List En)(i:Int)(z:Nat)(x:En)(d:afJ x)(k:S[z]?=some (.box 37 x.awa)):∀(rest pre:List (List It)),[f,g]=pre++rest ->
  ((fj 1 (fh (.sl 3 (f.map It.awa)) (fj 7 (fh (.sl 3 (g.map It.awa)) (fj 47 (fh (.sl 8 (m.map En.awa)) (fh (.I m.length) (fh (.I i) (fj 42 fo))))))))) λy=>K (.exit 2) ⟨y,S⟩) ->
  fm n0 prog ZV K (rest.length+1) ⟨(uu 1 (.sl 3 (f.map It.awa)::uu 7 (.sl 3 (g.map It.awa)::uu 1 (.ptr z 0::uu 45 (.sl 8 (m.map En.awa)::.I m.length::.I i::uu 5 (.agg [.sl 3 (f.map It.awa),.sl 3 (g.map It.awa)]::.I pre.length::uu 35 [])))))),S⟩:=by
 intro rest
 induction rest with
 |nil =>
  intro pre e j;have q:pre.length=2:=by have:=congrArg List.length e;simpa using this.symm
  have n:decide ((pre.length:Int)<2)=false:=by rw[q];rfl
  refine ar λR p=>?_;simp only[ZV,n,V.pure,↓IT,VV,seval];exact j ..
 |cons h rest ih =>
  intro pre e j;have q:pre.length+(rest.length+1)=2:=by have:=congrArg List.length e;simpa using this.symm
  have a:=dh pre h (by omega)
  have n:decide ((pre.length:Int)<2)=true:=by simp;omega
  have r:([V.sl 3 (f.map It.awa),.sl 3 (g.map It.awa)]:aB).getD pre.length .u=.sl 3 (h.map It.awa):=by
   have B:([f,g].map λl=>V.sl 3 (l.map It.awa))[pre.length]?=some (.sl 3 (h.map It.awa)):=by rw[e];simp
   have w:([V.sl 3 (f.map It.awa),.sl 3 (g.map It.awa)]:aB)[pre.length]?=some (.sl 3 (h.map It.awa)):=B;rw[aq,w];rfl
  have o:h.length<2^29:=by
   have:h∈[f,g]:=by rw[e];simp
   rcases bC.1 this with rfl|this
   .exact A
   .rw[cv.1 this];exact s
  have D:=UA x h;have E:=d.awf;simp only[En.awa]at k;refine ar λR p=>?_;simp only[ZV,n,r,k,a,ao,V.pure,↓IT,VV,seval];refine⟨⟨by omega,by omega⟩,?_⟩;refine aw (KP x h d.awc d.awf d.awd o _) (by simp only[En.awa,VV,seval]) ?_;simp only[Wd,k,a,V.pure,↓IT,VV,seval];refine aw (Qc x h d.awc d.awf d.awd o _) (by simp only[En.awa,VV,seval]) ?_;simp only[Wd,k,a,V.pure,↓IT,VV,seval];have C:gL (jY x h).1 (jY x h).1=true:=sW.2 rfl;refine bB (c:=true) (by simp only[lA,VV,seval]<;>rfl) (λ_=>nz _ _ _) rfl ?_;rw[C];cases t:(jY x h).2 with
  |false =>
   simp only[lA,a,↓IT,VV,seval];refine bB (c:=false) (v:=.b false) (by simp only[VV,seval]<;>rfl) (nofun) rfl ?_;simp only[a,↓IT,VV,seval];exact p _ (aK (by repeat' constructor) (ih (pre++[h]) (by rw[e];simp) j))
  |true =>
   simp only[lA,a,↓IT,VV,seval];refine bB (c:=true) (by simp only[VV,seval]<;>rfl) (λ_=>qA h (jY x h).1 o (by omega) _) rfl ?_;rw[Gs t];simp only[a,↓IT,VV,seval];exact p _ (aK (by repeat' constructor) (ih (pre++[h]) (by rw[e];simp) j))
def adD{S:ak}{n0:Nat}(m:n0<=S.length)(n:cn S){K:bl}(f g:List It)(k:f.length<2^29)(l:g.length<2^29)(a:List En)(s:a.length<2^20)(o:∀e∈a,afJ e):∀(rest pre:List En),a=pre++rest ->
  ((fj 102 fo) λp=>K (.exit 0) ⟨p,S⟩) ->
  fm n0 prog adq K (rest.length+1) ⟨(uu 1 (.sl 3 (f.map It.awa)::uu 7 (.sl 3 (g.map It.awa)::uu 47 (.sl 8 (a.map En.awa)::.I a.length::.I pre.length::uu 42 [])))),S⟩:=by
 intro rest
 induction rest with
 |nil =>
  intro pre b d;have c:decide ((pre.length:Int)<(a.length:Int))=false:=by rw[b];simp
  refine ar λR j=>?_;simp only[adq,c,V.pure,↓IT,VV,seval];exact d ..
 |cons e rest ih =>
  intro pre b d;have r:=mT b
  have h:=dh pre e (by omega)
  have i:(List.map En.awa a).getD pre.length []=e.awa:=by rw[b];exact um
  have c:decide ((pre.length:Int)<(a.length:Int))=true:=by simp;omega
  have q:(0:Int)<=(pre.length:Int)/\(pre.length:Int)<(a.length:Int):=by omega
  simp only[En.awa]at i;refine ar λR j=>?_;simp only[adq,i,c,h,ag,ao,V.pure,↓IT,VV,seval];refine⟨q,?_⟩;refine bZ.aK (fr':=(uu 1 (.sl 3 (f.map It.awa)::uu 7 (.sl 3 (g.map It.awa)::uu 1 (.ptr S.length 0::uu 45 (.sl 8 (a.map En.awa)::.I a.length::.I pre.length::uu 5 (.agg [.sl 3 (f.map It.awa),.sl 3 (g.map It.awa)]::.I (([]:List (List It)).length:Nat)::uu 35 []))))))) (by repeat' constructor) 3 (adE f g k l a pre.length S.length e (o e (by rw[b];simp)) (by simp[En.awa]) [f,g] [] rfl ?_);simp only[JE];intros;simp only[h,↓IT,VV,seval];refine j _ (ny m n ?_ ?_ (ih (pre++[e]) (by rw[b];simp) d))
  .repeat' constructor
  .simp only[LW]
def Z9{J:ak}{b:Ob}{l:bH}:J++[b,.box 31 [.sl 1 (l.map bV),.I 0]]=gT (J++[b,.dead]) (J.length+1) l 0:=by
 simp[gT]
def adL:bH:=[9,3,7,5,11,30,2,8,4]
def aeY{e:En}{k:Nat}(a:k<=20)(h:pL k e):afJ e:=by
 have:=h.jr;have:=h.uk;have:=h.rv;exact⟨by omega,by omega,by omega⟩
set_option maxRecDepth 20000 in
def Jm(u:∀J:ak,bM prog 12 [] J (.b true))(e:En)(f:List It)(C:acq e)(U:f.length+bd f<=1048576)(l:bH)(J:ak):bM prog 9 [.agg e.awa,.sl 3 (f.map It.awa),.sl 1 (l.map bV)] J (.b true):=by
 refine aZ func9 p9.2 λp L=>?_;have G:=C.awc;have O:=C.awf;have t:afJ e:=⟨by omega,by omega,by omega⟩;simp only[p9,SS,seval];refine bZ.cut λR a=>?_;simp only[En.awa,VV,seval];refine a _ (bZ.fg (fr':=(uu 1 (.sl 3 (f.map It.awa)::.sl 1 (l.map bV)::.ptr J.length 0::uu 98 []))) ?_ (by repeat' constructor));clear a R;refine bZ.cut λR a=>?_;simp only[V.pure,VV,seval];refine cD (PC.wk (args':=[.sl 1 ([e.awc,e.awf,f].map RR)]) (Wk.fg (.cons (.lit _ _) .nil)) (aaF [e.awc,e.awf,f] (by simp) (by simp;omega) _)) rfl ?_;rintro _ _ ⟨b,rfl,rfl⟩
 have n:∀{d:aB},oJ d (uu 1 (.sl 3 (f.map It.awa)::.sl 1 (l.map bV)::.ptr J.length 0::uu 98 []))->R ⟨d,J++[.box 37 e.awa]⟩:=by
  intro d o;refine a _ (bZ.fg ?_ o);clear a R o;refine bZ.cut λR a=>?_;simp only[V.pure,VV,seval];refine a _ (bZ.fg (fr':=(uu 1 (.sl 3 (f.map It.awa)::uu 1 (.ptr J.length 0::uu 3 (.ptr (J.length+1) 0::uu 94 []))))) ?_ (by repeat' constructor));clear a R;rw[Z9];refine bZ.cut λR a=>?_;simp only[V.pure,VV,seval];refine cD (vM _ (J.length+1) (by simp) l 0 (by decide) 2 (by decide)) rfl ?_;rintro _ _ ⟨c,D,rfl,B,P,Z,rfl⟩;simp only[V.pure,VV,seval];refine a _ (bZ.fg (fr':=(uu 1 (.sl 3 (f.map It.awa)::uu 1 (.ptr J.length 0::uu 3 (.ptr (J.length+1) 0::.sl 8 (c.map En.awa)::uu 93 []))))) ?_ (by repeat' constructor));clear a R;refine bZ.cut λR a=>?_;simp only[V.pure,VV,seval];refine cD (abI _ (J.length+1) (by simp) l D (by omega) 5 (by decide)) rfl ?_;rintro _ _ ⟨A,q,rfl,Q,X,S,rfl⟩;simp only[V.pure,VV,seval];have K:gT (J++[.box 37 e.awa,.dead]) (J.length+1) l q=J++[.box 37 e.awa,.box 31 [.sl 1 (l.map bV),.I q]]:=by simp[gT]
  rw[K];refine a _ (bZ.fg (fr':=(uu 1 (.sl 3 (f.map It.awa)::uu 1 (.ptr J.length 0::uu 4 (.sl 8 (c.map En.awa)::.sl 3 (A.map It.awa)::uu 92 []))))) ?_ (by repeat' constructor));clear a R;refine bZ.cut λR a=>?_
  have j:∀(g:List It) {d:aB},g.length<2^29->oJ d (uu 1 (.sl 3 (f.map It.awa)::uu 1 (.ptr J.length 0::uu 4 (.sl 8 (c.map En.awa)::.sl 3 (g.map It.awa)::uu 92 []))))->R ⟨d,J++[.box 37 e.awa,.box 31 [.sl 1 (l.map bV),.I q]]⟩:=by
   intro g d F o;refine a _ (bZ.fg ?_ o);clear a R o;refine bZ.cut λR a=>?_;simp only[En.awa,ag,V.pure,↓IT,VV,seval];refine⟨⟨by omega,by unfold maxLen;omega⟩,⟨by omega,by unfold maxLen;omega⟩,?_⟩;have H:c.map En.awa++[[V.sl 3 (e.awc.map It.awa),.sl 3 (e.awf.map It.awa),.s e.bU,.s e.next,.s e.c8,.s e.cA,.I e.awh,.I e.awq]]=(c++[e]).map En.awa:=by simp[En.awa]
   have v:c.length+1=(c++[e]).length:=by simp
   have z:cn (J++[.box 37 e.awa,.box 31 [.sl 1 (l.map bV),.I q],.row 37 8 128 1 true ((c++[e]).map En.awa)]):=cC p (by simp[En.awa,LW]);simp only[En.awa]at z;rw[H];refine bZ.wk ((Wk.rZ 2 (E:=37) (sz:=8) (by':=128) (g:=1) (sh:=false) (rows:=(c++[e]).map En.awa) rfl).trans (Wk.fg (ys:=(uu 1 (.sl 3 (f.map It.awa)::uu 7 (.sl 3 (g.map It.awa)::uu 47 (.sl 8 ((c++[e]).map En.awa)::.I (c++[e]).length::.I (([]:List En).length:Nat)::uu 42 []))))) ?_)) ?_
   .simp only[<- v,aj,ag,ai,al,aH,bR,fz,oa,jx,aT,VV,seval]
    repeat' constructor
   .refine bZ.uh ((c++[e]).length+1) (adD (by simp) z f g (by omega) F (c++[e]) (by simp;omega) (λx m=>?_) (c++[e]) [] rfl ?_)
    .rcases bP.1 m with m|m
     .exact aeY (by omega) (B x m)
     .rw[cv.1 m];exact t
    .simp only[JE];intros;simp only[VV,seval];refine a _ (bZ.fg (fr':=(uu 102 [])) (au ?_) (by repeat' constructor));clear a R;simp only[V.pure,VV,seval];refine aw (u _) rfl ?_;simp only[VV,seval];exact gq p (by rfl) (by simp[LW])
  simp only[ag,V.pure,VV,seval];refine⟨λh=>?_,λh=>j A (by omega) (by repeat' constructor)⟩
  obtain⟨x,r,w⟩:∃x r,c=x::r:=by
   cases c with
   |nil=>simp at h
   |cons x r=>exact⟨x,r,rfl⟩
  have k:=B x (by rw[w];simp);have T:=k.jr;have N:=k.ie;have Y:=jE x.awc;have M:=pd (awv x.awc (awm x.awc) adL);have W:=tE x.awc (awm x.awc) adL;have i:(0:Int)<(c.length:Int):=by simpa using h
  have y:gj (List.map En.awa c) 0 0=some (.sl 3 (x.awc.map It.awa)):=by rw[w];rfl
  simp only[y,V.pure,↓IT,VV,seval];refine⟨by first|exact i|(rw[ag];exact i),by first|exact i|(rw[ag];exact i),?_⟩;refine aw (rJ x.awc (by omega) _) rfl ?_;simp only[y,ag,V.pure,↓IT,VV,seval];refine⟨by first|exact i|(rw[ag];exact i),?_⟩;refine ml (zs:=[.sl 3 (x.awc.map It.awa),.sl 1 ((awm x.awc).map bV),.sl 1 (adL.map bV)]) (.cons (.refl _) (.cons (.refl _) (.cons (.lit _ _) .nil))) (tF x.awc (awm x.awc) adL (by omega) (by omega) (by omega) _) ?_;simp only[V.pure,↓IT,VV,seval];exact j _ (show(awl (awv x.awc (awm x.awc) adL)).length<2^29 by omega) (by repeat' constructor)
 cases b
 .simp only[V.pure,VV,seval];refine aw (u _) rfl ?_;simp only[VV,seval];exact gq p (by rfl) (by simp[LW])
 .simp only[V.pure,VV,seval];refine⟨λ_=>?_,λ_=>n (by repeat' constructor)⟩;refine aw (u _) rfl ?_;simp only[VV,seval];exact gq p (by rfl) (by simp[LW])
open Go.ChangeShapes Go.WideShapes Go.ChangeAt Go.RowKit Go.Proofs.YtlakkaamfadipaaGreatDoor
set_option maxRecDepth 20000 in
def Yx{H:Type}{enc:TypeId×Value->H}{W:bD}{r:Reach}{base:Nat}{v:Value}{d:DataW H}{p:List MemPlace}(μ:Mem)(j:Value.okWide prog W r base 22 v)(c:DataW.Trod enc prog W 0 (λ_=>true) true 22 v d p)(i:Rows.uptoBulk d<=1048576):
  ∃f:List It,VR W [] μ (.sl 3 (f.map It.awa)) v/\f.length+bd f<=1048576:=by
 obtain⟨b,a⟩:=c;obtain⟨k,len,h,rfl⟩:=okWide_slice underlying22 j;rw[Gz]at a;obtain⟨f,g,e,_⟩:=CM μ a;exact⟨f,g,cu e i⟩
def Jl(e:En)(f:List It)(c:acq e)(a:f.length+bd f<=1048576)(l:bH)(J:ak):bM prog 9 [.agg e.awa,.sl 3 (f.map It.awa),.sl 1 (l.map bV)] J (.b true) :=
 Jm qO e f c a l J
end Go.Proofs.Tryz

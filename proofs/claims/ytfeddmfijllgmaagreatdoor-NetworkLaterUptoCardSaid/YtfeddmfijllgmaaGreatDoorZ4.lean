/- Part of a proof. -/
import Derived.Test.YtfeddmfijllgmaaGreatDoorZ3
set_option linter.all false
open Option renaming some->S,none->Y
open Bool renaming true->G,false->Z
open List renaming length->X
namespace Go.Pm
open Go Go.RowKit
variable{U:Mem}{T:ai}{Q R:bF}
def BH(P:bl)(o:Oper)(a:Act)(B:Nat)(w0 w:bF)(J:ai)(μ:Mem)(x:V)(d:ai):Prop :=∃v c b,((execOp a.eval o).run P w=.ok (.value v) c\/((execOp a.eval o).run P w=.ok .skip c/\x=.u))/\kN P B w0 c d b/\VR c d b x v/\qZ w J μ c d b
def qZ.trans{z:ai}{k:Mem}{m:bF}{j:ai}{c:Mem}(p:qZ Q T U R z k)(q:qZ R z k m j c):qZ Q T U m j c:=by
 refine⟨λb o v i f=>?_,cE p.len q.len,λid a L h=>?_,λid K E O h=>?_,λid E D l C J N F h=>?_⟩;.obtain⟨d,g⟩:=p.cell b o v i f;exact q.cell b o v d g
 .obtain⟨⟨x,i⟩,f⟩:=p.box id a L h;obtain⟨d,g⟩:=q.box id a x i;exact⟨d,g.trans f⟩
 .obtain⟨⟨t,i⟩,f⟩:=p.map id K E O h;obtain⟨d,g⟩:=q.map id K E t i;exact⟨d,g.trans f⟩
 obtain⟨w,r,n,i,f,d⟩:=q.row id E D l C J N (gu F p.len) h;obtain⟨B,s,u,g,M,H⟩:=p.row id E D l w r n F i;refine⟨B,s,u,g,cE M f,λe=>?_⟩;have I:w=C:=by omega
 have y:B=w:=by omega
 exact⟨(H y).1.trans (d I).1,(d I).2.trans (H y).2⟩
def Vc{P:bl}{B:Nat}(hS:kN P B Q R T U)(a:Nat)(d:ar)(b:Array Value)(h:CR R T U d b): ∃c,kN P B Q (R.alloc (.cells b a)) (T++[.box a d]) c/\VR (R.alloc (.cells b a)) (T++[.box a d]) c (.ptr (X T) 0) (.pointer (S ⟨R.heap.size,0,Y⟩))/\qZ R T U (R.alloc (.cells b a)) (T++[.box a d]) c:=by
 have g:=hS.w7 (w':=R.alloc (.cells b a)) (.box a d) (.pointer (S ⟨R.heap.size,0,Y⟩)) (World.grownBy_alloc R _ Y) (by simp[l9]) (λi=>by
  refine⟨R.heap.size,b,rfl,hS.base,heap_alloc_new R _,h.1.symm,λj x f=>?_⟩;have e:j<b.size:=by rw[<- h.1];exact(ag.1 f).1
  exact⟨b[j],bZ e,by have:=(h.2 j x f).mono i;simpa[e]using this⟩);exact⟨_,g.1,.ptr _ 0 _ ⟨a,d,by simp⟩ (gy _ _ _),g.2⟩
def u5{f:Type}(l b:List f)(a j:Nat)(h:a+X b<=X l):(l.take a++b++l.drop (a+X b))[j]?=if a<=j/\j<a+X b then b[j - a]? else l[j]?:=by
 have c:X (l.take a)=a:=by simp;omega
 by_cases e:j<a;.rw[ao (by omega),aJ,bc (by omega),cn e]
 by_cases g:j<a+X b;.rw[aO (by omega),bc (by rw[ae,c];omega),bB (by omega),c]
 have d:X (l.take a++b)=a+X b:=by rw[ae,c]
 rw[ao (by omega),bB (by omega),d,dE];congr 1;omega
section PN
variable {P:bl} {o:Oper} {a:Act} {B:Nat} {w0 w:bF} {J:ai} {μ:Mem} {fr:ar} (hF:FR w J μ fr a) (hS:kN P B w0 w J μ)
include hF hS
theorem apH{T:TypeId}{x:Operand}{e:O}(f:o.op=.box T x)(m:cO x=S e){d:Prop}{y:V}{c:ai}(h:dY fr J (.box T e)=S (d,y,c))(g:d):BH P o a B w0 w J μ y c:=by simp only[dY,aa,aY]at h;obtain⟨rfl,rfl,rfl⟩:=h;have l:=nW hS (gx hF m) g;obtain⟨b,j,i,k⟩:=Vc hS T _ _ l.1;exact⟨_,_,b,.inl (by simp[execOp,f,Instr.box,newVar,newRow]),j,i,k⟩
theorem agz{T:TypeId}{t:TypeInfo}{z:Value}{zs:ar}(d:o.op=.alloc T)(i:P.info? T=S t)(l:t.zero=S z)(k:lT z.cells.toList=S zs){g:Prop}{y:V}{c:ai}(h:dY fr J (.alloc T zs)=S (g,y,c)):BH P o a B w0 w J μ y c:=by simp only[dY,aa,aY]at h;obtain⟨_,rfl,rfl⟩:=h;obtain⟨b,f,e,j⟩:=Vc hS T _ _ (oD (w:=w) (J:=J) (μ:=μ) k);exact⟨_,_,b,.inl (by simp[execOp,d,Instr.alloc,zeroValue,typeInfo,i,l,newVar,newRow]),f,e,j⟩
theorem agx{T:TypeId}{t:TypeInfo}{ad x:Operand}{a1 x':O}{I:List (de)}(ho:o.op=.store T ad x)(ht:P.info? T=S t)(ha:cO ad=S a1)(hx:cO x=S x'){ob:Prop}{y:V}{J':ai}(h:dY fr J (.store t.size I a1 x')=S (ob,y,J'))(gE:ob):BH P o a B w0 w J μ y J':=by
 have h1:=gx hF ha;have h2:=gx hF hx;have fY:∀b c (m:Array Value) E,a.eval ad=.pointer (S ⟨b,c,Y⟩)->w.heap[b]?=S (.cells m E (0,0))->(a.eval x).cells.size=t.size->c+(a.eval x).cells.size<=m.size->(∀u∈(a.eval x).cells,u.oneCell'=G) ->
   (execOp a.eval o).run P w=.ok .skip (w.setRow b (m.toList.take c++(a.eval x).cells.toList++m.toList.drop (c+(a.eval x).cells.size)).toArray):=by intro b c m E he M hs hf h1;have nI:=run_storeCells_at P b c E (a.eval x).cells.toList 0 m w M (by simpa using hf) (λv hv=>h1 v (by simpa using hv));simp only[cg,aU]at nI;simp[execOp,ho,he,Instr.storeAt,Instr.sureAddr,storeVar,sizeOf,typeInfo,ht,hs,nI]
 simp only[dY]at h;split at h
 .rename_i id c hp;split at h
  .rename_i T' cs s;simp only[aa,aY]at h;obtain⟨rfl,rfl,rfl⟩:=h;obtain⟨gB,l,oz⟩:=gE;rw[hp]at h1;obtain⟨b,hm,hv,_⟩:=h1.vn;obtain⟨b',W,ac,hB,M,iz,N⟩:=hS.QQ s;rw[hm]at ac;simp only[Value.pointer.injEq,aa,Addr.mk.injEq,dm]at ac;subst ac;obtain⟨hC,IU⟩:=nW hS h2 gB;have C:(a.eval x).cells.size=t.size:=by rw[<- hC.1];exact l
   have hr:=fY b c W T' hv M C (by rw[C,iz];exact oz) IU;have eX:id<X J:=(ag.1 s).1;generalize U:(W.toList.take c++(a.eval x).cells.toList++W.toList.drop (c+(a.eval x).cells.size)).toArray=arr at hr;have H9:=hS.update (w':=w.setRow b arr) (J':=J.set id (.box T' (cs.take c++iE (ev fr x')++cs.drop (c+t.size)))) (μ':=μ) id (S b)
    ⟨rfl,rfl,rfl,by simp,λk _ hk=>setRow_other w b k _ (λe=>hk (by simp[e]))⟩
    (λb2 Q=>⟨_,s,by simp,by simp only[aa]at Q;subst Q;simp[hm,l9]⟩)
    (by simp) (λj R=>bD (λe=>R e.symm)) (λ_ _=>rfl)
    (λb2 Q=>.inl ⟨_,s,by simp,Q⟩)
    (λb2 aE v2 o2 f _ H _ n=>absurd ⟨id,o2,f,H,by rw[s]at f;simp only[aa]at f;subst f;trivial⟩ n)
    (λT2 a7 f=>by rw[s]at f;simp only[aa,Ob.box.injEq]at f;obtain⟨rfl,rfl⟩:=f;exact⟨⟨_,aN eX⟩,rfl⟩)
    (λK E es f=>by rw[s]at f;simp at f)
    (λE d a0 g' sh q _ f=>by simp[eX]at f)
    (λEd o2 f=>by
     simp only[aN eX,aa]at f;subst f;refine⟨b,arr,hm,hB,setRow_heap w b W arr T' (0,0) M,?_,λj y L=>?_⟩;.rw[<- U];simp only[fa,ae,aX,bN,aU];rw[C,iz,l]
     have a6:CR w J μ cs W:=⟨iz.symm,λi z hz=>by obtain⟨u,H,n⟩:=N i z hz;rw[pA M]at H;simpa[cC,H]using n⟩;have vv:=a6.fill hC c (by rw[l];exact oz);rw[l]at vv;obtain⟨e1,e2⟩:=vv;have R:j<arr.size:=by rw[<- U];have:=(ag.1 L).1;simp only[fa,ae,aX,bN,aU];simp only[ae,aX,bN]at this;rw[C,iz];rw[l]at this;exact this
     refine⟨arr[j],bZ R,?_⟩;by_cases au:j<c
     .rw[aJ,bc (by simp;omega),cn au]at L;obtain⟨u,H,n⟩:=N j y L;rw[pA M]at H;have:arr[j]=u:=by
       have p:arr[j]?=S u:=by rw[<- U];simp only[pC];rw[aJ,bc (by simp;omega),cn au];simpa using H
       rw[bZ R]at p;simpa using p
      rw[this];exact n.mono Ed
     by_cases a3:j<c+t.size
     .have Dy:X (cs.take c)=c:=by simp;omega
      rw[bc (by simp only[ae,Dy,l];omega),bB (by omega),Dy]at L;have n:=hC.2 _ y L;have yI:j - c<(a.eval x).cells.size:=by rw[C];omega
      have:arr[j]=(a.eval x).cells.getD (j - c) undef:=by
       have p:arr[j]?=S ((a.eval x).cells.getD (j - c) undef):=by
        rw[<- U];simp only[pC];have Dx:X (W.toList.take c)=c:=by simp;omega
        rw[bc (by simp only[ae,Dx,aU];omega),bB (by omega),Dx];simp[yI]
       rw[bZ R]at p;simpa using p
      rw[this];exact n.mono Ed
     have Dy:X (cs.take c++iE (ev fr x'))=c+t.size:=by rw[ae,l];simp;omega
     rw[bB (by omega),Dy,dE]at L;have e3:c+t.size+(j - (c+t.size))=j:=by omega
     rw[e3]at L;obtain⟨u,H,n⟩:=N j y L;rw[pA M]at H;have:arr[j]=u:=by
      have p:arr[j]?=S u:=by
       rw[<- U];simp only[pC];have Dx:X (W.toList.take c++(a.eval x).cells.toList)=c+t.size:=by simp[C];omega
       rw[bB (by omega),Dx,dE,C,e3];simpa using H
      rw[bZ R]at p;simpa using p
     rw[this];exact n.mono Ed);exact⟨undef,_,μ,.inr ⟨hr,rfl⟩,H9.1,.u _,H9.2⟩
  simp at h
 .rename_i id g i c hp;split at h
  .rename_i E d a0 g' sh q s;split at h
   .rename_i hg;obtain⟨rfl,rfl⟩:=hg;simp only[aa,aY]at h;obtain⟨rfl,rfl,rfl⟩:=h;obtain⟨gB,a5,l,oz,hi⟩:=gE;rw[hp]at h1;obtain⟨_,hv⟩:=h1.M4 s;obtain⟨VD,a9,⟨Ke,hw⟩,dJ,a2⟩:=hS.obj id _ s;rcases hw with⟨_,hn⟩|⟨b,aM,m,hm,hB,M,Ha,zU,N,G5⟩;.omega
    have a8:a.eval ad=.pointer (S ⟨b,i*d+c,Y⟩):=by rw[hv,hm];rfl
    obtain⟨av,IU⟩:=nW hS h2 gB;have hC:=av.eK I;have C:(a.eval x).cells.size=t.size:=by rw[<- av.1];exact l
    have Vv:X (eK I (iE (ev fr x')))=t.size:=by rw[hC.1];exact C
    have bp:(i+1)*d<=X q*d:=bS _ hi;have be:X q*d<=aM*d:=bS _ Ha;have bg:(i+1)*d=i*d+d:=by rw[du,iQ]
    have hr:=fY b (i*d+c) m E a8 M C (by rw[C,N];omega) IU;have eX:id<X J:=(ag.1 s).1;generalize U:(m.toList.take (i*d+c)++(a.eval x).cells.toList++m.toList.drop (i*d+c+(a.eval x).cells.size)).toArray=arr at hr;have Yz:q.getD i []=q[i]:=by simp[hi]
    have af:q[i].length=d:=dJ _ (dQ hi);have zV:∀j,arr.toList[j]?=if i*d+c<=j/\j<i*d+c+t.size then(a.eval x).cells.toList[j - (i*d+c)]? else m.toList[j]?:=by intro j;rw[<- U];have:=u5 m.toList (a.eval x).cells.toList (i*d+c) j (by rw[aU,aU,C,N];omega);rw[aU,C]at this;rw[C];exact this
    have Hi:arr.size=m.size:=by rw[<- U];simp only[fa,ae,aX,bN,aU];rw[C,N];omega
    have H9:=hS.update (w':=w.setRow b arr) (J':=J.set id (.row E d a0 g Z (q.set i ((q.getD i []).take c++eK I (iE (ev fr x'))++(q.getD i []).drop (c+t.size))))) (μ':=μ) id (S b) ⟨rfl,rfl,rfl,by simp,λk _ hk=>setRow_other w b k _ (λe=>hk (by simp[e]))⟩ (λb2 Q=>⟨_,s,by simp,by simp only[aa]at Q;subst Q;simp[hm,l9]⟩) (by simp) (λj R=>bD (λe=>R e.symm)) (λ_ _=>rfl) (λb2 Q=>.inl ⟨_,s,by simp,Q⟩) (λb2 aE v2 o2 f _ H _ n=>absurd ⟨id,o2,f,H,by rw[s]at f;simp only[aa]at f;subst f;intro hf;simp at hf⟩ n) (λT2 a7 f=>by rw[s]at f;simp at f) (λK E es f=>by rw[s]at f;simp at f) (λE2 ba bd g2 bk bi _ f=>by
      simp only[aN eX,aa,Ob.row.injEq]at f;obtain⟨rfl,rfl,rfl,rfl,rfl,rfl⟩:=f;exact⟨g,Z,q,s,aB _,λ_=>⟨by simp,rfl⟩⟩) (λEd o2 f=>by
      simp only[aN eX,aa]at f;subst f;refine⟨VD,arr.toList.take (X q*d),⟨?_,.inr ⟨b,aM,arr,by simpa using hm,hB,setRow_heap w b m arr E (0,0) M,by simpa using Ha,zU,by rw[Hi,N],by simp⟩⟩,?_,?_⟩;.simp only[aX,aU,Hi,N,fw];omega
      .intro r a4;rcases BI a4 with n|n;.exact dJ r n
       rw[n,Yz];simp only[ae,aX,bN,af,Vv];omega
      intro F D y L;obtain⟨r,n,p⟩:=jV L;have IX:F<X q:=by have:=(ag.1 n).1;simpa using this
      by_cases am:F=i
      .subst am;rw[aN hi]at n;simp only[aa]at n;subst n;rw[Yz]at p;have Ng:=u5 q[F] (eK I (iE (ev fr x'))) c D (by rw[Vv,af];exact oz);rw[Vv]at Ng;rw[Ng]at p;have a3:D<d:=by have:=(ag.1 (Ng▸p:_)).1;simp only[ae,aX,bN,af,Vv]at this;omega
       have Ee:F*d+D<X q*d:=by omega
       by_cases hc:c<=D/\D<c+t.size
       .rw[aO hc]at p;refine⟨a5 y (bn p),(a.eval x).cells.getD (D - c) undef,?_,(hC.2 _ y p).mono Ed⟩;rw[cn Ee,zV,aO (by omega)];have e1:F*d+D - (F*d+c)=D - c:=by omega
        have e2:D - c<(a.eval x).cells.size:=by rw[C];omega
        rw[e1];simp[e2]
       rw[ao hc]at p;have dP:gi q F D=S y:=by rw[sG (aA hi)];exact p
       obtain⟨ap,u,h7,h8⟩:=a2 F D y dP;refine⟨ap,u,?_,h8.mono Ed⟩;rw[cn Ee,zV,ao (by omega)];rw[<- G5,cn Ee]at h7;exact h7
      rw[bD (λe=>am e.symm)]at n;have dP:gi q F D=S y:=by rw[sG n];exact p
      obtain⟨ap,u,h7,h8⟩:=a2 F D y dP;have a3:D<d:=by rw[<- dJ r (bn n)];exact(ag.1 p).1
      have Ee:F*d+D<X q*d:=by have:(F+1)*d<=X q*d:=bS _ IX;rw[du,iQ]at this;omega
      refine⟨ap,u,?_,h8.mono Ed⟩;rw[cn Ee,zV,ao ?_];.rw[<- G5,cn Ee]at h7;exact h7
      rintro⟨h9,NX⟩;rcases Nat.lt_or_gt_of_ne am with Rc|Rc;.have:(F+1)*d<=i*d:=bS _ Rc;rw[du,iQ]at this;omega
      have:(i+1)*d<=F*d:=bS _ Rc;rw[du,iQ]at this;omega);exact⟨undef,_,μ,.inr ⟨hr,rfl⟩,H9.1,.u _,H9.2⟩
   simp at h
  simp at h
 simp at h
end PN
def kN.grow{P:bl}{B:Nat}{w0 w:bF}{J:ai}{μ:Mem}(hS:kN P B w0 w J μ){id E a l g:Nat}{f sh':Bool}{i xs':eJ}(c:J[id]?=S (.row E a l g f i)){k:bF}{v':Value}{vals vals':List Value} (R:w.grownBy k (l9 (μ id))) (mP:∀b,l9 v'=S b->l9 (μ id)=S b\/w.heap.size<=b) (t:∀b,l9 (μ id)=S b->∀j u,vals[j]?=S u->k.cell? ⟨b,j,Y⟩=S u) (Ke:vals.length=i.length*a\/f=Z) (m:f=G->∀b,l9 (μ id)=S b->∀j u,w.cell? ⟨b,j,Y⟩=S u->j<i.length*a->vals[j]?=S u) (p:f=G->sh'=G/\i.length<=xs'.length) (H:k.ownsRow B E a v' xs'.length vals') (M:∀D n,rJ w J μ k D n->lU k D n xs' a vals') : kN P B w0 k (J.set id (.row E a l (g+1) sh' xs')) (xX μ id v')/\qZ w J μ k (J.set id (.row E a l (g+1) sh' xs')) (xX μ id v'):=by
 have C:id<J.length:=(ag.1 c).1;refine hS.update id (l9 (μ id)) R (λb r=>⟨_,c,by simp,r⟩) (by simp) (λj v=>bD (λe=>v e.symm)) (λj v=>uf μ id v' j v) ?_ ?_ ?_ ?_ ?_ ?_
 .intro b r;rw[gy]at r;rcases mP b r with h|h;.exact .inl ⟨_,c,by simp,h⟩
  exact .inr h
 .intro b d u o y _ s O L;rw[c]at y;simp only[aa]at y;subst y;have q:¬(f=G->i.length*a<=d):=λq=>L ⟨id,_,c,s,q⟩;have z:f=G:=by cases f with|true=>rfl|false=>exact absurd (λh=>by simp at h) q
  have N:d<i.length*a:=Nat.lt_of_not_le λh=>q λ_=>h;refine⟨t b s d u (m z b s d u O N),λo' F h6=>?_⟩;simp only[aN C,aa]at F;subst F;intro x;have h7:=x (p z).1;have h8:i.length*a<=xs'.length*a:=bS _ (p z).2;omega
 .intro T cs h;rw[c]at h;simp at h
 .intro K E es h;rw[c]at h;simp at h
 .intro E2 I Q g2 W V _ h;simp only[aN C,aa,Ob.row.injEq]at h;obtain⟨rfl,rfl,rfl,rfl,rfl,rfl⟩:=h;exact⟨g,f,i,c,by omega,λe=>by omega⟩
 intro U o h;simp only[aN C,aa]at h;subst h;rw[gy];exact⟨(hS.obj id _ c).1,vals',H,M _ _ U.dX⟩
def VR.qT{w:bF}{J:ai}{μ:Mem}{id E sz by' g:Nat}{sh:Bool}{xs:eJ}(h:J[id]?=S (.row E sz by' g sh xs)):VR w J μ (.own id g) (μ id) := .own id g _ (ag.1 h).1 λi d e f c b a=>by rw[h]at a;simp only[aa,Ob.row.injEq]at a;obtain⟨rfl,rfl,rfl,rfl,rfl,rfl⟩:=a;exact⟨aB _,λ_=>rfl⟩
section PN
variable {P:bl} {o:Oper} {a:Act} {B:Nat} {w0 w:bF} {J:ai} {μ:Mem} {fr:ar} (hS:kN P B w0 w J μ)
include hS
theorem VP{T U E:TypeId}{t:TypeInfo}{z:Value}{x y:Operand}{xV:V}{m:eJ}{news:List Value}(ho:o.op=.call { callee:=.builtin .append,args:=#[x,y],argTypes:=#[T,U] }) (hT:P.underlying T=S (.slice E)) (M:P.info? E=S t) (hz:t.zero=S z) (iz:0<t.size) (pD:z.cells.size=t.size) (K:VR w J μ xV (a.eval x)) (W:Src P w U (a.eval y) t.size m.length news) (H:lU w J μ m t.size news) {ob:Prop} {r:V} {J':ai} (h:BG E t.size t.bytes J xV m=S (ob,r,J')) (R:ob):BH P o a B w0 w J μ r J':=by
 have VD:Ti P E t.size t.bytes:=⟨iz,t,z,M,hz,rfl,rfl,pD⟩;have Kf:∀v w',(Builtin.append_ #[T,U] o.type #[a.eval x,a.eval y]).run P w=.ok v w'->(execOp a.eval o).run P w=.ok (.value v) w':=by intro v w' hr;simp only[execOp,ho,resolve,invoke,builtin,Sem.run_bind,Sem.run_pure,Result.andThen_ok,List.map_toArray,az,aq,hr]
 unfold BG at h;split at h;.
  simp only[aa,aY]at h;obtain⟨rfl,rfl,rfl⟩:=h;have l:=K.nF;obtain⟨v',w',s,p,C,q,L⟩:=wA (ty:=o.type) hT M hz pD W B (.slice Y 0 0) 0 [] (World.ownsRow_nil w B E t.size) (by simpa using R.2) (by simpa using R.1) hS.base;simp only[aP,aw]at p;have D:=hS.w7 (w':=w') (.row E t.size t.bytes 0 Z m) v' C (λb n=>by
   rcases q b n with h6|h6;.simp[l9]at h6
   exact h6) (λhp=>⟨VD,news,p,H.dX hp.dX⟩);refine⟨v',w',_,.inl (Kf _ _ (by rw[l];exact s)),D.1,?_,D.2⟩;have:=VR.qT (w:=w') (J:=J++[.row E t.size t.bytes 0 Z m]) (μ:=xX μ J.length v') (id:=J.length) (E:=E) (sz:=t.size) (by':=t.bytes) (g:=0) (sh:=Z) (xs:=m) (by simp);rwa [gy]at this
 .
  rename_i af xs;split at h
  .rename_i am;subst am;simp only[aa,aY]at h;obtain⟨rfl,rfl,rfl⟩:=h;by_cases O:m=[]
   .subst O;simp only[ju,aR];rcases K.tm with⟨rfl,l⟩|⟨b,a3,f,l,_⟩;.exact⟨_,w,μ,.inl (Kf _ _ (by rw[l];exact rn hT M W Y 0 0 (aB _))),hS,l▸K,qZ.refl _ _ _⟩
    exact⟨_,w,μ,.inl (Kf _ _ (by rw[l];exact rn hT M W _ _ _ (aB _))),hS,l▸K,qZ.refl _ _ _⟩
   have iV:m.isEmpty=Z:=by cases m<;>simp_all
   have Qb:0<m.length:=fb.2 O;simp only[iV,aI,bo];have aE:=B2 hS K (sz:=t.size) (xs:=xs) (by simp[rowsOf]);have ap:∃(ad:Option Addr) (d:List Value),a.eval x=.slice ad xs.length xs.length/\d.length=xs.length*t.size/\((ad=Y/\xs.length=0)\/∃b,ad=S b/\∀j v,d[j]?=S v->w.cell? (b.add j)=S v)/\lU w J μ xs t.size d:=by
    rcases K.tm with⟨rfl,l⟩|⟨b,a3,f,l,Q,hr⟩;.exact⟨Y,[],l,by simp,.inl ⟨rfl,rfl⟩,by simp,by simp[gi]⟩
    rw[l]at aE;obtain⟨vals,s,p,C,q⟩:=aE.cells (λi j y O=>s6 (hr.2.1 i j y O).2.2) hS;exact⟨_,vals,l,s,.inr ⟨_,rfl,p⟩,q⟩
   obtain⟨ad,d,l,EL,a1,a4⟩:=ap;obtain⟨v',w',s,p,C,q⟩:=OI (ty:=o.type) hT M hz pD W B ad xs.length d EL a1 Qb R.2 R.1 hS.base;have D:=hS.w7 (w':=w') (.row E t.size t.bytes 0 Z (xs++m)) v' C q (λhp=>⟨VD,d++news,by rw[ae];exact p,(a4.append H EL).dX hp.dX⟩);refine⟨v',w',_,.inl (Kf _ _ (by rw[l];exact s)),D.1,?_,D.2⟩;have:=VR.qT (w:=w') (J:=J++[.row E t.size t.bytes 0 Z (xs++m)]) (μ:=xX μ J.length v') (id:=J.length) (E:=E) (sz:=t.size) (by':=t.bytes) (g:=0) (sh:=Z) (xs:=xs++m) (by simp);rwa [gy]at this
  simp at h
 .
  rename_i id g;split at h
  .rename_i E' af a0 g' sh xs n;split at h
   .rename_i hc;obtain⟨rfl,rfl,rfl,rfl⟩:=hc;simp only[aa,aY]at h;obtain⟨rfl,rfl,rfl⟩:=h;have l:=K.lP n;obtain⟨_,vals,I,dJ⟩:=hS.obj id _ n;obtain⟨v',w',s,p,C,q,L⟩:=wA (ty:=o.type) hT M hz pD W B (μ id) xs.length vals I R.2 R.1 hS.base;have eX:id<J.length:=(ag.1 n).1;have D:=hS.grow n (sh':=sh) (xs':=xs++m) (v':=v') (vals:=vals) (vals':=vals++news) C q L (.inl I.1) (λ_ b qo j u hc hj=>by
      have au:j<vals.length:=by rw[I.1];exact hj
      have:=I.cells (g:=b) (by
       have:(μ id).ownBlock=l9 (μ id):=by rcases I.2 with⟨Q,_⟩|⟨g,F,ac,Q,_⟩<;>rw[Q]<;>rfl
       rw[this];exact qo) j vals[j] (aA au);rw[Addr.add_lit,aP,hc]at this;simp only[aa]at this;rw[aA au,this]) (λh=>⟨h,by simp⟩) (by rw[ae];exact p) (λJ' a2 k=>(dJ.append H I.1).dX k);refine⟨v',w',_,.inl (Kf _ _ (by rw[l];exact s)),D.1,?_,D.2⟩;have:=VR.qT (w:=w') (J:=J.set id (.row E t.size t.bytes (g+1) sh (xs++m))) (μ:=xX μ id v') (id:=id) (E:=E) (sz:=t.size) (by':=t.bytes) (g:=g+1) (sh:=sh) (xs:=xs++m) (aN eX);rwa [gy]at this
   simp at h
  simp at h
 .
  rename_i id g lo e;split at h
  .rename_i E' af a0 g' sh xs n;split at h
   .rename_i hc;obtain⟨rfl,rfl,rfl,rfl,rfl,rfl⟩:=hc;simp only[aa,aY]at h;obtain⟨rfl,rfl,rfl⟩:=h;obtain⟨_,_,l⟩:=K.tj n;obtain⟨_,vals,I,dJ⟩:=hS.obj id _ n;obtain⟨Ra,VB,qo⟩:=R;have c:w.ownsRow B E t.size (a.eval x) e (vals.take (e*t.size))/\l9 (a.eval x)=l9 (μ id):=by
     have a6:e*t.size<=xs.length*t.size:=bS _ Ra;rcases I with⟨Ke,⟨Q,D⟩|⟨b,F,ac,Q,s,p,C,q,L,h6⟩⟩
     .have h0:e=0:=by omega
      subst h0;rw[l,Q];exact⟨⟨by simp,.inl ⟨rfl,rfl⟩⟩,rfl⟩
     rw[l,Q];have he:nO (.slice (S ⟨b,0,Y⟩) xs.length F) 0 e t.size=.slice (S ⟨b,0,Y⟩) e F:=by simp[nO,Addr.add_lit]
     rw[he];refine⟨⟨by simp only[aX,Ke];omega,.inr ⟨b,F,ac,rfl,s,p,by omega,q,L,?_⟩⟩,rfl⟩;rw[<- h6,mL,fi a6]
    have N:lU w J μ (xs.take e) t.size (vals.take (e*t.size)):=by
     refine⟨λr hr=>dJ.1 r (dB hr),λi j y O=>?_⟩;have a5:gi (List.take (e - 0) (List.drop 0 xs)) i j=S y:=by simpa using O
     have s:=ET a5;rw[aP]at s;obtain⟨hp,u,p,C⟩:=dJ.2 i j y s;refine⟨hp,u,?_,C⟩;obtain⟨r,q,L⟩:=jV O;have aM:i<e:=by have:=(ag.1 q).1;simp at this;omega
     have hj:j<t.size:=by rw[<- dJ.1 r (dB (bn q))];exact(ag.1 L).1
     have:(i+1)*t.size<=e*t.size:=bS _ aM;rw[du,iQ]at this;rw[cn (by omega)];exact p
    have av:(xs.take e).length=e:=by simp;omega
    obtain⟨v',w',s,p,C,q,L⟩:=wA (ty:=o.type) hT M hz pD W B (a.eval x) e _ c.1 qo VB hS.base;rw[c.2]at C;have eX:id<J.length:=(ag.1 n).1;have D:=hS.grow n (sh':=Z) (xs':=xs.take e++m) (v':=v') (vals:=vals.take (e*t.size)) (vals':=vals.take (e*t.size)++news) C (λb n=>by rw[<- c.2];exact q b n) (λb n=>L b (by rw[c.2];exact n)) (.inr rfl) (λh=>by simp at h) (λh=>by simp at h) (by rw[ae,av];exact p) (λJ' a2 k=>(N.append H (by rw[av];exact c.1.1)).dX k);refine⟨v',w',_,.inl (Kf _ _ s),D.1,?_,D.2⟩;have:=VR.qT (w:=w') (J:=J.set id (.row E t.size t.bytes (g+1) Z (xs.take e++m))) (μ:=xX μ id v') (id:=id) (E:=E) (sz:=t.size) (by':=t.bytes) (g:=g+1) (sh:=Z) (xs:=xs.take e++m) (aN eX);rwa [gy]at this
   simp at h
  simp at h
 simp at h
variable (hF:FR w J μ fr a)
include hF
theorem apI{T E:TypeId}{t:TypeInfo}{z:Value}{x y:Operand}{g f:O}(i:o.op=.call { callee:=.builtin .append,args:=#[x,y],argTypes:=#[T,T] }) (d:P.underlying T=S (.slice E)) (l:P.info? E=S t) (v:t.zero=S z) (s:0<t.size) (u:z.cells.size=t.size) (m:cO x=S g) (k:cO y=S f) {e:Prop} {r:V} {c:ai} (h:dY fr J (.app E t.size t.bytes g f)=S (e,r,c)) (p:e):BH P o a B w0 w J μ r c:=by
 simp only[dY]at h;split at h;.rename_i C n;obtain⟨b,q,j⟩:=(B2 hS (gx hF k) n).src hS d;exact VP hS i d l v s u (gx hF m) q j h p
 simp at h
theorem aka{T U E:TypeId}{t:TypeInfo}{z:Value}{x y:Operand}{g f:O}(i:o.op=.call { callee:=.builtin .append,args:=#[x,y],argTypes:=#[T,U] }) (C:P.underlying T=S (.slice E)) (q:P.underlying U=S .string) (n:P.info? E=S t) (H:t.zero=S z) (c:t.size=1) (b:t.bytes=1) (F:z.cells.size=t.size) (u:cO x=S g) (m:cO y=S f) {e:Prop} {r:V} {d:ai} (h:dY fr J (.apps E g f)=S (e,r,d)) (v:e):BH P o a B w0 w J μ r d:=by
 simp only[dY]at h;split at h;.rename_i l j;obtain⟨s,p,rfl,_⟩:=(j▸gx hF m).pT;obtain⟨D,k⟩:=Ry (P:=P) (w:=w) (J:=J) (μ:=μ) q s;refine VP (news:=Lib.strCells s) hS i C n H (by omega) F (gx hF u) (by rw[p,c];exact D) (by rw[c];exact k) (by rw[c,b];exact h) v
 simp at h
theorem agy{T K E:TypeId}(d:o.op=.makeMap T Y){e:Prop}{r:V}{b:ai}(h:dY fr J (.GK K E)=S (e,r,b)):BH P o a B w0 w J μ r b:=by simp only[dY,aa,aY]at h;obtain⟨_,rfl,rfl⟩:=h;have c:=hS.w7 (w':=w.alloc (.map #[] 0)) (.map K E []) (.map (S w.heap.size)) (World.grownBy_alloc w _ Y) (by simp[l9]) (λf=>⟨w.heap.size,#[],0,rfl,hS.base,heap_alloc_new w _,by simp,by simp,by simp,by simp⟩);refine⟨_,_,_,.inl (by simp[execOp,d,Instr.makeMap];rfl),c.1,?_,c.2⟩;exact .mp _ _ ⟨K,E,[],by simp⟩ (gy _ _ _)
end PN
variable{U:Mem}{n:Nat}{k:V}{v:Value}{R:ai}{Q:bF}{T:bl}
def ab2{zs:ar}{i j:Nat}(h:gi (List.replicate n zs) i j=S k):i<n/\zs[j]?=S k:=by
 obtain⟨r,a,c⟩:=jV h;have b:i<n:=by have:=(ag.1 a).1;simpa using this
 rw[Ez,aO b]at a;simp only[aa]at a;subst a;exact⟨b,c⟩
def vx(z:Array Value)(j:Nat)(h:j<z.size):z[j]! = z.getD j undef:=by simp[h]
def CR.Df(a:List (de)){xs:ar}{b:Array Value}(h:CR Q R U xs b):VR Q R U (.agg (Pm.eK a xs)) (.agg b):=(CR.eK a h).YW
def qk{b:Nat}(h:ry T n=S b): (b=0/\∃q,T.underlying n=S (.int q))\/(b=1/\T.underlying n=S .string)\/(b=3/\∃e q,T.underlying n=S (.array 2 e)/\T.underlying e=S (.int q)/\T.cellsOf e=1):=by
 unfold ry at h;split at h;.rename_i q a;simp only[aa]at h;exact .inl ⟨h.symm,q,a⟩
 .rename_i a;simp only[aa]at h;exact .inr (.inl ⟨h.symm,a⟩)
 .rename_i e a;split at h
  .rename_i q d;split at h;.rename_i c;simp only[aa]at h;exact .inr (.inr ⟨h.symm,e,q,a,d,c⟩)
   simp at h
  simp at h
 simp at h
def Hu{P:bl}{w:bF}{J:ai}{μ:Mem}{K:TypeId}{m:Nat}{d:TypeDesc}(v:P.underlying K=S d)(E:ry P K=S m)(g:m≠3){k:V}{p:Value}(u:VR w J μ k p): ∀(l:List (V×V)) (c:List MapEntry) (n:Nat) (r:Option (Nat×V)),X c=X l->(∀(i:Nat) (a x:V),l[i]?=S (a,x)->∃e:MapEntry,c[i]?=S e/\VR w J μ a e.key/\VR w J μ x e.val)->jA m k l n=S r ->(r=Y/\Instr.findNow d p c n=S Y)\/∃i x e a,r=S (n+i,x)/\l[i]?=S (a,x)/\c[i]?=S e/\ez m k a=S G/\Instr.findNow d p c n=S (S (n+i,e.val))
 |[],c,n,r,hl,_,h=>by have:c=[]:=bQ hl;subst this;simp only[jA,aa]at h;subst h;exact .inl ⟨rfl,rfl⟩
 |(a,x)::l,c,n,r,hl,hr,h=>by
  cases c with
  |nil=>simp at hl
  |cons e c =>
  obtain⟨R,D,C,Q⟩:=hr 0 a x rfl;simp only[aG,aa]at D;subst D;have B:∀b,ez m k a=S b->Instr.sameNow d p e.key=S b:=by
   intro b f;rcases qk E with⟨rfl,q,j⟩|⟨rfl,j⟩|⟨rfl,_⟩;.rw[v]at j;simp only[aa]at j;subst j;cases k<;>(try (simp[ez]at f;done));cases a<;>(try (simp[ez]at f;done));simp only[ez]at f;split at f<;>simp only[aa,reduceCtorEq]at f;rename_i N;subst N;rw[u.jy,C.jy];simp[Instr.sameNow,f]
   .rw[v]at j;simp only[aa]at j;subst j;cases k<;>(try (simp[ez]at f;done));cases a<;>(try (simp[ez]at f;done));simp only[ez,aa]at f;obtain⟨s,rfl,rfl,_⟩:=u.pT;obtain⟨O,t,rfl,_⟩:=C.pT;rw[t];simp only[Instr.sameNow,aa];rw[beq_toListBytes,toList_data,toList_data];exact f
   exact absurd rfl g
  simp only[jA]at h;split at h;.rename_i f;simp only[aa]at h;subst h;exact .inr ⟨0,x,e,a,rfl,rfl,rfl,f,by simp[Instr.findNow,B G f]⟩
  .rename_i f;have ih:=Hu v E g u l c (n+1) r (by simpa using hl) (λi a x I=>by obtain⟨z,g,o⟩:=hr (i+1) a x I;exact⟨z,by simpa using g,o⟩) h;rcases ih with⟨g,o⟩|⟨i,y,z,M,g,o,H,L,F⟩;.exact .inl ⟨g,by simp[Instr.findNow,B Z f,o]⟩
   exact .inr ⟨i+1,y,z,M,by rw[g];congr 2;omega,o,by simpa using H,L,by simp only[Instr.findNow,B Z f,F];congr 3;omega⟩
  simp at h
def Di{e c:ar}{r:Bool}(h:LD e c=S r):∃k a l b d f,e=[.i k a,.i l b]/\c=[.i k d,.i l f]/\r=(a==d&&b==f):=by
 unfold LD at h;split at h;.split at h<;>simp only[aa,reduceCtorEq]at h;rename_i g;obtain⟨rfl,rfl⟩:=g;exact⟨_,_,_,_,_,_,rfl,rfl,h.symm⟩
 simp at h
def zy{P:bl}{w:bF}{J:ai}{μ:Mem}{K e:TypeId}{q:IntKind}(t:P.underlying K=S (.array 2 e))(v:P.underlying e=S (.int q))(z:P.cellsOf e=1){k:V}{o:Value}(s:VR w J μ k o): ∀(g:List (V×V)) (c:List MapEntry) (n:Nat) (r:Option (Nat×V)),X c=X g->(∀(i:Nat) (a x:V),g[i]?=S (a,x)->∃e:MapEntry,c[i]?=S e/\VR w J μ a e.key/\VR w J μ x e.val)->jA 3 k g n=S r ->(r=Y/\(Instr.findAsking K o c n).run P w=.ok Y w)\/∃i x e a,r=S (n+i,x)/\g[i]?=S (a,x)/\c[i]?=S e/\ez 3 k a=S G/\(Instr.findAsking K o c n).run P w=.ok (S (n+i,e.val)) w
 |[],c,n,r,hl,_,h=>by have:c=[]:=bQ hl;subst this;simp only[jA,aa]at h;subst h;exact .inl ⟨rfl,by simp[Instr.findAsking]⟩
 |(a,x)::g,c,n,r,hl,hr,h=>by
  cases c with
  |nil=>simp at hl
  |cons f c =>
  obtain⟨M,l,B,L⟩:=hr 0 a x rfl;simp only[aG,aa]at l;subst l;have p:∀b,ez 3 k a=S b->(Op.equal K o f.key).run P w=.ok b w:=by intro b d;cases k<;>(try (simp[ez]at d;done));cases a<;>(try (simp[ez]at d;done));simp only[ez]at d;obtain⟨H,O,Q,I,u,N,rfl,rfl,rfl⟩:=Di d;rw[s.pair,B.pair];exact yU t v z _ _ _ _ _ _
  simp only[jA]at h;split at h;.rename_i d;simp only[aa]at h;subst h;exact .inr ⟨0,x,f,a,rfl,rfl,rfl,d,by simp[Instr.findAsking,p G d]⟩
  .rename_i d;have ih:=zy t v z s g c (n+1) r (by simpa using hl) (λi a x E=>by obtain⟨f,m,j⟩:=hr (i+1) a x E;exact⟨f,by simpa using m,j⟩) h;rcases ih with⟨m,j⟩|⟨i,y,f,u,m,j,D,F,C⟩;.exact .inl ⟨m,by simp[Instr.findAsking,p Z d,j]⟩
   exact .inr ⟨i+1,y,f,u,by rw[m];congr 2;omega,j,by simpa using D,F,by simp only[Instr.findAsking,Sem.run_bind,p Z d,Result.andThen_ok,aI,bo,C];congr 3;omega⟩
  simp at h
def vA{K:TypeId}(w:ry T K=S n)(C:VR Q R U k v) (l:List (V×V)) (c:List MapEntry) (r:Option (Nat×V)) (y:X c=X l) (z:∀(i:Nat) (a x:V),l[i]?=S (a,x)->∃e:MapEntry,c[i]?=S e/\VR Q R U a e.key/\VR Q R U x e.val) (h:jA n k l 0=S r) : (r=Y/\(Instr.findKey K v c).run T Q=.ok Y Q)\/∃i x e a,r=S (i,x)/\l[i]?=S (a,x)/\c[i]?=S e/\ez n k a=S G/\(Instr.findKey K v c).run T Q=.ok (S (i,e.val)) Q:=by
 by_cases B:n=3
 .subst B;rcases qk w with⟨h,_⟩|⟨h,_⟩|⟨_,e,q,s,D,E⟩;.omega
  .omega
  have j:=zy s D E C l c 0 r y z h;have m:Instr.findNow (.array 2 e) v c 0=S Y/\c=[]\/Instr.findNow (.array 2 e) v c 0=Y:=by cases c with|nil=>exact .inl ⟨rfl,rfl⟩|cons a b=>exact .inr (by simp[Instr.findNow,Instr.sameNow])
  rcases m with⟨m,rfl⟩|m
  .rcases j with⟨f,g⟩|⟨i,x,e,a,_,_,p,_⟩;.exact .inl ⟨f,by simp[Instr.findKey,run_underlying s,m]⟩
   simp at p
  simp only[aP]at j;rcases j with⟨f,g⟩|⟨i,x,e,a,f,g,p,u,t⟩;.exact .inl ⟨f,by simp[Instr.findKey,run_underlying s,m,g]⟩
  exact .inr ⟨i,x,e,a,f,g,p,u,by simp[Instr.findKey,run_underlying s,m,t]⟩
 have o:∃d,T.underlying K=S d:=by rcases qk w with⟨_,_,h⟩|⟨_,h⟩|⟨_,_,_,h,_⟩<;>exact⟨_,h⟩
 obtain⟨d,o⟩:=o;have j:=Hu o w B C l c 0 r y z h;simp only[aP]at j;rcases j with⟨f,g⟩|⟨i,x,e,a,f,g,p,u,t⟩;.exact .inl ⟨f,by simp[Instr.findKey,run_underlying o,g]⟩
 exact .inr ⟨i,x,e,a,f,g,p,u,by simp[Instr.findKey,run_underlying o,t]⟩
def run_checkKey{P:bl}{w:bF}{K:TypeId}(J:ry P K=S n)(s:Bool)(b:Nat)(u:VR w R U k v)(m:uH n k=G):(Instr.checkKey s (b+2) K v).run P w=.ok () w:=by
 rcases qk J with⟨_,_,h⟩|⟨_,h⟩|⟨rfl,e,q,h,l,I⟩;.simp[Instr.checkKey,run_underlying h]
 .simp[Instr.checkKey,run_underlying h]
 unfold uH at m;rw[aO rfl]at m;split at m
 .rename_i c f g d;rw[u.pair];have o:∃i,P.info? e=S i:=by unfold Program.underlying at l;cases h:P.info? e with|none=>simp[h]at l|some i=>exact⟨i,rfl⟩
  obtain⟨i,o⟩:=o;have D:k8 P e=S Z:=by simp[k8,l]
  have r:∀(x y:Value) (j:Nat) (z:Value),#[x,y][j]?=S z->(part e #[x,y] j).run P w=.ok z w:=by intro x y j z F;simp only[part,Sem.run_bind,rM D,Result.andThen_ok,aI,bo,F];rfl
  have H:(sizeOf e).run P w=.ok 1 w:=by rw[run_sizeOf w o,I]
  have t:=r (.int c f) (.int g d) 0 (.int c f) rfl;have B:=r (.int c f) (.int g d) 1 (.int g d) rfl;have p:∀v:Value,(∃q a,v=.int q a)->(Instr.checkKey s (b+1) e v).run P w=.ok () w:=by rintro v ⟨_,_,rfl⟩;simp[Instr.checkKey,run_underlying l]
  have C:=p (.int c f) ⟨_,_,rfl⟩;have E:=p (.int g d) ⟨_,_,rfl⟩;rw[Instr.checkKey];simp only[Sem.run_bind,run_underlying h,Result.andThen_ok];simp only[Std.Legacy.Range.forIn_eq_forIn_range',Std.Legacy.Range.size,yP,Nat.add_one_sub_one,Nat.div_one,show List.range' 0 2=[0,1]from rfl,List.forIn_cons,List.forIn_nil];simp only[Sem.run_bind,H,Result.andThen_ok,NT,t,B,C,E,Sem.run_pure]
 simp at m
def YJ{w:bF}{J:ai}{μ:Mem}{E:TypeId}{z:V}(h:zeroV T E=S z):∃v,(zeroValue E).run T w=.ok v w/\VR w J μ z v:=by
 unfold zeroV at h;split at h
 .rename_i t b;split at h;.rename_i cs a;simp only[aH]at h;obtain⟨zs,c,rfl⟩:=h;exact⟨_,by simp[zeroValue,typeInfo,b,a],(oD (cs:=cs) c).Df _⟩
  .rename_i d e a;exact⟨_,by simp[zeroValue,typeInfo,b,a],Cx h⟩
  simp at h
 simp at h
section eV
variable {P:bl} {o:Oper} {a:Act} {B:Nat} {w0 w:bF} {J:ai} {μ:Mem} {fr:ar} (hF:FR w J μ fr a) (hS:kN P B w0 w J μ)
include hF hS
theorem ahF{T K E:TypeId}{x:Operand}{k:O}(g:o.op=.call { callee:=.builtin .len,args:=#[x],argTypes:=#[T] })(j:P.underlying T=S (.map K E))(q:cO x=S k) {u:Prop} {y:V} (h:ca fr J (.IL k)=S (u,y)):Yields P o a w J μ y:=by
 have d:=gx hF q;simp only[ca]at h;split at h;.rename_i e;simp only[aa,aY]at h;obtain⟨_,rfl⟩:=h;rw[e]at d;have f:a.eval x=.map Y:=d.G3;refine .pure (v:=.int .i64 0) ?_ (.i _ _);simp[execOp,g,resolve,invoke,builtin,f,Builtin.len_,run_underlying j,goInt]
 .rename_i id e;split at h
  .rename_i C B m n;simp only[aa,aY]at h;obtain⟨_,rfl⟩:=h;rw[e]at d;obtain⟨r,f,s,_⟩:=d.M5;obtain⟨z,c,clock,b,_,l,t⟩:=hS.obj id _ n;rw[s]at b;simp only[Value.map.injEq,aa]at b;subst b;refine .pure (v:=.int .i64 (X m)) ?_ (.i _ _);have p:(getObj r).run P w=.ok (.map c clock) w:=by simp[getObj,Sem.run,l]
   simp[execOp,g,resolve,invoke,builtin,f,Builtin.len_,run_underlying j,goInt,p,t.1]
  simp at h
 simp at h
theorem ahI{T K E:TypeId}{m k:Operand}{Q p:O}{C:Nat}{z:V}{ok:Bool}(ho:o.op=.lookup T m k ok)(hT:P.underlying T=some (.map K E))(hm:cO m=some Q)(hk:cO k=some p)(M:ry P K=some C)(hz:zeroV P E=some z) {ob:Prop} {y:V} (h:ca fr J (.look C z ok Q p)=some (ob,y)) (gE:ob):Yields P o a w J μ y:=by
 have N:=gx hF hm;have I:=gx hF hk;obtain⟨zv,s,U⟩:=YJ (w:=w) (J:=J) (μ:=μ) hz;have F:uH C (ev fr p)=G:=by simp only[ca]at h;split at h<;>simp only[aa,aY,reduceCtorEq]at h<;>(obtain⟨rfl,_⟩:=h;exact gE)
 have B:∀(u:V) (v:Value) (q:Bool),VR w J μ u v->(Instr.lookup T (a.eval m) (a.eval k) ok).run P w=.ok (if ok then .tuple #[v,.bool q]else v) w->Yields P o a w J μ (if ok then .iS [u,.b q]else u):=by
  intro u v q hu g;refine .pure (v:=if ok then .tuple #[v,.bool q]else v) (by simp[execOp,ho,g]) ?_;cases ok;.exact hu
  refine .iS _ _ rfl λi x t=>?_;match i with|0=>simp only[aG,aa]at t;subst t;exact hu|1=>simp only[cA,aG,aa]at t;subst t;exact .b _|i+2=>simp at t
 have ac:∀(r:Option (Option (Nat×V))),kg J C (ev fr Q) (ev fr p)=r->∀q,r=some q ->(q=Y->(Instr.lookup T (a.eval m) (a.eval k) ok).run P w=.ok (if ok then .tuple #[zv,.bool Z]else zv) w) /\
   (∀n u,q=some (n,u)->∃v,VR w J μ u v/\(Instr.lookup T (a.eval m) (a.eval k) ok).run P w=.ok (if ok then .tuple #[v,.bool G]else v) w):=by
  intro r g q f;unfold kg at g;split at g
  .rename_i hp;rw[hp]at N;have L:a.eval m=.map Y:=N.G3;rw[<- g]at f;simp only[aa]at f;subst f;refine⟨λ_=>?_,λn u h=>by simp at h⟩;rw[L];have H:=run_checkKey (P:=P) (w:=w) M G 9998 I F;have W:(Instr.findKey K (a.eval k) []).run P w=.ok Y w:=by
    rcases vA M I [] [] Y rfl (by simp) rfl with⟨_,h⟩|⟨_,_,_,_,h,_⟩;.exact h
    simp at h
   cases ok<;>simp[Instr.lookup,run_underlying hT,H,W,s]
  .rename_i id hp;rw[hp]at N;obtain⟨rr,L,vt,_⟩:=N.M5;split at g
   .rename_i K' E' es hb;obtain⟨r',d,clock,j,_,hh,hR⟩:=hS.obj id _ hb;rw[vt]at j;simp only[Value.map.injEq,aa]at j;subst j;have hg:(getObj rr).run P w=.ok (.map d clock) w:=by simp[getObj,Sem.run,hh]
    rw[<- g]at f;have hf:=vA M I es d.toList q (by rw[aU];exact hR.1) (λi a x hi=>by obtain⟨_,_,e,c,l,D⟩:=hR.2.1 i a x hi;exact⟨e,by simpa using c,l,D⟩) f;have H:=run_checkKey (P:=P) (w:=w) M d.isEmpty 9998 I F;refine⟨λR=>?_,λn u R=>?_⟩
    .rcases hf with⟨_,c⟩|⟨i,x,e,a2,c,_⟩;.rw[L];cases ok<;>simp[Instr.lookup,run_underlying hT,hg,H,c,s]
     rw[R]at c;simp at c
    rcases hf with⟨c,_⟩|⟨i,x,e,a2,c,l,D,_,h6⟩;.rw[R]at c;simp at c
    rw[R]at c;simp only[aa,aY]at c;obtain⟨_,rfl⟩:=c;obtain⟨_,_,e2,h7,_,h8⟩:=hR.2.1 i a2 u l;have:e2=e:=by
     have h9:d[i]?=some e:=by simpa using D
     rw[h7]at h9;simpa using h9
    subst this;refine⟨e2.val,h8,?_⟩;rw[L];cases ok<;>simp[Instr.lookup,run_underlying hT,hg,H,h6]
   rw[<- g]at f;simp at f
  rw[<- g]at f;simp at f
 simp only[ca]at h;generalize g:kg J C (ev fr Q) (ev fr p)=r at h;have f:=ac r g;cases r with
 |none=>simp at h
 |some q =>
 obtain⟨c,l⟩:=f q rfl;cases q with
 |none =>simp only[aa,aY]at h;obtain⟨_,rfl⟩:=h;exact B _ _ _ U (c rfl)
 |some q =>obtain⟨n,u⟩:=q;simp only[aa,aY]at h;obtain⟨_,rfl⟩:=h;obtain⟨v,D,h6⟩:=l n u rfl;exact B _ _ _ D h6
end eV
section PN
variable {P:bl} {o:Oper} {a:Act} {B:Nat} {w0 w:bF} {J:ai} {μ:Mem} {fr:ar} (hF:FR w J μ fr a) (hS:kN P B w0 w J μ)
include hF hS
theorem asY{T E:TypeId}{t:TypeInfo}{z:Value}{l c:Operand}{l' c':O}{d:ar}{e:List (de)}(ho:o.op=.makeSlice T l c)(hT:P.underlying T=S (.slice E))(F:P.info? E=S t)(L:t.zero=S z) (iz:0<t.size) (pD:z.cells.size=t.size) (SI:lT z.cells.toList=S d) (hl:cO l=S l') (hc:cO c=S c') {ob:Prop} {r:V} {J':ai} (h:dY fr J (.mk E t.size t.bytes (eK e d) l' c')=S (ob,r,J')) (gE:ob):BH P o a B w0 w J μ r J':=by
 have h1:=gx hF hl;have D:=gx hF hc;simp only[dY]at h;split at h
 .rename_i k n k2 m hn hm;simp only[aa,aY]at h;obtain⟨rfl,rfl,rfl⟩:=h;obtain⟨Vy,W,ac,ad,I,K⟩:=gE;rw[hn]at h1;rw[hm]at D;have VD:Ti P E t.size t.bytes:=⟨iz,t,z,F,L,rfl,rfl,pD⟩;obtain⟨M,rfl⟩:=Int.eq_ofNat_of_zero_le ac;have u:CR w J μ (eK e d) z.cells:=(oD SI).eK e;have s:(eK e d).length=t.size:=by rw[u.1];exact pD
  have qo:t.bytes*M<=281474976710656:=by
   have h3:((M*t.bytes:Nat):Int)<=281474976710656:=by rw[Int.natCast_mul];exact ad
   rw[iB];exact Yw.1 h3
  have hM:M<=maxLen:=Yw.1 I;have y:∀(v:Value) (w':bF) (N:Nat) (f:List Value),(Instr.makeSlice T (a.eval l) (a.eval c)).run P w=.ok v w'->w'.ownsRow B E t.size v N f->w.grownBy w' Y->(∀b,l9 v=S b->w.heap.size<=b)->n.toNat=N ->
    lU w J μ (List.replicate N (eK e d)) t.size f->BH P o a B w0 w J μ (.own J.length 0) (J++[.row E t.size t.bytes 0 Z (List.replicate n.toNat (eK e d))]):=by intro v w' N f p q C af hN dJ;rw[hN];have mP:=hS.w7 (w':=w') (.row E t.size t.bytes 0 Z (List.replicate N (eK e d))) v C af (λhp=>⟨VD,f,by rw[Jg];exact q,dJ.dX hp.dX⟩);refine⟨v,w',_,.inl (by simp only[execOp,ho,Sem.run_bind,p,Result.andThen_ok,Sem.run_pure]),mP.1,?_,mP.2⟩;have:=VR.qT (w:=w') (J:=J++[.row E t.size t.bytes 0 Z (List.replicate N (eK e d))]) (μ:=xX μ J.length v) (id:=J.length) (E:=E) (sz:=t.size) (by':=t.bytes) (g:=0) (sh:=Z) (xs:=List.replicate N (eK e d)) (by simp);rwa [gy]at this
  rcases W with rfl|rfl
  .obtain⟨w',p,q,C⟩:=run_make_full (P:=P) w B T E t z t.size hT F L rfl k k2 M qo hM hS.base;refine y _ w' M _ (by rw[h1.jy,D.jy];exact p) q C (λb H=>by simp only[l9,aa]at H;omega) (by simp) ⟨λr p=>by rw[List.eq_of_mem_replicate p];exact s,λi j x R=>?_⟩;obtain⟨hi,U⟩:=ab2 R;have uL:j<t.size:=by rw[<- s];exact(ag.1 U).1
   have Ee:i*t.size+j<M*t.size:=by have:(i+1)*t.size<=M*t.size:=bS _ hi;rw[du,iQ]at this;omega
   refine⟨K x (bn U),z.cells.getD j undef,?_,u.2 j x U⟩;have Q:(i*t.size+j) % z.cells.size=j:=by rw[pD,Nat.add_comm,Nat.add_mul_mod_self_right,iM uL]
   simp only[madeCells,nT,TH,bP,kQ Ee,dA,Q];rw[vx _ _ (by omega)]
  obtain⟨w',p,q,C⟩:=run_make_own (P:=P) w B T E t z t.size hT F L rfl k k2 M qo hM hS.base;exact y _ w' 0 _ (by rw[h1.jy,D.jy];exact p) q C (λb H=>by simp only[l9,aa]at H;omega) (by simp) ⟨by simp,λi j x R=>by simp[gi]at R⟩
 simp at h
theorem aj9{T E:TypeId}{len:Nat}{parts:Array (Nat×Operand)}{t:TypeInfo}{z:Value}{xs:List O}{d:List (de)}(U:o.op=.buildSlice T len parts)(N:P.underlying T=S (.slice E))(n:P.info? E=S t)(v:t.zero=S z) (hn:parts.size=len) (m:0<t.size) (p:z.cells.size=t.size) (I:len*t.size<=2^24) (W:xH 0 parts.toList=S xs) {u:Prop} {r:V} {q:ai} (h:dY fr J (.Tr E t.size t.bytes d xs)=S (u,r,q)) (gE:u):BH P o a B w0 w J μ r q:=by
 simp only[dY,aa,aY]at h;obtain⟨rfl,rfl,rfl⟩:=h;obtain⟨Q,k⟩:=gE;obtain⟨c,fY,s,F,D⟩:=HU hF hS U N n v hn m p I W Q (λr f=>(k r f).1);generalize H:(xs.map λx=>eK d (iE (ev fr x)))=rows at k s D |-;have VD:Ti P E t.size t.bytes:=⟨m,t,z,n,v,rfl,rfl,p⟩;have M:w.grownBy (w.alloc (.cells c E)) Y:=World.grownBy_alloc w _ Y;have l:len<=maxLen:=by have:len<=len*t.size:=aqC _ m;unfold maxLen;omega
 have L:=World.ownsRow_lit (e:=E) w c len hS.base l F;have C:=hS.w7 (w':=w.alloc (.cells c E)) (.row E t.size t.bytes 0 Z rows) (.slice (S ⟨w.heap.size,0,Y⟩) len len) M (λb K=>by simp only[l9,aa]at K;omega)
  (λR=>⟨VD,c.toList,by rw[s];exact L,λr f=>(k r f).1,λi j x y=>by obtain⟨eX,hv⟩:=D i j x y;obtain⟨r,f,hj⟩:=jV y;refine⟨(k r (bn f)).2 x (bn hj),_,?_,R.dX _ _ hv⟩;simp[eX]⟩);refine⟨_,_,_,.inl fY,C.1,?_,C.2⟩;have:=VR.qT (w:=w.alloc (.cells c E)) (J:=J++[.row E t.size t.bytes 0 Z rows]) (μ:=xX μ J.length (.slice (S ⟨w.heap.size,0,Y⟩) len len)) (id:=J.length) (E:=E) (sz:=t.size) (by':=t.bytes) (g:=0) (sh:=Z) (xs:=rows) (by simp);rwa [gy]at this
theorem VR.sameBits{k a:V}{g i:Value}{c:Nat}(d:VR w J μ k g)(e:VR w J μ a i)(h:ez c k a=S G):Instr.sameBits 10000 i g=G:=by
 cases k<;>cases a<;>(try (simp[ez]at h;done));.rw[d.uI,e.uI];match c with|2=>simp only[ez,aa,dM]at h;subst h;simp[Instr.sameBits]|0=>simp[ez]at h|1=>simp[ez]at h|n+3=>simp[ez]at h
 .rw[d.jy,e.jy];match c with|0 =>simp only[ez]at h;split at h<;>simp only[aa,dM,reduceCtorEq]at h;rename_i m;subst m;subst h;simp[Instr.sameBits]|1=>simp[ez]at h|2=>simp[ez]at h|n+3=>simp[ez]at h
 .obtain⟨s,rfl,l,_⟩:=d.pT;obtain⟨p,rfl,f,_⟩:=e.pT;match c with|1 =>simp only[ez,aa,dM]at h;subst h;simp only[Instr.sameBits];rw[beq_toListBytes,toList_data,toList_data,l,f];simp|0=>simp[ez]at h|2=>simp[ez]at h|n+3=>simp[ez]at h
 match c with
 |3 =>simp only[ez]at h;obtain⟨o,t,u,q,v,r,rfl,rfl,j⟩:=Di h;rw[d.pair,e.pair];have b:=j.symm;simp only[aV,dM]at b;obtain⟨rfl,rfl⟩:=b;simp[Instr.sameBits]
 |0=>simp[ez]at h
 |1=>simp[ez]at h
 |2=>simp[ez]at h
 |n+4=>simp[ez]at h
theorem aj8{T K E:TypeId}{m k x:Operand}{m' k' x':O}{kd:Nat}{U:List (de)}(ho:o.op=.mapUpdate T m k x)(hT:P.underlying T=S (.map K E))(hm:cO m=S m')(hk:cO k=S k')(hx:cO x=S x')(Cm:ry P K=S kd) {ob:Prop} {r:V} {J':ai} (h:dY fr J (.Sm kd U m' k' x')=S (ob,r,J')) (gE:ob):BH P o a B w0 w J μ r J':=by
 have h1:=gx hF hm;have h2:=gx hF hk;have M:=gx hF hx;have aM:uH kd (ev fr k')=G:=by
  simp only[dY]at h;split at h
  .split at h;.split at h<;>simp only[aa,aY,reduceCtorEq]at h<;>(obtain⟨rfl,_⟩:=h;exact gE.1)
   simp at h
  simp at h
 simp only[dY]at h;generalize av:ph U (ev fr x')=xv at h;have af:VR w J μ xv (a.eval x):=by
  rw[<- av];unfold ph;split;.rename_i xs hp;rw[hp]at M;obtain⟨vs,hv,hl,Du⟩:=M.tq;rw[hv];exact CR.Df (xs:=xs) U ⟨hl,Du⟩
  exact M
 split at h
 .rename_i id hp;rw[hp]at h1;obtain⟨D,hv,vt,_⟩:=h1.M5;split at h
  .rename_i K' E' es hb;obtain⟨r',c,clock,N,hB,hh,p⟩:=hS.obj id _ hb;rw[vt]at N;simp only[Value.map.injEq,aa]at N;subst N;have eX:id<J.length:=(ag.1 hb).1;have G6:D<w.heap.size:=(cB.1 hh).1;have hg:∀(w2:bF),w2.heap[D]?=S (.map c clock)->(getObj D).run P w2=.ok (.map c clock) w2:=λw2 h=>by simp[getObj,Sem.run,h]
   have Eg:=run_checkKey (P:=P) (w:=w) Cm Z 9998 h2 aM;have ac:∀(C:List (V×V)) (f:Array MapEntry) (d:Nat),(execOp a.eval o).run P w=.ok .skip { w with heap:=w.heap.setIfInBounds D (.map f d) }->acY w J μ C f d->BH P o a B w0 w J μ .u (J.set id (.map K' E' C)):=by
    intro C f d hr aE;have H9:=hS.update (w':={ w with heap:=w.heap.setIfInBounds D (.map f d) }) (J':=J.set id (.map K' E' C)) (μ':=μ) id (S D)
     ⟨rfl,rfl,rfl,by simp,λj _ hj=>by simp only[];rw[fX (λe=>hj (by rw[e]))]⟩
     (λb qo=>⟨_,hb,by simp,by simp only[aa]at qo;subst qo;simp[vt,l9]⟩)
     (by simp) (λj hj=>bD (λe=>hj e.symm)) (λ_ _=>rfl)
     (λb qo=>.inl ⟨_,hb,by simp,qo⟩)
     (λb a6 v2 o2 g _ t h6 _=>by
      simp only[vt,l9,aa]at t;subst t;simp[World.cell?,hh]at h6)
     (λT2 a8 g=>by rw[hb]at g;simp at g)
     (λK2 E2 a1 g=>by rw[hb]at g;simp only[aa,Ob.map.injEq]at g;obtain⟨rfl,rfl,rfl⟩:=g;exact⟨⟨_,aN eX⟩,rfl⟩)
     (λE2 a0 a4 g2 a7 a5 _ g=>by simp[eX]at g)
     (λEd o2 g=>by simp only[aN eX,aa]at g;subst g;exact⟨D,f,d,vt,hB,by simp[G6],aE.dX Ed.dX⟩);exact⟨undef,_,μ,.inr ⟨hr,rfl⟩,H9.1,.u _,H9.2⟩
   have oX:∀L,(setObj D L).run P w=.ok () { w with heap:=w.heap.setIfInBounds D L }:=λL=>by simp[setObj,Sem.run,hh]
   split at h
   .rename_i hf;simp only[aa,aY]at h;obtain⟨rfl,rfl,rfl⟩:=h;have XF:=vA Cm h2 es c.toList Y (by rw[aU];exact p.1) (λi a x q=>by obtain⟨_,_,e,M,g,t⟩:=p.2.1 i a x q;exact⟨e,by simpa using M,g,t⟩) hf;have ad:(Instr.findKey K (a.eval k) c.toList).run P w=.ok Y w:=by
     rcases XF with⟨_,h⟩|⟨i,x,e,a2,h,_⟩;.exact h
     simp at h
    refine ac _ (c.push { key:=a.eval k,val:=a.eval x,born:=clock }) (clock+1) ?_ ?_;.simp[execOp,ho,hv,Instr.mapUpdate,run_underlying hT,hg w hh,Eg,ad,oX]
    refine⟨by simp[p.1],λi a2 y q=>?_,λi e l=>?_,λi j e e' l n s=>?_⟩
    .by_cases oT:i<es.length;.rw[bc oT]at q;obtain⟨g,t,e,h6,h7⟩:=p.2.1 i a2 y q;exact⟨g,t,e,by rw[as4 (by rw[p.1];exact oT)];have:=h6;rw[bZ (by rw[p.1];exact oT)]at this;exact this,h7⟩
     have am:i=es.length:=by have:=(ag.1 q).1;simp at this;omega
     subst am;simp only[List.getElem?_concat_length,aa,aY]at q;obtain⟨rfl,rfl⟩:=q;exact⟨GX gE.1,gE.2,_,by rw[<- p.1];exact CI,h2,af⟩
    .rw[Array.getElem?_push]at l;split at l;.simp only[aa]at l;subst l;exact Nat.lt_succ_self _
     exact Nat.lt_succ_of_lt (p.2.2.1 i e l)
    rw[Array.getElem?_push]at l n;split at l
    .split at n;.omega
     simp only[aa]at l;subst l;have:=p.2.2.1 j e' n;simp only at s;omega
    split at n;.simp only[aa]at n;subst n;have:=p.2.2.1 i e l;simp only at s;omega
    exact p.2.2.2 i j e e' l n s
   .rename_i i0 x0 hf;simp only[aa,aY]at h;obtain⟨rfl,rfl,rfl⟩:=h;have XF:=vA Cm h2 es c.toList _ (by rw[aU];exact p.1) (λi a x q=>by obtain⟨_,_,e,M,g,t⟩:=p.2.1 i a x q;exact⟨e,by simpa using M,g,t⟩) hf;rcases XF with⟨g,_⟩|⟨i,y,e,a2,g,t,h6,h7,h8⟩;.simp at g
    simp only[aa,aY]at g;obtain⟨rfl,rfl⟩:=g;obtain⟨_,_,e2,h9,NX,_⟩:=p.2.1 i0 a2 x0 t;have ap:e2=e:=by
     have:c[i0]?=S e:=by simpa using h6
     rw[h9]at this;simpa using this
    subst ap;have au:=VR.sameBits hF hS h2 NX h7;refine ac _ (c.modify i0 λe=>{ e with key:=a.eval k,val:=a.eval x }) clock ?_ ?_;.simp[execOp,ho,hv,Instr.mapUpdate,run_underlying hT,hg w hh,Eg,h8,h9,Instr.keyThatStays,au,oX]
    have oT:i0<es.length:=(ag.1 t).1;have Q:∀(i:Nat) (z:MapEntry),(c.modify i0 λe=>{ e with key:=a.eval k,val:=a.eval x })[i]?=S z->∃F,c[i]?=S F/\F.born=z.born:=by
     intro i z l;rw[eu]at l;split at l;.simp only[aH]at l;obtain⟨F,R,rfl⟩:=l;exact⟨F,R,rfl⟩
     exact⟨z,l,rfl⟩
    refine⟨by simp[p.1],λi a3 y q=>?_,λi z l=>?_,λi j z F l n s=>?_⟩
    .by_cases W:i=i0;.subst W;rw[aN oT]at q;simp only[aa,aY]at q;obtain⟨rfl,rfl⟩:=q;exact⟨GX gE.1,gE.2,{ e2 with key:=a.eval k,val:=a.eval x },by rw[eu,aO rfl,h9];rfl,h2,af⟩
     rw[bD (λe=>W e.symm)]at q;obtain⟨R,v,z,H,I⟩:=p.2.1 i a3 y q;exact⟨R,v,z,by rw[eu,ao (λe=>W e.symm)];exact H,I⟩
    .obtain⟨F,R,v⟩:=Q i z l;rw[<- v];exact p.2.2.1 i F R
    obtain⟨e5,R,v⟩:=Q i z l;obtain⟨e6,H,I⟩:=Q j F n;exact p.2.2.2 i j e5 e6 R H (by rw[v,I,s])
   simp at h
  simp at h
 simp at h
theorem apG{T E:TypeId}{t:TypeInfo}{z:Value}{x:Operand}{x':O}{D:ar}{H:List (de)}(ho:o.op=.call { callee:=.builtin .clear,args:=#[x],argTypes:=#[T] })(hT:P.underlying T=some (.slice E))(ht:P.info? E=some t)(hz:t.zero=some z) (iz:0<t.size) (pD:z.cells.size=t.size) (SI:lT z.cells.toList=some D) (hx:cO x=some x') {ob:Prop} {r:V} {J':ai} (h:dY fr J (.QG t.size (eK H D) x')=some (ob,r,J')) (gE:ob):BH P o a B w0 w J μ r J':=by
 have h1:=gx hF hx;have F:CR w J μ (eK H D) z.cells:=(oD SI).eK H;generalize eK H D=zs at h F;have N:X zs=t.size:=by rw[F.1];exact pD
 simp only[dY]at h;split at h
 .rename_i id g c d hp;split at h
  .rename_i E' sz U g' sh i C;split at h
   .rename_i hg;obtain⟨rfl,rfl,rfl⟩:=hg;simp only[aa,aY]at h;obtain⟨rfl,rfl,rfl⟩:=h;rw[hp]at h1;obtain⟨bg,Ra,hv⟩:=h1.tj C;have eX:id<X J:=(ag.1 C).1;obtain⟨VD,a4,⟨Ke,hw⟩,dJ,a0⟩:=hS.obj id _ C;have ap:VR w (J.set id (.row E' t.size U g Z (i.take c++List.replicate (d - c) zs++i.drop d))) μ (.iS []) (.tuple #[]):=.iS _ _ rfl (by simp);by_cases h0:c=d
    .subst h0;have e1:J.set id (.row E' t.size U g Z (i.take c++List.replicate (c - c) zs++i.drop c))=J:=by simp only[gO,List.replicate_zero,bE,eU];obtain⟨M,e⟩:=ag.1 C;rw[<- e];exact uX M
     have fY:(execOp a.eval o).run P w=.ok (.value (.tuple #[])) w:=by
      have YA:∃ad p,a.eval x=.slice ad 0 p:=by
       rw[hv];rcases hw with⟨R,_⟩|⟨b,p,l,R,_⟩;.rw[R];exact⟨_,_,by simp only[nO,gO];rfl⟩
       rw[R];exact⟨_,_,by simp only[nO,gO];rfl⟩
      obtain⟨ad,p,YA⟩:=YA;cases ad<;>simp[execOp,ho,resolve,invoke,builtin,YA,Builtin.clear_,run_underlying hT]
     rw[e1]at ap |-;exact⟨_,w,μ,.inl fY,hS,ap,qZ.refl _ _ _⟩
    rcases hw with⟨_,hn⟩|⟨b,p,l,R,hB,hh,Ha,zU,oA,G5⟩;.omega
    have iV:¬p=c:=by omega
    have am:a.eval x=.slice (some ⟨b,c*t.size,Y⟩) (d - c) (p - c):=by rw[hv,R];simp[nO,iV,Addr.add_lit]
    obtain⟨m,aM⟩:∃m,d - c=m+1:=⟨d - c - 1,by omega⟩;generalize bd:(Builtin.zeroCells z.cells (d - c)).toList=cl;have W:X cl=(d - c)*t.size:=by rw[<- bd];simp[Builtin.zeroCells,pD]
    have af:∀q,q<(d - c)*t.size->cl[q]?=some (z.cells.getD (q % t.size) undef):=by
     intro q M;rw[<- bd];have au:q % t.size<z.cells.size:=by rw[pD];exact sK _ iz
     simp only[Builtin.zeroCells,nT,TH,bP,pD,kQ M,dA];rw[vx _ _ au]
    have L:c*t.size+(d - c)*t.size=d*t.size:=by rw[<- Nat.add_mul];congr 1;omega
    have be:d*t.size<=X i*t.size:=bS _ Ra;have a7:X i*t.size<=p*t.size:=bS _ Ha;have IU:∀v∈cl,v.oneCell'=true:=by
     intro v av;obtain⟨q,M⟩:=df.1 av;have aE:q<(d - c)*t.size:=by rw[<- W];exact(ag.1 M).1
     rw[af q aE]at M;simp only[aa]at M;subst M;have hj:q % t.size<X zs:=by rw[N];exact sK _ iz
     have:=F.2 (q % t.size) zs[q % t.size] (aA hj);exact(sE hS this (s6 (gE _ (dQ hj)))).1
    have nI:=run_storeCells_at P b (c*t.size) E' cl 0 l w hh (by rw[W,oA];omega) IU;generalize mP:(l.toList.take (c*t.size+0)++cl++l.toList.drop (c*t.size+0+X cl)).toArray=arr at nI;have fY:(execOp a.eval o).run P w=.ok (.value (.tuple #[])) (w.setRow b arr):=by rw[aM]at bd am;simp[execOp,ho,resolve,invoke,builtin,am,Builtin.clear_,run_underlying hT,zeroValue,typeInfo,ht,hz,bd,nI]
    have zV:∀j,arr.toList[j]?=if c*t.size<=j/\j<d*t.size then cl[j - c*t.size]? else l.toList[j]?:=by intro j;rw[<- mP];have:=u5 l.toList cl (c*t.size) j (by rw[W,aU,oA];omega);rw[W,L]at this;simpa[W,L]using this
    have Hi:arr.size=l.size:=by rw[<- mP];simp only[fa,ae,aX,bN,aU,W,oA,cg];omega
    have Aj:X (i.take c++List.replicate (d - c) zs++i.drop d)=X i:=by simp;omega
    have H9:=hS.update (w':=w.setRow b arr) (J':=J.set id (.row E' t.size U g Z (i.take c++List.replicate (d - c) zs++i.drop d))) (μ':=μ) id (some b) ⟨rfl,rfl,rfl,by simp,λk _ hk=>setRow_other w b k _ (λe=>hk (by simp[e]))⟩ (λb2 qo=>⟨_,C,by simp,by simp only[aa]at qo;subst qo;simp[R,l9]⟩) (by simp) (λj hj=>bD (λe=>hj e.symm)) (λ_ _=>rfl) (λb2 qo=>.inl ⟨_,C,by simp,qo⟩) (λb2 a3 v2 o2 s _ h4 _ f=>absurd ⟨id,o2,s,h4,by rw[C]at s;simp only[aa]at s;subst s;intro hf;simp at hf⟩ f) (λT2 ba s=>by rw[C]at s;simp at s) (λK E es s=>by rw[C]at s;simp at s) (λE2 a5 a6 g2 a9 a8 _ s=>by
      simp only[aN eX,aa,Ob.row.injEq]at s;obtain⟨rfl,rfl,rfl,rfl,rfl,rfl⟩:=s;exact⟨g,Z,i,C,aB _,λ_=>⟨Aj.symm,rfl⟩⟩) (λEd o2 s=>by
      simp only[aN eX,aa]at s;subst s;refine⟨VD,arr.toList.take (X i*t.size),⟨?_,.inr ⟨b,p,arr,by rw[Aj];exact R,hB,setRow_heap w b l arr E' (0,0) hh,by rw[Aj];exact Ha,zU,by rw[Hi,oA],by rw[Aj]⟩⟩,?_,?_⟩;.rw[Aj];simp only[aX,aU,Hi,oA];omega
      .intro r ac;simp only[bJ,List.mem_replicate]at ac;rcases ac with(f|⟨_,rfl⟩)|f;.exact dJ r (dB f)
       .exact N
       exact dJ r (dR f)
      intro n I y hy;obtain⟨r,f,h6⟩:=jV hy;have IX:n<X i:=by have:=(ag.1 f).1;rw[Aj]at this;exact this
      have Ng:=u5 i (List.replicate (d - c) zs) c n (by rw[Jg];omega);rw[Jg,show c+(d - c)=d by omega]at Ng;rw[Ng]at f;have G6:X r=t.size:=by
       by_cases Q:c<=n/\n<d;.rw[aO Q,Ez,aO (by omega)]at f;simp only[aa]at f;rw[<- f];exact N
       rw[ao Q]at f;exact dJ r (bn f)
      have a2:I<t.size:=by rw[<- G6];exact(ag.1 h6).1
      have Ee:n*t.size+I<X i*t.size:=by have:(n+1)*t.size<=X i*t.size:=bS _ IX;rw[du,iQ]at this;omega
      by_cases Q:c<=n/\n<d
      .rw[aO Q,Ez,aO (by omega)]at f;simp only[aa]at f;subst f;have SP:c*t.size<=n*t.size:=bS _ Q.1;have yI:(n+1)*t.size<=d*t.size:=bS _ Q.2;rw[du,iQ]at yI;refine⟨gE y (bn h6),z.cells.getD I undef,?_,(F.2 I y h6).mono Ed⟩;rw[cn Ee,zV,aO (by omega),af _ (by omega)];have e2:n*t.size+I - c*t.size=I+t.size*(n - c):=by rw[iB t.size,wa];omega
       rw[e2,Nat.add_mul_mod_self_left,iM a2]
      rw[ao Q]at f;have dP:gi i n I=some y:=by rw[sG f];exact h6
      obtain⟨a1,u,h7,h8⟩:=a0 n I y dP;refine⟨a1,u,?_,h8.mono Ed⟩;rw[cn Ee,zV,ao ?_];.rw[<- G5,cn Ee]at h7;exact h7
      rintro⟨h9,NX⟩;rcases jt n c with Rc|Rc;.have:(n+1)*t.size<=c*t.size:=bS _ Rc;rw[du,iQ]at this;omega
      have:d*t.size<=n*t.size:=bS _ (by omega);omega);exact⟨_,_,μ,.inl fY,H9.1,.iS _ _ rfl (by simp),H9.2⟩
   simp at h
  simp at h
 simp at h
end PN
def PY{P:bl}{T:TypeId}{t:TypeInfo}{q:Bool}(h:k8 P T=S q):(((if q then S t.size else Y):de)=Y/\k8 P T=S Z)\/(((if q then S t.size else Y):de)=S t.size/\k8 P T=S G):=by
 cases q;.exact .inl ⟨rfl,h⟩
 exact .inr ⟨rfl,h⟩
section
variable {P:bl} {o:Oper} {i:I} {a:Act} {B:Nat} {w0 w:bF} {J:ai} {μ:Mem} {fr:ar}
def NO{w:bF}{J:ai}{μ:Mem}{fr:ar}{a:Act}(h:FR w J μ fr a):∀(b:List Operand) (c:List O),cOs b=S c->X c=X b/\∀(i:Nat) (y:V),(c.map (ev fr))[i]?=S y->VR w J μ y ((b.map a.eval).getD i undef)
 |[],c,hc=>by simp only[cOs,aa]at hc;subst hc;simp
 |x::b,c,hc=>by simp only[cOs]at hc;split at hc<;>simp only[aa,reduceCtorEq]at hc;rename_i y zs f j;subst hc;obtain⟨g,e⟩:=NO h b zs j;refine⟨by simp[g],λi z d=>?_⟩;cases i with|zero =>simp only[az,aG,aa]at d;subst d;simpa using gx h f|succ i=>simpa using e i z (by simpa using d)
def akU{f:Nat}{first b:Array Operand}{c:List O}(hF:FR w J μ fr a)(e:o.op=.makeFunc (.func f) first b)(h0:first.size=0)(h:cOs b.toList=S c):Yields P o a w J μ (.fn f (c.map (ev fr))):=by
 obtain⟨j,g⟩:=NO hF _ _ h;have d:first=#[]:=vK h0;subst d;refine .pure (v:=.func (.func f) #[] (b.map a.eval)) ?_ (.fn f _ _ (by simp[j]) λi x k=>?_);.simp[execOp,e,Instr.makeFunc]
 have:=g i x k;simpa[ax]using this
def Pp(b:compile P o=S i)(hF:FR w J μ fr a)(hS:kN P B w0 w J μ){ob:Prop}{y:V}(h:ca fr J i=S (ob,y))(F:ob):Yields P o a w J μ y:=by
 cases g:o.op with
 |move x =>simp only[compile,g,aH]at b;obtain⟨u,j,rfl⟩:=b;simp only[ca,aa,aY]at h;obtain⟨_,rfl⟩:=h;exact agV hF (.inl g) j
 |assign x =>simp only[compile,g,aH]at b;obtain⟨u,j,rfl⟩:=b;simp only[ca,aa,aY]at h;obtain⟨_,rfl⟩:=h;exact agV hF (.inr g) j
 |pick c x z =>simp only[compile,g]at b;split at b<;>simp only[aa,reduceCtorEq]at b;rename_i c' u z' ad j v;subst b;simp only[ca]at h;split at h<;>simp only[aa,aY,reduceCtorEq]at h;rename_i p N;obtain⟨_,rfl⟩:=h;exact ahE hF g ad j v N
 |box T x =>simp only[compile,g,aH]at b;obtain⟨u,j,rfl⟩:=b;simp[ca]at h
 |alloc T =>simp only[compile,g]at b;split at b<;>(try simp only[reduceCtorEq]at b);split at b<;>(try simp only[reduceCtorEq]at b);simp only[aH]at b;obtain⟨zs,_,rfl⟩:=b;simp[ca]at h
 |build T parts =>
  simp only[compile,g]at b;split at b<;>(try simp only[reduceCtorEq]at b);.rename_i t fs D hu;split at b<;>(try simp only[reduceCtorEq]at b);rename_i z v;split at b<;>(try simp only[reduceCtorEq]at b);rename_i zs places pD Cl;simp only[aH]at b;obtain⟨ps,Q,rfl⟩:=b;exact adq hF hS g D hu v pD Cl Q h F
  rename_i t n E D hu;split at b<;>(try simp only[reduceCtorEq]at b);rename_i z te v ac;split at b<;>(try simp only[reduceCtorEq]at b);rename_i zs pD;simp only[aH]at b;obtain⟨ps,Q,rfl⟩:=b;exact YM hF hS g D hu v ac pD Q h F
 |buildSlice T len parts =>
  simp only[compile,g]at b;split at b<;>(try simp only[reduceCtorEq]at b);rename_i E q;split at b<;>(try simp only[reduceCtorEq]at b);rename_i t D;split at b<;>(try simp only[reduceCtorEq]at b);rename_i z v;split at b<;>(try simp only[reduceCtorEq]at b);rename_i I;simp only[aH]at b;obtain⟨xs,Q,rfl⟩:=b;split at h;.simp[ca]at h
  exact YN hF hS g q D v I.1 I.2.1 I.2.2.1 I.2.2.2 Q h F
 |load T x =>
  simp only[compile,g]at b;split at b<;>simp only[aa,reduceCtorEq]at b;.rename_i u t j hA D;subst b;exact YL hF hS g j D (.inr ⟨rfl,hA⟩) h F
  rename_i u t j hA D;subst b;exact YL hF hS g j D (.inl ⟨rfl,hA⟩) h F
 |store T x z =>simp only[compile,g]at b;split at b<;>simp only[aa,reduceCtorEq]at b;subst b;simp[ca]at h
 |nilCheck x =>simp only[compile,g,aH]at b;obtain⟨u,j,rfl⟩:=b;exact adp hF hS g j h
 |binOp op T x z yT =>
  simp only[compile,g]at b;split at b<;>(try simp only[reduceCtorEq]at b);rename_i u z' j v;split at b
  .rename_i hq;split at b;.simp only[aa]at b;subst b;exact agW hF g j v h F
   split at b
   .rename_i U;simp only[aa]at b;subst b;have q:P.underlying T=S .bool:=by
     unfold acG at U;split at U;.assumption
     simp at U
    exact akW hF g hq q j v h
   simp only[aH]at b;obtain⟨ks,H,rfl⟩:=b;exact akV hF g hq H j v h
  simp only[aa]at b;subst b;exact agW hF g j v h F
 |unOp op T x =>simp only[compile,g,aH]at b;obtain⟨u,j,rfl⟩:=b;exact aqF hF g j h
 |convert s d x =>
  simp only[compile,g]at b;split at b<;>(try simp only[reduceCtorEq,aa]at b);.rename_i k0 k u hs hd j;subst b;simp only[ca]at h;split at h<;>simp only[aa,aY,reduceCtorEq]at h;rename_i k1 n N;obtain⟨_,rfl⟩:=h;exact akT hF g hs hd j N
  rename_i e u hs hd j;split at b<;>simp only[reduceCtorEq,aa]at b;rename_i he;subst b;exact akX hF hS g hs he hd j h
 |slice T x lo hi mx =>
  cases mx with
  |some m=>simp[compile,g]at b
  |none =>
  simp only[compile,g]at b;split at b<;>(try simp only[reduceCtorEq,aa]at b);.rename_i u af W q j L O;subst b;exact YK hF hS g q j L O h F
  .rename_i E u af W q j L O;split at b<;>simp only[reduceCtorEq,aa]at b;rename_i t D;subst b;exact adn hF hS g q D j L O h F
  rename_i n E u q j L O;split at b<;>(try simp only[reduceCtorEq]at b);rename_i t D;split at b<;>simp only[reduceCtorEq,aa]at b;rename_i I;subst b;have R:lo=Y:=by cases lo<;>simp[yN]at L |-
  have e2:hi=Y:=by cases hi<;>simp[yN]at O |-
  subst R;subst e2;exact akY hF hS g q D I.1 j h F
 |fieldAddr T x f =>simp only[compile,g]at b;split at b<;>(try simp only[reduceCtorEq]at b);rename_i fs u q j;split at b<;>(try simp only[reduceCtorEq]at b);rename_i fd hf;split at b<;>(try simp only[reduceCtorEq]at b);rename_i t D;split at b<;>simp only[reduceCtorEq,aa]at b;rename_i iz;subst b;exact akR hF (λid o ho=>⟨B,hS.obj id o ho⟩) g j q hf D iz h
 |indexAddr T x k =>
  simp only[compile,g]at b;split at b<;>(try simp only[reduceCtorEq]at b);.rename_i E u k' q j H;split at b<;>simp only[reduceCtorEq,aa]at b;rename_i t D;subst b;exact akQ hF hS g q D j H h F
  rename_i n E u k' q j H;split at b<;>simp only[reduceCtorEq,aa]at b;rename_i t D;subst b;exact ahJ hF hS g q D j H h F
 |index T x k =>simp only[compile,g]at b;split at b<;>simp only[reduceCtorEq,aa]at b;rename_i u k' q j H;subst b;exact ahD hF hS g q j H h F
 |extract x k =>simp only[compile,g,aH]at b;obtain⟨u,j,rfl⟩:=b;simp only[ca]at h;split at h<;>(try simp only[reduceCtorEq]at h);rename_i xs N;split at h<;>simp only[aa,aY,reduceCtorEq]at h;rename_i z v;obtain⟨_,rfl⟩:=h;exact akS hF g j N v
 |makeSlice T l c =>simp only[compile,g]at b;split at b<;>(try simp only[reduceCtorEq]at b);split at b<;>(try simp only[reduceCtorEq]at b);split at b<;>(try simp only[reduceCtorEq]at b);split at b<;>(try simp only[reduceCtorEq]at b);simp only[aH]at b;obtain⟨zs,_,rfl⟩:=b;simp[ca]at h
 |lookup T m k ok =>simp only[compile,g]at b;split at b<;>(try simp only[reduceCtorEq]at b);rename_i K E m' k' q hm H;split at b<;>simp only[reduceCtorEq,aa]at b;rename_i kd z Cm v;subst b;exact ahI hF hS g q hm H Cm v h F
 |mapUpdate T m k x =>simp only[compile,g]at b;split at b<;>(try simp only[reduceCtorEq]at b);simp only[aH]at b;obtain⟨kd,_,rfl⟩:=b;simp[ca]at h
 |makeMap T r =>
  cases r with
  |some r=>simp[compile,g]at b
  |none =>simp only[compile,g]at b;split at b<;>simp only[reduceCtorEq,aa]at b;subst b;simp[ca]at h
 |call c =>
  simp only[compile,g]at b;obtain⟨callee,C,argTypes⟩:=c;unfold oW at b;dsimp only at b;split at b
  .rename_i x T R e2;have M:C=#[x]:=by cases C;simp_all
   have et:argTypes=#[T]:=by cases argTypes;simp_all
   subst M;subst et;split at b<;>simp only[reduceCtorEq,aa]at b;.rename_i u q j;subst b;exact ahC hF hS g q j h
   .rename_i E u q j;subst b;exact CJ hF hS g q j h
   rename_i K E u q j;subst b;exact ahF hF hS g q j h
  .rename_i x z R;have M:C=#[x,z]:=by cases C;simp_all
   subst M;split at b<;>simp only[reduceCtorEq,aa]at b;rename_i u z' j v;subst b;exact ahH hF hS g j v h rfl
  .rename_i x z R;have M:C=#[x,z]:=by cases C;simp_all
   subst M;split at b<;>simp only[reduceCtorEq,aa]at b;rename_i u z' j v;subst b;exact ahG hF hS g j v h
  .split at b<;>(try simp only[reduceCtorEq]at b);split at b<;>(try simp only[reduceCtorEq]at b);split at b<;>(try simp only[reduceCtorEq]at b);split at b;.split at b<;>simp only[reduceCtorEq,aa]at b;subst b;simp[ca]at h
   split at b<;>(try simp only[reduceCtorEq]at b);split at b<;>simp only[reduceCtorEq,aa]at b;subst b;simp[ca]at h
  .split at b<;>(try simp only[reduceCtorEq]at b);split at b<;>(try simp only[reduceCtorEq]at b);split at b<;>(try simp only[reduceCtorEq]at b);split at b<;>(try simp only[reduceCtorEq]at b);simp only[aH]at b;obtain⟨zs,_,rfl⟩:=b;simp[ca]at h
  .split at b<;>(try simp only[reduceCtorEq]at b);split at b<;>(try simp only[reduceCtorEq]at b);simp only[aH]at b;obtain⟨zs,_,rfl⟩:=b;simp[ca]at h
  .simp only[aH]at b;obtain⟨zs,_,rfl⟩:=b;simp[ca]at h
  simp at b
 |makeFunc fn first am =>
  cases fn with
  |func f =>simp only[compile,g]at b;split at b<;>simp only[aH,reduceCtorEq]at b;rename_i h0;obtain⟨ys,EK,rfl⟩:=b;simp only[ca,aa,aY]at h;obtain⟨_,rfl⟩:=h;exact akU hF g h0 EK
  |_=>simp[compile,g]at b
 |_=>simp[compile,g]at b
def N1(b:compile P o=S i)(hF:FR w J μ fr a)(hS:kN P B w0 w J μ){M:Prop}{y:V}{O:ai}(h:dY fr J i=S (M,y,O))(C:M):BH P o a B w0 w J μ y O:=by
 cases e:o.op with
 |move x =>simp only[compile,e,aH]at b;obtain⟨v,j,rfl⟩:=b;simp[dY]at h
 |assign x =>simp only[compile,e,aH]at b;obtain⟨v,j,rfl⟩:=b;simp[dY]at h
 |pick c x z =>simp only[compile,e]at b;split at b<;>simp only[aa,reduceCtorEq]at b;subst b;simp[dY]at h
 |box T x =>simp only[compile,e,aH]at b;obtain⟨v,j,rfl⟩:=b;exact apH hF hS e j h C
 |alloc T =>simp only[compile,e]at b;split at b<;>(try simp only[reduceCtorEq]at b);rename_i t p;split at b<;>(try simp only[reduceCtorEq]at b);rename_i z q;simp only[aH]at b;obtain⟨zs,D,rfl⟩:=b;exact agz hF hS e p q D h
 |build T parts =>
  simp only[compile,e]at b;split at b<;>(try simp only[reduceCtorEq]at b);all_goals
   split at b<;>(try simp only[reduceCtorEq]at b);split at b<;>(try simp only[reduceCtorEq]at b);simp only[aH]at b;obtain⟨ps,Q,rfl⟩:=b;simp[dY]at h
 |buildSlice T len parts =>
  simp only[compile,e]at b;split at b<;>(try simp only[reduceCtorEq]at b);rename_i E u;split at b<;>(try simp only[reduceCtorEq]at b);rename_i t p;split at b<;>(try simp only[reduceCtorEq]at b);rename_i z q;split at b<;>(try simp only[reduceCtorEq]at b);rename_i g;simp only[aH]at b;obtain⟨xs,Q,rfl⟩:=b;split at h;.exact aj9 hF hS e u p q g.1 g.2.1 g.2.2.1 g.2.2.2 Q h C
  simp[dY]at h
 |load T x =>simp only[compile,e]at b;split at b<;>simp only[aa,reduceCtorEq]at b<;>(subst b;simp[dY]at h)
 |store T x z =>simp only[compile,e]at b;split at b<;>simp only[aa,reduceCtorEq]at b;rename_i v z' t j q p;subst b;exact agx hF hS e p j q h C
 |nilCheck x =>simp only[compile,e,aH]at b;obtain⟨v,j,rfl⟩:=b;simp[dY]at h
 |binOp op T x z yT =>
  simp only[compile,e]at b;split at b<;>(try simp only[reduceCtorEq]at b);split at b
  .split at b;.simp only[aa]at b;subst b;simp[dY]at h
   split at b;.simp only[aa]at b;subst b;simp[dY]at h
   simp only[aH]at b;obtain⟨ks,N,rfl⟩:=b;simp[dY]at h
  simp only[aa]at b;subst b;simp[dY]at h
 |unOp op T x =>simp only[compile,e,aH]at b;obtain⟨v,j,rfl⟩:=b;simp[dY]at h
 |convert s d x =>
  simp only[compile,e]at b;split at b<;>(try simp only[reduceCtorEq,aa]at b);.subst b;simp[dY]at h
  split at b<;>simp only[reduceCtorEq,aa]at b;subst b;simp[dY]at h
 |slice T x lo hi mx =>
  cases mx with
  |some m=>simp[compile,e]at b
  |none =>
  simp only[compile,e]at b;split at b<;>(try simp only[reduceCtorEq,aa]at b);.subst b;simp[dY]at h
  .split at b<;>simp only[reduceCtorEq,aa]at b;subst b;simp[dY]at h
  split at b<;>(try simp only[reduceCtorEq]at b);split at b<;>simp only[reduceCtorEq,aa]at b;subst b;simp[dY]at h
 |fieldAddr T x f =>simp only[compile,e]at b;split at b<;>(try simp only[reduceCtorEq]at b);split at b<;>(try simp only[reduceCtorEq]at b);split at b<;>(try simp only[reduceCtorEq]at b);split at b<;>simp only[reduceCtorEq,aa]at b;subst b;simp[dY]at h
 |indexAddr T x k =>
  simp only[compile,e]at b;split at b<;>(try simp only[reduceCtorEq]at b);all_goals
   split at b<;>simp only[reduceCtorEq,aa]at b;subst b;simp[dY]at h
 |index T x k =>simp only[compile,e]at b;split at b<;>simp only[reduceCtorEq,aa]at b;subst b;simp[dY]at h
 |extract x k =>simp only[compile,e,aH]at b;obtain⟨v,j,rfl⟩:=b;simp[dY]at h
 |makeSlice T l c =>simp only[compile,e]at b;split at b<;>(try simp only[reduceCtorEq]at b);rename_i E u;split at b<;>(try simp only[reduceCtorEq]at b);rename_i t p;split at b<;>(try simp only[reduceCtorEq]at b);rename_i z l' c' q hl Eh;split at b<;>(try simp only[reduceCtorEq]at b);rename_i g;simp only[aH]at b;obtain⟨zs,D,rfl⟩:=b;exact asY hF hS e u p q g.1 g.2 D hl Eh h C
 |lookup T m k ok =>simp only[compile,e]at b;split at b<;>(try simp only[reduceCtorEq]at b);split at b<;>simp only[reduceCtorEq,aa]at b;subst b;simp[dY]at h
 |mapUpdate T m k x =>simp only[compile,e]at b;split at b<;>(try simp only[reduceCtorEq]at b);rename_i K E m' k' v u hm N j;simp only[aH]at b;obtain⟨kd,Cm,rfl⟩:=b;exact aj8 hF hS e u hm N j Cm h C
 |makeMap T r =>
  cases r with
  |some r=>simp[compile,e]at b
  |none =>simp only[compile,e]at b;split at b<;>simp only[reduceCtorEq,aa]at b;subst b;exact agy hS hF e h
 |call c =>
  simp only[compile,e]at b;obtain⟨callee,n,argTypes⟩:=c;unfold oW at b;dsimp only at b;split at b;.split at b<;>simp only[reduceCtorEq,aa]at b<;>(subst b;simp[dY]at h)
  .split at b<;>simp only[reduceCtorEq,aa]at b;subst b;simp[dY]at h
  .split at b<;>simp only[reduceCtorEq,aa]at b;subst b;simp[dY]at h
  .rename_i x z T U e1 e2;have I:n=#[x,z]:=by cases n;simp_all
   have L:argTypes=#[T,U]:=by cases argTypes;simp_all
   subst I;subst L;split at b<;>(try simp only[reduceCtorEq]at b);rename_i E v z' u j q;split at b<;>(try simp only[reduceCtorEq]at b);rename_i t p;split at b<;>(try simp only[reduceCtorEq]at b);rename_i R F;split at b;.rename_i H;subst H;split at b<;>simp only[reduceCtorEq,aa]at b;rename_i g;subst b;exact apI hS hF e u p F g.1 g.2 j q h C
   split at b<;>(try simp only[reduceCtorEq]at b);rename_i hU;split at b<;>simp only[reduceCtorEq,aa]at b;rename_i g;subst b;have D:R.cells.size=t.size:=by obtain⟨h1,_,h2⟩:=g;rw[h1];cases R<;>first|rfl|simp[PV]at h2
   exact aka hS hF e u hU p F g.1 g.2.1 D j q h C
  .rename_i x T e1 e2;have I:n=#[x]:=by cases n;simp_all
   have L:argTypes=#[T]:=by cases argTypes;simp_all
   subst I;subst L;split at b<;>(try simp only[reduceCtorEq]at b);rename_i E v u j;split at b<;>(try simp only[reduceCtorEq]at b);rename_i t p;split at b<;>(try simp only[reduceCtorEq]at b);rename_i z q;split at b<;>(try simp only[reduceCtorEq]at b);rename_i g;simp only[aH]at b;obtain⟨zs,D,rfl⟩:=b;exact apG hF hS e u p q g.1 g.2 D j h C
  .split at b<;>(try simp only[reduceCtorEq]at b);split at b<;>(try simp only[reduceCtorEq]at b);simp only[aH]at b;obtain⟨zs,_,rfl⟩:=b;simp[dY]at h
  .simp only[aH]at b;obtain⟨zs,_,rfl⟩:=b;simp[dY]at h
  simp at b
 |makeFunc fn first W =>
  cases fn with
  |func f =>simp only[compile,e]at b;split at b<;>simp only[aH,reduceCtorEq]at b;obtain⟨ys,_,rfl⟩:=b;simp[dY]at h
  |_=>simp[compile,e]at b
 |_=>simp[compile,e]at b
end

/- A part of a proof; the claim's last text says of what. -/
import Derived.Deep.Slices
import Derived.Deep.Strs
import Derived.Test.YtlakkaamfadipaaGreatDoorB25
set_option linter.all false

namespace Go.Proofs.Tryz
open Go Go.Pm Go.Bt Go.ChangeShapes Go.WideShapes Go.ChangeAt Go.RowKit Go.Proofs.YtlakkaamfadipaaGreatDoor
section
variable {H:Type} {enc:TypeId×Value->H} {W:bD} {base:Nat} {held:Bool} (μ:Mem)
structure ItC (cs:List Value) (y:Int×ByteArray×Int) (B:Nat):Prop where
 awa:cs=[.int .i64 y.1,.string y.2.1,.int .i64 y.2.2]
 size:y.2.1.size<=maxLen
 id : -9223372036854775808<=y.2.2/\y.2.2<=9223372036854775807
 arx:y.2.1.size+1<=B
def Reads(W:bD)(μ:Mem)(xs:aB)(cs:List Value):Prop:=xs.length=cs.length/\∀(i:Nat) (x:V) (v:Value),xs[i]?=some x->cs[i]?=some v->VR W [] μ x v
def Reads.nil:Reads W μ [] []:=⟨rfl,by simp⟩
def Reads.cons{x:V}{v:Value}{xs:aB}{cs:List Value}(h:VR W [] μ x v)(t:Reads W μ xs cs):Reads W μ (x::xs) (v::cs):=by
 refine⟨by simp[t.1],λi y u a b=>?_⟩;cases i with
 |zero=>simp only[aM,ae]at a b;subst a;subst b;exact h
 |succ i=>exact t.2 i y u (by simpa using a) (by simpa using b)
def drop_take{α:Type}{a b c d e f g h:α}:([a,b,c,d,e,f,g,h].drop 0).take 1=[a]/\([a,b,c,d,e,f,g,h].drop 1).take 1=[b]/\([a,b,c,d,e,f,g,h].drop 2).take 1=[c]/\([a,b,c,d,e,f,g,h].drop 3).take 1=[d] /\
  ([a,b,c,d,e,f,g,h].drop 4).take 1=[e]/\([a,b,c,d,e,f,g,h].drop 5).take 1=[f]/\([a,b,c,d,e,f,g,h].drop 6).take 1=[g]/\([a,b,c,d,e,f,g,h].drop 7).take 1=[h]:=⟨rfl,rfl,rfl,rfl,rfl,rfl,rfl,rfl⟩
end
structure atM (q:Qr):Prop where
 awc:q.awc.length+bd q.awc<=1048576
 bU:q.bU.length<=1048576
 next:q.next.length<=1048576
 now : -9223372036854775808<=q.now/\q.now<=9223372036854775807
structure acq (e:En):Prop where
 awc:e.awc.length+bd e.awc<=1048576
 awf:e.awf.length+bd e.awf<=1048576
 bU:e.bU.length<=1048576
 next:e.next.length<=1048576
 c8:e.c8.length<=1048576
 cA:e.cA.length<=1048576
 ids:∀y∈e.awc++e.awf,-9223372036854775808<=y.id/\y.id<=9223372036854775807
 awh : -9223372036854775808<=e.awh/\e.awh<=9223372036854775807
end Go.Proofs.Tryz
namespace Go.Proofs.Tryz
open Go Go.Pm Go.Bt Go.Sort Go.Shelf
def Xr{J:ak}{K:bl}(ws:dq)(F:cn J)(f:ws.length<2^38):∀(rest pre:dq) (C:List (GK×Int)) (last:aG) (n:Nat),ws=pre++rest->CN n C->n+rest.length<2^39 ->
  (∀d a,iD C last rest=bump d (a,[]) 1->CN (n+rest.length) d->((fj 3 (fh (.mp J.length) (fh (.s a) (fj 48 fo)))) λL=>K (.exit 0) ⟨L,J++[.map 246 3 (emap wA fZ d)]⟩)) ->
  fm J.length prog NQ K (rest.length+1) ⟨(uu 3 (.mp J.length::.s last::uu 6 (.sl 1 (ws.map ix)::.I ws.length::.I pre.length::uu 39 []))),J++[.map 246 3 (emap wA fZ C)]⟩:=by
 intro rest
 induction rest with
 |nil =>
  intro pre C last n j m B u;have j:=cN j
  subst j;refine ar λR x=>?_;simp only[NQ,VV,seval];exact⟨λh=>by simp at h,λ_=>u C last rfl m ..⟩
 |cons w rest ih =>
  intro pre C last n j m B u;subst j;have v:pre.length+1+rest.length<2^38:=by simp at f;omega
  have y:=dh pre w (by omega)
  simp only[ai]at B;have A:=m.getD (last,w);have z:∀C,cn (J++[.map 246 3 (emap wA fZ C)]):=λC=>cC F (by simp[l3]);have M:=m.bump (last,w)
  have r:∀{d:List (GK×Int)},CN (n+1+rest.length) d->CN (n+(w::rest).length) d:=λt=>by
   have e:n+(w::rest).length=n+1+rest.length:=by simp;omega
   rw[e];exact t
  have c:=ih (pre++[w]) (bump C (last,w) 1) w (n+1) (by simp) M (by omega) (λd G E t=>u d G E (r t));refine ar λR x=>?_;simp only[NQ,ix,VV,seval];refine⟨λ_=>⟨by simp;omega,?_⟩,λh=>by simp at h;omega⟩;rcases r9 F3 C (last,w)with⟨o,k,l,g,D⟩|⟨i,b,o,k,l,g⟩
  .have p:IntKind.i64.wrap (0+1)=1:=by decide
   have q:bump C (last,w) 1=iZ C (last,w) 1:=by simp[bump,o]
   rw[q]at c;simp only[wA]at k l g D;simp only[ek,k,l,g,D,p,eS,V.lO,V.cell,VV,seval];have H:IntKind.i64.wrap 1=1:=by decide
   simp only[y,H];refine x _ (cG [_] [_] (z _) (by repeat' constructor) (by simp[LW]) c)
  .have p:IntKind.i64.wrap (b+1)=b+1:=IntWalk.i64_in _ (by rw[o]at A;simp at A;omega);have q:bump C (last,w) 1=iZ C (last,w) (b+1):=by simp[bump,o]
   rw[q]at c;simp only[wA]at k l g;simp only[ek,k,l,g,p,eS,V.lO,V.cell,VV,seval];simp only[y];refine x _ (cG [_] [_] (z _) (by repeat' constructor) (by simp[LW]) c)
def Xq{J:ak}{K:bl}(C:List (GK×Int))(k m:Nat)(x:cn J)(G:C.length<2^39):∀(N:Nat) (a:dK) (b:cU) (out:List Gr) (g:Nat),a.length<=N->a.Nodup->(∀p∈a,p<C.length)->out.length<=C.length ->
  (out++a.map λi=>C.getD i (([],[]),0)).Perm C ->
  (∀a b g (c:List Gr),c.Perm C->((fj 7 (fh (.own (J.length+3) g) (fj 45 fo))) λy=>K (.exit 2) ⟨y,J++[.map 246 3 (emap wA fZ C),.iter true J.length 3 k [] (some m),.iter false J.length 3 (emap wA fZ C).length a b,.row 182 3 40 g false (c.map yw)]⟩)) ->
  fm J.length prog I5 K (N+1) ⟨(uu 7 (.own (J.length+3) g::uu 27 (.it (J.length+2)::uu 17 []))),J++[.map 246 3 (emap wA fZ C),.iter true J.length 3 k [] (some m),.iter false J.length 3 (emap wA fZ C).length a b,.row 182 3 40 g false (out.map yw)]⟩:=by
 intro N
 induction N with
 |zero =>
  intro a b out g A n l z d j;have r:a=[]:=aW (by omega);subst r;refine ar λR u=>?_;simp only[I5,VV,seval];exact j _ _ _ _ (by simpa using d) ..
 |succ N ih =>
  intro a b out g A n l z d j;refine ar λR u=>?_;simp only[I5,VV,seval];refine⟨λr=>?_,λq f=>?_⟩
  .subst r;exact j _ _ _ _ (by simpa using d) ..
  .have B:=l q f;have v:=xg (ke:=wA) (ve:=fZ) C (([],[]),0) B;have D:=d.length_eq;have t:=tW n f;have F:=pv f;have E:0<a.length:=arG f;simp only[aj,ag]at D;simp only[v,fZ,wA,VV,seval];have e:out.map yw++[[.s (C.getD q (([],[]),0)).1.1,.s (C.getD q (([],[]),0)).1.2,.I (C.getD q (([],[]),0)).2]]=(out++[C.getD q (([],[]),0)]).map yw:=by simp[yw]
   rw[e];have w:∀C I o,cn (J++[.map 246 3 (emap wA fZ C),.iter true J.length 3 k [] (some m),.iter false J.length 3 (emap wA fZ C).length (a.filter λi=>i != q) I,.row 182 3 40 (g+1) false o]):=λC I o=>cC x (by simp[l3]);refine⟨by simp only[ag,maxLen];omega,u _ (cG [_,_,_,_] [_] (w _ _ _) (by repeat' constructor) (by simp[LW]) (ih (a.filter λi=>i != q) (some q) (out++[C.getD q (([],[]),0)]) (g+1) (by omega) (n.filter _) (λp h=>l p (cZ.1 h).1) (by simp;omega) ?_ j))⟩;refine List.Perm.trans ?_ d;rw[bk];refine sk _ ?_;exact((t.map λi=>C.getD i (([],[]),0)).symm)
def RG(a b:Gr)(J:ak):bM prog 223 [.agg (yw a),.agg (yw b)] J (.I (G0 a b)):=by
 refine aZ func223 ala.2 λc d=>au ?_;simp only[ala,SS,seval];simp only[yw,VV,seval];refine aw (O2 a.1.1 b.1.1 _) rfl ?_;simp only[VV,seval];refine aw (O2 a.1.2 b.1.2 _) rfl ?_;simp only[VV,seval];refine ml (zs:=[.sl 1 ([fS a.1.1 b.1.1,fS a.1.2 b.1.2].map bV)]) (.cons (.lit _ _) .nil) (ahd _ _) ?_;simp only[VV,seval];exact bg c (.inr rfl) rfl (by simp[LW]) ⟨rfl,rfl⟩
def Zm{α:Type}{c:α->α->Int}(h:pA c)(l:List α):SWO (ltOf λ(i j:Fin l.length)=>c l[i] l[j]):=by
 refine⟨λx=>?_,λx y z f e=>?_,λx y z f e=>?_⟩
 .simp only[ltOf,dB,h.self];omega
 .simp only[ltOf,aV]at *;have g:=h.my l[x] l[y];have k:=h.my l[y] l[z];have m:=h.my l[x] l[z];have:=h.gt (a:=l[z]) (b:=l[y]) (d:=l[x]) (by omega) (by omega);omega
 .simp only[ltOf,dB]at *;have:=h.trans l[x] l[y] l[z] (by omega) (by omega);omega
def WB(ws:dq)(l:List Gr)(a:l.Perm (iD [] [] ws))(b:l.length<2^30)(id g:Nat)(J:ak)(h1:J[id]?=some (.row 182 3 40 g false (l.map yw))):
  PC prog 222 [.own id g,.fn 223 []] J (λr J'=>r=.iQ []/\J'=J.set id (.row 182 3 40 g false ((dS ws).map yw))):=by
 refine PC.mono (PC.Zt Tryz.aj4 (k:=3) Tryz.isAgg182 Tryz.sizeOf182 yw (λx=>by simp[yw]) (by omega) G0 (enters_of func223 (by kernel_rfl) rfl) l (λx f y e=>(RG x y _).mono λr J' h=>h.1) (Zm rn l) b h1) ?_;rintro r J' ⟨i,c,d,rfl,rfl⟩;exact⟨rfl,by rw[LN (c.trans a) d];rfl⟩
def ac4:Ti prog 182 3 40:=qJ (by kernel_rfl)
def abt(ws:dq)(E:ws.length<2^29)(J:ak):bM prog 179 [.sl 1 (ws.map ix)] J (.sl 3 ((dS ws).map yw)):=by
 refine aZ func179 alF.2 λu N=>au ?_;simp only[alF,SS,seval];simp only[ag,VV,seval];refine bZ.aK (fr':=(uu 3 (.mp J.length::.s []::uu 6 (.sl 1 (ws.map ix)::.I ws.length::.I ([]:dq).length::uu 39 [])))) (by repeat' constructor) (ws.length+1) (Xr ws u (by omega) ws [] [] [] 0 rfl CN.nil (by omega) λf e B q=>?_);simp only[JE];intros;have G:=q.bump (e,[]);have D:=q.getD (e,[]);have Q:∀C a b,cn (J++[.map 246 3 (emap wA fZ C),.iter true J.length 3 a [] (some b)]):=λC a b=>cC u (by simp[l3])
 have h:∀(C:List (GK×Int)) (k z:Nat),C=iD [] [] ws->CN (0+ws.length+1) C->bZ J.length prog I5.loop
  (B8 2 (Lh (Fm J.length prog ((bK.dv [] [{ d:=some 50,g:=[],i:=I.gm (O.t 7) },{ d:=some 51,g:=[],i:=I.call 222 [O.t 50,O.c (V.fn 223 [])] }]).seq
      ((bK.dv [] [{ d:=some 52,g:=[],i:=I.gm (O.t 7) },{ d:=some 2,g:=[],i:=I.gm (O.t 52) }]).seq bK.ret))
     (rG prog J.length [Rs.t 2] λr x=>r=V.sl 3 (List.map yw (dS ws))/\x=J))
    (rG prog J.length [Rs.t 2] λr x=>r=V.sl 3 (List.map yw (dS ws))/\x=J)))
   ⟨(uu 7 (.nil::uu 27 (.it (J.length+2)::uu 17 []))),J++[.map 246 3 (emap wA fZ C),.iter true J.length 3 k [] (some z),.iter false J.length 3 (emap wA fZ C).length (List.range (emap wA fZ C).length) none]⟩:=by
  intro C k z q M;have A:(emap wA fZ C).length=C.length:=vO C;have K:=M.1;refine bZ.wk ((Wk.jA (P:=prog) (k:=7) [_,_,_] ac4 rfl).trans (Wk.fg ?_)) (bZ.uh (C.length+1) (Xq C k z u (by omega) C.length (List.range (emap wA fZ C).length) none [] 0 (by simp[A]) pT (λp v=>by simpa[A]using v) (by simp) (by rw[A,bc,sP]) ?_))
  .simp only[VV,seval]
   repeat' constructor
  .intro R L g m v;simp only[JE];intros;simp only[VV,seval];refine aw (WB ws m (by rw[<- q];exact v) (by rw[v.length_eq];omega) _ g _ (by simp only[VV,seval])) rfl ?_;simp only[VV,seval];refine mW 3 u (.inr rfl) (by simp only[RS,seval];rfl) rfl ?_ ?_
   .simp only[aH,bR,Pm.fz,oa,jx,aT,LW]
   .simp only[aH,bR,Pm.fz,oa,jx,aT];exact⟨rfl,trivial⟩
 rcases r9 F3 f (e,[])with⟨w,j,o,l,F⟩|⟨i,b,w,j,o,l⟩
 .have y:IntKind.i64.wrap (0+1)=1:=by decide
  have H:IntKind.i64.wrap 1=1:=by decide
  have n:bump f (e,[]) 1=iZ f (e,[]) 1:=by simp[bump,w]
  simp only[wA]at j o l F;simp only[ek,j,o,l,F,y,H,eS,V.lO,V.cell,VV,seval];exact bZ.wk (Wk.fg (by repeat' constructor)) (h _ _ _ (by rw[B,n]) (n▸G))
 .have y:IntKind.i64.wrap (b+1)=b+1:=IntWalk.i64_in _ (by rw[w]at D;simp at D;omega);have n:bump f (e,[]) 1=iZ f (e,[]) (b+1):=by simp[bump,w]
  simp only[wA]at j o l;simp only[ek,j,o,l,y,eS,V.lO,V.cell,VV,seval];exact bZ.wk (Wk.fg (by repeat' constructor)) (h _ _ _ (by rw[B,n]) (n▸G))
def S0(x:It)(J:ak):bM prog 225 [.agg x.awa] J (.b (b9 x)):=by
 refine aZ func225 ak8.2 λa c=>au ?_;simp only[ak8,It.awa,SS,seval];simp only[VV,seval];exact gq a (by simp only[RS,seval];rfl) (by simp only[LW])
def zy(x:It)(J:ak):bM prog 183 [.agg x.awa] J (.b (b9 x)):=by
 refine aZ func183 alA.2 λa c=>au ?_;simp only[alA,It.awa,SS,seval];simp only[VV,seval];exact gq a (by simp only[RS,seval];rfl) (by simp only[LW])
def ab3(x:It)(J:ak):bM prog 182 [.agg x.awa] J (.iQ [.agg (dX x).1.awa,.b (dX x).2]):=by
 refine aZ func182 alB.2 λi j=>au ?_;simp only[alB,It.awa,SS,seval];rcases xJ (x.awb=6\/x.awb=7\/x.awb=8\/x.awb=9\/x.awb=5)with g|g
 .have h:dX x=(⟨x.awb,im x,0⟩,true):=by simp only[dX,az g]
  have c:(x.awb==6)=false\/(x.awb==6)=true:=by cases(x.awb==6)<;>simp
  have d:(x.awb==7)=false\/(x.awb==7)=true:=by cases(x.awb==7)<;>simp
  have e:(x.awb==8)=false\/(x.awb==8)=true:=by cases(x.awb==8)<;>simp
  have f:(x.awb==9)=false\/(x.awb==9)=true:=by cases(x.awb==9)<;>simp
  have a:(x.awb==5)=false\/(x.awb==5)=true:=by cases(x.awb==5)<;>simp
  rcases c with c|c<;>rcases d with d|d<;>rcases e with e|e<;>rcases f with f|f<;>rcases a with a|a<;>first|(exfalso;simp at c d e f a;omega)|skip
  all_goals
   simp only[c,d,e,f,a,↓IT,VV,seval];refine aw (Bq x _) rfl ?_;simp only[VV,seval];exact bg i (.inr rfl) (by simp only[RS,seval];rfl) (by simp only[LW]) ⟨by rw[h];rfl,rfl⟩
 .have h:dX x=(⟨x.awb,x.awd,0⟩,b9 x):=by simp only[dX,an g]
  have c:(x.awb==6)=false:=by simp;omega
  have d:(x.awb==7)=false:=by simp;omega
  have e:(x.awb==8)=false:=by simp;omega
  have f:(x.awb==9)=false:=by simp;omega
  have a:(x.awb==5)=false:=by simp;omega
  simp only[c,d,e,f,a,↓IT,VV,seval];refine aw (S0 x _) rfl ?_;simp only[VV,seval];exact bg i (.inr rfl) (by simp only[RS,seval];rfl) (by simp only[LW]) ⟨by rw[h];rfl,rfl⟩
def FM(gs:List Gr)(m:Nat)(p w t awr:Int):aB:=[.sl 3 (gs.map yw),.mp m,.I p,.I w,.I t,.I awr]
def sU{J:ak}{A:Ob}(b:cn (J++[A]))(C:List (TK×Int))(gs:List Gr)(p w t a:Int):cn (J++[A,.map 150 3 (emap lD fZ C),.box 162 (FM gs (J.length+1) p w t a)]):=by
 have:=cC b (l:=[.map 150 3 (emap lD fZ C),.box 162 (FM gs (J.length+1) p w t a)]) (by simp[l3,FM,LW]);simpa using this
def XF{J:ak}{K:bl}(A:Ob)(l:List It)(gs:List Gr)(a:Int)(m:cn (J++[A]))(b:gs.length<2^30)(p:∀g∈gs,0<=g.2/\g.2<=2^30):∀(rest pre:List Gr) (n:Int),gs=pre++rest->0<=n/\n<=2^30*(pre.length:Int) ->
  ((fh (.sl 3 (l.map It.awa)) (fj 1 (fh (.ptr J.length 0) (fh (.ptr (J.length+2) 0) (fj 67 fo))))) λj=>K (.exit 0) ⟨j,J++[A,.map 150 3 [],.box 162 (FM gs (J.length+1) (NA n rest) 0 0 a)]⟩) ->
  fm J.length prog N5 K (rest.length+1) ⟨(.sl 3 (l.map It.awa)::uu 1 (.ptr J.length 0::.ptr (J.length+2) 0::uu 14 (.sl 3 (gs.map yw)::.I gs.length::.I pre.length::uu 50 []))),J++[A,.map 150 3 [],.box 162 (FM gs (J.length+1) n 0 0 a)]⟩:=by
 intro rest
 induction rest with
 |nil =>
  intro pre n c q d;have c:=cN c
  subst c;refine ar λR f=>?_;simp only[N5,VV,seval];exact⟨λh=>by simp at h,λ_=>d ..⟩
 |cons g rest ih =>
  intro pre n c q d;subst c;have e:pre.length+1+rest.length<2^30:=by simp at b;omega
  have r:=p g (by simp)
  have o:=dh pre g (by omega)
  have k:IntKind.i64.wrap (n+g.2)=n+g.2:=IntWalk.i64_in _ (by omega);have i:0<=n+g.2/\n+g.2<=2^30*(((pre++[g]).length:Nat):Int):=by simp;omega
  refine ar λR f=>?_;simp only[N5,FM,yw,VV,seval];refine⟨λ_=>⟨by simp;omega,?_⟩,λh=>by simp at h;omega⟩;simp only[o,k,VV,seval];exact f _ (cG [_,_,_] [_] (sU m [] (pre++g::rest) (n+g.2) 0 0 a) (by repeat' constructor) (by simp[LW]) (ih (pre++[g]) (n+g.2) (by simp) i (by simpa[NA]using d)))
def XE{J:ak}{K:bl}(A:Ob)(l:List It)(gs:List Gr)(c p:Int)(B:cn (J++[A]))(q:l.length<2^30):∀(rest pre:List It) (C:List (TK×Int)) (w t:Int),l=pre++rest->CN pre.length C->0<=w/\w<=4*(pre.length:Int)->0<=t/\t<=(pre.length:Int) ->
  ((fj 2 (fh (.ptr J.length 0) (fh (.ptr (J.length+2) 0) (fj 67 fo)))) λX=>K (.exit 2) ⟨X,J++[A,.map 150 3 (emap lD fZ (om C rest)),.box 162 (FM gs (J.length+1) p (L8 w rest) (Md t rest) c)]⟩) ->
  fm J.length prog N4 K (rest.length+1) ⟨(uu 2 (.ptr J.length 0::.ptr (J.length+2) 0::uu 29 (.sl 3 (l.map It.awa)::.I l.length::.I pre.length::uu 35 []))),J++[A,.map 150 3 (emap lD fZ C),.box 162 (FM gs (J.length+1) p w t c)]⟩:=by
 intro rest
 induction rest with
 |nil =>
  intro pre C w t y n S Q g;have y:=cN y
  subst y;refine ar λR o=>?_;simp only[N4,VV,seval];exact⟨λh=>by simp at h,λ_=>g ..⟩
 |cons x rest ih =>
  intro pre C w t y n S Q g;subst y;have L:pre.length+1+rest.length<2^30:=by simp at q;omega
  have D:=dh pre x (by omega)
  have Y:(((pre++[x]).length:Nat):Int)=(pre.length:Int)+1:=by simp
  have W:=sH (dX x).1;have M:IntKind.i64.wrap (w+weight (dX x).1)=w+weight (dX x).1:=IntWalk.i64_in _ (by omega);have u:IntKind.i64.wrap (t+1)=t+1:=IntWalk.i64_in _ (by omega);have N:=n.getD (gd (dX x).1);have P:=n.bump (gd (dX x).1);have e:(dX x).1.id=0:=by unfold dX;split<;>rfl
  have j:(pre++[x]).length=pre.length+1:=by simp
  refine ar λR o=>?_;simp only[N4,FM,It.awa,VV,seval];refine⟨λ_=>⟨by simp;omega,?_⟩,λh=>by simp at h;omega⟩;refine aw (ab3 x _) rfl ?_;simp only[D,It.awa,e,VV,seval];refine⟨λG=>?_,λG=>?_⟩
  .have m:(dX x).2=false:=by simpa using G
   have a:=ih (pre++[x]) C w t (by simp) (by rw[j];exact⟨by have:=n.1;omega,n.2.1,λk v T=>by have:=n.2.2 k v T;omega⟩) (by omega) (by omega) (by simpa only[om,L8,Md,m,dR,aI,aS]using g);exact o _ (cG [_,_,_] [_,_] (sU B _ _ _ _ _ _) (by repeat' constructor) (by simp[LW]) a)
  .have m:(dX x).2=true:=by simpa using G
   rcases r9 CF C (gd (dX x).1)with⟨F,z,E,r,O⟩|⟨i,b,F,z,E,r⟩
   .have H:IntKind.i64.wrap (0+1)=1:=by decide
    have U:IntKind.i64.wrap 1=1:=by decide
    have s:bump C (gd (dX x).1) 1=iZ C (gd (dX x).1) 1:=by simp[bump,F]
    simp only[lD,gd]at z E r O;simp only[ek,z,E,r,O,H,U,eS,V.lO,V.cell,VV,seval];refine aw (zy (dX x).1 _) (by simp only[It.awa,e,VV,seval]) ?_;simp only[VV,seval];have d:CN (pre++[x]).length (bump C (gd (dX x).1) 1):=by rw[j];exact P
    refine⟨λf=>?_,λf=>?_⟩
    .simp only[D,u,VV,seval];have a:=ih (pre++[x]) (bump C (gd (dX x).1) 1) w (t+1) (by simp) d (by omega) (by omega) (by simpa only[om,L8,Md,m,f,cc,uQ,fO,aI,aT,aS]using g);rw[s]at a;exact o _ (cG [_,_,_] [_,_,_] (sU B _ gs p w (t+1) c) (by repeat' constructor) (by simp[LW]) a)
    .refine aw (qZ (dX x).1 _) (by simp only[It.awa,e,VV,seval]) ?_;simp only[D,M,VV,seval];have a:=ih (pre++[x]) (bump C (gd (dX x).1) 1) (w+weight (dX x).1) t (by simp) d (by omega) (by omega) (by simpa only[om,L8,Md,m,f,cc,df,gB,iw,aI,aT,aS]using g);rw[s]at a;exact o _ (cG [_,_,_] [_,_,_] (sU B _ gs p (w+weight (dX x).1) t c) (by repeat' constructor) (by simp[LW]) a)
   .have H:IntKind.i64.wrap (b+1)=b+1:=IntWalk.i64_in _ (by rw[F]at N;simp at N;omega);have s:bump C (gd (dX x).1) 1=iZ C (gd (dX x).1) (b+1):=by simp[bump,F]
    simp only[lD,gd]at z E r;simp only[ek,z,E,r,H,eS,V.lO,V.cell,VV,seval];refine aw (zy (dX x).1 _) (by simp only[It.awa,e,VV,seval]) ?_;simp only[VV,seval];have d:CN (pre++[x]).length (bump C (gd (dX x).1) 1):=by rw[j];exact P
    refine⟨λf=>?_,λf=>?_⟩
    .simp only[D,u,VV,seval];have a:=ih (pre++[x]) (bump C (gd (dX x).1) 1) w (t+1) (by simp) d (by omega) (by omega) (by simpa only[om,L8,Md,m,f,cc,uQ,fO,aI,aT,aS]using g);rw[s]at a;exact o _ (cG [_,_,_] [_,_,_] (sU B _ gs p w (t+1) c) (by repeat' constructor) (by simp[LW]) a)
    .refine aw (qZ (dX x).1 _) (by simp only[It.awa,e,VV,seval]) ?_;simp only[D,M,VV,seval];have a:=ih (pre++[x]) (bump C (gd (dX x).1) 1) (w+weight (dX x).1) t (by simp) d (by omega) (by omega) (by simpa only[om,L8,Md,m,f,cc,df,gB,iw,aI,aT,aS]using g);rw[s]at a;exact o _ (cG [_,_,_] [_,_,_] (sU B _ gs p (w+weight (dX x).1) t c) (by repeat' constructor) (by simp[LW]) a)
def zX(l:List It)(m:Nat):aB:=FM (dS (bS l)) m (nh l).jq (nh l).weight (nh l).tags (lq l)
def ag6(l:List It)(n:Nat):ak:=[.box 162 (zX l (n+1)),.map 150 3 (emap lD fZ (om [] l)),.box 162 (zX l (n+1))]
def Mg(l:List It)(b:l.length<2^27)(J:ak):PC prog 118 [.sl 3 (l.map It.awa)] J (λr J'=>r=.agg (zX l (J.length+1))/\J'=J++ag6 l J.length):=by
 refine aZ func118 aml.2 λe h=>au ?_;simp only[aml,SS,seval];have i:=sF l;have f:=zF (bS l);have a:=J3 (bS l);simp only[VV,seval];refine aw (Y7 l (by omega) _) rfl ?_;simp only[VV,seval];refine aw (abt (bS l) (by omega) _) rfl ?_;simp only[VV,seval];refine aw (Ij l (by omega) _) rfl ?_;simp only[ag,VV,seval];have c:cn (J++[.box 162 [.nil,.jG,.I 0,.I 0,.I 0,.I 0]]):=cC e (by simp[LW]);refine bZ.aK (fr':=(.sl 3 (l.map It.awa)::uu 1 (.ptr J.length 0::.ptr (J.length+2) 0::uu 14 (.sl 3 ((dS (bS l)).map yw)::.I (dS (bS l)).length::.I ([]:List Gr).length::uu 50 [])))) (by repeat' constructor) ((dS (bS l)).length+1) (XF _ l (dS (bS l)) (lq l) c (by omega) (λg d=>by have:=a g d;omega) (dS (bS l)) [] 0 rfl (by simp) ?_);simp only[JE];intros;simp only[FM,ag,VV,seval];refine bZ.aK (fr':=(uu 2 (.ptr J.length 0::.ptr (J.length+2) 0::uu 29 (.sl 3 (l.map It.awa)::.I l.length::.I ([]:List It).length::uu 35 [])))) (by repeat' constructor) (l.length+1) (XE _ l (dS (bS l)) (lq l) (NA 0 (dS (bS l))) c (by omega) l [] [] 0 0 rfl CN.nil (by simp) (by simp) ?_);simp only[JE];intros;simp only[FM,VV,seval];exact fH (.inr rfl) (by simp only[RS,seval];rfl) (Wk.refl _ _) rfl ⟨rfl,rfl⟩

set_option maxRecDepth 4000
set_option maxHeartbeats 1000000
def Dg(n:Nat):Ob:=.box 170 [.mp n,.mp (n+1),.mp (n+2)]
def aaq{eb:Nat}{J:ak}{n0:Nat}{K:bl}(Y M3 FB:Ob)(H:List (TK×(Nat×Nat)))(f3:TK->eR)(id:Int)(gs:List Gr)(t:gs.length<2^30)(j9:Nat):∀(rest pre:List Gr) (T:ak) (G:List (GK×(Nat×Nat))) (f:GK->eR),gs=pre++rest->Bt.lP 190 (J.length+5) T G f->Bt.lP 190 (J.length+5) T H f3->K9 G H->(∀k,(f k).length+rest.length<2^30) ->
  (∀a c,Bt.lP 190 (J.length+5) a c (oy f id rest)->Bt.lP 190 (J.length+5) a H f3->K9 c H->si T a->((fh (.ptr (J.length+3) 0) (fh (.I id) (fj 7 (fh (.ptr j9 0) (fj 79 fo))))) λZZ=>K (.exit 0) ⟨ZZ,J++(Y::.map 184 eb (emap wA sS c)::M3::Dg J.length::FB::a)⟩)) ->
  fm n0 prog Va K (rest.length+1) ⟨(.ptr (J.length+3) 0::.I id::uu 7 (.ptr j9 0::uu 32 (.sl 3 (gs.map yw)::.I gs.length::.I pre.length::uu 44 []))),J++(Y::.map 184 eb (emap wA sS G)::M3::Dg J.length::FB::T)⟩:=by
 intro rest
 induction rest with
 |nil =>
  intro pre T G f u v w q z y;have u:=cN u
  subst u;refine ar λR U=>?_;simp only[Va,VV,seval];exact⟨λh=>by simp at h,λ_=>y T G v w q (si.refl T) ..⟩
 |cons g rest ih =>
  intro pre T G f u v w q z y;subst u;have P:pre.length+1+rest.length<2^30:=by simp at t;omega
  have Z:=dh pre g (by omega)
  refine ar λR U=>?_;simp only[Va,yw,Dg,VV,seval];refine⟨λ_=>⟨by simp;omega,?_⟩,λh=>by simp at h;omega⟩;rcases yI (ve:=sS) F3 G g.1 with⟨n,m,p,d,Q⟩|⟨i,b,n,m,p,d⟩
  .simp only[wA]at m p d Q;simp only[ek,m,p,d,Q,eS,V.lO,V.cell,VV,seval];have B:(T++[Ob.box 182 [V.s g.1.1,V.s g.1.2,V.i .i64 g.2],Ob.box 184 [V.s g.1.1,V.s g.1.2],Ob.iter true (J.length+1) eb ((emap wA sS G).length+1) [] (some (emap wA sS G).length)]).length=T.length+3:=by simp
   have oC:=(v.app [Ob.box 182 [V.s g.1.1,V.s g.1.2,V.i .i64 g.2],Ob.box 184 [V.s g.1.1,V.s g.1.2],Ob.iter true (J.length+1) eb ((emap wA sS G).length+1) [] (some (emap wA sS G).length)]).new n (id,g.2);rw[B]at oC;have D:V.own (J.length+(T.length+3+1+1+1+1+1)) 0=sS (J.length+5+(T.length+3),0):=by simp only[sS];congr 1;omega
   simp only[D,Q,Z];have k:=ih (pre++[g]) _ _ _ (by simp) oC ((w.app _).app _) (q.new w _ _ (by omega)) (λk=>by have:=z k;simp only[zP,ai]at *;split<;>simp<;>omega) (λa c M O E F=>y a c M O E ((si.app _ _).trans ((si.app _ _).trans F)));simp only[mo,Ab,bk,bJ,bc,aH,bR,Dg]at k;exact⟨by decide,U _ (aK (by repeat' constructor) k)⟩
  .simp only[wA]at m p d;obtain⟨r,x⟩:=b;obtain⟨j,rfl,C⟩:=v.row _ _ _ n;have X:=(ah.1 C).1;have ej:J.length+5+j=J.length+(j+5):=by omega
   have A:∀l,(T++l)[j]?=some (.row 190 2 16 x false ((f g.1).map Ab)):=λl=>by rw[ay X];exact C
   have S:∀l o,(T++l).set j o=T.set j o++l:=λl o=>iu _ _ X;have L:∀o l k,(T.set j o++l)[T.length+k]?=l[k]?:=λo l k=>by rw[aU (by simp)];simp
   have yu:=z g.1;simp only[sS,ej]at m p;simp only[ek,m,p,d,A,S,L,eS,V.lO,V.cell,VV,seval];have N:=(v.add n (id,g.2)).app [Ob.box 182 [V.s g.1.1,V.s g.1.2,V.i .i64 g.2],Ob.box 184 [V.s g.1.1,V.s g.1.2],Ob.iter true (J.length+1) eb (emap wA sS G).length [] (some i)];have W:=(w.other (mo 190 (x+1) (f g.1++[(id,g.2)])) (λk r g' hk=>λe=>q _ _ _ _ _ _ n hk e.symm)).app [Ob.box 182 [V.s g.1.1,V.s g.1.2,V.i .i64 g.2],Ob.box 184 [V.s g.1.1,V.s g.1.2],Ob.iter true (J.length+1) eb (emap wA sS G).length [] (some i)];have D:V.own (J.length+(j+5)) (x+1)=sS (J.length+5+j,x+1):=by simp only[sS];congr 1;omega
   have hr:(f g.1).map Ab++[[V.i .i64 id,V.i .i64 g.2]]=(f g.1++[(id,g.2)]).map Ab:=by simp[Ab]
   simp only[D,d,hr,Z];have k:=ih (pre++[g]) _ _ _ (by simp) N W (q.add n _) (λk=>by have:=z k;simp only[zP,ai]at *;split<;>simp<;>omega) (λa c M O E F=>y a c M O E (((si.setRow C _).trans (si.app _ _)).trans F));simp only[mo,bk,bJ,bc,Dg]at k;exact⟨by simp only[ag,maxLen,ai]at *;omega,U _ (aK (by repeat' constructor) k)⟩

set_option maxRecDepth 4000
set_option maxHeartbeats 1000000
def aap{L:Nat}{J:ak}{n0:Nat}{K:bl}(M1 M2 FB:Ob)(H:List (GK×(Nat×Nat)))(f3:GK->eR)(id:Int)(C:List (TK×Int))(hK:kC C)(hC:C.length<2^29)(d u:Nat)(m:TK->eR)(SE:∀k,(m k).length<2^29):∀(N:Nat) (a:dK) (A:cU) (D:List (TK×Int)) (T:ak) (G:List (TK×(Nat×Nat))),a.length<=N->a.Nodup->(∀p∈a,p<C.length)->(D++a.map λi=>C.getD i ((0,[]),0)).Perm C ->
  Bt.lP 190 (J.length+5) T G (oy m id D)->Bt.lP 190 (J.length+5) T H f3->K9 G H->T[d]?=some (.map 150 3 (emap lD fZ C))->T[u]?=some (.iter false (J.length+5+d) 3 (emap lD fZ C).length a A) ->
  (∀x z X,X.Perm C->Bt.lP 190 (J.length+5) x z (oy m id X)->Bt.lP 190 (J.length+5) x H f3->K9 z H->si T x->((fh (.ptr (J.length+3) 0) (fj 88 fo)) λZZ=>K (.exit 2) ⟨ZZ,J++(M1::M2::.map 150 L (emap lD sS z)::Dg J.length::FB::x)⟩)) ->
  fm n0 prog U9 K (N+1) ⟨(.ptr (J.length+3) 0::.I id::uu 68 (.it (J.length+(u+5))::uu 18 [])),J++(M1::M2::.map 150 L (emap lD sS G)::Dg J.length::FB::T)⟩:=by
 intro N
 induction N with
 |zero =>
  intro a A D T G hl sv y hs U Q M P t h1;have pU:a=[]:=aW (by omega);subst pU;have ec:J.length+5+d=J.length+(d+5):=by omega
  rw[ec]at t;refine ar λR hR=>?_;simp only[U9,Dg,P,t,VV,seval];exact h1 _ _ D (by simpa using hs) U Q M (si.refl T) ..
 |succ N ih =>
  intro a A D T G hl sv y hs U Q M P t h1;have ec:J.length+5+d=J.length+(d+5):=by omega
  rw[ec]at t;have yP:=(ah.1 t).1;have iR:u≠d:=λe=>by subst e;rw[P]at t;simp at t
  have AS:∀o,(T.set u o)[u]?=some o:=λo=>aL yP;have Pq:∀o,(T.set u o)[d]?=some (.map 150 3 (emap lD fZ C)):=λo=>by rw[bz iR];exact P
  refine ar λR hR=>?_;simp only[U9,Dg,P,t,AS,Pq,VV,seval];refine⟨λpU=>?_,λq F=>?_⟩
  .subst pU;exact h1 _ _ D (by simpa using hs) U Q M (si.refl T) ..
  .have HV:=y q F;have ft:=xg (ke:=lD) (ve:=fZ) C ((0,[]),0) HV;have a1:=tW sv F;have yu:=pv F
   have n:∀{α:Type} [DecidableEq α] {G:List (α×(Nat×Nat))} {f:α->eR},Bt.lP 190 (J.length+5) T G f->∀k r g,cX k G=some (r,g)->r≠J.length+5+u:=λh k r g hk e=>by
    obtain⟨j,e1,e2⟩:=h.row k r g hk;have:j=u:=by omega
    subst this;rw[t]at e2;simp[mo]at e2
   have Y:=λo=>U.other o (n U);have ac:=λo=>Q.other o (n Q);have K7:=λo=>si.set t rfl o
   have Cm:((D++[C.getD q ((0,[]),0)])++(a.filter λi=>i != q).map λi=>C.getD i ((0,[]),0)).Perm C:=by
    refine List.Perm.trans ?_ hs;rw[bk];refine sk _ ?_;exact((a1.map λi=>C.getD i ((0,[]),0)).symm)
   have a3:D.length<2^29:=by have:=hs.length_eq;simp at this;omega
   generalize a2:C.getD q ((0,[]),0)=kc at ft Cm;obtain⟨k,c⟩:=kc;have aa:zP (oy m id D) k (id,c)=oy m id (D++[(k,c)]):=(Uz m id D (k,c)).symm;have ap:∀k,(oy m id D k).length+1<2^30:=λk=>by have:=M9 id k D m;have:=SE k;omega
   simp only[ft,fZ,lD,VV,seval];have O:=AS (.iter false (J.length+(d+5)) 3 (emap lD fZ C).length (a.filter λi=>i != q) (some q));have B:=Pq (.iter false (J.length+(d+5)) 3 (emap lD fZ C).length (a.filter λi=>i != q) (some q));have w:=Y (.iter false (J.length+(d+5)) 3 (emap lD fZ C).length (a.filter λi=>i != q) (some q));have v:=ac (.iter false (J.length+(d+5)) 3 (emap lD fZ C).length (a.filter λi=>i != q) (some q));have E:=K7 (.iter false (J.length+(d+5)) 3 (emap lD fZ C).length (a.filter λi=>i != q) (some q));generalize T.set u (.iter false (J.length+(d+5)) 3 (emap lD fZ C).length (a.filter λi=>i != q) (some q))=T1 at O B w v E |-;clear AS Pq Y ac K7 t P U Q n;rcases yI (ve:=sS) CF G k with⟨W,g2,g3,S,g5⟩|⟨i,b,W,g2,g3,S⟩
   .simp only[lD]at g2 g3 S g5;simp only[ek,g2,g3,S,g5,eS,V.lO,V.cell,VV,seval];have ad:(T1++[Ob.box 150 [V.i .i64 k.1,V.s k.2,V.i .i64 0],Ob.iter true (J.length+2) L ((emap lD sS G).length+1) [] (some (emap lD sS G).length)]).length=T1.length+2:=by simp
    have oC:=(w.app [Ob.box 150 [V.i .i64 k.1,V.s k.2,V.i .i64 0],Ob.iter true (J.length+2) L ((emap lD sS G).length+1) [] (some (emap lD sS G).length)]).new W (id,c);rw[ad,aa]at oC;have hv:V.own (J.length+(T1.length+2+1+1+1+1+1)) 0=sS (J.length+5+(T1.length+2),0):=by simp only[sS];congr 1;omega
    simp only[hv,g5]
    have kk:=ih (a.filter λi=>i != q) (some q) (D++[(k,c)]) _ _ (by omega) (sv.filter _) (λp h=>y p (cZ.1 h).1) Cm oC ((v.app _).app _) (M.new v _ _ (by omega)) (((si.app _ _).trans (si.app _ _)).2 _ _ B rfl) (by rw[ec,bk,ay (ah.1 O).1];exact O)
     (λx z X y F hh hd hg=>h1 x z X y F hh hd (E.trans (((si.app _ _).trans (si.app _ _)).trans hg)))
    simp only[mo,Ab,bk,bJ,bc,aH,bR,Dg]at kk;exact⟨by decide,hR _ (aK (by repeat' constructor) kk)⟩
   .obtain⟨r,g0⟩:=b;obtain⟨j,rfl,Z⟩:=w.row _ _ _ W;have pR:=(ah.1 Z).1;have ej:J.length+5+j=J.length+(j+5):=by omega
    have am:∀l,(T1++l)[j]?=some (.row 190 2 16 g0 false ((oy m id D k).map Ab)):=λl=>by rw[ay pR];exact Z
    have aE:∀l o,(T1++l).set j o=T1.set j o++l:=λl o=>iu _ _ pR;have av:∀o l k,(T1.set j o++l)[T1.length+k]?=l[k]?:=λo l k=>by rw[aU (by simp)];simp
    have yu:=ap k;simp only[sS,lD,ej]at g2 g3;simp only[lD]at S;simp only[ek,g2,g3,S,am,aE,av,eS,V.lO,V.cell,VV,seval];have ab:=(w.add W (id,c)).app [Ob.box 150 [V.i .i64 k.1,V.s k.2,V.i .i64 0],Ob.iter true (J.length+2) L (emap lD sS G).length [] (some i)];rw[aa]at ab;have af:=(v.other (mo 190 (g0+1) (oy m id D k++[(id,c)])) (λk r g' hk=>λe=>M _ _ _ _ _ _ W hk e.symm)).app [Ob.box 150 [V.i .i64 k.1,V.s k.2,V.i .i64 0],Ob.iter true (J.length+2) L (emap lD sS G).length [] (some i)];have hv:V.own (J.length+(j+5)) (g0+1)=sS (J.length+5+j,g0+1):=by simp only[sS];congr 1;omega
    have hr:(oy m id D k).map Ab++[[V.i .i64 id,V.i .i64 c]]=(oy m id D k++[(id,c)]).map Ab:=by simp[Ab]
    simp only[hv,S,hr];have JP:si T1 (T1.set j (mo 190 (g0+1) (oy m id D k++[(id,c)]))++[Ob.box 150 [V.i .i64 k.1,V.s k.2,V.i .i64 0],Ob.iter true (J.length+2) L (emap lD sS G).length [] (some i)]):=(si.setRow Z _).trans (si.app _ _);have a0:j≠u:=λe=>by subst e;rw[O]at Z;simp[mo]at Z
    have kk:=ih (a.filter λi=>i != q) (some q) (D++[(k,c)]) _ _ (by omega) (sv.filter _) (λp h=>y p (cZ.1 h).1) Cm ab af (M.add W _) (JP.2 _ _ B rfl) (by rw[ec,ay (by rw[fq];exact(ah.1 O).1),bz a0];exact O)
     (λx z X y F hh hd hg=>h1 x z X y F hh hd (E.trans (JP.trans hg)))
    simp only[mo,bk,bJ,bc,Dg]at kk;exact⟨by simp only[ag,maxLen];omega,hR _ (aK (by repeat' constructor) kk)⟩

set_option maxRecDepth 4000
set_option maxHeartbeats 1000000
abbrev LE:=Int×(List It×Nat)
def Jn(e:List It×Nat):V:=.agg (zX e.1 e.2)
def Kh(L:List LE)(k:GK):eR:=L.filterMap λe=>(cX k (iD [] [] (bS e.2.1))).map λc=>(e.1,c)
def HB(L:List LE)(k:TK):eR:=L.filterMap λe=>(cX k (om [] e.2.1)).map λc=>(e.1,c)
structure LX (n:Nat) (T:ak) (L:List LE) (G2:List (GK×(Nat×Nat))) (G3:List (TK×(Nat×Nat))):Prop where
 keys:(L.map (·.1)).Nodup
 awk:∀e∈L,e.2.1.length<2^27
 cls:∀e∈L,∃j,e.2.2=n+5+j/\T[j]?=some (.map 150 3 (emap lD fZ (om [] e.2.1)))
 p2:Bt.lP 190 (n+5) T G2 (Kh L)
 p3:Bt.lP 190 (n+5) T G3 (HB L)
 dis:K9 G2 G3
def ur(E:Nat×Nat×Nat)(J:ak)(L:List LE)(c:List (GK×(Nat×Nat)))(b:List (TK×(Nat×Nat)))(a:Ob)(T:ak):ak :=
 J++(.map 3 E.1 (emap fZ Jn L)::.map 184 E.2.1 (emap wA sS c)::.map 150 E.2.2 (emap lD sS b)::Dg J.length::a::T)
def JA(a b:Int):dD 0 (fZ a) (fZ b)=some (decide (a=b)):=TJ a b
def abN(L:List LE)(id:Int)(l:List It)(m:Nat):oy (Kh L) id (dS (bS l))=Kh (L++[(id,(l,m))]):=by
 funext k;have c:=(mE (bS l) [] [] 0 CN.nil).2.1;have b:=lf (bS l);have a:kC (dS (bS l)):=(b.map _).nodup_iff.2 c;rw[KL id k _ _ a,yy c b];simp only[Kh,List.filterMap_append,lE,List.filterMap_nil];cases cX k (iD [] [] (bS l))<;>simp
def abL(L:List LE)(id:Int)(l:List It)(m:Nat){D:List (TK×Int)}(b:D.Perm (om [] l)):oy (HB L) id D=HB (L++[(id,(l,m))]):=by
 funext k;have c:=(C3 l [] 0 CN.nil).2.1;have a:kC D:=(b.map _).nodup_iff.2 c;rw[KL id k _ _ a,yy c b];simp only[HB,List.filterMap_append,lE,List.filterMap_nil];cases cX k (om [] l)<;>simp
def LX.snoc{n:Nat}{T d:ak}{L:List LE}{q c:List (GK×(Nat×Nat))}{v b:List (TK×(Nat×Nat))}(h:LX n T L q v)(r:si T d){id:Int}(g:cX id L=none){l:List It}(o:l.length<2^27){j:Nat}
  (w:d[j]?=some (.map 150 3 (emap lD fZ (om [] l)))) {D:List (TK×Int)} (t:D.Perm (om [] l)) (p:Bt.lP 190 (n+5) d c (oy (Kh L) id (dS (bS l)))) (p3:Bt.lP 190 (n+5) d b (oy (HB L) id D)) (m:K9 c b) :
  LX n d (L++[(id,(l,n+5+j))]) c b:=by
 refine⟨?_,λe f=>?_,λe f=>?_,?_,?_,m⟩
 .rw[cM,iX];refine⟨h.keys,by simp,λx s y k e=>?_⟩;simp only[aH,bR,cv]at k;subst k;subst e;have:=(kL x L).1 s;rw[g]at this;cases this
 .rcases bP.1 f with a|a
  .exact h.awk e a
  .simp only[cv]at a;subst a;exact o
 .rcases bP.1 f with a|a
  .obtain⟨i,u,z⟩:=h.cls e a;exact⟨i,u,r.2 _ _ z rfl⟩
  .simp only[cv]at a;subst a;exact⟨j,rfl,w⟩
 .rw[<- abN];exact p
 .rw[<- abL L id l _ t];exact p3
def MP{E:Nat×Nat×Nat}(u:Ob)(T:ak)(L:List LE)(s:List (GK×(Nat×Nat)))(h:List (TK×(Nat×Nat)))(J:ak)(q:LX J.length T L s h)(id:Int)(j:cX id L=none)(hL:L.length<1024)(l:List It)(G:l.length<2^27):
  PC prog 72 [.ptr (J.length+3) 0,.I id,.sl 3 (l.map It.awa)] (ur E J L s h u T) (λr W=>r=.b true/\∃x m a c,W=ur E J (L++[(id,(l,m))]) a c u x/\LX J.length x (L++[(id,(l,m))]) a c/\si T x):=by
 refine aZ func72 c72 λbn dN=>au ?_;simp only[p72,SS,seval];rcases yI (ve:=Jn) JA L id with⟨B,o,N,F,g5⟩|⟨i,b,B,o,N,F⟩
 .simp only[fZ]at o N F g5;have g:(emap fZ Jn L).length=L.length:=by simp[emap]
  have Z:decide ((1024:Int)<=(L.length:Int))=false:=by simp;omega
  simp only[ur,Dg,ek,o,g,Z,VV,seval];refine⟨rfl,?_⟩;refine aw (Mg l G _) rfl ?_;simp only[ag6,zX,FM,ek,o,eS,V.lO,V.cell,VV,seval];refine⟨rfl,?_⟩;have e7:J.length+(T.length+1+1+1+1+1+1)+1=J.length+(T.length+2+5):=by omega
  have P:J.length+(T.length+4+1+1+1+1+1)=J.length+(T.length+4+5):=by omega
  simp only[e7,P,ag];have MQ:=sF l;have Y:=zF (bS l);have n:=C3 l [] 0 CN.nil;generalize f:T++[_,_,_,_,_]=T1;have U:T1.length=T.length+5:=by rw[<- f];simp
  have O:Bt.lP 190 (J.length+5) T1 s (Kh L):=by rw[<- f];exact q.p2.app _
  have w:Bt.lP 190 (J.length+5) T1 h (HB L):=by rw[<- f];exact q.p3.app _
  have M:si T T1:=by rw[<- f];exact si.app _ _
  have AT:T1[T.length+2]?=some (.map 150 3 (emap lD fZ (om [] l))):=by rw[<- f];simp
  have yQ:T1[T.length+4]?=some (.box 162 (zX l (J.length+(T.length+2+5)))):=by rw[<- f];simp[zX,FM]
  have X:∀k,(Kh L k).length+(dS (bS l)).length<2^30:=λk=>by
   have:(Kh L k).length<=L.length:=kr _ _;omega
  have A:∀k,(HB L k).length<2^29:=λk=>by
   have:(HB L k).length<=L.length:=kr _ _;omega
  refine bZ.aK (fr':=(.ptr (J.length+3) 0::.I id::uu 7 (.ptr (J.length+(T.length+4+5)) 0::uu 32 (.sl 3 ((dS (bS l)).map yw)::.I (dS (bS l)).length::.I ([]:List Gr).length::uu 44 [])))) (by repeat' constructor) ((dS (bS l)).length+1) (aaq _ _ u h (HB L) id (dS (bS l)) (by omega) (J.length+(T.length+4+5)) (dS (bS l)) [] T1 s (Kh L) rfl O w q.dis X ?_);intro z a Fc y T0 t;simp only[JE];intros;have D:=t.2 _ _ AT rfl;have H:=t.2 _ _ yQ rfl;simp only[zX,FM]at H;simp only[Dg,H,D,VV,seval];have K:J.length+5+(T.length+2)=J.length+(T.length+2+5):=by omega
  have e:(emap lD fZ (om [] l)).length=(om [] l).length:=vO _;refine bZ.aK (fr':=(.ptr (J.length+3) 0::.I id::uu 68 (.it (J.length+(z.length+5))::uu 18 []))) (by repeat' constructor) ((om [] l).length+1) (aap _ _ u a _ id (om [] l) n.2.1 (by have:=n.1;omega) (T.length+2) z.length (HB L) A (om [] l).length (List.range (emap lD fZ (om [] l)).length) none [] (z++[_]) h (by simp[e]) pT (λp hp=>by simpa[e]using hp) (by rw[e,bc,sP]) (y.app _) (Fc.app _) T0.symm ((si.app _ _).2 _ _ D rfl) (by rw[K];simp) ?_);intro R c D' Q C S v d;simp only[JE];intros;simp only[VV,seval];refine fH (.inr rfl) rfl (Wk.refl _ _) rfl ⟨rfl,R,J.length+5+(T.length+2),a,c,?_,?_,?_⟩
  .have:emap fZ Jn (L++[(id,(l,J.length+5+(T.length+2)))])=emap fZ Jn L++[(V.i .i64 id,V.agg (zX l (J.length+(T.length+2+5))))]:=by rw[<- K];simp[emap,fZ,Jn]
   rw[this];rfl
  .exact q.snoc (M.trans (t.trans ((si.app _ _).trans d))) j G (d.2 _ _ ((si.app _ _).2 _ _ D rfl) rfl) Q S C v.symm
  .exact M.trans (t.trans ((si.app _ _).trans d))
 .rw[j]at B;cases B
end Go.Proofs.Tryz

/- A part of a proof; the claim's last text says of what. -/
import Derived.StillTailTactics
import Derived.LoopN
import Derived.Test.YtlakkaamfadipaaGreatDoorV40
set_option linter.all false

namespace Go.Proofs.Tryz
open Go Go.Pm Go.Bt Go.RowKit Go.Sort
theorem KT(a b:Int):Lib.compareInt a b=l4 a b:=by
 simp only[Lib.compareInt,l4]
set_option maxHeartbeats 4000000 in
theorem JI(x y z u:Int)(b T:Nat)(W:World)(hb:W.heap[b]?=some (.cells #[.int .i64 x,.int .i64 y,.int .i64 z,.int .i64 u] T (0,0))):
  Calls prog 62 #[.slice (some ⟨b,0,none⟩) 4 4] W fun e w'=>e=.returned (.int .i64 (wA [x,y,z,u]))∧w'=W:=by
 have c0:W.cell? ⟨b,0,none⟩=some (.int .i64 x):=by simp[World.cell?,hb]
 have c1:W.cell? ⟨b,1,none⟩=some (.int .i64 y):=by simp[World.cell?,hb]
 have c2:W.cell? ⟨b,2,none⟩=some (.int .i64 z):=by simp[World.cell?,hb]
 have c3:W.cell? ⟨b,3,none⟩=some (.int .i64 u):=by simp[World.cell?,hb]
 go_enter func62,Tryz.ntmps62
 go_wp2
 refine wp_loop_rounds 5 ?_;rw[rounds_succ]
 go_wp2
 ·rename_i hx
  go_ret
  exact⟨by simp[wA,show x≠0 by simpa using hx],rfl⟩
 ·rename_i hx;rw[rounds_succ]
  go_wp2
  ·rename_i hy
   go_ret
   exact⟨by simp[wA,show x=0 by simpa using hx,show y≠0 by simpa using hy],rfl⟩
  ·rename_i hy;rw[rounds_succ]
   go_wp2
   ·rename_i hz
    go_ret
    exact⟨by simp[wA,show x=0 by simpa using hx,show y=0 by simpa using hy,show z≠0 by simpa using hz],rfl⟩
   ·rename_i hz;rw[rounds_succ]
    go_wp2
    ·rename_i hu
     go_ret
     exact⟨by simp[wA,show x=0 by simpa using hx,show y=0 by simpa using hy,show z=0 by simpa using hz,show u≠0 by simpa using hu],rfl⟩
    ·rename_i hu;rw[rounds_succ]
     go_wp2
     go_ret
     exact⟨by simp[wA,show x=0 by simpa using hx,show y=0 by simpa using hy,show z=0 by simpa using hz,show u=0 by simpa using hu],rfl⟩
theorem Db{W w:World}{A B:Obj}(h:w.heap=(W.heap.push A).push B):w.heap[W.heap.size]?=some A∧w.heap[W.heap.size+1]?=some B:=by
 have e:W.heap.size+1=(W.heap.push A).size:=by simp
 rw[h];refine⟨?_,by rw[e];exact mc⟩;rw[zh (by simp),Array.getElem_push_eq]
theorem sU{W w:World}{A B:Obj}(h:w.heap=(W.heap.push A).push B){b o:Nat}{v:Value}(hc:W.cell? ⟨b,o,none⟩=some v):w.cell? ⟨b,o,none⟩=some v:=by
 have hb:b<W.heap.size:=by
  apply a8;intro hn;simp[World.cell?,ka (OY hn)]at hc
 have e:w.heap[b]?=W.heap[b]?:=by
  rw[h,qY,qY,aw (by simp;omega),aw (by omega)]
 unfold World.cell? at hc ⊢;simp only[e]at *;exact hc
set_option maxRecDepth 4000 in
set_option maxHeartbeats 8000000 in
theorem Gf(x1 x2 x3 x4 x5 y1 y2 y3 y4 y5 c d:Int)(bb b lb n cap:Nat)(W:World)(X1:W.cell? ⟨bb,0,none⟩=some (.pointer (some ⟨b,0,none⟩)))(QS:W.cell? ⟨b,1,none⟩=some (.slice (some ⟨lb,0,none⟩) n cap))
  (hx:0≤x1∧x1<n) (hy:0≤y1∧y1<n) (hc:W.cell? ⟨lb,x1.toNat*11+8,none⟩=some (.int .i64 c)) (hd:W.cell? ⟨lb,y1.toNat*11+8,none⟩=some (.int .i64 d)) :
  Calls prog 61 #[.agg #[.int .i64 x1,.int .i64 x2,.int .i64 x3,.int .i64 x4,.int .i64 x5],.agg #[.int .i64 y1,.int .i64 y2,.int .i64 y3,.int .i64 y4,.int .i64 y5],.pointer (some ⟨bb,0,none⟩)] W
   fun e w'=>e=.returned (.int .i64 (wA [l4 y5 x5,l4 y2 x2,l4 d c,l4 x1 y1]))∧∃ q os',w'=grow (W.drewN q) os':=by
 have GJ:∀ (x y:Int) (W':World),Calls prog 63 #[.int .i64 x,.int .i64 y] W' fun e w'=>e=.returned (.int .i64 (l4 x y))∧w'=W':=fun x y W'=>by
  have:=AnyG.cmp_Compare_int Tryz.U3 x y W';rw[KT]at this;exact this
 go_enter func61,Tryz.ntmps61
 go_wp2
 generalize AX:(W.alloc (.cells #[.int .i64 x1,.int .i64 x2,.int .i64 x3,.int .i64 x4,.int .i64 x5] 44)).alloc (.cells #[.int .i64 y1,.int .i64 y2,.int .i64 y3,.int .i64 y4,.int .i64 y5] 44)=w2;refine wp_region_still_tail 36 (by kernel_rfl) (by kernel_rfl) ?_;have hw:w2.drew.heap=(W.heap.push (.cells #[.int .i64 x1,.int .i64 x2,.int .i64 x3,.int .i64 x4,.int .i64 x5] 44)).push (.cells #[.int .i64 y1,.int .i64 y2,.int .i64 y3,.int .i64 y4,.int .i64 y5] 44):=by rw[← AX];rfl
 obtain⟨Fj,jA⟩:=Db hw;have k1:w2.drew.cell? ⟨W.heap.size,4,none⟩=some (.int .i64 x5):=by simp[World.cell?,Fj]
 have k2:w2.drew.cell? ⟨W.heap.size,1,none⟩=some (.int .i64 x2):=by simp[World.cell?,Fj]
 have k3:w2.drew.cell? ⟨W.heap.size,0,none⟩=some (.int .i64 x1):=by simp[World.cell?,Fj]
 have k4:w2.drew.cell? ⟨W.heap.size+1,4,none⟩=some (.int .i64 y5):=by simp[World.cell?,jA]
 have k5:w2.drew.cell? ⟨W.heap.size+1,1,none⟩=some (.int .i64 y2):=by simp[World.cell?,jA]
 have k6:w2.drew.cell? ⟨W.heap.size+1,0,none⟩=some (.int .i64 y1):=by simp[World.cell?,jA]
 have k7:=sU hw X1;have k8:=sU hw QS;have k9:=sU hw hc;have k0:=sU hw hd;have ks:∃ q os',w2.drew=grow (W.drewN q) os':=⟨1,_,by rw[← AX,alloc_eq_grow,alloc_eq_grow,grow_grow];rfl⟩;simp only[eC,jC,jz,lj];change wpStill _ _ w2.drew (fun a'=>wpList _ _ _ _ a' w2.drew) _ _;have fE:w2.drew.heap.size=W.heap.size+2:=by simp[hw]
 generalize w2.drew=w3 at *;clear Fj jA hw AX w2 hc hd X1 QS
 still_step
 still_step
 still_step
 still_step
 refine wpStill_step (fun K hK=>?_)
 go_simp
 refine⟨_,GJ y5 x5 w3,hK _ ?_⟩;clear hK K
 still_step
 still_step
 still_step
 still_step
 refine wpStill_step (fun K hK=>?_)
 go_simp
 refine⟨_,GJ y2 x2 w3,hK _ ?_⟩;clear hK K
 still_step
 still_step
 still_step
 still_step
 still_step
 still_step
 still_step
 still_step
 still_step
 still_step
 still_step
 still_step
 still_step
 still_step
 still_step
 still_step
 still_step
 still_step
 still_step
 still_step
 refine wpStill_step (fun K hK=>?_)
 go_simp
 refine⟨_,GJ d c w3,hK _ ?_⟩;clear hK K
 still_step
 still_step
 still_step
 still_step
 refine wpStill_step (fun K hK=>?_)
 go_simp
 refine⟨_,GJ x1 y1 w3,hK _ ?_⟩;clear hK K;refine wpStill_nil ?_
 go_wp2_with (go_at_call 62;refine(JI (l4 y5 x5) (l4 y2 x2) (l4 d c) (l4 x1 y1) (W.heap.size+2) 3 _ (by rw[← fE];exact mc)).mono ?_;rintro e w' ⟨rfl,rfl⟩)
 go_ret
 obtain⟨q,os,rfl⟩:=ks;exact⟨rfl,q,_,by rw[alloc_eq_grow,grow_grow]⟩
def AQ(cr:Mt→Int)(a b:Mt):Int:=wA [l4 b.score a.score,l4 b.nc a.nc,l4 (cr b) (cr a),l4 a.ahA b.ahA]
end Go.Proofs.Tryz
set_option maxRecDepth 4000
namespace Go.Proofs.Tryz
open Go Go.Pm Go.Bt Go.RowKit Go.Sort
theorem jq.rev{α:Type}{c:α→α→Int}(h:jq c):jq fun a b=>c b a :=
 ⟨fun a b=>h.lI b a,fun a b d h1 h2=>h.trans d b a h2 h1⟩
theorem JK(cr:Mt→Int):jq (AQ cr):=by
 have h:=((jq.rev tF).on (fun m:Mt=>m.score)).lex (((jq.rev tF).on (fun m:Mt=>m.nc)).lex (((jq.rev tF).on cr).lex (tF.on (fun m:Mt=>m.ahA))))
 have e:AQ cr=Co (fun a b:Mt=>l4 b.score a.score) (Co (fun a b:Mt=>l4 b.nc a.nc) (Co (fun a b=>l4 (cr b) (cr a)) fun a b=>l4 a.ahA b.ahA)):=by
  funext a b;simp only[AQ,wA,Co]
  (repeat' split)<;>first | rfl | omega
 rw[e];exact h
def VC(M:List kj)(m:Mt):Int:=((M[m.ahA.toNat]?).map fun s=>s.en.ahD).getD 0
def D3(g:Nat)(out:List Mt):Ob:=.row 44 5 40 g false (out.map Mt.ahq)
theorem Hp{W:World}{vx:Value}{m:Mt}(h:VR W [] (fun _=>undef) (.agg m.ahq) vx):vx=.agg #[.int .i64 m.ahA,.int .i64 m.nc,.int .i64 m.context,.int .i64 m.points,.int .i64 m.score]:=by
 obtain⟨vs,rfl,hl,hv⟩:=h.gA;have h0:=(hv 0 _ rfl).ey;have h1:=(hv 1 _ rfl).ey;have h2:=(hv 2 _ rfl).ey;have h3:=(hv 3 _ rfl).ey;have h4:=(hv 4 _ rfl).ey;obtain⟨q⟩:=vs
 match q,hl with
 | [a,b,c,d,e],_ =>
  simp[Array.getD]at h0 h1 h2 h3 h4;subst h0 h1 h2 h3 h4;rfl
theorem I9(M:List kj)(out:List Mt)(hl:out.length<2^30)(Gx:∀ m∈out,0≤m.ahA∧m.ahA<M.length)(id g i1 a lr gl:Nat)(x:V)(next:Int)(J:ae)(h1:J[id]?=some (D3 g out))
  (Fj:J[i1]?=some (.box 47 [.ptr a 0])) (jA:J[a]?=some (.box 105 [x,.own lr gl,.i .i64 next])) (hr:J[lr]?=some (js gl M)) :
  PC prog 60 [.own id g,.fn 61 [.ptr i1 0]] J (fun r J'=>∃ l':List Mt,l'.Perm out∧l'.Pairwise (fun x y=>¬ AQ (VC M) y x<0)∧r=.fu []∧J'=J.set id (D3 g l')):=by
 refine PC.Az Tryz.V0 (k:=5) Tryz.isAgg44 Tryz.sizeOf44 Mt.ahq (fun x=>by simp[Mt.ahq]) (by omega) (AQ (VC M)) (enters_of func61 (by kernel_rfl) rfl) out ?_ (L1 (JK _) out) hl h1;intro B w0 w μ cb hS bz hcv W gb hB hgb hg m hm m' hm' vx vy hx hy
 obtain⟨v0,rfl⟩:∃ v0,cb=#[v0]:=by
  obtain⟨q⟩:=cb
  match q,bz with
  | [v],_=>exact⟨v,rfl⟩
 have hp:=hcv 0 _ rfl;simp only[Array.getD,fQ,List.length_singleton,Nat.zero_lt_one,dif_pos]at hp;obtain⟨bb,e1,e2,_⟩:=hp.nk;have e2:v0=.pointer (some ⟨bb,0,none⟩):=e2;subst e2;obtain⟨b1,Y3,q1,_,q2,q3,q4⟩:=hS.obj i1 _ Fj;obtain⟨u1,q5,q6⟩:=q4 0 _ rfl;obtain⟨b,f1,f2,_⟩:=q6.nk;obtain⟨b2,Y2,r1,_,r2,r3,r4⟩:=hS.obj a _ jA;obtain⟨u2,r5,r6⟩:=r4 1 _ rfl;have r6:=r6.jS hr;obtain⟨_,vals,fx,ck⟩:=hS.obj lr _ hr;have Lx:(M.map kj.ahq).length=M.length:=ah ..;rcases fx.2 with⟨_,hn⟩ | ⟨lb,cap,cur,kB,_,Zh,Gz,_,mS,LB⟩
 ·have:=Gx m hm;rw[Lx]at hn;omega
 have aaV:b1≠gb:=fun e=>by
  have:=hS.sep i1 id _ _ gb Fj h1 (by simp) (by simp[D3]) (by rw[q1,e];rfl) hgb;subst this;rw[h1]at Fj;simp[D3]at Fj
 have X6:b2≠gb:=fun e=>by
  have:=hS.sep a id _ _ gb jA h1 (by simp) (by simp[D3]) (by rw[r1,e];rfl) hgb;subst this;rw[h1]at jA;simp[D3]at jA
 have X5:lb≠gb:=fun e=>by
  have:=hS.sep lr id _ _ gb hr h1 (by simp[js]) (by simp[D3]) (by rw[kB,e];rfl) hgb;subst this;rw[h1]at hr;simp[js,D3]at hr
 rw[q1]at e1;simp only[Value.pointer.injEq,aa,Addr.mk.injEq,fA]at e1;subst e1;rw[r1]at f1;simp only[Value.pointer.injEq,aa,Addr.mk.injEq,fA]at f1;subst f1;have k1:W.cell? ⟨b1,0,none⟩=some (.pointer (some ⟨b2,0,none⟩)):=hg.cell (by simp only[World.cell?,q2];rw[← f2];simpa using q5) (fun e=>aaV (by simpa using e));have k2:W.cell? ⟨b2,1,none⟩=some (.slice (some ⟨lb,0,none⟩) M.length cap):=hg.cell (by simp only[World.cell?,r2];rw[← Lx,← kB,← r6];simpa using r5) (fun e=>X6 (by simpa using e))
 have k3:∀ z∈out,W.cell? ⟨lb,z.ahA.toNat*11+8,none⟩=some (.int .i64 (VC M z)):=fun z hz=>by
  have Lm:=Gx z hz;have dp:z.ahA.toNat<M.length:=by omega
  have h2:fw (M.map kj.ahq) z.ahA.toNat 8=some (.i .i64 (VC M z)):=by
   simp[fw,dp,VC,kj.ahq]
  obtain⟨_,u,p2,p3⟩:=ck.2 _ _ _ h2;rw[p3.ey]at p2;refine hg.cell ?_ (fun e=>X5 (by simpa using e));simp only[World.cell?,Zh];rw[← LB,sq]at p2;split at p2
  ·simpa using p2
  ·cases p2
 rw[Hp hx,Hp hy];exact Gf _ _ _ _ _ _ _ _ _ _ _ _ b1 b2 lb M.length cap W k1 k2 (Gx m hm) (Gx m' hm') (k3 m hm) (k3 m' hm')
end Go.Proofs.Tryz
set_option maxRecDepth 4000
set_option maxHeartbeats 2000000
namespace Go.Proofs.Tryz
open Go Go.Pm Go.Bt
def ry(cs:List Int)(l:List Pn)(q:Qr)(tq:List It):Nat→List kj→List Mt
 | _,[]=>[]
 | i,s::r=>(if s.id∈cs∧q.threshold≤(iB s.en s.dR tq l q).score then[{ iB s.en s.dR tq l q with ahA:=i }]else[])++ry cs l q tq (i+1) r
theorem TG{S:ae}{K:Exit→St→Prop}(bz:bK S)(a:Nat)(ha:a<S.length)(lr g:Nat)(M:List kj)(Lv:S[lr]?=some (js g M))(hM:M.length<2^20)(l:List Pn)(q:Qr)(cs:List Int)(mS:cs.Pairwise fun a b=>a<b)(abt:cs.length<2^30)(tq:List It)(XP:tq.length<2^27)
  (gU:∀ s∈M,s.dR.length<2^27∧RU s.en l q):∀ (rest pre:List kj) (out:List Mt) (gg:Nat),M=pre++rest→out.length≤pre.length →
  (∀ gg,((fj 1 (fh (.sl 5 (l.map Pn.ahq)) (fj 1 (fh (.ptr S.length 0) (fj 1 (fh (.ptr (S.length+1) 0) (fj 4 (fh (.sl 3 (tq.map It.ahq)) (fh (.sl 1 (cs.map b5)) (fh (.own (S.length+2) gg) (fj 77 fo))))))))))) fun ZZ=>K (.exit 0) ⟨ZZ,S++[.box 47 [.ptr a 0],.box 24 q.ahq,D3 gg (out++ry cs l q tq pre.length rest)]⟩)) →
  fJ S.length prog DW K (rest.length+1) ⟨(uu 1 (.sl 5 (l.map Pn.ahq)::uu 1 (.ptr S.length 0::uu 1 (.ptr (S.length+1) 0::uu 4 (.sl 3 (tq.map It.ahq)::.sl 1 (cs.map b5)::.own (S.length+2) gg::uu 30 (.own lr g::.i .i64 M.length::.i .i64 pre.length::uu 44 [])))))),S++[.box 47 [.ptr a 0],.box 24 q.ahq,D3 gg out]⟩:=by
 intro rest
 induction rest with
 | nil =>
  intro pre out gg he ho h1;have he:M=pre:=by simpa using he
  subst he;rw[ry,bV]at h1;refine aD fun R hR=>?_;simp only[DW,VV,seval];exact⟨fun h=>by simp at h,fun _=>h1 gg ..⟩
 | cons s rest ih =>
  intro pre out gg he ho h1;have hlen:M.length=pre.length+(rest.length+1):=by rw[he];simp
  have hw:IntKind.i64.wrap ((pre.length:Int)+1)=(((pre++[s]).length:Nat):Int):=by
   rw[bu (by omega)];simp
  have eH:(M.map kj.ahq).getD pre.length []=s.ahq:=by rw[he];exact xx
  have hS:∀ loc:ae,(S++loc)[lr]?=some (.row 108 11 176 g false (M.map kj.ahq)):=fun loc=>by
   rw[ai (ab.1 Lv).1];exact Lv
  obtain⟨rT,XV⟩:=gU s (by rw[he];simp);simp only[kj.ahq]at eH;refine aD fun R hR=>?_;simp only[DW,Qr.ahq,D3,hS,eH,↓IT,VV,seval];have hd:decide ((pre.length:Int)<(M.length:Int))=true:=by simp;omega
  have gB:∀ gg out,bK (S++[.box 47 [.ptr a 0],.box 24 q.ahq,D3 gg out]):=fun gg out=>cv bz (by simp[D3,Qr.ahq,LW];omega)
  have back:∀ {fr:List V} {R:St→Prop} (gg:Nat) (out':List Mt) (loc:ae),(∀ st',fJ S.length prog DW K (rest.length+1) st'→R st')→out'.length≤pre.length+1→out'++ry cs l q tq (pre++[s]).length rest=out++ry cs l q tq pre.length (s::rest) →
    oY fr (uu 1 (.sl 5 (l.map Pn.ahq)::uu 1 (.ptr S.length 0::uu 1 (.ptr (S.length+1) 0::uu 4 (.sl 3 (tq.map It.ahq)::.sl 1 (cs.map b5)::.own (S.length+2) gg::uu 30 (.own lr g::.i .i64 M.length::.i .i64 (pre++[s]).length::uu 44 [])))))) →
    R ⟨fr,S++(.box 47 [.ptr a 0]::.box 24 q.ahq::D3 gg out'::loc)⟩:=fun gg out' loc hR wI O9 hc=>by
   have hlr':=(ab.1 Lv).1;refine hR _ (b7 [_,_,_] loc (gB _ _) hc ?_ (ih (pre++[s]) out' gg (by simp[he]) (by simpa using wI) (by rw[O9];exact h1)));simp only[LW,ag,ay,bo];omega
  refine⟨fun _=>⟨⟨by omega,by rw[ah];omega⟩,?_⟩,fun h=>by rw[hd]at h;cases h⟩;refine aC (U8 cs mS s.id abt _) rfl ?_;simp only[hw,↓IT,VV,seval];refine⟨fun qe=>?_,fun QD=>?_⟩
  ·have qe:s.id ∉ cs:=by simpa using qe
   exact back gg out [_] hR (by omega) (by simp[ry,qe]) (by repeat' constructor)
  have QD:s.id∈cs:=by simpa using QD
  refine aC (yF s.en s.dR tq l q rT XP XV _) (by simp only[Qr.ahq,En.ahq,VV,seval]) ?_;simp only[Mt.ahq,hw,↓IT,VV,seval];refine⟨fun h2=>?_,fun h2=>?_⟩
  ·have h2:q.threshold≤(iB s.en s.dR tq l q).score:=by simpa using h2
   have e5:List.map Mt.ahq out++[[V.i .i64 pre.length,.i .i64 (iB s.en s.dR tq l q).nc,.i .i64 (iB s.en s.dR tq l q).context,.i .i64 (iB s.en s.dR tq l q).points,.i .i64 (iB s.en s.dR tq l q).score]]=(out++[{ iB s.en s.dR tq l q with ahA:=pre.length }]).map Mt.ahq:=by simp[Mt.ahq]
   refine⟨⟨by rw[ah];omega,by rw[ah];unfold maxLen;omega⟩,?_⟩;rw[e5];refine back (gg+1) (out++[{ iB s.en s.dR tq l q with ahA:=pre.length }]) [_,_] hR ?_ ?_ ?_
   ·simp;omega
   ·simp[ry,QD,h2]
   ·repeat' constructor
  ·have h2:¬ q.threshold≤(iB s.en s.dR tq l q).score:=by simpa using h2
   exact back gg out [_,_] hR (by omega) (by simp[ry,QD,h2]) (by repeat' constructor)
end Go.Proofs.Tryz
set_option maxRecDepth 4000
set_option maxHeartbeats 2000000
namespace Go.Proofs.Tryz
open Go Go.Pm Go.Bt
def qf(l:List Pn)(q:Qr)(tq:List It):Nat→List kj→List Mt
 | _,[]=>[]
 | i,s::r=>(if q.threshold≤(iB s.en s.dR tq l q).score then[{ iB s.en s.dR tq l q with ahA:=i }]else[])++qf l q tq (i+1) r
theorem BH{q:Qr}(h:dE q=0):(0≤q.now∧q.now≤1073741824)∧(1≤q.threshold∧q.threshold≤102)∧1≤q.jX∧q.jX≤100:=by
 unfold dE at h
 (repeat' split at h)<;>omega
def JH(q:Qr):Int:=if 100<q.threshold then 100 else q.threshold
theorem JM{s:kj}{tq:List It}{l:List Pn}{q:Qr}(h1:1≤q.threshold)(h:q.threshold≤(iB s.en s.dR tq l q).score):JH q≤dF s.dR tq:=by
 have hs:=rO s.en q.now l 0 (by omega);have hs:0≤ll l s.en q.now∧ll l s.en q.now≤100:=hs;simp only[iB]at h;unfold JH
 by_cases hp:dF s.dR tq=100
 ·split<;>omega
 ·rw[aw hp]at h;unfold mx at h;split at h<;>split<;>omega
theorem Et(cs:List Int)(l:List Pn)(q:Qr)(h1:1≤q.threshold)(tq:List It):∀ (i:Nat) (M:List kj),(∀ s∈M,JH q≤dF s.dR tq→s.id∈cs)→ry cs l q tq i M=qf l q tq i M
 | _,[],_=>rfl
 | i,s::r,h=>by
  simp only[ry,qf];rw[Et cs l q h1 tq (i+1) r fun x hx=>h x (by simp[hx])];congr 1
  by_cases hq:q.threshold≤(iB s.en s.dR tq l q).score
  ·rw[aI hq,aI ⟨h s (by simp) (JM h1 hq),hq⟩]
  ·rw[aw hq,aw (fun h=>hq h.2)]
theorem vv(l:List Pn)(q:Qr)(tq:List It):∀ (M:List kj) (i:Nat),∀ m∈qf l q tq i M,(i:Int)≤m.ahA∧m.ahA<i+M.length
 | [],i,m,h=>by simp[qf]at h
 | s::r,i,m,h=>by
  simp only[qf,bP]at h;rcases h with h | h
  ·split at h
   ·simp only[b6]at h;subst h;simp only[ag];omega
   ·simp at h
  ·have:=vv l q tq r (i+1) m h;simp only[ag]at *;omega
theorem A3(l:List Pn)(q:Qr)(tq:List It):∀ (M:List kj) (i:Nat),(qf l q tq i M).length≤M.length
 | [],i=>au _
 | s::r,i=>by
  have:=A3 l q tq r (i+1);simp only[qf,ak,ag];split<;>simp<;>omega
def RW(M:List kj)(l:List Pn)(q:Qr)(r:V):Prop :=
 (dE q≠0∧r=.fu [.sl 5 [],.i .i64 (dE q)])∨(dE q=0∧pY l≠0∧r=.fu [.sl 5 [],.i .i64 (pY l)]) ∨
  (dE q=0∧pY l=0∧∃ l':List Mt,l'.Perm (qf l q (dR q.ahu) 0 M)∧l'.Pairwise (fun x y=>¬ AQ (VC M) y x<0)∧r=.fu [.sl 5 ((l'.take q.jX.toNat).map Mt.ahq),.i .i64 0])
theorem VW:Ti prog 44 5 40:=nA (by kernel_rfl)
theorem RJ(out:List Mt)(J:ae):PC prog 64 [.sl 5 (out.map Mt.ahq)] J (fun r J'=>r=.sl 5 (out.map Mt.ahq)∧J'=J):=by
 refine PC.intro func64 c64 fun bz dH=>aB ?_;simp only[p64,SS,seval];simp only[List.take_length,VV,seval];exact⟨⟨by omega,by omega⟩,aR (.inr rfl) rfl ⟨rfl,rfl⟩⟩
theorem KL{S:ae}(a x lr g:Nat)(next:Int)(A4:S[a]?=some (.box 105 [.ptr x 0,.own lr g,.i .i64 next]))(M:List kj)(Lv:S[lr]?=some (js g M))(hM:M.length<2^20)(l:List Pn)(hl:l.length<2^40)(q:Qr)
  (h1:q.bM.length<2^39) (h2:q.next.length<2^39) (h3:q.ahu.length<2^38) (h4:aN q.ahu<2^38) (XP:(dR q.ahu).length<2^27) (gU:∀ s∈M,s.dR.length<2^27∧RU s.en l q)
  (NL:dE q=0→∀ T:ae,PC prog 58 [.ptr x 0,.sl 3 ((dR q.ahu).map It.ahq),.i .i64 (JH q)] (S++T) (fun r J'=>∃ cs:List Int,(cs.Pairwise fun a b=>a<b)∧cs.length<2^30∧(∀ s∈M,JH q≤dF s.dR (dR q.ahu)→s.id∈cs)∧r=.sl 1 (cs.map b5)∧J'=S++T)) :
  PC prog 23 [.ptr a 0,.sl 5 (l.map Pn.ahq),.agg q.ahq] S (fun r J'=>RW M l q r∧J'=S):=by
 refine PC.intro func23 c23 fun bz dH=>?_;have A7:=(ab.1 A4).1;simp only[p23,SS,seval];refine cc.cut fun R hR=>?_;simp only[Qr.ahq,VV,seval];refine hR _ (cc.iS (fr':=(uu 1 (.sl 5 (l.map Pn.ahq)::uu 1 (.ptr S.length 0::uu 1 (.ptr (S.length+1) 0::uu 84 []))))) ?_ (by repeat' constructor));clear hR R;refine cc.cut fun R hR=>?_;simp only[V.pure,↓IT,VV,seval];refine aC (pV q h1 h2 _) (by simp only[Qr.ahq,VV,seval]) ?_;simp only[↓IT,VV,seval];refine⟨fun h=>?_,fun h=>?_⟩
 ·have h:dE q≠0:=by simpa using h
  refine sN (ys:=[.sl 5 [],.i .i64 (dE q)]) bz (.inr rfl) (by simp only[RS,seval]) (.cons (.nil _) (.cons (.refl _) .nil)) (by simp[LW]) ⟨.inl ⟨h,rfl⟩,rfl⟩
 have O4:dE q=0:=by simpa using h
 have NL:=NL O4;refine hR _ (cc.iS (fr':=(uu 1 (.sl 5 (l.map Pn.ahq)::uu 1 (.ptr S.length 0::uu 1 (.ptr (S.length+1) 0::uu 84 []))))) ?_ (by repeat' constructor));clear hR R;refine cc.cut fun R hR=>?_;simp only[V.pure,↓IT,VV,seval];refine aC (zM l hl _) rfl ?_;simp only[↓IT,VV,seval];refine⟨fun h=>?_,fun h=>?_⟩
 ·have h:pY l≠0:=by simpa using h
  refine sN (ys:=[.sl 5 [],.i .i64 (pY l)]) bz (.inr rfl) (by simp only[RS,seval]) (.cons (.nil _) (.cons (.refl _) .nil)) (by simp[LW]) ⟨.inr (.inl ⟨O4,h,rfl⟩),rfl⟩
 have Fi:pY l=0:=by simpa using h
 refine hR _ (cc.iS (fr':=(uu 1 (.sl 5 (l.map Pn.ahq)::uu 1 (.ptr S.length 0::uu 1 (.ptr (S.length+1) 0::uu 84 []))))) ?_ (by repeat' constructor));clear hR R;refine cc.cut fun R hR=>?_;simp only[V.pure,↓IT,VV,seval];refine aC (qA q.ahu h3 h4 _) rfl ?_;simp only[↓IT,VV,seval];refine hR _ (cc.iS (fr':=(uu 1 (.sl 5 (l.map Pn.ahq)::uu 1 (.ptr S.length 0::uu 1 (.ptr (S.length+1) 0::uu 4 (.sl 3 ((dR q.ahu).map It.ahq)::uu 79 [])))))) ?_ (by repeat' constructor));clear hR R;have hS:∀ T:ae,(S++T)[a]?=some (.box 105 [.ptr x 0,.own lr g,.i .i64 next]):=fun T=>by rw[ai A7];exact A4
 refine cc.cut fun R hR=>?_;simp only[hS,V.pure,↓IT,VV,seval];refine db (NL _) rfl ?_;rintro _ _ ⟨cs,c1,c2,c3,rfl,rfl⟩;simp only[↓IT,VV,seval];refine hR _ (cc.iS (fr':=(uu 1 (.sl 5 (l.map Pn.ahq)::uu 1 (.ptr S.length 0::uu 1 (.ptr (S.length+1) 0::uu 4 (.sl 3 ((dR q.ahu).map It.ahq)::.sl 1 (cs.map b5)::uu 78 [])))))) ?_ (by repeat' constructor));clear hR R;refine cc.cut fun R hR=>?_;simp only[V.pure,↓IT,VV,seval];refine hR _ (cc.iS (fr':=(uu 1 (.sl 5 (l.map Pn.ahq)::uu 1 (.ptr S.length 0::uu 1 (.ptr (S.length+1) 0::uu 4 (.sl 3 ((dR q.ahu).map It.ahq)::.sl 1 (cs.map b5)::.nil::uu 77 [])))))) ?_ (by repeat' constructor));clear hR R;have ck:∀ T:ae,(S++T)[lr]?=some (.row 108 11 176 g false (M.map kj.ahq)):=fun T=>by rw[ai (ab.1 Lv).1];exact Lv
 refine cc.cut fun R hR=>?_;simp only[hS,ck,ah,V.pure,↓IT,VV,seval];refine cc.wk ((Wk.kN (P:=prog) (J:=S) [_,_] (k:=12) VW rfl).trans (Wk.iS (ys:=(uu 1 (.sl 5 (l.map Pn.ahq)::uu 1 (.ptr S.length 0::uu 1 (.ptr (S.length+1) 0::uu 4 (.sl 3 ((dR q.ahu).map It.ahq)::.sl 1 (cs.map b5)::.own (S.length+2) 0::uu 30 (.own lr g::.i .i64 M.length::.i .i64 (([]:List kj).length:Nat)::uu 44 []))))))) ?_)) (cc.wy (M.length+1) (TG bz a A7 lr g M Lv hM l q cs c1 c2 (dR q.ahu) XP gU M [] [] 0 rfl (by simp) ?_))
 ·simp only[VV,seval]
  repeat' constructor
 intro gg;simp only[JE];intros;simp only[aW,ay,VV,seval];refine hR _ (cc.iS (fr':=(uu 3 (.ptr S.length 0::uu 1 (.ptr (S.length+1) 0::uu 6 (.own (S.length+2) gg::uu 77 []))))) ?_ (by repeat' constructor));clear hR R;have hqb:=BH O4;have hth:1≤q.threshold:=hqb.2.1.1;rw[Et cs l q hth _ 0 M c3];have hle:=A3 l q (dR q.ahu) M 0;have Sv:=vv l q (dR q.ahu) M 0;generalize hA:qf l q (dR q.ahu) 0 M=out at hle Sv ⊢;refine cc.cut fun R hR=>?_;simp only[D3,V.pure,↓IT,VV,seval];refine db (I9 M out (by omega) (fun m hm=>by have:=Sv m hm;omega) (S.length+2) gg S.length a lr g (.ptr x 0) next _ (by simp[D3]) (by simp) (hS _) (ck _)) rfl ?_;rintro _ _ ⟨l',p1,p2,rfl,rfl⟩;simp only[D3,↓IT,VV,seval];refine hR _ (cc.wk ((Wk.YJ 2 (E:=44) (sz:=5) (by':=40) (g:=gg) (sh:=false) (rows:=l'.map Mt.ahq) rfl).trans (Wk.iS (ys:=(uu 5 (.ptr (S.length+1) 0::uu 6 (.sl 5 (l'.map Mt.ahq)::uu 77 [])))) ?_)) (aB ?_))
 ·simp only[az,bD,fz,rf,kY,aO,VV,seval]
  repeat' constructor
 clear hR R;simp only[Qr.ahq,ah,V.pure,↓IT,VV,seval]
 have et:List.take (if q.jX<(l'.length:Int)then q.jX else(l'.length:Int)).toNat (l'.map Mt.ahq)=(l'.take q.jX.toNat).map Mt.ahq:=by
  rw[List.map_take];have:=hqb.2.2.1;split
  ·rfl
  ·rw[dz (by rw[ah];omega),dz (by rw[ah];omega)]
 refine⟨⟨by have:=hqb.2.2.1;split<;>omega,by split<;>omega⟩,?_⟩;simp only[et];refine aC (RJ (l'.take q.jX.toNat) _) rfl ?_;simp only[↓IT,VV,seval];subst hA;exact bk bz (.inr rfl) (by simp only[RS,seval];rfl) (by simp[LW]) ⟨.inr (.inr ⟨O4,Fi,l',p1,p2,rfl⟩),rfl⟩
end Go.Proofs.Tryz
set_option maxRecDepth 4000
set_option maxHeartbeats 2000000
namespace Go.Proofs.Tryz
open Go Go.Pm Go.Bt
theorem OE{E L:List LE}(hE:E.Perm L)(hn:(L.map (·.1)).Nodup)(p:LE→Bool):
  ((((E.filter p).map (·.1)).mergeSort fun x y=>decide (x≤y)).Pairwise fun a b=>a<b)∧(∀ e∈L,p e=true→e.1∈(((E.filter p).map (·.1)).mergeSort fun x y=>decide (x≤y)))∧(((E.filter p).map (·.1)).mergeSort fun x y=>decide (x≤y)).length≤L.length:=by
 have nq:((E.filter p).map (·.1)).Nodup:=by
  have h1:(E.map (·.1)).Nodup:=(hE.map _).nodup_iff.2 hn;exact h1.sublist ((List.filter_sublist).map _)
 have O5:=List.mergeSort_perm ((E.filter p).map (·.1)) fun x y=>decide (x≤y);refine⟨?_,fun e he hp=>?_,?_⟩
 ·have h1:(((E.filter p).map (·.1)).mergeSort fun x y=>decide (x≤y)).Pairwise fun a b=>decide (a≤b)=true:=ZC (fun a b c h1 h2=>by simp at *;omega) (fun a b=>by simp;omega) _;have h2:=O5.nodup_iff.2 nq;refine(h1.and h2).imp fun {a b} h=>?_;have h3:a≤b:=by simpa using h.1
  have h4:a≠b:=h.2;omega
 ·rw[O5.mem_iff];exact bI.2 ⟨e,cU.2 ⟨hE.mem_iff.2 he,hp⟩,rfl⟩
 ·rw[O5.length_eq,ah,← hE.length_eq];exact fa _ _
theorem US(L:List LE)(k:GK):∀ p∈GW L k,0≤p.2:=fun p hp=>by
 obtain⟨e,_,he⟩:=Hj.1 hp;obtain⟨v,hv,rfl⟩:=aj.1 he;exact GP hv
theorem N8(L:List LE)(k:TK):∀ p∈Fm L k,0≤p.2:=fun p hp=>by
 obtain⟨e,_,he⟩:=Hj.1 hp;obtain⟨v,hv,rfl⟩:=aj.1 he;exact Ey hv
theorem OF(J:ae)(L:List LE)(G2:List (GK×(Nat×Nat)))(G3:List (TK×(Nat×Nat)))(FB:Ob)(T:ae)(hI:C3 J.length T L G2 G3)(hL:L.length≤1024)(hLs:∀ e∈L,e.2.1.length≤2^20)(M:List kj)(hML:∀ s∈M,∃ m,(s.id,(s.dR,m))∈L)
  (tq:List It) (XP:tq.length≤2^20) (p:Int) (hp:1≤p∧p≤100) (X:ae) :
  PC prog 58 [.ptr (J.length+3) 0,.sl 3 (tq.map It.ahq),.i .i64 p] (s6 J L G2 G3 FB T++X)
   (fun r J'=>∃ cs:List Int,(cs.Pairwise fun a b=>a<b)∧cs.length<2^30∧(∀ s∈M,p≤dF s.dR tq→s.id∈cs)∧r=.sl 1 (cs.map b5)∧J'=s6 J L G2 G3 FB T++X):=by
 have hN2:∀ k,(GW L k).length≤1024:=fun k=>br (jr _ _) hL;have hN3:∀ k,(Fm L k).length≤1024:=fun k=>br (jr _ _) hL;have Cz:∀ g∈b9 (aS tq),0≤g.2:=fun g hg=>(ym _ g hg).1;have Iz:∀ p∈jK [] tq,0≤p.2:=fun p hp=>by rw[CO hp];exact ny _ _
 have QF:=ml tq;have b2:=Eo 1024 (GW L) hN2 (b9 (aS tq)) Cz;have b3:=Em 1024 (Fm L) hN3 (N8 L) (jK [] tq) Iz;rw[yn]at b2;have b4:=IJ tq [];simp only[bD,List.sum_nil,eE]at b4
 have hT:∀ (j:Nat) (o:Ob),T[j]?=some o→(s6 J L G2 G3 FB T++X)[J.length+5+j]?=some o:=fun j o h=>by
  have dp:=(ab.1 h).1;unfold s6;rw[aY,aH (by omega),(by omega:J.length+5+j - J.length=j+5)];simp only[bg,bF];rw[ai dp];exact h
 refine(RM (S:=s6 J L G2 G3 FB T++X) (J.length+3) J.length (J.length+1) (J.length+2) (by simp[s6,Eg]) L (by omega) (by simp[s6]) G2 (GW L) (by simp[s6])
  (fun k r g h=>by obtain⟨j,rfl,hj⟩:=hI.p2.row k r g h;exact hT j _ hj) hI.p2.D4 (US L) (fun k=>by have:=hN2 k;omega)
  G3 (Fm L) (by simp[s6]) (fun k r g h=>by obtain⟨j,rfl,hj⟩:=hI.p3.row k r g h;exact hT j _ hj) hI.p3.D4 (N8 L) (fun k=>by have:=hN3 k;omega)
  tq (by omega) Cz Iz (by unfold oc od;omega) p (by omega) (Dl tq (by omega)) (fun e he=>Dl _ (by have:=hLs e he;omega))).mono ?_
 rintro r J' ⟨D,E,hD,hE,rfl,rfl⟩;obtain⟨k1,k2,k3⟩:=OE hE hI.keys (ru tq (cZ (cZ [] (oc (GW L) (b9 (aS tq)))) (od (Fm L) D)) p);refine⟨_,k1,by omega,fun s hs hpc=>?_,rfl,rfl⟩;obtain⟨m,hm⟩:=hML s hs;refine k2 _ hm ?_;have hl:=hLs _ hm;have hc:=U2 hI.keys hm tq hD;simp only[ru,aU];have e:(bS s.id (cZ (cZ [] (oc (GW L) (b9 (aS tq)))) (od (Fm L) D))).getD rk=py tq s.dR:=hc;rw[e];exact Cl tq s.dR p hp hpc XP hl
end Go.Proofs.Tryz
set_option maxRecDepth 8000
set_option maxHeartbeats 4000000
namespace Go.Proofs.Tryz
open Go Go.Pm Go.Bt
def vU:kj:=⟨0,ez Ll,Ll,dR lG⟩
theorem Kf:Ll.ahE:=⟨by decide,by decide,by decide,by decide,by decide,by decide,fun x hx=>by
 simp only[Ll,lG,bg,aW,bA,eA,sf]at hx;rcases hx with rfl | rfl<;>decide⟩
theorem C3.ZK(n:Nat)(T:ae):C3 n T [] [] [] :=
 ⟨iI,fun e he=>by simp at he,fun e he=>by simp at he,⟨iI,fun k r g h=>by simp[bS,dJ]at h,fun k h=>rfl,fun k k' r g g' h=>by simp[bS,dJ]at h⟩,
  ⟨iI,fun k r g h=>by simp[bS,dJ]at h,fun k h=>rfl,fun k k' r g g' h=>by simp[bS,dJ]at h⟩,fun k r g k' r' g' h=>by simp[bS,dJ]at h⟩
theorem M8(J:ae)(G2:List (GK×(Nat×Nat)))(G3:List (TK×(Nat×Nat)))(m:Nat)(T:ae)(hI:C3 J.length (js 1 [vU]::T) [(0,(dR lG,m))] G2 G3)(X:ae):
  PC prog 23 [.ptr (J.length+4) 0,.sl 5 [],.agg Lk.ahq] (mT J [(0,(dR lG,m))] G2 G3 1 1 [vU] T++X) (fun r S'=>r=.fu [.sl 5 [Mt.ahq ⟨0,100,2,0,102⟩],.i .i64 0]∧S'=mT J [(0,(dR lG,m))] G2 G3 1 1 [vU] T++X):=by
 refine(KL (S:=mT J [(0,(dR lG,m))] G2 G3 1 1 [vU] T++X) (J.length+4) (J.length+3) (J.length+5) 1 1 (by simp[mT,s6,Pe]) [vU] (by simp[mT,s6]) (by decide) [] (by decide) Lk (by decide) (by decide) (by decide) (by decide) (by rw[show Lk.ahu=lG from rfl,rQ];decide)
  (fun s hs=>by
   simp only[b6]at hs;subst hs;exact⟨by rw[show vU.dR=dR lG from rfl,rQ];decide,⟨by decide,by decide,by decide,by simp⟩⟩) (fun _ Y=>?_)).mono ?_
 ·rw[aY,IB];have H:=OF J _ G2 G3 (Pe J.length (.own (J.length+5) 1) 1) _ (hI.swap (o':=js 1 [vU]) (X:=X++Y)) (by simp) (by simp[rQ]) [vU] (fun s hs=>⟨m,by simp only[b6]at hs;subst hs;simp[vU]⟩) (dR lG) (by rw[rQ];decide) (JH Lk) (by decide) [];simp only[bV]at H;exact H
 ·rintro r J' ⟨h,rfl⟩;refine⟨?_,rfl⟩;rcases h with⟨h,_⟩ | ⟨_,h,_⟩ | ⟨_,_,l',hp,_,rfl⟩
  ·exact absurd TI h
  ·exact absurd ZN h
  ·have e:qf [] Lk (dR Lk.ahu) 0 [vU]=[⟨0,100,2,0,102⟩]:=by rfl
   rw[e]at hp;have:=List.perm_singleton.1 hp;subst this;rfl
theorem Gk(J:ae):PC prog 12 [] J (fun r J'=>r=.b true∧J'=J):=by
 refine PC.intro func12 c12 fun bz dH=>aB ?_;simp only[p12,SS,seval];simp only[V.pure,↓IT,VV,seval];refine ly (zs:=[.agg Ll.ahq,.sl 5 ([ZO].map Pn.ahq),.agg Lk.ahq]) ?_ (Mf Ll [ZO] Lk ⟨by decide,by decide,by decide,by decide⟩ (by decide) (by decide) (by decide) (by decide) (by rw[show Ll.ahu=lG from rfl,rQ];decide) (by rw[show Lk.ahu=lG from rfl,rQ];decide) _) ?_
 ·exact .cons (Cv.OT (.cons (.lit _ _) (.cons (.lit _ _) (.cons (.refl _) (.cons (.refl _) (.cons (.refl _) (.cons (.refl _) (.cons (.refl _) (.cons (.refl _) .nil))))))))) (.cons (.lit _ _) (.cons (Cv.OT (.cons (.lit _ _) (.cons (.refl _) (.cons (.refl _) (.cons (.refl _) (.cons (.refl _) (.cons (.refl _) .nil))))))) .nil))
 rw[Qp];simp only[V.pure,↓IT,VV,seval]
 obtain⟨S1,Sz⟩:∃ S1,S1=J++[Ob.box 37 [.lit 3 [[.i .i64 1,.s [83,97,118,101],.i .i64 0]],.lit 3 [[.i .i64 1,.s [83,105,99,104,101,114,110],.i .i64 0]],.s [97],.s [98],.s [],.s [],.i .i64 0,.i .i64 3],
  .box 24 [.lit 3 [[.i .i64 1,.s [83,97,118,101],.i .i64 0]],.s [97],.s [98],.i .i64 0,.i .i64 50,.i .i64 5],.box 44 [.i .i64 0,.i .i64 100,.i .i64 2,.i .i64 10,.i .i64 92]]:=⟨_,rfl⟩
 rw[← Sz];have g0:∀ L G2 G3 nx g M T,(mT S1 L G2 G3 nx g M T)[J.length]?=some (Ob.box 37 [.lit 3 [[.i .i64 1,.s [83,97,118,101],.i .i64 0]],.lit 3 [[.i .i64 1,.s [83,105,99,104,101,114,110],.i .i64 0]],.s [97],.s [98],.s [],.s [],.i .i64 0,.i .i64 3]):=fun L G2 G3 nx g M T=>by simp[mT,s6,Sz]
 have g1:∀ L G2 G3 nx g M T,(mT S1 L G2 G3 nx g M T)[J.length+1]?=some (Ob.box 24 [.lit 3 [[.i .i64 1,.s [83,97,118,101],.i .i64 0]],.s [97],.s [98],.i .i64 0,.i .i64 50,.i .i64 5]):=fun L G2 G3 nx g M T=>by simp[mT,s6,Sz]
 have g2:∀ L G2 G3 nx g M T,(mT S1 L G2 G3 nx g M T)[J.length+2]?=some (Ob.box 44 [.i .i64 0,.i .i64 100,.i .i64 2,.i .i64 10,.i .i64 92]):=fun L G2 G3 nx g M T=>by simp[mT,s6,Sz]
 refine aC (KK _) rfl ?_;simp only[g0,V.pure,↓IT,VV,seval]
 refine db (PC.wk (args':=[.ptr (S1.length+4) 0,.agg Ll.ahq]) (Wk.iS (.cons (.refl _) (.cons (Cv.OT (.cons (.lit _ _) (.cons (.lit _ _) (.cons (.refl _) (.cons (.refl _) (.cons (.refl _) (.cons (.refl _) (.cons (.refl _) (.cons (.refl _) .nil))))))))) .nil)))
  (JA S1 [] [] [] 0 (by decide) 0 [] [] (C3.ZK _ _) rfl (by decide) (by decide) (by simp[y9]) Ll Kf XJ (by simp) rfl (by rw[show Ll.ahu=lG from rfl,rQ];decide))) rfl ?_
 rintro _ _ ⟨rfl,T',m,G2',G3',rfl,hI⟩;simp only[g1,g2,V.pure,↓IT,VV,seval];have hI:C3 S1.length (js 1 [vU]::T') [(0,(dR lG,m))] G2' G3':=hI;have H:=M8 S1 G2' G3' m T' hI [];simp only[bV]at H;refine ly (zs:=[.ptr (S1.length+4) 0,.sl 5 [],.agg Lk.ahq]) (.cons (.refl _) (.cons (.nil _) (.cons (Cv.OT (.cons (.lit _ _) (.cons (.refl _) (.cons (.refl _) (.cons (.refl _) (.cons (.refl _) (.cons (.refl _) .nil))))))) .nil))) H ?_;have k1:(true==true)=true:=rfl;simp only[g1,g2,k1,Mt.ahq,V.pure,↓IT,VV,seval];refine⟨.i .i64 102,⟨True,rfl,trivial⟩,?_⟩;simp only[k1,V.pure,↓IT,VV,seval];obtain⟨loc,aa4⟩:∃ loc,mT S1 [(0,(dR lG,m))] G2' G3' 1 1 [vU] T'=J++loc:=⟨_,by simp only[mT,s6,Sz,aY];rfl⟩;rw[aa4];exact bk bz (.inr rfl) rfl (by simp[LW]) ⟨rfl,rfl⟩
end Go.Proofs.Tryz

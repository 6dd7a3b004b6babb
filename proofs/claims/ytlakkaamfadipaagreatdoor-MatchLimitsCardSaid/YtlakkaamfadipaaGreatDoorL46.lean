/- A part of a proof; the claim's last text says of what. -/
import Derived.StillTailTactics
import Derived.LoopN
import Derived.Test.YtlakkaamfadipaaGreatDoorL45
set_option linter.all false

namespace Go.Proofs.Tryz
open Go Go.Pm Go.Bt Go.RowKit Go.Sort
theorem IC(a b:Int):Lib.compareInt a b=jY a b:=by
 simp only[Lib.compareInt,jY]
set_option maxHeartbeats 4000000 in
theorem Hz(x y z u:Int)(b T:Nat)(W:World)(hb:W.heap[b]?=some (.cells #[.int .i64 x,.int .i64 y,.int .i64 z,.int .i64 u] T (0,0))):
  Calls prog 62 #[.slice (some ⟨b,0,none⟩) 4 4] W fun e w'=>e=.returned (.int .i64 (tR [x,y,z,u]))∧w'=W:=by
 have c0:W.cell? ⟨b,0,none⟩=some (.int .i64 x):=by simp[World.cell?,hb]
 have c1:W.cell? ⟨b,1,none⟩=some (.int .i64 y):=by simp[World.cell?,hb]
 have c2:W.cell? ⟨b,2,none⟩=some (.int .i64 z):=by simp[World.cell?,hb]
 have c3:W.cell? ⟨b,3,none⟩=some (.int .i64 u):=by simp[World.cell?,hb]
 go_enter func62,Tryz.ntmps62
 go_wp2
 refine wp_loop_rounds 5 ?_;rw[rounds_succ]
 go_wp2
 ·rename_i hx
  go_ret
  exact⟨by simp[tR,show x≠0 by simpa using hx],rfl⟩
 ·rename_i hx;rw[rounds_succ]
  go_wp2
  ·rename_i hy
   go_ret
   exact⟨by simp[tR,show x=0 by simpa using hx,show y≠0 by simpa using hy],rfl⟩
  ·rename_i hy;rw[rounds_succ]
   go_wp2
   ·rename_i hz
    go_ret
    exact⟨by simp[tR,show x=0 by simpa using hx,show y=0 by simpa using hy,show z≠0 by simpa using hz],rfl⟩
   ·rename_i hz;rw[rounds_succ]
    go_wp2
    ·rename_i hu
     go_ret
     exact⟨by simp[tR,show x=0 by simpa using hx,show y=0 by simpa using hy,show z=0 by simpa using hz,show u≠0 by simpa using hu],rfl⟩
    ·rename_i hu;rw[rounds_succ]
     go_wp2
     go_ret
     exact⟨by simp[tR,show x=0 by simpa using hx,show y=0 by simpa using hy,show z=0 by simpa using hz,show u=0 by simpa using hu],rfl⟩
theorem BD{W w:World}{A B:Obj}(h:w.heap=(W.heap.push A).push B):w.heap[W.heap.size]?=some A∧w.heap[W.heap.size+1]?=some B:=by
 have e:W.heap.size+1=(W.heap.push A).size:=by simp
 rw[h];refine⟨?_,by rw[e];exact lJ⟩;rw[xG (by simp),Array.getElem_push_eq]
theorem rB{W w:World}{A B:Obj}(h:w.heap=(W.heap.push A).push B){b o:Nat}{v:Value}(hc:W.cell? ⟨b,o,none⟩=some v):w.cell? ⟨b,o,none⟩=some v:=by
 have hb:b<W.heap.size:=by
  apply bc;intro hn;simp[World.cell?,ju (L6 hn)]at hc
 have e:w.heap[b]?=W.heap[b]?:=by
  rw[h,pP,pP,aC (by simp;omega),aC (by omega)]
 unfold World.cell? at hc ⊢;simp only[e]at *;exact hc
set_option maxRecDepth 4000 in
set_option maxHeartbeats 8000000 in
theorem Em(x1 x2 x3 x4 x5 y1 y2 y3 y4 y5 c d:Int)(bb b lb n cap:Nat)(W:World)(U0:W.cell? ⟨bb,0,none⟩=some (.pointer (some ⟨b,0,none⟩)))(N0:W.cell? ⟨b,1,none⟩=some (.slice (some ⟨lb,0,none⟩) n cap))
  (hx:0≤x1∧x1<n) (hy:0≤y1∧y1<n) (hc:W.cell? ⟨lb,x1.toNat*11+8,none⟩=some (.int .i64 c)) (hd:W.cell? ⟨lb,y1.toNat*11+8,none⟩=some (.int .i64 d)) :
  Calls prog 61 #[.agg #[.int .i64 x1,.int .i64 x2,.int .i64 x3,.int .i64 x4,.int .i64 x5],.agg #[.int .i64 y1,.int .i64 y2,.int .i64 y3,.int .i64 y4,.int .i64 y5],.pointer (some ⟨bb,0,none⟩)] W
   fun e w'=>e=.returned (.int .i64 (tR [jY y5 x5,jY y2 x2,jY d c,jY x1 y1]))∧∃ q os',w'=grow (W.drewN q) os':=by
 have EK:∀ (x y:Int) (W':World),Calls prog 63 #[.int .i64 x,.int .i64 y] W' fun e w'=>e=.returned (.int .i64 (jY x y))∧w'=W':=fun x y W'=>by
  have:=AnyG.cmp_Compare_int Tryz.R1 x y W';rw[IC]at this;exact this
 go_enter func61,Tryz.ntmps61
 go_wp2
 generalize Bn:(W.alloc (.cells #[.int .i64 x1,.int .i64 x2,.int .i64 x3,.int .i64 x4,.int .i64 x5] 44)).alloc (.cells #[.int .i64 y1,.int .i64 y2,.int .i64 y3,.int .i64 y4,.int .i64 y5] 44)=w2;refine wp_region_still_tail 36 (by kernel_rfl) (by kernel_rfl) ?_;have hw:w2.drew.heap=(W.heap.push (.cells #[.int .i64 x1,.int .i64 x2,.int .i64 x3,.int .i64 x4,.int .i64 x5] 44)).push (.cells #[.int .i64 y1,.int .i64 y2,.int .i64 y3,.int .i64 y4,.int .i64 y5] 44):=by rw[← Bn];rfl
 obtain⟨Br,iX⟩:=BD hw;have k1:w2.drew.cell? ⟨W.heap.size,4,none⟩=some (.int .i64 x5):=by simp[World.cell?,Br]
 have k2:w2.drew.cell? ⟨W.heap.size,1,none⟩=some (.int .i64 x2):=by simp[World.cell?,Br]
 have k3:w2.drew.cell? ⟨W.heap.size,0,none⟩=some (.int .i64 x1):=by simp[World.cell?,Br]
 have k4:w2.drew.cell? ⟨W.heap.size+1,4,none⟩=some (.int .i64 y5):=by simp[World.cell?,iX]
 have k5:w2.drew.cell? ⟨W.heap.size+1,1,none⟩=some (.int .i64 y2):=by simp[World.cell?,iX]
 have k6:w2.drew.cell? ⟨W.heap.size+1,0,none⟩=some (.int .i64 y1):=by simp[World.cell?,iX]
 have k7:=rB hw U0;have k8:=rB hw N0;have k9:=rB hw hc;have k0:=rB hw hd;have ks:∃ q os',w2.drew=grow (W.drewN q) os':=⟨1,_,by rw[← Bn,alloc_eq_grow,alloc_eq_grow,grow_grow];rfl⟩;simp only[List.take_succ_cons,qO,List.drop_succ_cons,Sc];change wpStill _ _ w2.drew (fun a'=>wpList _ _ _ _ a' w2.drew) _ _;have eI:w2.drew.heap.size=W.heap.size+2:=by simp[hw]
 generalize w2.drew=w3 at *;clear Br iX hw Bn w2 hc hd U0 N0
 still_step
 still_step
 still_step
 still_step
 refine wpStill_step (fun K hK=>?_)
 go_simp
 refine⟨_,EK y5 x5 w3,hK _ ?_⟩;clear hK K
 still_step
 still_step
 still_step
 still_step
 refine wpStill_step (fun K hK=>?_)
 go_simp
 refine⟨_,EK y2 x2 w3,hK _ ?_⟩;clear hK K
 still_step
 still_step
 still_step
 still_step
 still_step
 still_step
 still_step
 still_step
 still_step
 still_step
 still_step
 still_step
 still_step
 still_step
 still_step
 still_step
 still_step
 still_step
 still_step
 still_step
 refine wpStill_step (fun K hK=>?_)
 go_simp
 refine⟨_,EK d c w3,hK _ ?_⟩;clear hK K
 still_step
 still_step
 still_step
 still_step
 refine wpStill_step (fun K hK=>?_)
 go_simp
 refine⟨_,EK x1 y1 w3,hK _ ?_⟩;clear hK K;refine wpStill_nil ?_
 go_wp2_with (go_at_call 62;refine(Hz (jY y5 x5) (jY y2 x2) (jY d c) (jY x1 y1) (W.heap.size+2) 3 _ (by rw[← eI];exact lJ)).mono ?_;rintro e w' ⟨rfl,rfl⟩)
 go_ret
 obtain⟨q,os,rfl⟩:=ks;exact⟨rfl,q,_,by rw[alloc_eq_grow,grow_grow]⟩
def mA(cr:Mt→Int)(a b:Mt):Int:=tR [jY b.score a.score,jY b.jg a.jg,jY (cr b) (cr a),jY a.aev b.aev]
end Go.Proofs.Tryz
set_option maxRecDepth 4000
namespace Go.Proofs.Tryz
open Go Go.Pm Go.Bt Go.RowKit Go.Sort
theorem iE.rev{α:Type}{c:α→α→Int}(h:iE c):iE fun a b=>c b a :=
 ⟨fun a b=>h.ku b a,fun a b d h1 h2=>h.trans d b a h2 h1⟩
theorem HC(cr:Mt→Int):iE (mA cr):=by
 have h:=((iE.rev rV).on (fun m:Mt=>m.score)).lex (((iE.rev rV).on (fun m:Mt=>m.jg)).lex (((iE.rev rV).on cr).lex (rV.on (fun m:Mt=>m.aev))))
 have e:mA cr=AH (fun a b:Mt=>jY b.score a.score) (AH (fun a b:Mt=>jY b.jg a.jg) (AH (fun a b=>jY (cr b) (cr a)) fun a b=>jY a.aev b.aev)):=by
  funext a b;simp only[mA,tR,AH]
  (repeat' split)<;>first | rfl | omega
 rw[e];exact h
def OQ(M:List dP)(m:Mt):Int:=((M[m.aev.toNat]?).map fun s=>s.en.aey).getD 0
def Cl(g:Nat)(out:List Mt):Ob:=.row 44 5 40 g false (out.map Mt.aen)
theorem Ft{W:World}{vx:Value}{m:Mt}(h:VR W [] (fun _=>undef) (.agg m.aen) vx):vx=.agg #[.int .i64 m.aev,.int .i64 m.jg,.int .i64 m.context,.int .i64 m.points,.int .i64 m.score]:=by
 obtain⟨vs,rfl,hl,hv⟩:=h.fX;have h0:=(hv 0 _ rfl).dI;have h1:=(hv 1 _ rfl).dI;have h2:=(hv 2 _ rfl).dI;have h3:=(hv 3 _ rfl).dI;have h4:=(hv 4 _ rfl).dI;obtain⟨q⟩:=vs
 match q,hl with
 | [a,b,c,d,e],_ =>
  simp[Array.getD]at h0 h1 h2 h3 h4;subst h0 h1 h2 h3 h4;rfl
theorem G6(M:List dP)(out:List Mt)(hl:out.length<2^30)(NR:∀ m∈out,0≤m.aev∧m.aev<M.length)(id g i1 a lr gl:Nat)(x:V)(next:Int)(J:ae)(h1:J[id]?=some (Cl g out))
  (Br:J[i1]?=some (.box 47 [.ptr a 0])) (iX:J[a]?=some (.box 105 [x,.own lr gl,.i .i64 next])) (hr:J[lr]?=some (ff gl M)) :
  PC prog 60 [.own id g,.fn 61 [.ptr i1 0]] J (fun r J'=>∃ l':List Mt,l'.Perm out∧l'.Pairwise (fun x y=>¬ mA (OQ M) y x<0)∧r=.fa []∧J'=J.set id (Cl g l')):=by
 refine PC.yI Tryz.SY (k:=5) Tryz.isAgg44 Tryz.sizeOf44 Mt.aen (fun x=>by simp[Mt.aen]) (by omega) (mA (OQ M)) (enters_of func61 (by kernel_rfl) rfl) out ?_ (Jq (HC _) out) hl h1;intro B w0 w μ cb hS bz YH W gb hB Yz hg m hm m' hm' vx vy hx hy
 obtain⟨v0,rfl⟩:∃ v0,cb=#[v0]:=by
  obtain⟨q⟩:=cb
  match q,bz with
  | [v],_=>exact⟨v,rfl⟩
 have hp:=YH 0 _ rfl;simp only[Array.getD,de,List.length_singleton,Nat.zero_lt_one,dif_pos]at hp;obtain⟨bb,e1,e2,_⟩:=hp.mG;have e2:v0=.pointer (some ⟨bb,0,none⟩):=e2;subst e2;obtain⟨b1,Wb,q1,_,q2,q3,q4⟩:=hS.obj i1 _ Br;obtain⟨u1,q5,q6⟩:=q4 0 _ rfl;obtain⟨b,f1,f2,_⟩:=q6.mG;obtain⟨b2,Wa,r1,_,r2,r3,r4⟩:=hS.obj a _ iX;obtain⟨u2,r5,r6⟩:=r4 1 _ rfl;have r6:=r6.iL hr;obtain⟨_,vals,eu,bT⟩:=hS.obj lr _ hr;have DH:(M.map dP.aen).length=M.length:=aj ..;rcases eu.2 with⟨_,hn⟩ | ⟨lb,cap,cur,jX,_,Vj,CQ,_,kN,Bq⟩
 ·have:=NR m hm;rw[DH]at hn;omega
 have Yi:b1≠gb:=fun e=>by
  have:=hS.sep i1 id _ _ gb Br h1 (by simp) (by simp[Cl]) (by rw[q1,e];rfl) Yz;subst this;rw[h1]at Br;simp[Cl]at Br
 have U4:b2≠gb:=fun e=>by
  have:=hS.sep a id _ _ gb iX h1 (by simp) (by simp[Cl]) (by rw[r1,e];rfl) Yz;subst this;rw[h1]at iX;simp[Cl]at iX
 have U3:lb≠gb:=fun e=>by
  have:=hS.sep lr id _ _ gb hr h1 (by simp[ff]) (by simp[Cl]) (by rw[jX,e];rfl) Yz;subst this;rw[h1]at hr;simp[ff,Cl]at hr
 rw[q1]at e1;simp only[Value.pointer.injEq,aa,Addr.mk.injEq,kD]at e1;subst e1;rw[r1]at f1;simp only[Value.pointer.injEq,aa,Addr.mk.injEq,kD]at f1;subst f1;have k1:W.cell? ⟨b1,0,none⟩=some (.pointer (some ⟨b2,0,none⟩)):=hg.cell (by simp only[World.cell?,q2];rw[← f2];simpa using q5) (fun e=>Yi (by simpa using e));have k2:W.cell? ⟨b2,1,none⟩=some (.slice (some ⟨lb,0,none⟩) M.length cap):=hg.cell (by simp only[World.cell?,r2];rw[← DH,← jX,← r6];simpa using r5) (fun e=>U4 (by simpa using e))
 have k3:∀ z∈out,W.cell? ⟨lb,z.aev.toNat*11+8,none⟩=some (.int .i64 (OQ M z)):=fun z hz=>by
  have IY:=NR z hz;have cM:z.aev.toNat<M.length:=by omega
  have h2:eV (M.map dP.aen) z.aev.toNat 8=some (.i .i64 (OQ M z)):=by
   simp[eV,cM,OQ,dP.aen]
  obtain⟨_,u,p2,p3⟩:=bT.2 _ _ _ h2;rw[p3.dI]at p2;refine hg.cell ?_ (fun e=>U3 (by simpa using e));simp only[World.cell?,Vj];rw[← Bq,dp]at p2;split at p2
  ·simpa using p2
  ·cases p2
 rw[Ft hx,Ft hy];exact Em _ _ _ _ _ _ _ _ _ _ _ _ b1 b2 lb M.length cap W k1 k2 (NR m hm) (NR m' hm') (k3 m hm) (k3 m' hm')
end Go.Proofs.Tryz
set_option maxRecDepth 4000
set_option maxHeartbeats 2000000
namespace Go.Proofs.Tryz
open Go Go.Pm Go.Bt
def qc(cs:List Int)(l:List Pn)(q:Qr)(tq:List It):Nat→List dP→List Mt
 | _,[]=>[]
 | i,s::r=>(if s.id∈cs∧q.threshold≤(fb s.en s.cd tq l q).score then[{ fb s.en s.cd tq l q with aev:=i }]else[])++qc cs l q tq (i+1) r
theorem QF{S:ae}{K:Exit→St→Prop}(bz:bG S)(a:Nat)(ha:a<S.length)(lr g:Nat)(M:List dP)(I3:S[lr]?=some (ff g M))(hM:M.length<2^20)(l:List Pn)(q:Qr)(cs:List Int)(kN:cs.Pairwise fun a b=>a<b)(YO:cs.length<2^30)(tq:List It)(QQ:tq.length<2^27)
  (fQ:∀ s∈M,s.cd.length<2^27∧IL s.en l q):∀ (rest pre:List dP) (out:List Mt) (gg:Nat),M=pre++rest→out.length≤pre.length →
  (∀ gg,((fj 1 (fh (.sl 5 (l.map Pn.aen)) (fj 1 (fh (.ptr S.length 0) (fj 1 (fh (.ptr (S.length+1) 0) (fj 4 (fh (.sl 3 (tq.map It.aen)) (fh (.sl 1 (cs.map cq)) (fh (.own (S.length+2) gg) (fj 77 fo))))))))))) fun ZZ=>K (.exit 0) ⟨ZZ,S++[.box 47 [.ptr a 0],.box 24 q.aen,Cl gg (out++qc cs l q tq pre.length rest)]⟩)) →
  gw S.length prog Ch K (rest.length+1) ⟨(uu 1 (.sl 5 (l.map Pn.aen)::uu 1 (.ptr S.length 0::uu 1 (.ptr (S.length+1) 0::uu 4 (.sl 3 (tq.map It.aen)::.sl 1 (cs.map cq)::.own (S.length+2) gg::uu 30 (.own lr g::.i .i64 M.length::.i .i64 pre.length::uu 44 [])))))),S++[.box 47 [.ptr a 0],.box 24 q.aen,Cl gg out]⟩:=by
 intro rest
 induction rest with
 | nil =>
  intro pre out gg he ho h1;have he:M=pre:=by simpa using he
  subst he;rw[qc,bF]at h1;refine aH fun R hR=>?_;simp only[Ch,VV,seval];exact⟨fun h=>by simp at h,fun _=>h1 gg ..⟩
 | cons s rest ih =>
  intro pre out gg he ho h1;have hlen:M.length=pre.length+(rest.length+1):=by rw[he];simp
  have hw:IntKind.i64.wrap ((pre.length:Int)+1)=(((pre++[s]).length:Nat):Int):=by
   rw[br (by omega)];simp
  have eJ:(M.map dP.aen).getD pre.length []=s.aen:=by rw[he];exact zS
  have hS:∀ loc:ae,(S++loc)[lr]?=some (.row 108 11 176 g false (M.map dP.aen)):=fun loc=>by
   rw[ag (ab.1 I3).1];exact I3
  obtain⟨pE,Pw⟩:=fQ s (by rw[he];simp);simp only[dP.aen]at eJ;refine aH fun R hR=>?_;simp only[Ch,Qr.aen,Cl,hS,eJ,↓IT,VV,seval];have hd:decide ((pre.length:Int)<(M.length:Int))=true:=by simp;omega
  have fK:∀ gg out,bG (S++[.box 47 [.ptr a 0],.box 24 q.aen,Cl gg out]):=fun gg out=>ck bz (by simp[Cl,Qr.aen,LW];omega)
  have back:∀ {fr:List V} {R:St→Prop} (gg:Nat) (out':List Mt) (loc:ae),(∀ st',gw S.length prog Ch K (rest.length+1) st'→R st')→out'.length≤pre.length+1→out'++qc cs l q tq (pre++[s]).length rest=out++qc cs l q tq pre.length (s::rest) →
    qJ fr (uu 1 (.sl 5 (l.map Pn.aen)::uu 1 (.ptr S.length 0::uu 1 (.ptr (S.length+1) 0::uu 4 (.sl 3 (tq.map It.aen)::.sl 1 (cs.map cq)::.own (S.length+2) gg::uu 30 (.own lr g::.i .i64 M.length::.i .i64 (pre++[s]).length::uu 44 [])))))) →
    R ⟨fr,S++(.box 47 [.ptr a 0]::.box 24 q.aen::Cl gg out'::loc)⟩:=fun gg out' loc hR CM PH hc=>by
   have hlr':=(ab.1 I3).1;refine hR _ (bR [_,_,_] loc (fK _ _) hc ?_ (ih (pre++[s]) out' gg (by simp[he]) (by simpa using CM) (by rw[PH];exact h1)));simp only[LW,ai,aK,bj];omega
  refine⟨fun _=>⟨⟨by omega,by rw[aj];omega⟩,?_⟩,fun h=>by rw[hd]at h;cases h⟩;refine aA (R6 cs kN s.id YO _) rfl ?_;simp only[hw,↓IT,VV,seval];refine⟨fun zh=>?_,fun NL=>?_⟩
  ·have zh:s.id ∉ cs:=by simpa using zh
   exact back gg out [_] hR (by omega) (by simp[qc,zh]) (by repeat' constructor)
  have NL:s.id∈cs:=by simpa using NL
  refine aA (xh s.en s.cd tq l q pE QQ Pw _) (by simp only[Qr.aen,En.aen,VV,seval]) ?_;simp only[Mt.aen,hw,↓IT,VV,seval];refine⟨fun h2=>?_,fun h2=>?_⟩
  ·have h2:q.threshold≤(fb s.en s.cd tq l q).score:=by simpa using h2
   have e5:List.map Mt.aen out++[[V.i .i64 pre.length,.i .i64 (fb s.en s.cd tq l q).jg,.i .i64 (fb s.en s.cd tq l q).context,.i .i64 (fb s.en s.cd tq l q).points,.i .i64 (fb s.en s.cd tq l q).score]]=(out++[{ fb s.en s.cd tq l q with aev:=pre.length }]).map Mt.aen:=by simp[Mt.aen]
   refine⟨⟨by rw[aj];omega,by rw[aj];unfold maxLen;omega⟩,?_⟩;rw[e5];refine back (gg+1) (out++[{ fb s.en s.cd tq l q with aev:=pre.length }]) [_,_] hR ?_ ?_ ?_
   ·simp;omega
   ·simp[qc,NL,h2]
   ·repeat' constructor
  ·have h2:¬ q.threshold≤(fb s.en s.cd tq l q).score:=by simpa using h2
   exact back gg out [_,_] hR (by omega) (by simp[qc,NL,h2]) (by repeat' constructor)
end Go.Proofs.Tryz
set_option maxRecDepth 4000
set_option maxHeartbeats 2000000
namespace Go.Proofs.Tryz
open Go Go.Pm Go.Bt
def kW(l:List Pn)(q:Qr)(tq:List It):Nat→List dP→List Mt
 | _,[]=>[]
 | i,s::r=>(if q.threshold≤(fb s.en s.cd tq l q).score then[{ fb s.en s.cd tq l q with aev:=i }]else[])++kW l q tq (i+1) r
theorem ry{q:Qr}(h:dV q=0):(0≤q.now∧q.now≤1073741824)∧(1≤q.threshold∧q.threshold≤102)∧1≤q.jo∧q.jo≤100:=by
 unfold dV at h
 (repeat' split at h)<;>omega
def D9(q:Qr):Int:=if 100<q.threshold then 100 else q.threshold
theorem HD{s:dP}{tq:List It}{l:List Pn}{q:Qr}(h1:1≤q.threshold)(h:q.threshold≤(fb s.en s.cd tq l q).score):D9 q≤cS s.cd tq:=by
 have hs:=qt s.en q.now l 0 (by omega);have hs:0≤jH l s.en q.now∧jH l s.en q.now≤100:=hs;simp only[fb]at h;unfold D9
 by_cases hp:cS s.cd tq=100
 ·split<;>omega
 ·rw[aC hp]at h;unfold mx at h;split at h<;>split<;>omega
theorem CU(cs:List Int)(l:List Pn)(q:Qr)(h1:1≤q.threshold)(tq:List It):∀ (i:Nat) (M:List dP),(∀ s∈M,D9 q≤cS s.cd tq→s.id∈cs)→qc cs l q tq i M=kW l q tq i M
 | _,[],_=>rfl
 | i,s::r,h=>by
  simp only[qc,kW];rw[CU cs l q h1 tq (i+1) r fun x hx=>h x (by simp[hx])];congr 1
  by_cases hq:q.threshold≤(fb s.en s.cd tq l q).score
  ·rw[aQ hq,aQ ⟨h s (by simp) (HD h1 hq),hq⟩]
  ·rw[aC hq,aC (fun h=>hq h.2)]
theorem oW(l:List Pn)(q:Qr)(tq:List It):∀ (M:List dP) (i:Nat),∀ m∈kW l q tq i M,(i:Int)≤m.aev∧m.aev<i+M.length
 | [],i,m,h=>by simp[kW]at h
 | s::r,i,m,h=>by
  simp only[kW,bQ]at h;rcases h with h | h
  ·split at h
   ·simp only[cR]at h;subst h;simp only[ai];omega
   ·simp at h
  ·have:=oW l q tq r (i+1) m h;simp only[ai]at *;omega
theorem zj(l:List Pn)(q:Qr)(tq:List It):∀ (M:List dP) (i:Nat),(kW l q tq i M).length≤M.length
 | [],i=>aq _
 | s::r,i=>by
  have:=zj l q tq r (i+1);simp only[kW,al,ai];split<;>simp<;>omega
def GP(M:List dP)(l:List Pn)(q:Qr)(r:V):Prop :=
 (dV q≠0∧r=.fa [.sl 5 [],.i .i64 (dV q)])∨(dV q=0∧oP l≠0∧r=.fa [.sl 5 [],.i .i64 (oP l)]) ∨
  (dV q=0∧oP l=0∧∃ l':List Mt,l'.Perm (kW l q (cd q.aeq) 0 M)∧l'.Pairwise (fun x y=>¬ mA (OQ M) y x<0)∧r=.fa [.sl 5 ((l'.take q.jo.toNat).map Mt.aen),.i .i64 0])
theorem SU:Ti prog 44 5 40:=nD (by kernel_rfl)
theorem OT(out:List Mt)(J:ae):PC prog 64 [.sl 5 (out.map Mt.aen)] J (fun r J'=>r=.sl 5 (out.map Mt.aen)∧J'=J):=by
 refine PC.intro func64 c64 fun bz er=>aB ?_;simp only[p64,SS,seval];simp only[List.take_length,VV,seval];exact⟨⟨by omega,by omega⟩,a6 (.inr rfl) rfl ⟨rfl,rfl⟩⟩
theorem Iz{S:ae}(a x lr g:Nat)(next:Int)(xO:S[a]?=some (.box 105 [.ptr x 0,.own lr g,.i .i64 next]))(M:List dP)(I3:S[lr]?=some (ff g M))(hM:M.length<2^20)(l:List Pn)(hl:l.length<2^40)(q:Qr)
  (h1:q.bV.length<2^39) (h2:q.next.length<2^39) (h3:q.aeq.length<2^38) (h4:bP q.aeq<2^38) (QQ:(cd q.aeq).length<2^27) (fQ:∀ s∈M,s.cd.length<2^27∧IL s.en l q)
  (KY:dV q=0→∀ T:ae,PC prog 58 [.ptr x 0,.sl 3 ((cd q.aeq).map It.aen),.i .i64 (D9 q)] (S++T) (fun r J'=>∃ cs:List Int,(cs.Pairwise fun a b=>a<b)∧cs.length<2^30∧(∀ s∈M,D9 q≤cS s.cd (cd q.aeq)→s.id∈cs)∧r=.sl 1 (cs.map cq)∧J'=S++T)) :
  PC prog 23 [.ptr a 0,.sl 5 (l.map Pn.aen),.agg q.aen] S (fun r J'=>GP M l q r∧J'=S):=by
 refine PC.intro func23 c23 fun bz er=>?_;have zn:=(ab.1 xO).1;simp only[p23,SS,seval];refine cE.cut fun R hR=>?_;simp only[Qr.aen,VV,seval];refine hR _ (cE.kP (fr':=(uu 1 (.sl 5 (l.map Pn.aen)::uu 1 (.ptr S.length 0::uu 1 (.ptr (S.length+1) 0::uu 84 []))))) ?_ (by repeat' constructor));clear hR R;refine cE.cut fun R hR=>?_;simp only[V.pure,↓IT,VV,seval];refine aA (B1 q h1 h2 _) (by simp only[Qr.aen,VV,seval]) ?_;simp only[↓IT,VV,seval];refine⟨fun h=>?_,fun h=>?_⟩
 ·have h:dV q≠0:=by simpa using h
  refine uW (ys:=[.sl 5 [],.i .i64 (dV q)]) bz (.inr rfl) (by simp only[RS,seval]) (.cons (.nil _) (.cons (.refl _) .nil)) (by simp[LW]) ⟨.inl ⟨h,rfl⟩,rfl⟩
 have EA:dV q=0:=by simpa using h
 have KY:=KY EA;refine hR _ (cE.kP (fr':=(uu 1 (.sl 5 (l.map Pn.aen)::uu 1 (.ptr S.length 0::uu 1 (.ptr (S.length+1) 0::uu 84 []))))) ?_ (by repeat' constructor));clear hR R;refine cE.cut fun R hR=>?_;simp only[V.pure,↓IT,VV,seval];refine aA (x9 l hl _) rfl ?_;simp only[↓IT,VV,seval];refine⟨fun h=>?_,fun h=>?_⟩
 ·have h:oP l≠0:=by simpa using h
  refine uW (ys:=[.sl 5 [],.i .i64 (oP l)]) bz (.inr rfl) (by simp only[RS,seval]) (.cons (.nil _) (.cons (.refl _) .nil)) (by simp[LW]) ⟨.inr (.inl ⟨EA,h,rfl⟩),rfl⟩
 have Bo:oP l=0:=by simpa using h
 refine hR _ (cE.kP (fr':=(uu 1 (.sl 5 (l.map Pn.aen)::uu 1 (.ptr S.length 0::uu 1 (.ptr (S.length+1) 0::uu 84 []))))) ?_ (by repeat' constructor));clear hR R;refine cE.cut fun R hR=>?_;simp only[V.pure,↓IT,VV,seval];refine aA (mR q.aeq h3 h4 _) rfl ?_;simp only[↓IT,VV,seval];refine hR _ (cE.kP (fr':=(uu 1 (.sl 5 (l.map Pn.aen)::uu 1 (.ptr S.length 0::uu 1 (.ptr (S.length+1) 0::uu 4 (.sl 3 ((cd q.aeq).map It.aen)::uu 79 [])))))) ?_ (by repeat' constructor));clear hR R;have hS:∀ T:ae,(S++T)[a]?=some (.box 105 [.ptr x 0,.own lr g,.i .i64 next]):=fun T=>by rw[ag zn];exact xO
 refine cE.cut fun R hR=>?_;simp only[hS,V.pure,↓IT,VV,seval];refine fJ (KY _) rfl ?_;rintro _ _ ⟨cs,c1,c2,c3,rfl,rfl⟩;simp only[↓IT,VV,seval];refine hR _ (cE.kP (fr':=(uu 1 (.sl 5 (l.map Pn.aen)::uu 1 (.ptr S.length 0::uu 1 (.ptr (S.length+1) 0::uu 4 (.sl 3 ((cd q.aeq).map It.aen)::.sl 1 (cs.map cq)::uu 78 [])))))) ?_ (by repeat' constructor));clear hR R;refine cE.cut fun R hR=>?_;simp only[V.pure,↓IT,VV,seval];refine hR _ (cE.kP (fr':=(uu 1 (.sl 5 (l.map Pn.aen)::uu 1 (.ptr S.length 0::uu 1 (.ptr (S.length+1) 0::uu 4 (.sl 3 ((cd q.aeq).map It.aen)::.sl 1 (cs.map cq)::.nil::uu 77 [])))))) ?_ (by repeat' constructor));clear hR R;have bT:∀ T:ae,(S++T)[lr]?=some (.row 108 11 176 g false (M.map dP.aen)):=fun T=>by rw[ag (ab.1 I3).1];exact I3
 refine cE.cut fun R hR=>?_;simp only[hS,bT,aj,V.pure,↓IT,VV,seval];refine cE.wk ((Wk.lT (P:=prog) (J:=S) [_,_] (k:=12) SU rfl).trans (Wk.kP (ys:=(uu 1 (.sl 5 (l.map Pn.aen)::uu 1 (.ptr S.length 0::uu 1 (.ptr (S.length+1) 0::uu 4 (.sl 3 ((cd q.aeq).map It.aen)::.sl 1 (cs.map cq)::.own (S.length+2) 0::uu 30 (.own lr g::.i .i64 M.length::.i .i64 (([]:List dP).length:Nat)::uu 44 []))))))) ?_)) (cE.BX (M.length+1) (QF bz a zn lr g M I3 hM l q cs c1 c2 (cd q.aeq) QQ fQ M [] [] 0 rfl (by simp) ?_))
 ·simp only[VV,seval]
  repeat' constructor
 intro gg;simp only[JE];intros;simp only[bh,aK,VV,seval];refine hR _ (cE.kP (fr':=(uu 3 (.ptr S.length 0::uu 1 (.ptr (S.length+1) 0::uu 6 (.own (S.length+2) gg::uu 77 []))))) ?_ (by repeat' constructor));clear hR R;have Ya:=ry EA;have hth:1≤q.threshold:=Ya.2.1.1;rw[CU cs l q hth _ 0 M c3];have hle:=zj l q (cd q.aeq) M 0;have PG:=oW l q (cd q.aeq) M 0;generalize hA:kW l q (cd q.aeq) 0 M=out at hle PG ⊢;refine cE.cut fun R hR=>?_;simp only[Cl,V.pure,↓IT,VV,seval];refine fJ (G6 M out (by omega) (fun m hm=>by have:=PG m hm;omega) (S.length+2) gg S.length a lr g (.ptr x 0) next _ (by simp[Cl]) (by simp) (hS _) (bT _)) rfl ?_;rintro _ _ ⟨l',p1,p2,rfl,rfl⟩;simp only[Cl,↓IT,VV,seval];refine hR _ (cE.wk ((Wk.VO 2 (E:=44) (sz:=5) (by':=40) (g:=gg) (sh:=false) (rows:=l'.map Mt.aen) rfl).trans (Wk.kP (ys:=(uu 5 (.ptr (S.length+1) 0::uu 6 (.sl 5 (l'.map Mt.aen)::uu 77 [])))) ?_)) (aB ?_))
 ·simp only[az,dj,fz,wU,oC,aR,VV,seval]
  repeat' constructor
 clear hR R;simp only[Qr.aen,aj,V.pure,↓IT,VV,seval]
 have et:List.take (if q.jo<(l'.length:Int)then q.jo else(l'.length:Int)).toNat (l'.map Mt.aen)=(l'.take q.jo.toNat).map Mt.aen:=by
  rw[DO];have:=Ya.2.2.1;split
  ·rfl
  ·rw[ca (by rw[aj];omega),ca (by rw[aj];omega)]
 refine⟨⟨by have:=Ya.2.2.1;split<;>omega,by split<;>omega⟩,?_⟩;simp only[et];refine aA (OT (l'.take q.jo.toNat) _) rfl ?_;simp only[↓IT,VV,seval];subst hA;exact bu bz (.inr rfl) (by simp only[RS,seval];rfl) (by simp[LW]) ⟨.inr (.inr ⟨EA,Bo,l',p1,p2,rfl⟩),rfl⟩
end Go.Proofs.Tryz
set_option maxRecDepth 4000
set_option maxHeartbeats 2000000
namespace Go.Proofs.Tryz
open Go Go.Pm Go.Bt
theorem LP{E L:List LE}(hE:E.Perm L)(hn:(L.map (·.1)).Nodup)(p:LE→Bool):
  ((((E.filter p).map (·.1)).mergeSort fun x y=>decide (x≤y)).Pairwise fun a b=>a<b)∧(∀ e∈L,p e=true→e.1∈(((E.filter p).map (·.1)).mergeSort fun x y=>decide (x≤y)))∧(((E.filter p).map (·.1)).mergeSort fun x y=>decide (x≤y)).length≤L.length:=by
 have lM:((E.filter p).map (·.1)).Nodup:=by
  have h1:(E.map (·.1)).Nodup:=(hE.map _).nodup_iff.2 hn;exact h1.sublist ((List.filter_sublist).map _)
 have Me:=DB ((E.filter p).map (·.1)) fun x y=>decide (x≤y);refine⟨?_,fun e he hp=>?_,?_⟩
 ·have h1:(((E.filter p).map (·.1)).mergeSort fun x y=>decide (x≤y)).Pairwise fun a b=>decide (a≤b)=true:=WR (fun a b c h1 h2=>by simp at *;omega) (fun a b=>by simp;omega) _;have h2:=Me.nodup_iff.2 lM;refine(h1.and h2).imp fun {a b} h=>?_;have h3:a≤b:=by simpa using h.1
  have h4:a≠b:=h.2;omega
 ·rw[Me.mem_iff];exact aT.2 ⟨e,cc.2 ⟨hE.mem_iff.2 he,hp⟩,rfl⟩
 ·rw[Me.length_eq,aj,← hE.length_eq];exact dQ _ _
theorem RP(L:List LE)(k:GK):∀ p∈xb L k,0≤p.2:=fun p hp=>by
 obtain⟨e,_,he⟩:=jt.1 hp;obtain⟨v,hv,rfl⟩:=ah.1 he;exact EP hv
theorem Lu(L:List LE)(k:TK):∀ p∈uI L k,0≤p.2:=fun p hp=>by
 obtain⟨e,_,he⟩:=jt.1 hp;obtain⟨v,hv,rfl⟩:=ah.1 he;exact C1 hv
theorem LQ{E:Nat×Nat×Nat}(J:ae)(L:List LE)(G2:List (GK×(Nat×Nat)))(G3:List (TK×(Nat×Nat)))(FB:Ob)(T:ae)(hI:yo J.length T L G2 G3)(hL:L.length≤1024)(hLs:∀ e∈L,e.2.1.length≤2^20)(M:List dP)(hML:∀ s∈M,∃ m,(s.id,(s.cd,m))∈L)
  (tq:List It) (QQ:tq.length≤2^20) (p:Int) (hp:1≤p∧p≤100) (X:ae) :
  PC prog 58 [.ptr (J.length+3) 0,.sl 3 (tq.map It.aen),.i .i64 p] (mg E J L G2 G3 FB T++X)
   (fun r J'=>∃ cs:List Int,(cs.Pairwise fun a b=>a<b)∧cs.length<2^30∧(∀ s∈M,p≤cS s.cd tq→s.id∈cs)∧r=.sl 1 (cs.map cq)∧J'=mg E J L G2 G3 FB T++X):=by
 have hN2:∀ k,(xb L k).length≤1024:=fun k=>bl (eN _ _) hL;have hN3:∀ k,(uI L k).length≤1024:=fun k=>bl (eN _ _) hL;have xN:∀ g∈bK (aI tq),0≤g.2:=fun g hg=>(wQ _ g hg).1;have Gs:∀ p∈gV [] tq,0≤p.2:=fun p hp=>by rw[A7 hp];exact mJ _ _
 have UM:=kh tq;have b2:=CI 1024 (xb L) hN2 (bK (aI tq)) xN;have b3:=CH 1024 (uI L) hN3 (Lu L) (gV [] tq) Gs;rw[wR]at b2;have b4:=GF tq [];simp only[dj,List.sum_nil,dU]at b4
 have hT:∀ (j:Nat) (o:Ob),T[j]?=some o→(mg E J L G2 G3 FB T++X)[J.length+5+j]?=some o:=fun j o h=>by
  have cM:=(ab.1 h).1;unfold mg;rw[aM,aw (by omega),(by omega:J.length+5+j - J.length=j+5)];simp only[bq,bA];rw[ag cM];exact h
 refine(OW (ea:=E.1) (eb:=E.2.1) (ec:=E.2.2) (S:=mg E J L G2 G3 FB T++X) (J.length+3) J.length (J.length+1) (J.length+2) (by simp[mg,qT]) L (by omega) (by simp[mg]) G2 (xb L) (by simp[mg])
  (fun k r g h=>by obtain⟨j,rfl,hj⟩:=hI.p2.row k r g h;exact hT j _ hj) hI.p2.uB (RP L) (fun k=>by have:=hN2 k;omega)
  G3 (uI L) (by simp[mg]) (fun k r g h=>by obtain⟨j,rfl,hj⟩:=hI.p3.row k r g h;exact hT j _ hj) hI.p3.uB (Lu L) (fun k=>by have:=hN3 k;omega)
  tq (by omega) xN Gs (by unfold nf ng;omega) p (by omega) (BJ tq (by omega)) (fun e he=>BJ _ (by have:=hLs e he;omega))).mono ?_
 rintro r J' ⟨D,E,hD,hE,rfl,rfl⟩;obtain⟨k1,k2,k3⟩:=LP hE hI.keys (p8 tq (cI (cI [] (nf (xb L) (bK (aI tq)))) (ng (uI L) D)) p);refine⟨_,k1,by omega,fun s hs hpc=>?_,rfl,rfl⟩;obtain⟨m,hm⟩:=hML s hs;refine k2 _ hm ?_;have hl:=hLs _ hm;have hc:=R0 hI.keys hm tq hD;simp only[p8,a8];have e:(bo s.id (cI (cI [] (nf (xb L) (bK (aI tq)))) (ng (uI L) D))).getD pV=oB tq s.cd:=hc;rw[e];exact AD tq s.cd p hp hpc QQ hl
end Go.Proofs.Tryz
set_option maxRecDepth 4000
set_option maxHeartbeats 2000000
namespace Go.Proofs.Tryz
open Go Go.Pm Go.Bt
theorem C5{J:ae}{M:List dP}{next:Int}{S:ae}(h:Be J M next S)(hM:M.length≤1024)(l:List Pn)(hl:l.length<2^40)(q:Qr)
  (h1:q.bV.length<2^39) (h2:q.next.length<2^39) (h3:q.aeq.length<2^38) (h4:bP q.aeq<2^38) (QQ:(cd q.aeq).length≤2^20) (fQ:∀ s∈M,s.cd.length≤2^20∧IL s.en l q) :
  PC prog 23 [.ptr (J.length+4) 0,.sl 5 (l.map Pn.aen),.agg q.aen] S (fun r S'=>GP M l q r∧S'=S):=by
 obtain⟨E,L,G2,G3,g,T,rfl,hI,hp,cM⟩:=h;have hLM:L.length=M.length:=by have:=hp.length_eq;simpa using this
 refine Iz (S:=gG E J L G2 G3 next g M T) (J.length+4) (J.length+3) (J.length+5) g next (by simp[gG,mg,C2]) M (by simp[gG,mg]) (by omega) l hl q h1 h2 h3 h4 (by omega)
  (fun s hs=>⟨by have:=(fQ s hs).1;omega,(fQ s hs).2⟩) (fun h0 Y=>?_)
 have hb:=ry h0
 have H:=LQ (E:=E) J _ G2 G3 (C2 J.length (.own (J.length+5) g) next) _ (hI.swap (o':=ff g M) (X:=Y)) (by omega) (fun e he=>by
   have hm:Ma e∈M.map DE:=hp.mem_iff.1 (fx he);obtain⟨s,hs,e2⟩:=aT.1 hm;have e3:s.cd=e.2.1:=congrArg Prod.snd e2;rw[← e3];exact(fQ s hs).1) M (fun s hs=>by
   have hm:DE s∈L.map Ma:=hp.mem_iff.2 (fx hs);obtain⟨x,hx,e2⟩:=aT.1 hm;have e3:x.1=s.id:=congrArg Prod.fst e2;have e4:x.2.1=s.cd:=congrArg Prod.snd e2;exact⟨x.2.2,by rw[← e3,← e4];exact hx⟩) (cd q.aeq) QQ (D9 q) (by unfold D9;split<;>omega) []
 rw[bF]at H;rw[u7];exact H
end Go.Proofs.Tryz
set_option maxRecDepth 8000
set_option maxHeartbeats 4000000
namespace Go.Proofs.Tryz
open Go Go.Pm Go.Bt
def NB:dP:=⟨0,aV Ev,Ev,cd p9⟩
theorem H3:Ev.aew:=⟨by decide,by decide,by decide,by decide,by decide,by decide,fun x hx=>by
 simp only[Ev,p9,bq,bh,bn,eZ,IP]at hx;rcases hx with rfl | rfl<;>decide⟩
theorem Kq{J S:ae}(hF:Be J [NB] 1 S):
  PC prog 23 [.ptr (J.length+4) 0,.sl 5 [],.agg Kp.aen] S (fun r S'=>r=.fa [.sl 5 [Mt.aen ⟨0,100,2,0,102⟩],.i .i64 0]∧S'=S):=by
 refine(C5 hF (by decide) [] (by decide) Kp (by decide) (by decide) (by decide) (by decide) (by rw[show Kp.aeq=p9 from rfl,wz];decide)
  (fun s hs=>by
   simp only[cR]at hs;subst hs;exact⟨by rw[show NB.cd=cd p9 from rfl,wz];decide,⟨by decide,by decide,by decide,by simp⟩⟩)).mono ?_
 rintro r J' ⟨h,rfl⟩;refine⟨?_,rfl⟩;rcases h with⟨h,_⟩ | ⟨_,h,_⟩ | ⟨_,_,l',hp,_,rfl⟩
 ·exact absurd QI h
 ·exact absurd WZ h
 ·have e:kW [] Kp (cd Kp.aeq) 0 [NB]=[⟨0,100,2,0,102⟩]:=by rfl
  rw[e]at hp;have:=List.perm_singleton.1 hp;subst this;rfl
theorem Et(J:ae):PC prog 12 [] J (fun r J'=>r=.b true∧J'=J):=by
 refine PC.intro func12 c12 fun bz er=>aB ?_;simp only[p12,SS,seval];simp only[V.pure,↓IT,VV,seval];refine Ba (zs:=[.agg Ev.aen,.sl 5 ([W0].map Pn.aen),.agg Kp.aen]) ?_ (JG Ev [W0] Kp ⟨by decide,by decide,by decide,by decide⟩ (by decide) (by decide) (by decide) (by decide) (by rw[show Ev.aeq=p9 from rfl,wz];decide) (by rw[show Kp.aeq=p9 from rfl,wz];decide) _) ?_
 ·exact .cons (Cv.Bd (.cons (.lit _ _) (.cons (.lit _ _) (.cons (.refl _) (.cons (.refl _) (.cons (.refl _) (.cons (.refl _) (.cons (.refl _) (.cons (.refl _) .nil))))))))) (.cons (.lit _ _) (.cons (Cv.Bd (.cons (.lit _ _) (.cons (.refl _) (.cons (.refl _) (.cons (.refl _) (.cons (.refl _) (.cons (.refl _) .nil))))))) .nil))
 rw[NA];simp only[V.pure,↓IT,VV,seval]
 obtain⟨S1,PL⟩:∃ S1,S1=J++[Ob.box 37 [.lit 3 [[.i .i64 1,.s [83,97,118,101],.i .i64 0]],.lit 3 [[.i .i64 1,.s [83,105,99,104,101,114,110],.i .i64 0]],.s [97],.s [98],.s [],.s [],.i .i64 0,.i .i64 3],
  .box 24 [.lit 3 [[.i .i64 1,.s [83,97,118,101],.i .i64 0]],.s [97],.s [98],.i .i64 0,.i .i64 50,.i .i64 5],.box 44 [.i .i64 0,.i .i64 100,.i .i64 2,.i .i64 10,.i .i64 92]]:=⟨_,rfl⟩
 rw[← PL];have g0:∀ X:ae,(S1++X)[J.length]?=some (Ob.box 37 [.lit 3 [[.i .i64 1,.s [83,97,118,101],.i .i64 0]],.lit 3 [[.i .i64 1,.s [83,105,99,104,101,114,110],.i .i64 0]],.s [97],.s [98],.s [],.s [],.i .i64 0,.i .i64 3]):=fun X=>by simp[PL]
 have g1:∀ X:ae,(S1++X)[J.length+1]?=some (Ob.box 24 [.lit 3 [[.i .i64 1,.s [83,97,118,101],.i .i64 0]],.s [97],.s [98],.i .i64 0,.i .i64 50,.i .i64 5]):=fun X=>by simp[PL]
 have g2:∀ X:ae,(S1++X)[J.length+2]?=some (Ob.box 44 [.i .i64 0,.i .i64 100,.i .i64 2,.i .i64 10,.i .i64 92]):=fun X=>by simp[PL]
 refine aA (zo _) rfl ?_;have hF:=Be.new S1;generalize gG Wi S1 [] [] [] 0 0 [] []=S2 at hF ⊢;obtain⟨X2,e2⟩:=hF.pre;subst e2;simp only[g0,V.pure,↓IT,VV,seval]
 refine fJ (PC.wk (args':=[.ptr (S1.length+4) 0,.agg Ev.aen]) (Wk.kP (.cons (.refl _) (.cons (Cv.Bd (.cons (.lit _ _) (.cons (.lit _ _) (.cons (.refl _) (.cons (.refl _) (.cons (.refl _) (.cons (.refl _) (.cons (.refl _) (.cons (.refl _) .nil))))))))) .nil)))
  (JP hF (by decide) (by simp[kg]) (by decide) Ev H3 (by rw[show Ev.aeq=p9 from rfl,wz];decide))) rfl ?_
 rintro _ S3 ⟨rfl,hF⟩;have h0:fH [] Ev=0:=by rw[fH,aC (by rw[UH];decide),aQ (.inr (by decide))]
 have hM:sJ [] 0 Ev=[NB]:=by rw[sJ,aQ h0];rfl
 have hN:oS [] 0 Ev=1:=by rw[oS,aQ h0];rfl
 rw[hM,hN]at hF;obtain⟨X3,e3⟩:=hF.pre;subst e3;simp only[g1,g2,h0,V.pure,↓IT,VV,seval];refine Ba (zs:=[.ptr (S1.length+4) 0,.sl 5 [],.agg Kp.aen]) (.cons (.refl _) (.cons (.nil _) (.cons (Cv.Bd (.cons (.lit _ _) (.cons (.refl _) (.cons (.refl _) (.cons (.refl _) (.cons (.refl _) (.cons (.refl _) .nil))))))) .nil))) (Kq hF) ?_;have k1:(true==true)=true:=rfl;simp only[g1,g2,k1,Mt.aen,V.pure,↓IT,VV,seval];refine⟨.i .i64 102,⟨True,rfl,trivial⟩,?_⟩;simp only[k1,V.pure,↓IT,VV,seval];rw[PL,aM];exact bu bz (.inr rfl) rfl (by simp[LW]) ⟨rfl,rfl⟩
end Go.Proofs.Tryz

/- A part of a proof; the claim's last text says of what. -/
import Derived.StillTailTactics
import Derived.LoopN
import Derived.Test.YtlakkaamfadipaaGreatDoorS40
set_option linter.all false

namespace Go.Proofs.Tryz
open Go Go.Pm Go.Bt Go.RowKit Go.Sort
theorem LQ(a b:Int):Lib.compareInt a b=l5 a b:=by
 simp only[Lib.compareInt,l5]
set_option maxHeartbeats 4000000 in
theorem KC(x y z u:Int)(b T:Nat)(W:World)(hb:W.heap[b]?=some (.cells #[.int .i64 x,.int .i64 y,.int .i64 z,.int .i64 u] T (0,0))):
  Calls prog 62 #[.slice (some ⟨b,0,none⟩) 4 4] W fun e w'=>e=.returned (.int .i64 (xA [x,y,z,u]))∧w'=W:=by
 have c0:W.cell? ⟨b,0,none⟩=some (.int .i64 x):=by simp[World.cell?,hb]
 have c1:W.cell? ⟨b,1,none⟩=some (.int .i64 y):=by simp[World.cell?,hb]
 have c2:W.cell? ⟨b,2,none⟩=some (.int .i64 z):=by simp[World.cell?,hb]
 have c3:W.cell? ⟨b,3,none⟩=some (.int .i64 u):=by simp[World.cell?,hb]
 go_enter func62,Tryz.ntmps62
 go_wp2
 refine wp_loop_rounds 5 ?_;rw[rounds_succ]
 go_wp2
 ·rename_i hx
  go_ret
  exact⟨by simp[xA,show x≠0 by simpa using hx],rfl⟩
 ·rename_i hx;rw[rounds_succ]
  go_wp2
  ·rename_i hy
   go_ret
   exact⟨by simp[xA,show x=0 by simpa using hx,show y≠0 by simpa using hy],rfl⟩
  ·rename_i hy;rw[rounds_succ]
   go_wp2
   ·rename_i hz
    go_ret
    exact⟨by simp[xA,show x=0 by simpa using hx,show y=0 by simpa using hy,show z≠0 by simpa using hz],rfl⟩
   ·rename_i hz;rw[rounds_succ]
    go_wp2
    ·rename_i hu
     go_ret
     exact⟨by simp[xA,show x=0 by simpa using hx,show y=0 by simpa using hy,show z=0 by simpa using hz,show u≠0 by simpa using hu],rfl⟩
    ·rename_i hu;rw[rounds_succ]
     go_wp2
     go_ret
     exact⟨by simp[xA,show x=0 by simpa using hx,show y=0 by simpa using hy,show z=0 by simpa using hz,show u=0 by simpa using hu],rfl⟩
theorem DV{W w:World}{A B:Obj}(h:w.heap=(W.heap.push A).push B):w.heap[W.heap.size]?=some A∧w.heap[W.heap.size+1]?=some B:=by
 have e:W.heap.size+1=(W.heap.push A).size:=by simp
 rw[h];refine⟨?_,by rw[e];exact mf⟩;rw[Aa (by simp),Array.getElem_push_eq]
theorem tC{W w:World}{A B:Obj}(h:w.heap=(W.heap.push A).push B){b o:Nat}{v:Value}(hc:W.cell? ⟨b,o,none⟩=some v):w.cell? ⟨b,o,none⟩=some v:=by
 have hb:b<W.heap.size:=by
  apply bB;intro hn;simp[World.cell?,jX (Py hn)]at hc
 have e:w.heap[b]?=W.heap[b]?:=by
  rw[h,rG,rG,aI (by simp;omega),aI (by omega)]
 unfold World.cell? at hc ⊢;simp only[e]at *;exact hc
set_option maxRecDepth 4000 in
set_option maxHeartbeats 8000000 in
theorem Hf(x1 x2 x3 x4 x5 y1 y2 y3 y4 y5 c d:Int)(bb b lb n cap:Nat)(W:World)(YK:W.cell? ⟨bb,0,none⟩=some (.pointer (some ⟨b,0,none⟩)))(Rp:W.cell? ⟨b,1,none⟩=some (.slice (some ⟨lb,0,none⟩) n cap))
  (hx:0≤x1∧x1<n) (hy:0≤y1∧y1<n) (hc:W.cell? ⟨lb,x1.toNat*11+8,none⟩=some (.int .i64 c)) (hd:W.cell? ⟨lb,y1.toNat*11+8,none⟩=some (.int .i64 d)) :
  Calls prog 61 #[.agg #[.int .i64 x1,.int .i64 x2,.int .i64 x3,.int .i64 x4,.int .i64 x5],.agg #[.int .i64 y1,.int .i64 y2,.int .i64 y3,.int .i64 y4,.int .i64 y5],.pointer (some ⟨bb,0,none⟩)] W
   fun e w'=>e=.returned (.int .i64 (xA [l5 y5 x5,l5 y2 x2,l5 d c,l5 x1 y1]))∧∃ q os',w'=grow (W.drewN q) os':=by
 have HB:∀ (x y:Int) (W':World),Calls prog 63 #[.int .i64 x,.int .i64 y] W' fun e w'=>e=.returned (.int .i64 (l5 x y))∧w'=W':=fun x y W'=>by
  have:=AnyG.cmp_Compare_int Tryz.VF x y W';rw[LQ]at this;exact this
 go_enter func61,Tryz.ntmps61
 go_wp2
 generalize s5:(W.alloc (.cells #[.int .i64 x1,.int .i64 x2,.int .i64 x3,.int .i64 x4,.int .i64 x5] 44)).alloc (.cells #[.int .i64 y1,.int .i64 y2,.int .i64 y3,.int .i64 y4,.int .i64 y5] 44)=w2;refine wp_region_still_tail 36 (by kernel_rfl) (by kernel_rfl) ?_;have hw:w2.drew.heap=(W.heap.push (.cells #[.int .i64 x1,.int .i64 x2,.int .i64 x3,.int .i64 x4,.int .i64 x5] 44)).push (.cells #[.int .i64 y1,.int .i64 y2,.int .i64 y3,.int .i64 y4,.int .i64 y5] 44):=by rw[← s5];rfl
 obtain⟨zd,jr⟩:=DV hw;have k1:w2.drew.cell? ⟨W.heap.size,4,none⟩=some (.int .i64 x5):=by simp[World.cell?,zd]
 have k2:w2.drew.cell? ⟨W.heap.size,1,none⟩=some (.int .i64 x2):=by simp[World.cell?,zd]
 have k3:w2.drew.cell? ⟨W.heap.size,0,none⟩=some (.int .i64 x1):=by simp[World.cell?,zd]
 have k4:w2.drew.cell? ⟨W.heap.size+1,4,none⟩=some (.int .i64 y5):=by simp[World.cell?,jr]
 have k5:w2.drew.cell? ⟨W.heap.size+1,1,none⟩=some (.int .i64 y2):=by simp[World.cell?,jr]
 have k6:w2.drew.cell? ⟨W.heap.size+1,0,none⟩=some (.int .i64 y1):=by simp[World.cell?,jr]
 have k7:=tC hw YK;have k8:=tC hw Rp;have k9:=tC hw hc;have k0:=tC hw hd;have ks:∃ q os',w2.drew=grow (W.drewN q) os':=⟨1,_,by rw[← s5,alloc_eq_grow,alloc_eq_grow,grow_grow];rfl⟩;simp only[rE,lj,lR,lk];change wpStill _ _ w2.drew (fun a'=>wpList _ _ _ _ a' w2.drew) _ _;have fw:w2.drew.heap.size=W.heap.size+2:=by simp[hw]
 generalize w2.drew=w3 at *;clear zd jr hw s5 w2 hc hd YK Rp
 still_step
 still_step
 still_step
 still_step
 refine wpStill_step (fun K hK=>?_)
 go_simp
 refine⟨_,HB y5 x5 w3,hK _ ?_⟩;clear hK K
 still_step
 still_step
 still_step
 still_step
 refine wpStill_step (fun K hK=>?_)
 go_simp
 refine⟨_,HB y2 x2 w3,hK _ ?_⟩;clear hK K
 still_step
 still_step
 still_step
 still_step
 still_step
 still_step
 still_step
 still_step
 still_step
 still_step
 still_step
 still_step
 still_step
 still_step
 still_step
 still_step
 still_step
 still_step
 still_step
 still_step
 refine wpStill_step (fun K hK=>?_)
 go_simp
 refine⟨_,HB d c w3,hK _ ?_⟩;clear hK K
 still_step
 still_step
 still_step
 still_step
 refine wpStill_step (fun K hK=>?_)
 go_simp
 refine⟨_,HB x1 y1 w3,hK _ ?_⟩;clear hK K;refine wpStill_nil ?_
 go_wp2_with (go_at_call 62;refine(KC (l5 y5 x5) (l5 y2 x2) (l5 d c) (l5 x1 y1) (W.heap.size+2) 3 _ (by rw[← fw];exact mf)).mono ?_;rintro e w' ⟨rfl,rfl⟩)
 go_ret
 obtain⟨q,os,rfl⟩:=ks;exact⟨rfl,q,_,by rw[alloc_eq_grow,grow_grow]⟩
def Bv(cr:Mt→Int)(a b:Mt):Int:=xA [l5 b.score a.score,l5 b.np a.np,l5 (cr b) (cr a),l5 a.aij b.aij]
end Go.Proofs.Tryz
set_option maxRecDepth 4000
namespace Go.Proofs.Tryz
open Go Go.Pm Go.Bt Go.RowKit Go.Sort
theorem jj.rev{α:Type}{c:α→α→Int}(h:jj c):jj fun a b=>c b a :=
 ⟨fun a b=>h.lH b a,fun a b d h1 h2=>h.trans d b a h2 h1⟩
theorem KD(cr:Mt→Int):jj (Bv cr):=by
 have h:=((jj.rev ug).on (fun m:Mt=>m.score)).lex (((jj.rev ug).on (fun m:Mt=>m.np)).lex (((jj.rev ug).on cr).lex (ug.on (fun m:Mt=>m.aij))))
 have e:Bv cr=C6 (fun a b:Mt=>l5 b.score a.score) (C6 (fun a b:Mt=>l5 b.np a.np) (C6 (fun a b=>l5 (cr b) (cr a)) fun a b=>l5 a.aij b.aij)):=by
  funext a b;simp only[Bv,xA,C6]
  (repeat' split)<;>first | rfl | omega
 rw[e];exact h
def Wa(M:List kn)(m:Mt):Int:=((M[m.aij.toNat]?).map fun s=>s.en.aif).getD 0
def EW(g:Nat)(out:List Mt):Ob:=.row 44 5 40 g false (out.map Mt.ah7)
theorem Ii{W:World}{vx:Value}{m:Mt}(h:VR W [] (fun _=>undef) (.agg m.ah7) vx):vx=.agg #[.int .i64 m.aij,.int .i64 m.np,.int .i64 m.context,.int .i64 m.points,.int .i64 m.score]:=by
 obtain⟨vs,rfl,hl,hv⟩:=h.gr;have h0:=(hv 0 _ rfl).ei;have h1:=(hv 1 _ rfl).ei;have h2:=(hv 2 _ rfl).ei;have h3:=(hv 3 _ rfl).ei;have h4:=(hv 4 _ rfl).ei;obtain⟨q⟩:=vs
 match q,hl with
 | [a,b,c,d,e],_ =>
  simp[Array.getD]at h0 h1 h2 h3 h4;subst h0 h1 h2 h3 h4;rfl
theorem J3(M:List kn)(out:List Mt)(hl:out.length<2^30)(Hr:∀ m∈out,0≤m.aij∧m.aij<M.length)(id g i1 a lr gl:Nat)(x:V)(next:Int)(J:ae)(h1:J[id]?=some (EW g out))
  (zd:J[i1]?=some (.box 47 [.ptr a 0])) (jr:J[a]?=some (.box 105 [x,.own lr gl,.i .i64 next])) (hr:J[lr]?=some (jm gl M)) :
  PC prog 60 [.own id g,.fn 61 [.ptr i1 0]] J (fun r J'=>∃ l':List Mt,l'.Perm out∧l'.Pairwise (fun x y=>¬ Bv (Wa M) y x<0)∧r=.fi []∧J'=J.set id (EW g l')):=by
 refine PC.Be Tryz.Wx (k:=5) Tryz.isAgg44 Tryz.sizeOf44 Mt.ah7 (fun x=>by simp[Mt.ah7]) (by omega) (Bv (Wa M)) (enters_of func61 (by kernel_rfl) rfl) out ?_ (MM (KD _) out) hl h1;intro B w0 w μ cb hS bj hcv W gb hB hgb hg m hm m' hm' vx vy hx hy
 obtain⟨v0,rfl⟩:∃ v0,cb=#[v0]:=by
  obtain⟨q⟩:=cb
  match q,bj with
  | [v],_=>exact⟨v,rfl⟩
 have hp:=hcv 0 _ rfl;simp only[Array.getD,fO,AY,Nat.zero_lt_one,dif_pos]at hp;obtain⟨bb,e1,e2,_⟩:=hp.nw;have e2:v0=.pointer (some ⟨bb,0,none⟩):=e2;subst e2;obtain⟨b1,ZN,q1,_,q2,q3,q4⟩:=hS.obj i1 _ zd;obtain⟨u1,q5,q6⟩:=q4 0 _ rfl;obtain⟨b,f1,f2,_⟩:=q6.nw;obtain⟨b2,ZM,r1,_,r2,r3,r4⟩:=hS.obj a _ jr;obtain⟨u2,r5,r6⟩:=r4 1 _ rfl;have r6:=r6.jP hr;obtain⟨_,vals,fk,cq⟩:=hS.obj lr _ hr;have Mk:(M.map kn.ah7).length=M.length:=ag ..;rcases fk.2 with⟨_,hn⟩ | ⟨lb,cap,cur,kF,_,Z1,Ht,_,mi,Mm⟩
 ·have:=Hr m hm;rw[Mk]at hn;omega
 have abK:b1≠gb:=fun e=>by
  have:=hS.sep i1 id _ _ gb zd h1 (by simp) (by simp[EW]) (by rw[q1,e];rfl) hgb;subst this;rw[h1]at zd;simp[EW]at zd
 have YO:b2≠gb:=fun e=>by
  have:=hS.sep a id _ _ gb jr h1 (by simp) (by simp[EW]) (by rw[r1,e];rfl) hgb;subst this;rw[h1]at jr;simp[EW]at jr
 have YN:lb≠gb:=fun e=>by
  have:=hS.sep lr id _ _ gb hr h1 (by simp[jm]) (by simp[EW]) (by rw[kF,e];rfl) hgb;subst this;rw[h1]at hr;simp[jm,EW]at hr
 rw[q1]at e1;simp only[Value.pointer.injEq,aa,Addr.mk.injEq,fq]at e1;subst e1;rw[r1]at f1;simp only[Value.pointer.injEq,aa,Addr.mk.injEq,fq]at f1;subst f1;have k1:W.cell? ⟨b1,0,none⟩=some (.pointer (some ⟨b2,0,none⟩)):=hg.cell (by simp only[World.cell?,q2];rw[← f2];simpa using q5) (fun e=>abK (by simpa using e));have k2:W.cell? ⟨b2,1,none⟩=some (.slice (some ⟨lb,0,none⟩) M.length cap):=hg.cell (by simp only[World.cell?,r2];rw[← Mk,← kF,← r6];simpa using r5) (fun e=>YO (by simpa using e))
 have k3:∀ z∈out,W.cell? ⟨lb,z.aij.toNat*11+8,none⟩=some (.int .i64 (Wa M z)):=fun z hz=>by
  have Me:=Hr z hz;have dc:z.aij.toNat<M.length:=by omega
  have h2:eS (M.map kn.ah7) z.aij.toNat 8=some (.i .i64 (Wa M z)):=by
   simp[eS,dc,Wa,kn.ah7]
  obtain⟨_,u,p2,p3⟩:=cq.2 _ _ _ h2;rw[p3.ei]at p2;refine hg.cell ?_ (fun e=>YN (by simpa using e));simp only[World.cell?,Z1];rw[← Mm,sZ]at p2;split at p2
  ·simpa using p2
  ·cases p2
 rw[Ii hx,Ii hy];exact Hf _ _ _ _ _ _ _ _ _ _ _ _ b1 b2 lb M.length cap W k1 k2 (Hr m hm) (Hr m' hm') (k3 m hm) (k3 m' hm')
end Go.Proofs.Tryz
set_option maxRecDepth 4000
set_option maxHeartbeats 2000000
namespace Go.Proofs.Tryz
open Go Go.Pm Go.Bt
def r7(cs:List Int)(l:List Pn)(q:Qr)(tq:List It):Nat→List kn→List Mt
 | _,[]=>[]
 | i,s::r=>(if s.id∈cs∧q.threshold≤(gN s.en s.cR tq l q).score then[{ gN s.en s.cR tq l q with aij:=i }]else[])++r7 cs l q tq (i+1) r
theorem Ur{S:ae}{K:Exit→St→Prop}(bj:bG S)(a:Nat)(ha:a<S.length)(lr g:Nat)(M:List kn)(Mj:S[lr]?=some (jm g M))(hM:M.length<2^20)(l:List Pn)(q:Qr)(cs:List Int)(mi:cs.Pairwise fun a b=>a<b)(ace:cs.length<2^30)(tq:List It)(YB:tq.length<2^27)
  (gW:∀ s∈M,s.cR.length<2^27∧L4 s.en l q):∀ (rest pre:List kn) (out:List Mt) (gg:Nat),M=pre++rest→out.length≤pre.length →
  (∀ gg,((fj 1 (fh (.sl 5 (l.map Pn.ah7)) (fj 1 (fh (.ptr S.length 0) (fj 1 (fh (.ptr (S.length+1) 0) (fj 4 (fh (.sl 3 (tq.map It.ah7)) (fh (.sl 1 (cs.map bR)) (fh (.own (S.length+2) gg) (fj 77 fo))))))))))) fun ZZ=>K (.exit 0) ⟨ZZ,S++[.box 47 [.ptr a 0],.box 24 q.ah7,EW gg (out++r7 cs l q tq pre.length rest)]⟩)) →
  fp S.length prog EP K (rest.length+1) ⟨(uu 1 (.sl 5 (l.map Pn.ah7)::uu 1 (.ptr S.length 0::uu 1 (.ptr (S.length+1) 0::uu 4 (.sl 3 (tq.map It.ah7)::.sl 1 (cs.map bR)::.own (S.length+2) gg::uu 30 (.own lr g::.i .i64 M.length::.i .i64 pre.length::uu 44 [])))))),S++[.box 47 [.ptr a 0],.box 24 q.ah7,EW gg out]⟩:=by
 intro rest
 induction rest with
 | nil =>
  intro pre out gg he ho h1;have he:M=pre:=by simpa using he
  subst he;rw[r7,bV]at h1;refine aB fun R hR=>?_;simp only[EP,VV,seval];exact⟨fun h=>by simp at h,fun _=>h1 gg ..⟩
 | cons s rest ih =>
  intro pre out gg he ho h1;have hlen:M.length=pre.length+(rest.length+1):=by rw[he];simp
  have hw:IntKind.i64.wrap ((pre.length:Int)+1)=(((pre++[s]).length:Nat):Int):=by
   rw[bd (by omega)];simp
  have eA:(M.map kn.ah7).getD pre.length []=s.ah7:=by rw[he];exact uM
  have hS:∀ loc:ae,(S++loc)[lr]?=some (.row 108 11 176 g false (M.map kn.ah7)):=fun loc=>by
   rw[ah (ab.1 Mj).1];exact Mj
  obtain⟨rH,YG⟩:=gW s (by rw[he];simp);simp only[kn.ah7]at eA;refine aB fun R hR=>?_;simp only[EP,Qr.ah7,EW,hS,eA,↓IT,VV,seval];have hd:decide ((pre.length:Int)<(M.length:Int))=true:=by simp;omega
  have fM:∀ gg out,bG (S++[.box 47 [.ptr a 0],.box 24 q.ah7,EW gg out]):=fun gg out=>cj bj (by simp[EW,Qr.ah7,LW];omega)
  have back:∀ {fr:List V} {R:St→Prop} (gg:Nat) (out':List Mt) (loc:ae),(∀ st',fp S.length prog EP K (rest.length+1) st'→R st')→out'.length≤pre.length+1→out'++r7 cs l q tq (pre++[s]).length rest=out++r7 cs l q tq pre.length (s::rest) →
    nU fr (uu 1 (.sl 5 (l.map Pn.ah7)::uu 1 (.ptr S.length 0::uu 1 (.ptr (S.length+1) 0::uu 4 (.sl 3 (tq.map It.ah7)::.sl 1 (cs.map bR)::.own (S.length+2) gg::uu 30 (.own lr g::.i .i64 M.length::.i .i64 (pre++[s]).length::uu 44 [])))))) →
    R ⟨fr,S++(.box 47 [.ptr a 0]::.box 24 q.ah7::EW gg out'::loc)⟩:=fun gg out' loc hR s7 Ta hc=>by
   have hlr':=(ab.1 Mj).1;refine hR _ (b5 [_,_,_] loc (fM _ _) hc ?_ (ih (pre++[s]) out' gg (by simp[he]) (by simpa using s7) (by rw[Ta];exact h1)));simp only[LW,ai,aC,bz];omega
  refine⟨fun _=>⟨⟨by omega,by rw[ag];omega⟩,?_⟩,fun h=>by rw[hd]at h;cases h⟩;refine az (VK cs mi s.id ace _) rfl ?_;simp only[hw,↓IT,VV,seval];refine⟨fun BG=>?_,fun Ra=>?_⟩
  ·have BG:s.id ∉ cs:=by simpa using BG
   exact back gg out [_] hR (by omega) (by simp[r7,BG]) (by repeat' constructor)
  have Ra:s.id∈cs:=by simpa using Ra
  refine az (zF s.en s.cR tq l q rH YB YG _) (by simp only[Qr.ah7,En.ah7,VV,seval]) ?_;simp only[Mt.ah7,hw,↓IT,VV,seval];refine⟨fun h2=>?_,fun h2=>?_⟩
  ·have h2:q.threshold≤(gN s.en s.cR tq l q).score:=by simpa using h2
   have e5:List.map Mt.ah7 out++[[V.i .i64 pre.length,.i .i64 (gN s.en s.cR tq l q).np,.i .i64 (gN s.en s.cR tq l q).context,.i .i64 (gN s.en s.cR tq l q).points,.i .i64 (gN s.en s.cR tq l q).score]]=(out++[{ gN s.en s.cR tq l q with aij:=pre.length }]).map Mt.ah7:=by simp[Mt.ah7]
   refine⟨⟨by rw[ag];omega,by rw[ag];unfold maxLen;omega⟩,?_⟩;rw[e5];refine back (gg+1) (out++[{ gN s.en s.cR tq l q with aij:=pre.length }]) [_,_] hR ?_ ?_ ?_
   ·simp;omega
   ·simp[r7,Ra,h2]
   ·repeat' constructor
  ·have h2:¬ q.threshold≤(gN s.en s.cR tq l q).score:=by simpa using h2
   exact back gg out [_,_] hR (by omega) (by simp[r7,Ra,h2]) (by repeat' constructor)
end Go.Proofs.Tryz
set_option maxRecDepth 4000
set_option maxHeartbeats 2000000
namespace Go.Proofs.Tryz
open Go Go.Pm Go.Bt
def qz(l:List Pn)(q:Qr)(tq:List It):Nat→List kn→List Mt
 | _,[]=>[]
 | i,s::r=>(if q.threshold≤(gN s.en s.cR tq l q).score then[{ gN s.en s.cR tq l q with aij:=i }]else[])++qz l q tq (i+1) r
theorem Cl{q:Qr}(h:ef q=0):(0≤q.now∧q.now≤1073741824)∧(1≤q.threshold∧q.threshold≤102)∧1≤q.nO∧q.nO≤100:=by
 unfold ef at h
 (repeat' split at h)<;>omega
def Ky(q:Qr):Int:=if 100<q.threshold then 100 else q.threshold
theorem KF{s:kn}{tq:List It}{l:List Pn}{q:Qr}(h1:1≤q.threshold)(h:q.threshold≤(gN s.en s.cR tq l q).score):Ky q≤cL s.cR tq:=by
 have hs:=oZ s.en q.now l 0 (by omega);have hs:0≤gC l s.en q.now∧gC l s.en q.now≤100:=hs;simp only[gN]at h;unfold Ky
 by_cases hp:cL s.cR tq=100
 ·split<;>omega
 ·rw[aI hp]at h;unfold mx at h;split at h<;>split<;>omega
theorem Ft(cs:List Int)(l:List Pn)(q:Qr)(h1:1≤q.threshold)(tq:List It):∀ (i:Nat) (M:List kn),(∀ s∈M,Ky q≤cL s.cR tq→s.id∈cs)→r7 cs l q tq i M=qz l q tq i M
 | _,[],_=>rfl
 | i,s::r,h=>by
  simp only[r7,qz];rw[Ft cs l q h1 tq (i+1) r fun x hx=>h x (by simp[hx])];congr 1
  by_cases hq:q.threshold≤(gN s.en s.cR tq l q).score
  ·rw[bf hq,bf ⟨h s (by simp) (KF h1 hq),hq⟩]
  ·rw[aI hq,aI (fun h=>hq h.2)]
theorem wy(l:List Pn)(q:Qr)(tq:List It):∀ (M:List kn) (i:Nat),∀ m∈qz l q tq i M,(i:Int)≤m.aij∧m.aij<i+M.length
 | [],i,m,h=>by simp[qz]at h
 | s::r,i,m,h=>by
  simp only[qz,bL]at h;rcases h with h | h
  ·split at h
   ·simp only[bU]at h;subst h;simp only[ai];omega
   ·simp at h
  ·have:=wy l q tq r (i+1) m h;simp only[ai]at *;omega
theorem BI(l:List Pn)(q:Qr)(tq:List It):∀ (M:List kn) (i:Nat),(qz l q tq i M).length≤M.length
 | [],i=>aq _
 | s::r,i=>by
  have:=BI l q tq r (i+1);simp only[qz,al,ai];split<;>simp<;>omega
def Sx(M:List kn)(l:List Pn)(q:Qr)(r:V):Prop :=
 (ef q≠0∧r=.fi [.sl 5 [],.i .i64 (ef q)])∨(ef q=0∧qj l≠0∧r=.fi [.sl 5 [],.i .i64 (qj l)]) ∨
  (ef q=0∧qj l=0∧∃ l':List Mt,l'.Perm (qz l q (cR q.aia) 0 M)∧l'.Pairwise (fun x y=>¬ Bv (Wa M) y x<0)∧r=.fi [.sl 5 ((l'.take q.nO.toNat).map Mt.ah7),.i .i64 0])
theorem Wu:Ti prog 44 5 40:=lN (by kernel_rfl)
theorem Si(out:List Mt)(J:ae):PC prog 64 [.sl 5 (out.map Mt.ah7)] J (fun r J'=>r=.sl 5 (out.map Mt.ah7)∧J'=J):=by
 refine PC.intro func64 c64 fun bj dx=>ax ?_;simp only[p64,SS,seval];simp only[List.take_length,VV,seval];exact⟨⟨by omega,by omega⟩,aU (.inr rfl) rfl ⟨rfl,rfl⟩⟩
theorem LJ{S:ae}(a x lr g:Nat)(next:Int)(BJ:S[a]?=some (.box 105 [.ptr x 0,.own lr g,.i .i64 next]))(M:List kn)(Mj:S[lr]?=some (jm g M))(hM:M.length<2^20)(l:List Pn)(hl:l.length<2^40)(q:Qr)
  (h1:q.bQ.length<2^39) (h2:q.next.length<2^39) (h3:q.aia.length<2^38) (h4:aH q.aia<2^38) (YB:(cR q.aia).length<2^27) (gW:∀ s∈M,s.cR.length<2^27∧L4 s.en l q)
  (Oq:ef q=0→∀ T:ae,PC prog 58 [.ptr x 0,.sl 3 ((cR q.aia).map It.ah7),.i .i64 (Ky q)] (S++T) (fun r J'=>∃ cs:List Int,(cs.Pairwise fun a b=>a<b)∧cs.length<2^30∧(∀ s∈M,Ky q≤cL s.cR (cR q.aia)→s.id∈cs)∧r=.sl 1 (cs.map bR)∧J'=S++T)) :
  PC prog 23 [.ptr a 0,.sl 5 (l.map Pn.ah7),.agg q.ah7] S (fun r J'=>Sx M l q r∧J'=S):=by
 refine PC.intro func23 c23 fun bj dx=>?_;have BL:=(ab.1 BJ).1;simp only[p23,SS,seval];refine b6.cut fun R hR=>?_;simp only[Qr.ah7,VV,seval];refine hR _ (b6.gA (fr':=(uu 1 (.sl 5 (l.map Pn.ah7)::uu 1 (.ptr S.length 0::uu 1 (.ptr (S.length+1) 0::uu 84 []))))) ?_ (by repeat' constructor));clear hR R;refine b6.cut fun R hR=>?_;simp only[V.pure,↓IT,VV,seval];refine az (Ex q h1 h2 _) (by simp only[Qr.ah7,VV,seval]) ?_;simp only[↓IT,VV,seval];refine⟨fun h=>?_,fun h=>?_⟩
 ·have h:ef q≠0:=by simpa using h
  refine xz (ys:=[.sl 5 [],.i .i64 (ef q)]) bj (.inr rfl) (by simp only[RS,seval]) (.cons (.nil _) (.cons (.refl _) .nil)) (by simp[LW]) ⟨.inl ⟨h,rfl⟩,rfl⟩
 have PG:ef q=0:=by simpa using h
 have Oq:=Oq PG;refine hR _ (b6.gA (fr':=(uu 1 (.sl 5 (l.map Pn.ah7)::uu 1 (.ptr S.length 0::uu 1 (.ptr (S.length+1) 0::uu 84 []))))) ?_ (by repeat' constructor));clear hR R;refine b6.cut fun R hR=>?_;simp only[V.pure,↓IT,VV,seval];refine az (AF l hl _) rfl ?_;simp only[↓IT,VV,seval];refine⟨fun h=>?_,fun h=>?_⟩
 ·have h:qj l≠0:=by simpa using h
  refine xz (ys:=[.sl 5 [],.i .i64 (qj l)]) bj (.inr rfl) (by simp only[RS,seval]) (.cons (.nil _) (.cons (.refl _) .nil)) (by simp[LW]) ⟨.inr (.inl ⟨PG,h,rfl⟩),rfl⟩
 have Gn:qj l=0:=by simpa using h
 refine hR _ (b6.gA (fr':=(uu 1 (.sl 5 (l.map Pn.ah7)::uu 1 (.ptr S.length 0::uu 1 (.ptr (S.length+1) 0::uu 84 []))))) ?_ (by repeat' constructor));clear hR R;refine b6.cut fun R hR=>?_;simp only[V.pure,↓IT,VV,seval];refine az (qV q.aia h3 h4 _) rfl ?_;simp only[↓IT,VV,seval];refine hR _ (b6.gA (fr':=(uu 1 (.sl 5 (l.map Pn.ah7)::uu 1 (.ptr S.length 0::uu 1 (.ptr (S.length+1) 0::uu 4 (.sl 3 ((cR q.aia).map It.ah7)::uu 79 [])))))) ?_ (by repeat' constructor));clear hR R;have hS:∀ T:ae,(S++T)[a]?=some (.box 105 [.ptr x 0,.own lr g,.i .i64 next]):=fun T=>by rw[ah BL];exact BJ
 refine b6.cut fun R hR=>?_;simp only[hS,V.pure,↓IT,VV,seval];refine cm (Oq _) rfl ?_;rintro _ _ ⟨cs,c1,c2,c3,rfl,rfl⟩;simp only[↓IT,VV,seval];refine hR _ (b6.gA (fr':=(uu 1 (.sl 5 (l.map Pn.ah7)::uu 1 (.ptr S.length 0::uu 1 (.ptr (S.length+1) 0::uu 4 (.sl 3 ((cR q.aia).map It.ah7)::.sl 1 (cs.map bR)::uu 78 [])))))) ?_ (by repeat' constructor));clear hR R;refine b6.cut fun R hR=>?_;simp only[V.pure,↓IT,VV,seval];refine hR _ (b6.gA (fr':=(uu 1 (.sl 5 (l.map Pn.ah7)::uu 1 (.ptr S.length 0::uu 1 (.ptr (S.length+1) 0::uu 4 (.sl 3 ((cR q.aia).map It.ah7)::.sl 1 (cs.map bR)::.nil::uu 77 [])))))) ?_ (by repeat' constructor));clear hR R;have cq:∀ T:ae,(S++T)[lr]?=some (.row 108 11 176 g false (M.map kn.ah7)):=fun T=>by rw[ah (ab.1 Mj).1];exact Mj
 refine b6.cut fun R hR=>?_;simp only[hS,cq,ag,V.pure,↓IT,VV,seval];refine b6.wk ((Wk.kR (P:=prog) (J:=S) [_,_] (k:=12) Wu rfl).trans (Wk.gA (ys:=(uu 1 (.sl 5 (l.map Pn.ah7)::uu 1 (.ptr S.length 0::uu 1 (.ptr (S.length+1) 0::uu 4 (.sl 3 ((cR q.aia).map It.ah7)::.sl 1 (cs.map bR)::.own (S.length+2) 0::uu 30 (.own lr g::.i .i64 M.length::.i .i64 (([]:List kn).length:Nat)::uu 44 []))))))) ?_)) (b6.vP (M.length+1) (Ur bj a BL lr g M Mj hM l q cs c1 c2 (cR q.aia) YB gW M [] [] 0 rfl (by simp) ?_))
 ·simp only[VV,seval]
  repeat' constructor
 intro gg;simp only[JE];intros;simp only[bk,aC,VV,seval];refine hR _ (b6.gA (fr':=(uu 3 (.ptr S.length 0::uu 1 (.ptr (S.length+1) 0::uu 6 (.own (S.length+2) gg::uu 77 []))))) ?_ (by repeat' constructor));clear hR R;have hqb:=Cl PG;have hth:1≤q.threshold:=hqb.2.1.1;rw[Ft cs l q hth _ 0 M c3];have hle:=BI l q (cR q.aia) M 0;have S9:=wy l q (cR q.aia) M 0;generalize hA:qz l q (cR q.aia) 0 M=out at hle S9 ⊢;refine b6.cut fun R hR=>?_;simp only[EW,V.pure,↓IT,VV,seval];refine cm (J3 M out (by omega) (fun m hm=>by have:=S9 m hm;omega) (S.length+2) gg S.length a lr g (.ptr x 0) next _ (by simp[EW]) (by simp) (hS _) (cq _)) rfl ?_;rintro _ _ ⟨l',p1,p2,rfl,rfl⟩;simp only[EW,↓IT,VV,seval];refine hR _ (b6.wk ((Wk.Zu 2 (E:=44) (sz:=5) (by':=40) (g:=gg) (sh:=false) (rows:=l'.map Mt.ah7) rfl).trans (Wk.gA (ys:=(uu 5 (.ptr (S.length+1) 0::uu 6 (.sl 5 (l'.map Mt.ah7)::uu 77 [])))) ?_)) (ax ?_))
 ·simp only[ay,bo,fz,qD,jx,aL,VV,seval]
  repeat' constructor
 clear hR R;simp only[Qr.ah7,ag,V.pure,↓IT,VV,seval]
 have et:List.take (if q.nO<(l'.length:Int)then q.nO else(l'.length:Int)).toNat (l'.map Mt.ah7)=(l'.take q.nO.toNat).map Mt.ah7:=by
  rw[ZH];have:=hqb.2.2.1;split
  ·rfl
  ·rw[eK (by rw[ag];omega),eK (by rw[ag];omega)]
 refine⟨⟨by have:=hqb.2.2.1;split<;>omega,by split<;>omega⟩,?_⟩;simp only[et];refine az (Si (l'.take q.nO.toNat) _) rfl ?_;simp only[↓IT,VV,seval];subst hA;exact bF bj (.inr rfl) (by simp only[RS,seval];rfl) (by simp[LW]) ⟨.inr (.inr ⟨PG,Gn,l',p1,p2,rfl⟩),rfl⟩
end Go.Proofs.Tryz
set_option maxRecDepth 4000
set_option maxHeartbeats 2000000
namespace Go.Proofs.Tryz
open Go Go.Pm Go.Bt
theorem Pe{E L:List LE}(hE:E.Perm L)(hn:(L.map (·.1)).Nodup)(p:LE→Bool):
  ((((E.filter p).map (·.1)).mergeSort fun x y=>decide (x≤y)).Pairwise fun a b=>a<b)∧(∀ e∈L,p e=true→e.1∈(((E.filter p).map (·.1)).mergeSort fun x y=>decide (x≤y)))∧(((E.filter p).map (·.1)).mergeSort fun x y=>decide (x≤y)).length≤L.length:=by
 have nz:((E.filter p).map (·.1)).Nodup:=by
  have h1:(E.map (·.1)).Nodup:=(hE.map _).nodup_iff.2 hn;exact h1.sublist ((List.filter_sublist).map _)
 have PH:=List.mergeSort_perm ((E.filter p).map (·.1)) fun x y=>decide (x≤y);refine⟨?_,fun e he hp=>?_,?_⟩
 ·have h1:(((E.filter p).map (·.1)).mergeSort fun x y=>decide (x≤y)).Pairwise fun a b=>decide (a≤b)=true:=aar (fun a b c h1 h2=>by simp at *;omega) (fun a b=>by simp;omega) _;have h2:=PH.nodup_iff.2 nz;refine(h1.and h2).imp fun {a b} h=>?_;have h3:a≤b:=by simpa using h.1
  have h4:a≠b:=h.2;omega
 ·rw[PH.mem_iff];exact bH.2 ⟨e,cW.2 ⟨hE.mem_iff.2 he,hp⟩,rfl⟩
 ·rw[PH.length_eq,ag,← hE.length_eq];exact eU _ _
theorem Vw(L:List LE)(k:GK):∀ p∈HO L k,0≤p.2:=fun p hp=>by
 obtain⟨e,_,he⟩:=H9.1 hp;obtain⟨v,hv,rfl⟩:=aj.1 he;exact HI hv
theorem OT(L:List LE)(k:TK):∀ p∈Gs L k,0≤p.2:=fun p hp=>by
 obtain⟨e,_,he⟩:=H9.1 hp;obtain⟨v,hv,rfl⟩:=aj.1 he;exact FA hv
theorem Pf(J:ae)(L:List LE)(G2:List (GK×(Nat×Nat)))(G3:List (TK×(Nat×Nat)))(FB:Ob)(T:ae)(hI:DL J.length T L G2 G3)(hL:L.length≤1024)(hLs:∀ e∈L,e.2.1.length≤2^20)(M:List kn)(hML:∀ s∈M,∃ m,(s.id,(s.cR,m))∈L)
  (tq:List It) (YB:tq.length≤2^20) (p:Int) (hp:1≤p∧p≤100) (X:ae) :
  PC prog 58 [.ptr (J.length+3) 0,.sl 3 (tq.map It.ah7),.i .i64 p] (tM J L G2 G3 FB T++X)
   (fun r J'=>∃ cs:List Int,(cs.Pairwise fun a b=>a<b)∧cs.length<2^30∧(∀ s∈M,p≤cL s.cR tq→s.id∈cs)∧r=.sl 1 (cs.map bR)∧J'=tM J L G2 G3 FB T++X):=by
 have hN2:∀ k,(HO L k).length≤1024:=fun k=>aQ (jl _ _) hL;have hN3:∀ k,(Gs L k).length≤1024:=fun k=>aQ (jl _ _) hL;have Dh:∀ g∈cg (aP tq),0≤g.2:=fun g hg=>(zi _ g hg).1;have Js:∀ p∈jH [] tq,0≤p.2:=fun p hp=>by rw[Dv hp];exact nE _ _
 have VZ:=mm tq;have b2:=Fk 1024 (HO L) hN2 (cg (aP tq)) Dh;have b3:=Fj 1024 (Gs L) hN3 (OT L) (jH [] tq) Js;rw[zj]at b2;have b4:=JC tq [];simp only[bo,List.sum_nil,dL]at b4
 have hT:∀ (j:Nat) (o:Ob),T[j]?=some o→(tM J L G2 G3 FB T++X)[J.length+5+j]?=some o:=fun j o h=>by
  have dc:=(ab.1 h).1;unfold tM;rw[aR,aA (by omega),(by omega:J.length+5+j - J.length=j+5)];simp only[bn,bI];rw[ah dc];exact h
 refine(Sl (S:=tM J L G2 G3 FB T++X) (J.length+3) J.length (J.length+1) (J.length+2) (by simp[tM,Fc]) L (by omega) (by simp[tM]) G2 (HO L) (by simp[tM])
  (fun k r g h=>by obtain⟨j,rfl,hj⟩:=hI.p2.row k r g h;exact hT j _ hj) hI.p2.EX (Vw L) (fun k=>by have:=hN2 k;omega)
  G3 (Gs L) (by simp[tM]) (fun k r g h=>by obtain⟨j,rfl,hj⟩:=hI.p3.row k r g h;exact hT j _ hj) hI.p3.EX (OT L) (fun k=>by have:=hN3 k;omega)
  tq (by omega) Dh Js (by unfold oz oA;omega) p (by omega) (D5 tq (by omega)) (fun e he=>D5 _ (by have:=hLs e he;omega))).mono ?_
 rintro r J' ⟨D,E,hD,hE,rfl,rfl⟩;obtain⟨k1,k2,k3⟩:=Pe hE hI.keys (rW tq (cZ (cZ [] (oz (HO L) (cg (aP tq)))) (oA (Gs L) D)) p);refine⟨_,k1,by omega,fun s hs hpc=>?_,rfl,rfl⟩;obtain⟨m,hm⟩:=hML s hs;refine k2 _ hm ?_;have hl:=hLs _ hm;have hc:=VE hI.keys hm tq hD;simp only[rW,aY];have e:(bS s.id (cZ (cZ [] (oz (HO L) (cg (aP tq)))) (oA (Gs L) D))).getD rP=pL tq s.cR:=hc;rw[e];exact C4 tq s.cR p hp hpc YB hl
end Go.Proofs.Tryz
set_option maxRecDepth 8000
set_option maxHeartbeats 4000000
namespace Go.Proofs.Tryz
open Go Go.Pm Go.Bt
def wZ:kn:=⟨0,ek Md,Md,cR lE⟩
theorem La:Md.aik:=⟨by decide,by decide,by decide,by decide,by decide,by decide,fun x hx=>by
 simp only[Md,lE,bn,bk,bJ,eL,DB]at hx;rcases hx with rfl | rfl<;>decide⟩
theorem DL.aaz(n:Nat)(T:ae):DL n T [] [] [] :=
 ⟨iE,fun e he=>by simp at he,fun e he=>by simp at he,⟨iE,fun k r g h=>by simp[bS,dH]at h,fun k h=>rfl,fun k k' r g g' h=>by simp[bS,dH]at h⟩,
  ⟨iE,fun k r g h=>by simp[bS,dH]at h,fun k h=>rfl,fun k k' r g g' h=>by simp[bS,dH]at h⟩,fun k r g k' r' g' h=>by simp[bS,dH]at h⟩
theorem NP(J:ae)(G2:List (GK×(Nat×Nat)))(G3:List (TK×(Nat×Nat)))(m:Nat)(T:ae)(hI:DL J.length (jm 1 [wZ]::T) [(0,(cR lE,m))] G2 G3)(X:ae):
  PC prog 23 [.ptr (J.length+4) 0,.sl 5 [],.agg Mc.ah7] (mT J [(0,(cR lE,m))] G2 G3 1 1 [wZ] T++X) (fun r S'=>r=.fi [.sl 5 [Mt.ah7 ⟨0,100,2,0,102⟩],.i .i64 0]∧S'=mT J [(0,(cR lE,m))] G2 G3 1 1 [wZ] T++X):=by
 refine(LJ (S:=mT J [(0,(cR lE,m))] G2 G3 1 1 [wZ] T++X) (J.length+4) (J.length+3) (J.length+5) 1 1 (by simp[mT,tM,PO]) [wZ] (by simp[mT,tM]) (by decide) [] (by decide) Mc (by decide) (by decide) (by decide) (by decide) (by rw[show Mc.aia=lE from rfl,sF];decide)
  (fun s hs=>by
   simp only[bU]at hs;subst hs;exact⟨by rw[show wZ.cR=cR lE from rfl,sF];decide,⟨by decide,by decide,by decide,by simp⟩⟩) (fun _ Y=>?_)).mono ?_
 ·rw[aR,Ju];have H:=Pf J _ G2 G3 (PO J.length (.own (J.length+5) 1) 1) _ (hI.swap (o':=jm 1 [wZ]) (X:=X++Y)) (by simp) (by simp[sF]) [wZ] (fun s hs=>⟨m,by simp only[bU]at hs;subst hs;simp[wZ]⟩) (cR lE) (by rw[sF];decide) (Ky Mc) (by decide) [];simp only[bV]at H;exact H
 ·rintro r J' ⟨h,rfl⟩;refine⟨?_,rfl⟩;rcases h with⟨h,_⟩ | ⟨_,h,_⟩ | ⟨_,_,l',hp,_,rfl⟩
  ·exact absurd Uv h
  ·exact absurd aaC h
  ·have e:qz [] Mc (cR Mc.aia) 0 [wZ]=[⟨0,100,2,0,102⟩]:=by rfl
   rw[e]at hp;have:=List.perm_singleton.1 hp;subst this;rfl
theorem Hj(J:ae):PC prog 12 [] J (fun r J'=>r=.b true∧J'=J):=by
 refine PC.intro func12 c12 fun bj dx=>ax ?_;simp only[p12,SS,seval];simp only[V.pure,↓IT,VV,seval];refine lx (zs:=[.agg Md.ah7,.sl 5 ([kPn].map Pn.ah7),.agg Mc.ah7]) ?_ (Ei Md [kPn] Mc ⟨by decide,by decide,by decide,by decide⟩ (by decide) (by decide) (by decide) (by decide) (by rw[show Md.aia=lE from rfl,sF];decide) (by rw[show Mc.aia=lE from rfl,sF];decide) _) ?_
 ·exact .cons (Cv.Pw (.cons (.lit _ _) (.cons (.lit _ _) (.cons (.refl _) (.cons (.refl _) (.cons (.refl _) (.cons (.refl _) (.cons (.refl _) (.cons (.refl _) .nil))))))))) (.cons (.lit _ _) (.cons (Cv.Pw (.cons (.lit _ _) (.cons (.refl _) (.cons (.refl _) (.cons (.refl _) (.cons (.refl _) (.cons (.refl _) .nil))))))) .nil))
 rw[QX];simp only[V.pure,↓IT,VV,seval]
 obtain⟨S1,Tg⟩:∃ S1,S1=J++[Ob.box 37 [.lit 3 [[.i .i64 1,.s [83,97,118,101],.i .i64 0]],.lit 3 [[.i .i64 1,.s [83,105,99,104,101,114,110],.i .i64 0]],.s [97],.s [98],.s [],.s [],.i .i64 0,.i .i64 3],
  .box 24 [.lit 3 [[.i .i64 1,.s [83,97,118,101],.i .i64 0]],.s [97],.s [98],.i .i64 0,.i .i64 50,.i .i64 5],.box 44 [.i .i64 0,.i .i64 100,.i .i64 2,.i .i64 10,.i .i64 92]]:=⟨_,rfl⟩
 rw[← Tg];have g0:∀ L G2 G3 nx g M T,(mT S1 L G2 G3 nx g M T)[J.length]?=some (Ob.box 37 [.lit 3 [[.i .i64 1,.s [83,97,118,101],.i .i64 0]],.lit 3 [[.i .i64 1,.s [83,105,99,104,101,114,110],.i .i64 0]],.s [97],.s [98],.s [],.s [],.i .i64 0,.i .i64 3]):=fun L G2 G3 nx g M T=>by simp[mT,tM,Tg]
 have g1:∀ L G2 G3 nx g M T,(mT S1 L G2 G3 nx g M T)[J.length+1]?=some (Ob.box 24 [.lit 3 [[.i .i64 1,.s [83,97,118,101],.i .i64 0]],.s [97],.s [98],.i .i64 0,.i .i64 50,.i .i64 5]):=fun L G2 G3 nx g M T=>by simp[mT,tM,Tg]
 have g2:∀ L G2 G3 nx g M T,(mT S1 L G2 G3 nx g M T)[J.length+2]?=some (Ob.box 44 [.i .i64 0,.i .i64 100,.i .i64 2,.i .i64 10,.i .i64 92]):=fun L G2 G3 nx g M T=>by simp[mT,tM,Tg]
 refine az (LI _) rfl ?_;simp only[g0,V.pure,↓IT,VV,seval]
 refine cm (PC.wk (args':=[.ptr (S1.length+4) 0,.agg Md.ah7]) (Wk.gA (.cons (.refl _) (.cons (Cv.Pw (.cons (.lit _ _) (.cons (.lit _ _) (.cons (.refl _) (.cons (.refl _) (.cons (.refl _) (.cons (.refl _) (.cons (.refl _) (.cons (.refl _) .nil))))))))) .nil)))
  (Ks S1 [] [] [] 0 (by decide) 0 [] [] (DL.aaz _ _) rfl (by decide) (by decide) (by simp[zZ]) Md La Yq (by simp) rfl (by rw[show Md.aia=lE from rfl,sF];decide))) rfl ?_
 rintro _ _ ⟨rfl,T',m,G2',G3',rfl,hI⟩;simp only[g1,g2,V.pure,↓IT,VV,seval];have hI:DL S1.length (jm 1 [wZ]::T') [(0,(cR lE,m))] G2' G3':=hI;have H:=NP S1 G2' G3' m T' hI [];simp only[bV]at H;refine lx (zs:=[.ptr (S1.length+4) 0,.sl 5 [],.agg Mc.ah7]) (.cons (.refl _) (.cons (.nil _) (.cons (Cv.Pw (.cons (.lit _ _) (.cons (.refl _) (.cons (.refl _) (.cons (.refl _) (.cons (.refl _) (.cons (.refl _) .nil))))))) .nil))) H ?_;have k1:(true==true)=true:=rfl;simp only[g1,g2,k1,Mt.ah7,V.pure,↓IT,VV,seval];refine⟨.i .i64 102,⟨True,rfl,trivial⟩,?_⟩;simp only[k1,V.pure,↓IT,VV,seval];obtain⟨loc,abR⟩:∃ loc,mT S1 [(0,(cR lE,m))] G2' G3' 1 1 [wZ] T'=J++loc:=⟨_,by simp only[mT,tM,Tg,aR];rfl⟩;rw[abR];exact bF bj (.inr rfl) rfl (by simp[LW]) ⟨rfl,rfl⟩
end Go.Proofs.Tryz

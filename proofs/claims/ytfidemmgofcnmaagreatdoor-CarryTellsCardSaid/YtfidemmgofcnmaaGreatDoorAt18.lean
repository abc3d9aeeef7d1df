/- What the laws of spaces share is proved. No condition. Part of a proof. -/
import Derived.Test.YtfidemmgofcnmaaGreatDoorAt17
import Derived.ScopeJumps
set_option maxHeartbeats 4000000
set_option maxRecDepth 1000000
set_option linter.unusedVariables false
namespace Go.Proofs.YtfidemmgofcnmaaGreatDoor
open Go.RowKit Go.Proofs.Tryz
theorem Z2v(a b:Nat)(ha:a<16)(hb:b<16):bits .andNot .i64 (a:Int) (b:Int)=((less a b:Nat):Int):=by
 have:∀a b:Fin 16,bits .andNot .i64 ((a.val:Nat):Int) ((b.val:Nat):Int)=((less a.val b.val:Nat):Int):=by decide +kernel
 exact this ⟨a,ha⟩ ⟨b,hb⟩
theorem Q4h(a b:Nat)(ha:a<16)(hb:b<16):bits .and .i64 (a:Int) (b:Int)=((a&&&b:Nat):Int):=by
 have:∀a b:Fin 16,bits .and .i64 ((a.val:Nat):Int) ((b.val:Nat):Int)=((a.val&&&b.val:Nat):Int):=by decide +kernel
 exact this ⟨a,ha⟩ ⟨b,hb⟩
theorem Q6X{S:CO}{fr:List Nat}{N K:Nat}{tb:Nat->TB}(ok:S.Ok fr N K)(t:TPI S tb){i s:Nat}{p:Pl}(hi:S.l[i]?=some p)(h1:p.st=1)(h2:p.kind=2)(hs:s<256){e e2:Ent}(he:(tb i).en s=some e)(hn:e2.nd=e.nd)(hl:e2.Low){w:World}{g:Nat}(A6:Sep w S.hl)(hg:TblC S p g w) :
  Calls prog 103 #[.pointer (some ⟨g,0,none⟩),.int .i64 s,.int .u64 (e2.a:Nat),.int .u64 (e2.nd:Nat)] w fun r w'=>r=.returned (.int .i64 0)/\J0W S fr N K tb (p.fac:Int) i s (some e2) w w':=by
 have tx:=t.x (p.fac:Int);have Ap:=Q1w ok.inv.len hi;have T:=tx.tt ok hi h1 h2 A6 hg;have F5:(tb i).lf (s/16)≠0:=fun h=>by
  have:=T.tin.hole s hs h;rw[he] at this;cases this
 have NR:e2.nd∈S.P.usedOf 6:=t.nds.mem_iff.1 (J2c.2 ⟨i,J1U.2 Ap,mem_nds.2 ⟨s,e,hs,he,hn.symm⟩⟩);have hm:=Q0l ok.inv.mem.pool NR;have Lz:=Q0f ok.inv.mem.pool;obtain⟨l1,l2⟩:=hl;refine(Z0Z ok tx hi h1 h2 rfl hs (xn':=[]) (by rw[TB.nds_same hs he hn]) (by show e2.h+1+4294967296*e2.r<_;omega) (by show e2.nd<_;omega) A6 hg).mono ?_;rintro r w' (⟨rfl,hp⟩|⟨h0,_⟩)
 ·exact⟨rfl,hp.turn t.full⟩
 ·exact absurd h0 F5
def Q9X(Z:SP)(fr:List Nat)(N K:Nat)(M:Int)(m:Nat)(id:Int)(w:World)(b:Bool)(w':World):Prop:=∃Z',Z'.Ok fr N K M/\Q1Q m Z.av id=(Z'.av,b)/\SameZ Z Z'/\Step Z.hl Z'.hl w w'
theorem FPI.low{l:List Pl}{tb:Nat->TB}{N:List (En Nd)}(f:FPI l tb N)(lok:LOk l){h s:Nat}{e:Ent}(he:Q0g l tb h s=some e):e.Low:=by
 obtain⟨⟨q,hq,_⟩,hr⟩:=f.cap h s e he;have h1:=pget_some.1 hq;have h2:=lok.2 q (Q1i hq);refine⟨?_,by omega⟩;have:nm (e.h%256) q=e.h:=h1.2.1;unfold nm at this;omega
theorem Q8P{w:World}{Z:SP}{fr:List Nat}{N K:Nat}{M:Int}(hs:Sep w Z.hl)(ok:Z.Ok fr N K M){id:Int}(hf:find Z.F.N id=none)(m:Nat) :
  Calls prog 206 #[.pointer (some ⟨Z.s,0,none⟩),.int .i64 id,.int .i64 m] w fun r w'=>r=.returned (.bool false)/\Q9X Z fr N K M m id w false w':=by
 have c1:=SP.c1 hs;have ko:=Q9U (SP.sF hs) hf;obtain⟨p0,EF,B4,_,F8,Wo,_⟩:=ok.core.inv.que.root;have Br:pget Z.S.l 1 0=some p0:=pget_some.2 ⟨EF,by unfold nm;omega,F8⟩;have ks:=Q0J hs ok.core (x:=0) (by omega) 10 (.inr ⟨p0,Br,by omega,rfl⟩);have HR:Hid (∀w',Below w.heap.size w w'->Q9X Z fr N K M m id w false w'):=fun w' hb=>⟨Z,ok,by unfold Q1Q;rw[show Z.av.N=Z.F.N from rfl,hf],SameZ.refl Z,hs.grown hb⟩
 clear hs ok hf Br EF;go_enter func206,ntmps206;go_wp2_with fail;refine ko.mono ?_;rintro r w1⟨rfl,rfl⟩;go_wp2_with fail;refine ks.mono ?_;rintro r w1⟨rfl,hb⟩;have HQ:=Q0a (HR.out _ (hb.alloc hb.size (.cells #[.pointer none,.int .u32 0,.int .i64 0] 191)));clear hb HR ks ko;go_wp2_with fail
 (try go_ret);exact⟨rfl,HQ.out⟩
structure J1v(Z:SP)(fr:List Nat)(N K:Nat)(M:Int)(m:Nat)(id:Int)(h s g:Nat)(p:Pl)(e:Ent)(w w2:World):Prop where
 go:∀w3,Below w2.heap.size w2 w3->w3.cell? ⟨Z.s,1,none⟩=some (.pointer (some ⟨Z.F.f,0,none⟩)) /\
  Calls prog 93 #[.agg #[.pointer (some ⟨g,0,none⟩),.int .u32 h,.int .i64 (p.fac:Int)],.int .i64 s] w3 (Told w3 (.tuple #[.agg #[.int .u32 (e.h:Int),.int .i64 (e.r:Int)],.bool true])) /\
  Calls prog 102 #[.pointer (some ⟨g,0,none⟩),.int .i64 s] w3 (fun r w'=>r=.returned (.tuple #[.int .u64 (e.a:Nat),.int .u64 (e.nd:Nat)])/\w3=w')
 lift:less e.r m=0->∀w3,Below w2.heap.size w2 w3->Calls prog 174 #[.pointer (some ⟨Z.F.f,0,none⟩),.int .i64 id] w3 fun r w4=>(∃v,r=.returned v)/\(∀b,w2.heap.size<=b->b<w3.heap.size->w4.heap[b]?=w3.heap[b]?)/\w3.heap.size<=w4.heap.size /\
  Calls prog 99 #[.pointer (some ⟨Z.s,0,none⟩),.agg #[.pointer (some ⟨g,0,none⟩),.int .u32 h,.int .i64 (p.fac:Int)],.int .i64 s] w4 fun r w5=>r=.returned (.tuple #[])/\Q9X Z fr N K M m id w true w5
 set:less e.r m≠0->∀w3,Below w2.heap.size w2 w3->Calls prog 103 #[.pointer (some ⟨g,0,none⟩),.int .i64 s,.int .u64 ((⟨e.h,less e.r m,0⟩:Ent).a:Nat),.int .u64 (e.nd:Nat)] w3 fun r w4=>r=.returned (.int .i64 0)/\(∀b,w2.heap.size<=b->b<w3.heap.size->w4.heap[b]?=w3.heap[b]?)/\Q9X Z fr N K M m id w false w4
theorem Step.keep{H H':HL}{w w1 w':World}{B:Nat}(st:Step H H' w1 w')(hs:Sep w H)(hB:w.heap.size<=B):∀b,B<=b->b<w1.heap.size->w'.heap[b]?=w1.heap[b]?:=fun b h1 h2=>st.chg.block b h2 fun hk=>by
 have:=hs.lt hk;omega
theorem Z2w{w w1:World}{Z:SP}{fr:List Nat}{N K:Nat}{M:Int}(hs:Sep w Z.hl)(hb:Below w.heap.size w w1)(ok:Z.Ok fr N K M){id:Int}{n:En Nd}(hf:find Z.F.N id=some n){m:Nat}(hm:m<16)(hd:m=15∨Q3e m Z.av [] id)
  {h s:Nat} {p:Pl} {e:Ent} (h1:n.q.sp=(h:Int)) (h2:n.q.sl=(s:Int)) (hh:h<4294967296) (AG:s<256) (hp:pget Z.S.l 1 h=some p) (hk:p.kind=2) (Bz:(Z.tb (h%256)).en s=some e) (he:Q0g Z.S.l Z.tb h s=some e) :
  Calls prog 90 #[.pointer (some ⟨Z.s,0,none⟩),.int .u32 h] w1 fun r w2=>∃g:Nat,r=.returned (.tuple #[.agg #[.pointer (some ⟨g,0,none⟩),.int .u32 h,.int .i64 (p.fac:Int)],.int .i64 0])/\J1v Z fr N K M m id h s g p e w w2:=by
 have s1:=(hs.grown hb).sep;have hi:=(pget_some.1 hp).1;have Aq:=(pget_some.1 hp).2.2;have As:=ok.fpi.low ok.core.inv.lok he;have hr:=(ok.fpi.cap h s e he).r;refine(Q0W s1 ok.core hh hp hk).mono ?_;rintro r w2⟨g,rfl,Ae,hg⟩;have CL:Below w.heap.size w w2:=hb.trans (Ae.mono hb.size);have grow:∀w3,Below w2.heap.size w2 w3->Below w.heap.size w w3/\Sep w3 Z.hl/\TblZ Z p g w3:=fun w3 An=>by
  have Aj:Below w.heap.size w w3:=CL.trans (An.mono CL.size);exact⟨Aj,(hs.grown Aj).sep,hg.grown (hs.grown CL).sep An⟩
 have AW:(Z.tb (h%256)).at' (s:Int)=some e:=by unfold TB.at';rw[if_pos ⟨by omega,by omega⟩,J2C,Bz]
 refine⟨g,rfl,fun w3 An=>?_,fun h0 w3 An=>?_,fun h0 w3 An=>?_⟩
 ·obtain⟨Aj,s3,g3⟩:=grow w3 An;have T:=(ok.tpi.x (p.fac:Int)).tt ok.core hi Aq hk (SP.sS s3) g3.c;have kc:=Q1s T (h:Int) (p.fac:Int) (s:Int) (fun e' AH=>by rw[AW] at AH;cases AH;exact As);have kg:=Q4d T (s:Int);rw[AW] at kc kg;exact⟨SP.c1 s3,kc,kg⟩
 ·obtain⟨Aj,s3,g3⟩:=grow w3 An;obtain⟨hn,hid⟩:=Q0d hf;have kl:=Q8O (SP.sF s3) ok.fo (e:=n) (by rw[hid];exact hf);rw[hid] at kl;refine kl.mono ?_;rintro r w4⟨hv,F',FL,Ny,Ii,Ew,st⟩;have stz:=SP.stepF s3 F' FL st;have g4:TblZ (Z.setF F') p g w4:=g3.step stz rfl;refine⟨hv,stz.keep hs CL.size,stz.chg.size,?_⟩;refine(Q4f (Z:=Z.setF F') stz.sep ok.core ok.tpi hi Aq hk AG Bz g4).mono ?_;rintro r w5⟨rfl,S',t',T,stt⟩;obtain⟨a1,a2,a3⟩:=ok.lifted hf h1 h2 hp hk AG he h0 T Ny Ew Ii FL;exact⟨rfl,_,a1,a2,a3,((hs.grown Aj).trans stz).trans stt⟩
 ·obtain⟨Aj,s3,g3⟩:=grow w3 An;have NH:Q3e m Z.av [] id:=by
   rcases hd with rfl|hd
   ·exact absurd (Q7H e.r (by omega)) h0
   ·exact hd
  refine(Q6X (e2:=⟨e.h,less e.r m,e.nd⟩) ok.core ok.tpi hi Aq hk AG Bz rfl ⟨As.1,by have:=(Q5g e.r (by omega) m hm).2.2;show less e.r m<16;omega⟩ (SP.sS s3) g3.c).mono ?_;rintro r w4⟨rfl,S',t',T,stt⟩;have stz:=SP.stepS s3 S' (updT Z.tb (h%256) t') T.alt.c stt;obtain⟨a1,a2,a3⟩:=ok.weakened hf h1 h2 hp hk AG he hm h0 NH T;exact⟨rfl,stz.keep hs CL.size,_,a1,a2,a3,(hs.grown Aj).trans stz⟩
theorem Q8Q{w:World}{Z:SP}{fr:List Nat}{N K:Nat}{M:Int}(hs:Sep w Z.hl)(ok:Z.Ok fr N K M){id:Int}{n:En Nd}(hf:find Z.F.N id=some n)(m:Nat)(DP:1<=m)(hm:m<16)(hd:m=15∨Q3e m Z.av [] id) :
  Calls prog 206 #[.pointer (some ⟨Z.s,0,none⟩),.int .i64 id,.int .i64 m] w fun r w'=>∃b:Bool,r=.returned (.bool b)/\Q9X Z fr N K M m id w b w':=by
 obtain⟨hn,hid⟩:=Q0d hf;obtain⟨h,s,p,e,h1,h2,hh,AG,hp,hk,Bz,he⟩:=ok.fpi.task ok.fo.n hn;have As:=ok.fpi.low ok.core.inv.lok he;have hr:=(ok.fpi.cap h s e he).r;have c1:=SP.c1 hs;have ko:=Q9V (SP.sF hs) hf;rw[h1,h2] at ko;have Oc:=Z2v e.r m (by omega) hm;have Ji:Hid (∀w,Calls prog 104 #[.agg #[.int .u32 (e.h:Int),.int .i64 ((less e.r m:Nat):Int)]] w (Told w (.int .u64 ((⟨e.h,less e.r m,0⟩:Ent).a:Nat)))):=fun w=>Q5O w e.h (less e.r m) As.1 (by have:=(Q5g e.r (by omega) m hm).2.2;omega)
 have HC:Hid (∀w1,Below w.heap.size w w1->_):=fun w1 hb=>Z2w hs hb ok hf hm hd h1 h2 hh AG hp hk Bz he
 have O0:(h:Int)<4294967296:=by omega
 have Wn:(0:Int)<=(h:Int):=by omega
 clear hs ok hf hd h1 h2 hh hp hk Bz he hn hid As hr DP hm;by_cases h0:less e.r m=0
 ·rw[h0] at Oc;have Md:=Q0a h0;clear h0 Ji;have U8:bits .andNot .i64 (e.r:Int) (m:Int)=0:=Oc;clear Oc;go_enter func206,ntmps206;go_wp2_with fail;refine ko.mono ?_;rintro r w1⟨rfl,Ar⟩;have HS:=Q0a (HC.out w1 Ar);clear Ar HC ko;go_wp2_with fail;refine HS.out.mono ?_;rintro r w2⟨g,rfl,hc⟩;have H0:=hc.go _ ((Below.refl _ _).alloc (J1E _) (.cells #[.pointer (some ⟨g,0,none⟩),.int .u32 h,.int .i64 (p.fac:Int)] 191));have G4:=H0.2.1;have Ck:=Q0a hc;clear hc HS H0;have hB:=Cells.new w2 191 [.pointer (some ⟨g,0,none⟩),.int .u32 h,.int .i64 (p.fac:Int)];go_wp2_with fail;refine G4.mono ?_
  rintro r w3⟨rfl,An⟩;have AX:Below w2.heap.size w2 w3:=Q0b An;have LV:=hB.same (An.block w2.heap.size (by simp));have A2:Below w2.heap.size w2 (w3.alloc (.cells #[.int .u32 (e.h:Int),.int .i64 0] 72)):=AX.alloc AX.size _;have d1:=(Ck.out.go _ A2).1;have IQ:=Ck.out.lift Md.out _ A2;have Fe:=LV.alloc (.cells #[.int .u32 (e.h:Int),.int .i64 0] 72);have BG:Hid (∀w5:World,(∀b,w2.heap.size<=b->b<(w3.alloc (.cells #[.int .u32 (e.h:Int),.int .i64 0] 72)).heap.size->w5.heap[b]?=(w3.alloc (.cells #[.int .u32 (e.h:Int),.int .i64 0] 72)).heap[b]?)->Cells w5 w2.heap.size 191 [.pointer (some ⟨g,0,none⟩),.int .u32 h,.int .i64 (p.fac:Int)]):=fun w5 hk=>Fe.same (hk _ (J1E _) Fe.lt)
  have Ez:=Q0a IQ;clear An AX hB G4 LV Fe A2 IQ Md Ck;go_wp2_with fail;refine Ez.out.mono ?_;rintro r w5⟨⟨v,rfl⟩,Cu,Be,IG⟩;have J4:=BG.out w5 Cu;have b0:=J4.cell 0 _ rfl;have b1:=J4.cell 1 _ rfl;have b2:=J4.cell 2 _ rfl;have Ei:=Q0a IG;clear Cu Be IG Ez BG J4;go_wp2_with fail;refine Ei.out.mono ?_;rintro r w6⟨rfl,hq⟩;have HQ:=Q0a hq;clear hq Ei;go_wp2_with fail
  (try go_ret);exact⟨true,rfl,HQ.out⟩
 ·have UL:(((less e.r m:Nat):Int)==0)=false:=by simpa using h0
  have Md:=Q0a h0;have Ac:∃lr,lr=less e.r m:=⟨_,rfl⟩
  obtain⟨lr,hl⟩:=Ac;rw[<- hl] at Oc UL Ji;have Rk:=Q0a hl;have Po:(lr:Int)≠0:=by
   rw[hl]
   simpa using h0
  have Qy:((lr:Int) != 0)=true:=by simpa using Po
  generalize (lr:Int)=lz at *
  clear h0 hl;go_enter func206,ntmps206;go_wp2_with fail;refine ko.mono ?_;rintro r w1⟨rfl,Ar⟩;have HS:=Q0a (HC.out w1 Ar);clear Ar HC ko;go_wp2_with fail;refine HS.out.mono ?_;rintro r w2⟨g,rfl,hc⟩;have H0:=hc.go _ ((Below.refl _ _).alloc (J1E _) (.cells #[.pointer (some ⟨g,0,none⟩),.int .u32 h,.int .i64 (p.fac:Int)] 191));have G4:=H0.2.1;have Ck:=Q0a hc;clear hc HS H0;have hB:=Cells.new w2 191 [.pointer (some ⟨g,0,none⟩),.int .u32 h,.int .i64 (p.fac:Int)];go_wp2_with fail;refine G4.mono ?_;rintro r w3⟨rfl,An⟩;have AX:Below w2.heap.size w2 w3:=Q0b An;have LV:=hB.same (An.block w2.heap.size (by simp))
  have A2:Below w2.heap.size w2 (w3.alloc (.cells #[.int .u32 (e.h:Int),.int .i64 lz] 72)):=AX.alloc AX.size _;have CM:=(Ck.out.go _ A2).2.2;have Fe:=LV.alloc (.cells #[.int .u32 (e.h:Int),.int .i64 lz] 72);have Ip:=Cells.new w3 72 [.int .u32 (e.h:Int),.int .i64 lz];have s0:=Fe.cell 0 _ rfl;have q0:=Ip.cell 0 _ rfl;have q1:=Ip.cell 1 _ rfl;have Jo:Hid (∀w5,Below (w3.alloc (.cells #[.int .u32 (e.h:Int),.int .i64 lz] 72)).heap.size (w3.alloc (.cells #[.int .u32 (e.h:Int),.int .i64 lz] 72)) w5->Below w2.heap.size w2 w5/\w5.cell? ⟨w2.heap.size,0,none⟩=some (.pointer (some ⟨g,0,none⟩))/\w5.cell? ⟨w3.heap.size,0,none⟩=some (.int .u32 (e.h:Int))/\w5.cell? ⟨w3.heap.size,1,none⟩=some (.int .i64 lz)):=fun w5 Au=>⟨A2.trans (Au.mono A2.size),(Fe.same (Au.block _ Fe.lt)).cell 0 _ rfl,(Ip.same (Au.block _ Ip.lt)).cell 0 _ rfl,(Ip.same (Au.block _ Ip.lt)).cell 1 _ rfl⟩
  have BG:Hid (∀(w5 w6:World),Below (w3.alloc (.cells #[.int .u32 (e.h:Int),.int .i64 lz] 72)).heap.size (w3.alloc (.cells #[.int .u32 (e.h:Int),.int .i64 lz] 72)) w5->(∀b,w2.heap.size<=b->b<w5.heap.size->w6.heap[b]?=w5.heap[b]?)->w6.cell? ⟨w2.heap.size,0,none⟩=some (.pointer (some ⟨g,0,none⟩))/\w6.cell? ⟨w3.heap.size,0,none⟩=some (.int .u32 (e.h:Int))/\w6.cell? ⟨w3.heap.size,1,none⟩=some (.int .i64 lz)):=fun w5 w6 Au hk=>by
   have J4:=Fe.same (Au.block _ Fe.lt);have N9:=Ip.same (Au.block _ Ip.lt);have l3:w2.heap.size<=w3.heap.size:=AX.size;exact⟨(J4.same (hk _ (J1E _) J4.lt)).cell 0 _ rfl,(N9.same (hk _ l3 N9.lt)).cell 0 _ rfl,(N9.same (hk _ l3 N9.lt)).cell 1 _ rfl⟩
  clear An AX hB G4 LV Fe Ip A2;generalize e.a=ea at *
  go_wp2_with fail;refine CM.mono ?_;rintro r w4⟨rfl,rfl⟩;have Nz:=Jo.out _ ((Below.refl _ _).drew);obtain⟨bb5,x1,x2,x3⟩:=Nz;have JB:=Q0a bb5;have Ky:=Ck.out.set Md.out;rw[<- Rk.out] at Ky;have C5:=Q0a Ky;clear bb5 Ky CM Ck Md Rk;go_wp2_with fail
  go_region_held3 (fun w'=>w'.cell? ⟨w2.heap.size,0,none⟩=some (.pointer (some ⟨g,0,none⟩))/\w'.cell? ⟨w3.heap.size,0,none⟩=some (.int .u32 (e.h:Int))/\w'.cell? ⟨w3.heap.size,1,none⟩=some (.int .i64 lz)) (first|exact⟨s0,q0,q1⟩|exact⟨x1,x2,x3⟩|exact Nz.2|exact Um)
   (first|(go_at_call 104;refine(Ji.out _).mono ?_;rintro r w5⟨rfl,Au⟩;have Cb:=((Below.refl (w3.alloc (.cells #[.int .u32 (e.h:Int),.int .i64 lz] 72)).heap.size _).drew).trans Au;have Nz:=Jo.out w5 Cb;have IH:=Q0a Cb;clear Cb Au Ji)|(go_at_call 103;refine(C5.out _ Nz.1).mono ?_;rintro r w6⟨rfl,Cu,hq⟩;have Um:=BG.out _ w6 IH.out Cu;have HQ:=Q0a hq;clear hq Cu C5))
  go_wp2_with fail
  (try go_ret);exact⟨false,rfl,HQ.out⟩
theorem Q9Y{w:World}{Z:SP}{fr:List Nat}{N K:Nat}{M:Int}(hs:Sep w Z.hl)(ok:Z.Ok fr N K M)(id:Int)(m:Nat)(DP:1<=m)(hm:m<16)(hd:m=15∨Q3e m Z.av [] id) :
  Calls prog 206 #[.pointer (some ⟨Z.s,0,none⟩),.int .i64 id,.int .i64 m] w fun r w'=>∃b:Bool,r=.returned (.bool b)/\Q9X Z fr N K M m id w b w':=by
 cases hf:find Z.F.N id with
 | none=>exact(Q8P hs ok hf m).mono fun r w' ⟨h1,h2⟩=>⟨false,h1,h2⟩
 | some n=>exact Q8Q hs ok hf m DP hm hd
def Q7M(Z:SP)(fr:List Nat)(N K:Nat)(M:Int)(m:Nat)(l:List Int)(w w':World):Prop:=∃Z',Z'.Ok fr N K M/\Z'.av=(Q1C m Z.av l).1/\SameZ Z Z'/\Step Z.hl Z'.hl w w'
structure WaI(Z:SP)(fr:List Nat)(N K:Nat)(M:Int)(m:Nat)(l:List Int)(a:Option Addr)(w:World)(k:Nat)(Z1:SP)(wr:World):Prop where
 ok:Z1.Ok fr N K M
 av:Z1.av=(Q1C m Z.av (l.take k)).1
 same:SameZ Z Z1
 st:Step Z.hl Z1.hl w wr
 row:AsideV Z1.hl (l.map encI) a wr
 wk:WeakOk m Z1.av (l.drop k)
theorem WaI.next{Z Z1:SP}{fr:List Nat}{N K:Nat}{M:Int}{m:Nat}{l:List Int}{a:Option Addr}{w wr w':World}{k:Nat}{x:Int}{b:Bool}(I:WaI Z fr N K M m l a w k Z1 wr)(hx:l[k]?=some x)(hm:m<16)(h:Q9X Z1 fr N K M m x wr b w') :
  (Q1C m Z.av (l.take (k+1))).2=(Q1C m Z.av (l.take k)).2+(if b=true then 1 else 0)/\∃Z2,WaI Z fr N K M m l a w (k+1) Z2 w':=by
 obtain⟨Z2,ok2,e2,s2,st2⟩:=h;have Bh:l.take (k+1)=l.take k++[x]:=by rw[J3t,hx];rfl
 have MA:l.drop k=x::l.drop (k+1):=by
  obtain⟨Aa,hg⟩:=J1V.1 hx;rw[<- hg];exact J4r Aa
 have Ja:Q1C m Z.av (l.take (k+1))=(Z2.av,(Q1C m Z.av (l.take k)).2+if b=true then 1 else 0):=by
  rw[Bh,weakA_snoc,<- I.av,e2]
 have Mt:=I.wk;rw[MA] at Mt;have Aq:=WeakOk.step (a:=Z1.av) (next:=Z1.F.next) I.ok.fo.n (fun h s y hy=>(I.ok.fpi.rights hy).2) hm Mt;rw[e2] at Aq;exact⟨by rw[Ja],Z2,⟨ok2,by rw[Ja],I.same.trans s2,I.st.trans st2,AsideV.step I.row st2,Aq⟩⟩
theorem Q6r{w:World}{Z:SP}{fr:List Nat}{N K:Nat}{M:Int}(hs:Sep w Z.hl)(ok:Z.Ok fr N K M)(m:Nat)(DP:1<=m)(hm:m<16)(l:List Int)(a:Option Addr)(cap:Nat)(hl:l.length<=70000)(Bc:AsideV Z.hl (l.map encI) a w)(hk:WeakOk m Z.av l) :
  Calls prog 158 #[.pointer (some ⟨Z.s,0,none⟩),.int .i64 m,.slice a l.length cap] w fun r w'=>r=.returned (.int .i64 ((Q1C m Z.av l).2:Nat))/\Q7M Z fr N K M m l w w':=by
 have Ju:Hid (WaI Z fr N K M m l a w 0 Z w):=⟨ok,rfl,SameZ.refl Z,Step.refl hs,Bc,by simpa using hk⟩
 have HM:Hid (1<=m/\m<16):=⟨DP,hm⟩
 have EH:=Q0a hl;have VA:Hid (∀k,(Q1C m Z.av (l.take k)).2<=l.length):=fun k=>J1F (Z0U m _ _) (List.length_take_le' k l)
 have De:Hid (Q1C m Z.av (l.take l.length)=Q1C m Z.av l):=by rw[J5B];exact rfl
 clear hs ok Bc hk DP hm;generalize hn:l.length=n at *
 have HN:=Q0a hn;clear hl hn;go_enter func158,ntmps158;go_wp2_with fail
 go_loopg [7,12] n (fun gk cv iv wr=>∃(k:Nat) (Z1:SP),iv=.int .i64 k/\cv=.int .i64 ((Q1C m Z.av (l.take k)).2:Nat)/\k+gk=n/\WaI Z fr N K M m l a w k Z1 wr)
 case atStart=>exact⟨0,Z,rfl,rfl,by omega,Ju.out⟩
 case round =>
  obtain⟨k,Z1,rfl,rfl,BL,hI⟩:=hrel;have IO:=Q0a BL;have HI:=Q0a hI;by_cases Aa:k<n
  ·obtain⟨x,hx⟩:∃x,l[k]?=some x:=⟨l[k]'(by rw[HN.out];exact Aa),J3O (by rw[HN.out];exact Aa)⟩
   obtain⟨g,rfl,_,_,Kp⟩:=hI.row k (.int .i64 x) (by rw[J3i,hx];rfl);have kw:=Q9Y hI.st.sep hI.ok x m HM.out.1 HM.out.2 (by
    rcases hI.wk with h|h
    ·exact .inl h
    ·refine .inr (h [] x (l.drop (k+1)) ?_);obtain⟨Aa,hg⟩:=J1V.1 hx;rw[<- hg];exact J4r Aa)
   rw[hI.same.s] at kw;have HW:=Q0a kw;have HX:=Q0a hx;have LD:=VA.out k;have Cq:(k:Int)<(n:Int):=by omega
   have B4:(0:Int)<=(k:Int):=by omega
   have CQ:(k:Int)<70000:=by have:=EH.out;omega
   generalize AA:(Q1C m Z.av (l.take k)).2=c at *
   have Dj:(c:Int)<=70000:=by have:=EH.out;omega
   have NC:(0:Int)<=(c:Int):=by omega
   have Ck:=Q0a AA;clear hI BL kw hx LD AA;go_wp2_with fail;refine HW.out.mono ?_;rintro r w1⟨b,rfl,hz⟩;obtain⟨Cg,Z2,QM⟩:=HI.out.next HX.out HM.out.2 hz;have Sq:=Q0a QM;rw[Ck.out] at Cg;have Mb:=Q0a Cg;clear Cg QM hz HW HI;cases b with
   | true =>
    go_wp2_with fail;go_roundg (n-(k+1))
    case measure=>have:=IO.out;omega
    case rel=>exact⟨k+1,Z2,by go_num,by rw[Mb.out];simp,by have:=IO.out;omega,Sq.out⟩
   | false =>
    go_wp2_with fail;go_roundg (n-(k+1))
    case measure=>have:=IO.out;omega
    case rel=>exact⟨k+1,Z2,by go_num,by rw[Mb.out];simp,by have:=IO.out;omega,Sq.out⟩
  ·obtain rfl:k=n:=by have:=IO.out;omega
   have HR:Hid (((Q1C m Z.av (l.take k)).2=(Q1C m Z.av l).2)/\Q7M Z fr N K M m l w wr):=by
    have h1:l.take k=l:=by rw[<- HN.out,J5B]
    have h2:=hI.av;rw[h1] at h2;exact⟨by rw[h1],Z1,hI.ok,h2,hI.same,hI.st⟩
   rw[HR.out.1];clear hI BL;go_wp2_with fail
   (try go_ret);exact⟨rfl,HR.out.2⟩
def Q5R(l:List Pl)(tb:Nat->TB)(x:Nat)(z:Int):Value:=match pget l 1 x with
 | none=>.tuple #[.agg #[.int .u32 0,.int .i64 0],.int .i64 8]
 | some p=>if p.kind=2 then(if 0<=z/\z<256 then(match Q0g l tb x z.toNat with
   | none=>.tuple #[.agg #[.int .u32 0,.int .i64 0],.int .i64 6]
   | some e=>.tuple #[.agg #[.int .u32 (e.h:Int),.int .i64 (e.r:Int)],.int .i64 0]) else .tuple #[.agg #[.int .u32 0,.int .i64 0],.int .i64 2]) else .tuple #[.agg #[.int .u32 0,.int .i64 0],.int .i64 10]
theorem Q8R{w:World}{Z:SP}{fr:List Nat}{N K:Nat}(hs:Sep w Z.hl)(ok:Z.S.Ok fr N K){x:Nat}(hx:x<4294967296)(z e:Int)(he:e≠0)(hw:(pget Z.S.l 1 x=none/\e=8)∨∃p,pget Z.S.l 1 x=some p/\p.kind≠2/\e=10) :
  Calls prog 37 #[.pointer (some ⟨Z.s,0,none⟩),.int .u32 x,.int .i64 z] w (Told w (.tuple #[.agg #[.int .u32 0,.int .i64 0],.int .i64 e])):=by
 have b1:Below w.heap.size w (w.alloc (.cells #[.int .u32 0,.int .i64 0] 72)):=(Below.refl _ _).alloc (J1E _) _;have ks:=Q0J (hs.grown b1).sep ok hx e hw;have HC:Hid (∀w1,Below (w.alloc (.cells #[.int .u32 0,.int .i64 0] 72)).heap.size (w.alloc (.cells #[.int .u32 0,.int .i64 0] 72)) w1->(∀o,Cells (w1.alloc o) w.heap.size 72 [.int .u32 0,.int .i64 0])/\∀o a b,Below w.heap.size w (((w1.alloc o).setCell ⟨w.heap.size,0,none⟩ a).setCell ⟨w.heap.size,1,none⟩ b)):=fun w1 Ar=>by
  have hR:=(Cells.new w 72 [.int .u32 0,.int .i64 0]).same (Ar.block w.heap.size (by simp));exact⟨hR.alloc,fun o a b=>(((Q0b Ar).alloc (Q0b Ar).size o).setCell (J1E _) _).setCell (J1E _) _⟩
 have GY:(e==0)=false:=by simpa using he
 clear hs ok hx hw b1;go_enter func37,ntmps37;go_wp2_with fail;refine ks.mono ?_;rintro r w1⟨rfl,Ar⟩;obtain⟨BI,hz⟩:=HC.out w1 Ar;have Ai:=BI (.cells #[.pointer none,.int .u32 0,.int .i64 0] 191);have HZ:=Q0a hz;have e0:=Ai.cell 0 _ rfl;have e1:=Ai.cell 1 _ rfl;have f0:=Ai.free 0;have f1:=Ai.free 1;have Aa:=Ai.lt;clear Ar hz Ai BI HC ks;go_wp2_with fail;refine bodyPost_ret (v:=.tuple #[.agg #[.int .u32 0,.int .i64 0],.int .i64 e]) (by simp[results,results37,go_sem,e0,e1]) rfl ⟨rfl,HZ.out _ _ _⟩
theorem Z2x{w:World}{Z:SP}{fr:List Nat}{N K:Nat}{M:Int}(hs:Sep w Z.hl)(ok:Z.Ok fr N K M){x:Nat}(hx:x<4294967296){p:Pl}(hp:pget Z.S.l 1 x=some p)(hk:p.kind=2)(z:Int) :
  Calls prog 37 #[.pointer (some ⟨Z.s,0,none⟩),.int .u32 x,.int .i64 z] w (Told w (Q5R Z.S.l Z.tb x z)):=by
 have b1:Below w.heap.size w (w.alloc (.cells #[.int .u32 0,.int .i64 0] 72)):=(Below.refl _ _).alloc (J1E _) _;have s1:=(hs.grown b1).sep;have ks:=Q0W s1 ok.core hx hp hk;have hi:=(pget_some.1 hp).1;have Aq:=(pget_some.1 hp).2.2;have AW:(Z.tb (x%256)).at' z=if 0<=z/\z<256 then Q0g Z.S.l Z.tb x z.toNat else none:=by
  unfold TB.at';split
  ·rename_i h;rw[Q0h hp hk (by omega)]
  ·rfl
 have HC:Hid (∀(w2:World) (g:Nat),Below (w.alloc (.cells #[.int .u32 0,.int .i64 0] 72)).heap.size (w.alloc (.cells #[.int .u32 0,.int .i64 0] 72)) w2->TblZ Z p g w2 ->
   Cells (w2.alloc (.cells #[.pointer (some ⟨g,0,none⟩),.int .u32 x,.int .i64 (p.fac:Int)] 191)) w.heap.size 72 [.int .u32 0,.int .i64 0]/\(∀a b,Below w.heap.size w (((w2.alloc (.cells #[.pointer (some ⟨g,0,none⟩),.int .u32 x,.int .i64 (p.fac:Int)] 191)).setCell ⟨w.heap.size,0,none⟩ a).setCell ⟨w.heap.size,1,none⟩ b)) /\
   Calls prog 93 #[.agg #[.pointer (some ⟨g,0,none⟩),.int .u32 x,.int .i64 (p.fac:Int)],.int .i64 z] (w2.alloc (.cells #[.pointer (some ⟨g,0,none⟩),.int .u32 x,.int .i64 (p.fac:Int)] 191)) (fun r w4=>r=.returned (capV ((Z.tb (x%256)).at' z)) /\
    (∀o,Cells (w4.alloc o) w.heap.size 72 [.int .u32 0,.int .i64 0])/\∀o a b,Below w.heap.size w (((w4.alloc o).setCell ⟨w.heap.size,0,none⟩ a).setCell ⟨w.heap.size,1,none⟩ b))):=fun w2 g Ae hg=>by
  have hR:=(Cells.new w 72 [.int .u32 0,.int .i64 0]).same (Ae.block w.heap.size (by simp));have Db:Below w.heap.size w w2:=Q0b Ae;have An:Below w2.heap.size w2 (w2.alloc (.cells #[.pointer (some ⟨g,0,none⟩),.int .u32 x,.int .i64 (p.fac:Int)] 191)):=(Below.refl _ _).alloc (J1E _) _;have AX:=Db.alloc Db.size (.cells #[.pointer (some ⟨g,0,none⟩),.int .u32 x,.int .i64 (p.fac:Int)] 191);have s2:=(hs.grown Db).sep;have s3:=(s2.grown An).sep;have T:=(ok.tpi.x (p.fac:Int)).tt ok.core hi Aq hk (SP.sS s3) (hg.grown s2 An).c;refine⟨hR.alloc _,fun a b=>(AX.setCell (J1E _) _).setCell (J1E _) _,(Q1s T (x:Int) (p.fac:Int) z fun e he=>?_).mono ?_⟩
  ·rw[AW] at he;split at he
   ·exact ok.fpi.low ok.core.inv.lok he
   ·cases he
  ·rintro r w4⟨rfl,A2⟩;have Tc:=(hR.alloc _).same (A2.block w.heap.size (hR.alloc _).lt);have Ea:Below w.heap.size w w4:=AX.trans (A2.mono AX.size);exact⟨rfl,Tc.alloc,fun o a b=>((Ea.alloc Ea.size o).setCell (J1E _) _).setCell (J1E _) _⟩
 have hv:Q5R Z.S.l Z.tb x z=if 0<=z/\z<256 then(match (Z.tb (x%256)).at' z with
   | none=>.tuple #[.agg #[.int .u32 0,.int .i64 0],.int .i64 6]
   | some e=>.tuple #[.agg #[.int .u32 (e.h:Int),.int .i64 (e.r:Int)],.int .i64 0]) else .tuple #[.agg #[.int .u32 0,.int .i64 0],.int .i64 2]:=by
  unfold Q5R;rw[hp];simp only;rw[if_pos hk,AW];by_cases h:0<=z/\z<256
  ·simp only[if_pos h]
  ·simp only[if_neg h]
 rw[hv];have AT:Hid (∀w,Calls prog 92 #[.int .i64 z] w fun r w'=>r=.returned (.bool (decide (0<=z/\z<256)))/\w=w'):=fun w=>Q2s w z
 clear hs ok hx hp hk hi Aq AW hv b1 s1;by_cases hz:0<=z/\z<256
 ·rw[if_pos hz];rw[decide_eq_true hz] at AT;cases ho:(Z.tb (x%256)).at' z with
  | none =>
   rw[ho] at HC;simp only[capV] at HC;simp only;clear ho hz;go_enter func37,ntmps37;go_wp2_with fail;refine ks.mono ?_;rintro r w2⟨g,rfl,Ae,hg⟩;obtain⟨-,-,kc⟩:=HC.out w2 g Ae hg;have hh:=AT.out (w2.alloc (.cells #[.pointer (some ⟨g,0,none⟩),.int .u32 x,.int .i64 (p.fac:Int)] 191));clear Ae hg HC ks;go_wp2_with fail;refine hh.mono ?_;rintro r w3⟨rfl,rfl⟩;go_wp2_with fail;refine kc.mono ?_;rintro r w4⟨rfl,BI,hz⟩;have Ai:=BI (.cells #[.int .u32 0,.int .i64 0] 72);have HZ:=Q0a hz;have e0:=Ai.cell 0 _ rfl;have e1:=Ai.cell 1 _ rfl;have f0:=Ai.free 0;have f1:=Ai.free 1;have Aa:=Ai.lt
   clear hz Ai BI kc hh AT;go_wp2_with fail;refine bodyPost_ret (v:=.tuple #[.agg #[.int .u32 0,.int .i64 0],.int .i64 6]) (by simp[results,results37,go_sem,e0,e1]) rfl ⟨rfl,HZ.out _ _ _⟩
  | some e =>
   rw[ho] at HC;simp only[capV] at HC;simp only;clear ho hz;generalize (e.h:Int)=eh at *
   generalize (e.r:Int)=er at *
   go_enter func37,ntmps37;go_wp2_with fail;refine ks.mono ?_;rintro r w2⟨g,rfl,Ae,hg⟩;obtain⟨-,-,kc⟩:=HC.out w2 g Ae hg;have hh:=AT.out (w2.alloc (.cells #[.pointer (some ⟨g,0,none⟩),.int .u32 x,.int .i64 (p.fac:Int)] 191));clear Ae hg HC ks;go_wp2_with fail;refine hh.mono ?_;rintro r w3⟨rfl,rfl⟩;go_wp2_with fail;refine kc.mono ?_;rintro r w4⟨rfl,BI,hz⟩;have Ai:=BI (.cells #[.int .u32 eh,.int .i64 er] 72);have HZ:=Q0a hz;have e0:=Ai.cell 0 _ rfl;have e1:=Ai.cell 1 _ rfl;have f0:=Ai.free 0;have f1:=Ai.free 1;have Aa:=Ai.lt;clear hz Ai BI kc hh AT;go_wp2_with fail
   refine bodyPost_ret (v:=.tuple #[.agg #[.int .u32 eh,.int .i64 er],.int .i64 0]) (by simp[results,results37,go_sem,e0,e1]) rfl ⟨rfl,HZ.out _ _ _⟩
 ·rw[if_neg hz];rw[decide_eq_false hz] at AT;clear hz;go_enter func37,ntmps37;go_wp2_with fail;refine ks.mono ?_;rintro r w2⟨g,rfl,Ae,hg⟩;obtain⟨Ai,hz,-⟩:=HC.out w2 g Ae hg;have hh:=AT.out (w2.alloc (.cells #[.pointer (some ⟨g,0,none⟩),.int .u32 x,.int .i64 (p.fac:Int)] 191));have HZ:=Q0a hz;have e0:=Ai.cell 0 _ rfl;have e1:=Ai.cell 1 _ rfl;have f0:=Ai.free 0;have f1:=Ai.free 1;have Aa:=Ai.lt;clear Ae hg HC ks hz Ai AT;go_wp2_with fail;refine hh.mono ?_;rintro r w3⟨rfl,rfl⟩;go_wp2_with fail;refine bodyPost_ret (v:=.tuple #[.agg #[.int .u32 0,.int .i64 0],.int .i64 2]) (by simp[results,results37,go_sem,e0,e1]) rfl ⟨rfl,HZ.out _ _⟩
theorem Q5S{w:World}{Z:SP}{fr:List Nat}{N K:Nat}{M:Int}(hs:Sep w Z.hl)(ok:Z.Ok fr N K M){x:Nat}(hx:x<4294967296)(z:Int) :
  Calls prog 37 #[.pointer (some ⟨Z.s,0,none⟩),.int .u32 x,.int .i64 z] w (Told w (Q5R Z.S.l Z.tb x z)):=by
 cases hp:pget Z.S.l 1 x with
 | none =>
  have:=Q8R hs ok.core hx z 8 (by decide) (.inl ⟨hp,rfl⟩);unfold Q5R;rw[hp];exact this
 | some p =>
  by_cases hk:p.kind=2
  ·exact Z2x hs ok hx hp hk z
  ·have:=Q8R hs ok.core hx z 10 (by decide) (.inr ⟨p,hp,hk,rfl⟩);unfold Q5R;rw[hp];simp only[if_neg hk];exact this
theorem Q1y{w:World}{Z:SP}(hs:Sep w Z.hl):Calls prog 26 #[.pointer (some ⟨Z.s,0,none⟩)] w fun r w'=>r=.returned (.pointer (some ⟨Z.S.c,0,none⟩))/\w=w':=by
 have c0:=SP.c0 hs;clear hs;go_enter func26,ntmps26
 go_wp2
 go_ret;exact⟨rfl,rfl⟩
theorem Z1b{w':World}{B:Nat}{T:TypeId}{size n:Nat}{v:Value}{cs:List Value}(h:w'.ownsRow B T size v n cs):∃(a:Option Addr) (cap:Nat),v=.slice a n cap/\∀(j:Nat) (u:Value),cs[j]?=some u->∃g,a=some ⟨g,0,none⟩/\B<=g/\g<w'.heap.size/\w'.cell? ⟨g,j,none⟩=some u:=by
 obtain⟨hl,h2⟩:=h;rcases h2 with ⟨rfl,h0⟩|⟨g,cap,Ao,rfl,hg,Em,hn,hm,Be,Bh⟩
 ·refine⟨none,0,by rw[h0],fun j u hj=>?_⟩;have LO:cs.length=0:=by rw[hl,h0,J5l]
  rw[J3w.1 LO] at hj;simp at hj
 ·refine⟨some ⟨g,0,none⟩,cap,rfl,fun j u hj=>⟨g,rfl,hg,lt_of_block Em,?_⟩⟩;have FQ:=(J1V.1 hj).1;have e:Ao.toList[j]?=some u:=by
   rw[<- Bh] at hj;have hk:j<n*size:=by omega
   rwa [J3A,if_pos hk] at hj
  unfold World.cell?;simp only[Em]
  simpa using e
open Go.Sort (Holds putRow holds_putRow holds_ahead putRow_self reverseLoop swp size_swp)
theorem Q8S(blk cap:Nat)(d:Array Int)(w:World)(hH:Holds encI w blk 0 d)(Be:d.size<=65536) :
  Calls prog 205 #[.slice (some ⟨blk,0,none⟩) d.size cap] w fun e w'=>e=.returned (.tuple #[])/\∃n,w'=putRow encI (Go.Sort.ahead w n) blk 0 d.reverse:=by
 go_enter func205,ntmps205;go_wp2_with fail
 go_loopg [2,3] d.size (fun k s2 s3 wr=>∃(i jn:Nat) (jz:Int) (dk:Array Int) (n:Nat),s2=.int .i64 i/\s3=.int .i64 jz/\((i:Int)<jz->jz=jn/\jn<d.size)/\(¬(i:Int)<jz->¬i<jn)/\jn-i<=k /\
  dk.size=d.size/\wr=putRow encI (Go.Sort.ahead w n) blk 0 dk/\reverseLoop i jn dk=reverseLoop 0 (d.size-1) d)
 case atStart=>exact⟨0,d.size-1,(d.size:Int)-1,d,0,rfl,rfl,fun h=>⟨by omega,by omega⟩,fun h=>by omega,by omega,rfl,(putRow_self encI w blk 0 d hH).symm,rfl⟩
 case round =>
  obtain⟨i,jn,jz,dk,n,rfl,rfl,h1,h2,hk,I9,FJ,IZ⟩:=hrel;by_cases Aa:(i:Int)<jz
  ·obtain⟨rfl,Ol⟩:=h1 Aa;have DE:i<jn:=by omega
   have Pq:Holds encI wr blk 0 dk:=by rw[FJ];exact holds_putRow encI _ blk 0 d dk (holds_ahead encI w n blk 0 d hH) I9
   obtain⟨ci,fi⟩:=Pq i (by omega);obtain⟨cj,fj⟩:=Pq jn (by omega);have A:Go.Aside (wr=putRow encI (Go.Sort.ahead w n) blk 0 dk):=FJ;have SW:Hid (((wr.setCell ⟨blk,i,none⟩ (.int .i64 dk[jn]!)).setCell ⟨blk,jn,none⟩ (.int .i64 dk[i]!)).drew=putRow encI (Go.Sort.ahead w (n+1)) blk 0 (swp dk i jn)):=by
    have:=swap_world encI (off:=0) (i:=i) (j:=jn) (by omega) (by omega) FJ rfl rfl;rw[J4b,J4b] at this;exact this
   clear FJ Pq hH h1 h2;go_wp2_with fail;rw[J4b] at ci fi cj fj;unfold encI at ci cj;go_region
   all_goals
    go_wp2_with fail;go_roundg (jn-1-(i+1))
    case measure=>omega
    case rel =>
     rw[reverseLoop,if_pos DE] at IZ;exact⟨i+1,jn-1,(jn:Int)-1,swp dk i jn,n+1,by go_num,by go_num,fun h=>⟨by omega,by omega⟩,fun h=>by omega,J1E _,by rw[size_swp];exact I9,
      (by have ON:=SW.out;first|exact ON|(simp only[getElem!_pos dk jn (by omega)] at ON;exact ON)),IZ⟩
  ·have EM:=h2 Aa;go_wp2_with fail
   first|go_end0|skip
   refine⟨rfl,n,?_⟩;rw[reverseLoop,if_neg EM] at IZ;rw[<- Go.Lib.reverseLoop_reverse,<- IZ]
end Go.Proofs.YtfidemmgofcnmaaGreatDoor
namespace Go.Proofs.YtfidemmgofcnmaaGreatDoor
open Go.RowKit Go.Proofs.Tryz
theorem OutI.parts{w wr:World}{g n cap:Nat}{L:List Int}(h:OutI w wr (.slice (some ⟨g,0,none⟩) n cap) L):∃Ao,n=L.length/\w.heap.size<=g/\wr.heap[g]?=some (.cells Ao 3 (0,0))/\L.length<=cap/\cap<=maxLen/\Ao.size=cap/\Ao.toList.take L.length=(L.map encI):=by
 rcases h.1.2 with ⟨h',_⟩|⟨g',CG,Ao,h',a1,a2,a3,a4,a5,a6⟩
 ·simp at h'
 ·simp only[Value.slice.injEq,J1S,Addr.mk.injEq,and_true] at h';obtain⟨rfl,rfl,rfl⟩:=h';exact⟨Ao,rfl,a1,a2,a3,a4,by simpa using a5,by simpa using a6⟩
theorem OutI.cellAt{w wr:World}{g n cap:Nat}{L:List Int}(h:OutI w wr (.slice (some ⟨g,0,none⟩) n cap) L){j:Nat}{x:Int}(hj:L[j]?=some x):wr.cell? ⟨g,j,none⟩=some (.int .i64 x)/\w.heap.size<=g/\g<wr.heap.size:=by
 obtain⟨Ao,_,a1,a2,_,_,_,a6⟩:=h.parts;refine⟨?_,a1,lt_of_block a2⟩;have hv:(L.map encI)[j]?=some (.int .i64 x):=by rw[J3i,hj];rfl
 rw[<- a6,J3A] at hv;split at hv
 ·simp only[World.cell?,a2,J4A,J5n,if_false];rw[<- J3X];exact hv
 ·cases hv
theorem OutI.cut{w wr:World}{g n cap:Nat}{x:Int}{L:List Int}(h:OutI w wr (.slice (some ⟨g,0,none⟩) n cap) (L++[x])):OutI w wr (.slice (some ⟨g,0,none⟩) L.length cap) L:=by
 obtain⟨Ao,_,a1,a2,a3,a4,a5,a6⟩:=h.parts;have hl:L.length+1<=cap:=by simpa using a3
 refine⟨⟨by simp[List.length_map],.inr ⟨g,cap,Ao,rfl,a1,a2,by omega,a4,by simpa using a5,?_⟩⟩,h.2⟩;have:=congrArg (List.take L.length) a6;rw[J3S,J2j,J4Z,show min L.length (L.length+[x].length)=L.length by simp] at this;rw[J2D,this];have e:(L.map encI).length=L.length:=J3g _;rw[<- e,J3V]
theorem Z2y{w wr:World}{g n cap:Nat}{L:List Int}(h:OutI w wr (.slice (some ⟨g,0,none⟩) n cap) L):Go.Sort.Holds encI wr g 0 L.toArray:=by
 obtain⟨Ao,_,a1,a2,_,_,_,a6⟩:=h.parts;intro j hj;have BN:j<L.length:=by simpa using hj
 have hx:=J3O BN;refine⟨?_,by simp[World.frozen?,a2]⟩;have:=(h.cellAt hx).1;rw[J4b,this,getElem!_pos _ j hj];simp[encI]
theorem Q6s(Ao:Array Value)(F:Array Int)(h:F.size<=Ao.size):(Go.Sort.putCells encI 0 F Ao).toList.take F.size=F.toList.map encI:=by
 apply J3f
 intro j;by_cases hj:j<F.size
 ·rw[List.getElem?_take_of_lt hj,J3X];simp[Go.Sort.putCells,hj,show j<Ao.size by omega]
 ·rw[List.getElem?_take_eq_none (by omega),J3m (by simp;omega)]
theorem Z5r{w:World}{g n:Nat}{Ao:Array Value}{e:TypeId}(d:Array Int)(hb:w.heap[g]?=some (.cells Ao e (0,0))) :
  (Go.Sort.putRow encI (Go.Sort.ahead w n) g 0 d).heap[g]?=some (.cells (Go.Sort.putCells encI 0 d Ao) e (0,0)):=by
 have hg:g<w.heap.size:=(Array.getElem?_eq_some_iff.1 hb).1;simp[Go.Sort.putRow,Go.Sort.mapBlock,Go.Sort.ahead,Array.getElem?_modify,hb,Go.Sort.onCells]
theorem Z2z{w:World}{g n:Nat}(d:Array Int):w.grownBy (Go.Sort.putRow encI (Go.Sort.ahead w n) g 0 d) (some g):=by
 refine⟨rfl,rfl,rfl,by simp[Go.Sort.putRow,Go.Sort.mapBlock,Go.Sort.ahead],fun k hk Ac=>?_⟩;have:g≠k:=fun e=>Ac (by rw[e])
 simp[Go.Sort.putRow,Go.Sort.mapBlock,Go.Sort.ahead,Array.getElem?_modify,this]
theorem OutI.reversed{w wr:World}{g n cap k:Nat}{L:List Int}(h:OutI w wr (.slice (some ⟨g,0,none⟩) n cap) L):OutI w (Go.Sort.putRow encI (Go.Sort.ahead wr k) g 0 L.toArray.reverse) (.slice (some ⟨g,0,none⟩) n cap) L.reverse:=by
 obtain⟨Ao,rfl,a1,a2,a3,a4,a5,a6⟩:=h.parts;have DF:=Z2z (w:=wr) (g:=g) (n:=k) L.toArray.reverse;have Be:L.toArray.reverse.size=L.length:=by simp
 refine⟨⟨by simp[List.length_map],.inr ⟨g,cap,_,by rw[List.length_reverse],a1,Z5r _ a2,by simpa using a3,a4,by simp[Go.Sort.putCells,a5],?_⟩⟩,h.2.trans ((Below.refl _ wr).mono h.2.size |>.grown DF h.2.size (fun b hb=>by cases hb;exact a1))⟩;have e:L.reverse.length*1=L.toArray.reverse.size:=by simp
 rw[e,Q6s _ _ (by rw[Be,a5];exact a3)];simp
theorem OutI.alloc{w wr:World}{v:Value}{L:List Int}(h:OutI w wr v L)(o:Obj):OutI w (wr.alloc o) v L:=⟨h.1.alloc _,h.2.alloc h.2.size _⟩
theorem OutI.app0{w wr w1:World}{v v':Value}{L M:List Int}(h:OutI w wr v L)(Al:w1.ownsRow w.heap.size 3 1 v' (L.length+M.length) (L.map encI++M.map encI))(hg:wr.grownBy w1 v.ownBlock):OutI w w1 v' (L++M):=
 ⟨by rw[J2j,J4Z];exact Al,h.2.trans ((Below.refl _ wr).mono h.2.size |>.grown hg h.2.size (fun b hb=>(h.1.lt b hb).1))⟩
def TwoI(w wr:World)(v:Value)(L:List Int)(u:Value)(M:List Int):Prop:=OutI w wr v L/\OutI w wr u M/\∀b,v.ownBlock=some b->u.ownBlock≠some b
theorem TwoI.swap{w wr:World}{v u:Value}{L M:List Int}(h:TwoI w wr v L u M):TwoI w wr u M v L:=⟨h.2.1,h.1,fun b h1 h2=>h.2.2 b h2 h1⟩
theorem TwoI.below{w wr w1:World}{v u:Value}{L M:List Int}(h:TwoI w wr v L u M)(hb:Below wr.heap.size wr w1):TwoI w w1 v L u M:=⟨h.1.below hb,h.2.1.below hb,h.2.2⟩
theorem TwoI.alloc{w wr:World}{v u:Value}{L M:List Int}(h:TwoI w wr v L u M)(o:Obj):TwoI w (wr.alloc o) v L u M:=⟨h.1.alloc o,h.2.1.alloc o,h.2.2⟩
theorem TwoI.cut{w wr:World}{g n cap:Nat}{x:Int}{u:Value}{L M:List Int}(h:TwoI w wr (.slice (some ⟨g,0,none⟩) n cap) (L++[x]) u M):TwoI w wr (.slice (some ⟨g,0,none⟩) L.length cap) L u M:=⟨h.1.cut,h.2.1,h.2.2⟩
theorem TwoI.app{w wr w1:World}{v v' u:Value}{L M X:List Int}(h:TwoI w wr v L u M)(Al:w1.ownsRow w.heap.size 3 1 v' (L.length+X.length) (L.map encI++X.map encI))(hg:wr.grownBy w1 v.ownBlock)(AW:v'.ownBlock=v.ownBlock∨v'.ownBlock=some wr.heap.size):TwoI w w1 v' (L++X) u M:=by
 obtain⟨h1,h2,h3⟩:=h;have hb:Below w.heap.size w w1:=h1.2.trans ((Below.refl _ wr).mono h1.2.size |>.grown hg h1.2.size (fun b hb=>(h1.1.lt b hb).1));refine⟨h1.app0 Al hg,⟨h2.1.kept hg ?_,hb⟩,fun b e1 e2=>?_⟩
 ·cases hv:v.ownBlock with
  | none=>cases hu:u.ownBlock with
   | none=>exact .inl rfl
   | some c=>exact .inr (by simp)
  | some b=>exact .inr (fun e=>h3 b hv e)
 ·rcases AW with e|e
  ·exact h3 b (e ▸ e1) e2
  ·rw[e] at e1;cases e1;exact absurd (h2.1.lt _ e2).2 (by omega)
theorem Z1c{w:World}{B:Nat}{v:Value}{L M:List Int}{rv:RV}{ty:TypeId}(h:w.ownsRow B 3 1 v L.length (L.map encI))(hM:∀g cap,rv=some (g,cap)->∀(j:Nat) (x:Int),M[j]?=some x->w.cell? ⟨g,j,none⟩=some (.int .i64 x))(AC:rvOk rv M.length)(hn:L.length+M.length<=16777216)(hB:B<=w.heap.size) :
  ∃v' w',(Builtin.append_ #[38,38] ty #[v,lvOf rv M.length]).run prog w=.ok v' w'/\w'.ownsRow B 3 1 v' (L.length+M.length) (L.map encI++M.map encI)/\w.grownBy w' v.ownBlock/\(v'.ownBlock=v.ownBlock∨v'.ownBlock=some w.heap.size):=by
 obtain⟨i0,IA,BJ,AZ,Bd⟩:=info_parts Q9Q;cases rv with
 | none =>
  have SR:M=[]:=J3N AC;subst SR;exact⟨v,w,run_append_owned_none w B 38 ty 3 i0 1 underlying38 IA v _ _ h,by simpa using h,⟨rfl,rfl,rfl,J1E _,fun _ _ _=>rfl⟩,.inl rfl⟩
 | some p =>
  obtain⟨g,cap⟩:=p;obtain⟨v',w',e1,e2,e3,_,e5⟩:=run_append_own_at (P:=prog) w B 38 ty 3 i0 (.int .i64 0) 1 8 underlying38 IA BJ AZ Bd rfl (by decide) v _ _ h ⟨g,0,none⟩ M.length cap (M.map encI) (by simp) (fun j u hj=>by
   rw[J3i] at hj;obtain⟨x,hx,rfl⟩:=J5q.1 hj;have:=hM g cap rfl j x hx;have e:(⟨g,0,none⟩:Addr).add j=⟨g,j,none⟩:=by unfold Addr.add;split <;> simp_all
   rw[e];exact this) (fun u hu=>by
    obtain⟨x,_,rfl⟩:=J1K.1 hu;rfl) (by unfold maxLen;omega) (by omega) hB
  exact⟨v',w',e1,e2,e3,e5⟩
theorem Q9Z{w wr:World}{q:FO}(h:Sep w q.hl)(ok:q.Ok){x:Int}{e:En Nd}(hf:find q.N x=some e){g n cap:Nat}{u:Value}{ws M:List Int}(T:TwoI w wr (.slice (some ⟨g,0,none⟩) n cap) (ws++[x]) u M)(Gg:ws.length<=65536)(hM:M.length<=65536) :
  ∃v1 w1 v2 w2,(Builtin.append_ #[38,38] 38 #[.slice (some ⟨g,0,none⟩) ws.length cap,lvOf (q.kr x) e.q.ks.length]).run prog wr.drew=.ok v1 w1 /\
   (Builtin.append_ #[38,38] 38 #[u,.slice (some ⟨w1.heap.size,0,none⟩) 1 1]).run prog (w1.alloc (.cells #[.int .i64 x] 3))=.ok v2 w2/\TwoI w w2 v1 (ws++e.q.ks) v2 (M++[x]):=by
 obtain⟨BO,EZ⟩:=Q0d hf;have Cm:=ok.n.kids_few BO;have Gl:=ok.few;have AC:=ok.rv e BO;rw[EZ] at AC;have T1:TwoI w wr.drew (.slice (some ⟨g,0,none⟩) ws.length cap) ws u M:=T.cut.below ((Below.refl _ _).drew);have hs:Sep wr.drew q.hl:=(h.grown T1.1.2).sep;obtain⟨R,p1,_⟩:=FO.split ok.n.ids hf;have Bc:Sep wr.drew (rowH (q.kr x) 3 1 (e.q.ks.map encI)):=(hs.perm p1).left.tail;obtain⟨v1,w1,r1,o1,g1,b1⟩:=Z1c (rv:=q.kr x) (M:=e.q.ks) (ty:=38) T1.1.1 (fun g' CG hr j y hj=>by
  rw[hr] at Bc;exact Q0x Bc j _ (by rw[J3i,hj];rfl)) AC (by omega) T1.1.2.size
 have T2:=T1.app o1 g1 b1;have T3:=T2.swap.alloc (.cells #[.int .i64 x] 3);have cn:=Cells.new w1 3 [.int .i64 x];obtain⟨v2,w2,r2,o2,g2,b2⟩:=Z1c (rv:=some (w1.heap.size,1)) (M:=[x]) (ty:=38) T3.1.1 (fun g' CG hr j y hj=>by
  cases hr
  exact cn.cell j _ (by
   cases j with
   | zero=>simp at hj;subst hj;rfl
   | succ j=>simp at hj)) ⟨J1E _,by unfold maxLen;omega⟩ (by simp;omega) T3.1.2.size
 exact⟨v1,w1,v2,w2,r1,r2,(T3.app o2 g2 b2).swap⟩
theorem OutI.shape{w wr:World}{v:Value}{L:List Int}(h:OutI w wr v L):∃(a:Option Addr) (cap:Nat),v=.slice a L.length cap:=by
 rcases h.1.2 with ⟨rfl,h0⟩|⟨g,cap,Ao,rfl,_⟩
 ·exact⟨none,0,by rw[h0]⟩
 ·exact⟨_,cap,rfl⟩
theorem OutI.shape1{w wr:World}{v:Value}{L:List Int}(h:OutI w wr v L)(hl:L≠[]):∃(g cap:Nat),v=.slice (some ⟨g,0,none⟩) L.length cap:=by
 rcases h.1.2 with ⟨rfl,h0⟩|⟨g,cap,Ao,rfl,_⟩
 ·exact absurd (J3N h0) hl
 ·exact⟨g,cap,rfl⟩
theorem TwoI.startI(w:World)(x:Int):TwoI w (w.alloc (.cells #[.int .i64 x] 3)) (.slice (some ⟨w.heap.size,0,none⟩) 1 1) [x] (.slice none 0 0) []:=by
 have hb:Below w.heap.size w (w.alloc (.cells #[.int .i64 x] 3)):=(Below.refl _ _).alloc (J1E _) _;refine⟨⟨?_,hb⟩,(OutI.nil w).below hb,fun b _=>by simp[Value.ownBlock]⟩;refine⟨by simp,.inr ⟨w.heap.size,1,#[.int .i64 x],rfl,J1E _,Cells.new w 3 [.int .i64 x],J1E _,by unfold maxLen;omega,by simp,by simp⟩⟩
structure BelI(q:FO)(id:Int)(ws M:List Int):Prop where
 eq:M++Q8D (kdF q.N) (rkF q.next) ws=preT (kdF q.N) (rkF q.next) id
 nodes:∀y∈ws,∃e,find q.N y=some e
theorem Z2A{q:FO}(ok:q.Ok){id y:Int}{e:En Nd}(hf:find q.N id=some e)(hy:y∈preT (kdF q.N) (rkF q.next) id):∃e',find q.N y=some e':=by
 have hd:=(Z0T ok.n.tree).1 hy;rcases hd.last with rfl|⟨z,_,hz⟩
 ·exact⟨e,hf⟩
 ·unfold kdF at hz;cases Ki:find q.N z with
  | none=>rw[Ki] at hz;cases hz
  | some p =>
   rw[Ki] at hz;obtain⟨p1,_⟩:=Q0d Ki;obtain⟨k,hk,_⟩:=ok.n.kids p p1 y hz;exact⟨k,hk⟩
theorem Z1d{q:FO}(ok:q.Ok){id:Int}{e:En Nd}(hf:find q.N id=some e):(preT (kdF q.N) (rkF q.next) id).length<=65536:=by
 have AO:(preT (kdF q.N) (rkF q.next) id).Nodup:=(Q5E ok.n.tree id).imp fun h=>h.1
 have:=J5G AO (l₂:=q.N.map En.id) (fun y hy=>by
  obtain⟨k,hk⟩:=Z2A ok hf hy;obtain⟨k1,k2⟩:=Q0d hk;exact J1K.2 ⟨k,k1,k2⟩)
 rw[J3g] at this;have:=ok.few;omega
theorem BelI.start{q:FO}{id:Int}{e:En Nd}(hf:find q.N id=some e):BelI q id [id] []:=⟨by simp[Q8D],fun y hy=>by
 rw[J3E] at hy;subst hy;exact⟨e,hf⟩⟩
theorem BelI.step{q:FO}(ok:q.Ok){id x:Int}{e:En Nd}{ws M:List Int}(b:BelI q id (ws++[x]) M)(hf:find q.N x=some e):BelI q id (ws++e.q.ks) (M++[x]):=by
 have hk:kdF q.N x=e.q.ks:=by unfold kdF;rw[hf]
 refine⟨?_,fun y hy=>?_⟩
 ·rw[<- b.eq,Z2i ok.n.tree,hk];simp
 ·rcases J2m.1 hy with hy|hy
  ·exact b.nodes y (by simp[hy])
  ·obtain⟨e1,_⟩:=Q0d hf;obtain⟨k,hk,_⟩:=ok.n.kids e e1 y hy;exact⟨k,hk⟩
theorem BelI.len{q:FO}(ok:q.Ok){id:Int}{e:En Nd}(hf:find q.N id=some e){ws M:List Int}(b:BelI q id ws M):ws.length<=65536/\M.length<=65536/\M.length<=(preT (kdF q.N) (rkF q.next) id).length:=by
 have h1:=Z1d ok hf;have h2:=Z4Q (kdF q.N) (rkF q.next) ok.n.tree ws;rw[<- b.eq,J2j] at h1 ⊢;omega
theorem BelI.done{q:FO}(ok:q.Ok){id:Int}{M:List Int}(b:BelI q id [] M):M.reverse=Q0Q (kdF q.N) (rkF q.next) id++[id]:=by
 have h:=b.eq;have h0:Q8D (kdF q.N) (rkF q.next) []=[]:=rfl;rw[h0,J3D,Q3c ok.n.tree] at h;rw[h];simp
def slen:Value->Nat
 | .slice _ n _=>n
 | _=>0
theorem Q8T{w wr:World}{q:FO}(h:Sep w q.hl)(ok:q.Ok){id x:Int}{e:En Nd}(hf:find q.N id=some e){g n cap:Nat}{u:Value}{ws M:List Int}(T:TwoI w wr (.slice (some ⟨g,0,none⟩) n cap) (ws++[x]) u M)(B:BelI q id (ws++[x]) M) :
  n=ws.length+1/\ws.length+1<=cap/\ws.length+1<=65536/\cap<=maxLen/\wr.cell? ⟨g,ws.length,none⟩=some (.int .i64 x)/\∃(xb:Nat) (a0:Option Addr) (n0 c0:Nat),
   (wr.cell? ⟨q.f,0,none⟩=some (.map (some q.m))/\(Instr.lookup 280 (.map (some q.m)) (.int .i64 x) false).run prog wr=.ok (.pointer (some ⟨xb,0,none⟩)) wr/\wr.cell? ⟨xb,3,none⟩=some (.slice a0 n0 c0)) /\
   (wr.drew.cell? ⟨q.f,0,none⟩=some (.map (some q.m))/\(Instr.lookup 280 (.map (some q.m)) (.int .i64 x) false).run prog wr.drew=.ok (.pointer (some ⟨xb,0,none⟩)) wr.drew/\wr.drew.cell? ⟨xb,3,none⟩=some (.slice a0 n0 c0)) /\
   ∃(a1:Option Addr) (n1 c1:Nat) (w1:World) (v2:Value) (w2:World),(Builtin.append_ #[38,38] 38 #[.slice (some ⟨g,0,none⟩) ws.length cap,.slice a0 n0 c0]).run prog wr.drew=.ok (.slice a1 n1 c1) w1 /\
    (Builtin.append_ #[38,38] 38 #[u,.slice (some ⟨w1.heap.size,0,none⟩) 1 1]).run prog (w1.alloc (.cells #[.int .i64 x] 3))=.ok v2 w2 /\
    ∃ws',TwoI w w2 (.slice a1 n1 c1) ws' v2 (M++[x])/\BelI q id ws' (M++[x])/\slen v2=slen u+1/\slen u+1<=(preT (kdF q.N) (rkF q.next) id).length:=by
 obtain⟨Ao,hn,_,_,AS,Lp,_⟩:=T.1.parts;obtain⟨l1,l2,_⟩:=B.len ok hf;obtain⟨ex,FM⟩:=B.nodes x (by simp);rw[J2j,J5u] at hn AS l1;obtain⟨v1,w1,v2,w2,r1,r2,Hv⟩:=Q9Z h ok FM T (by omega) l2;have B2:=B.step ok FM;obtain⟨_,_,l3⟩:=B2.len ok hf;obtain⟨a1,c1,rfl⟩:=Hv.1.shape;obtain⟨a2,c2,KG⟩:=Hv.2.1.shape;obtain⟨au,cu,hu⟩:=T.2.1.shape;have hs:Sep wr q.hl:=(h.grown T.1.2).sep;have k3:=(FO.nd0 hs FM).2.2.2;have Kr:=(FO.nd0 hs.drew FM).2.2.2;have PB:=(Q0d FM).2;rw[PB] at k3 Kr;obtain⟨a0,n0,c0,TH⟩:∃a n c,lvOf (q.kr x) ex.q.ks.length=.slice a n c:=by
  cases q.kr x with
  | none=>exact⟨_,_,_,rfl⟩
  | some p=>exact⟨_,_,_,rfl⟩
 rw[TH] at k3 Kr r1;refine⟨hn,AS,by omega,Lp,(T.1.cellAt (j:=ws.length) (x:=x) (by simp)).1,ex.b,a0,n0,c0,⟨FO.c0 hs,FO.look_some hs FM,k3⟩,⟨FO.c0 hs.drew,FO.look_some hs.drew FM,Kr⟩,a1,_,c1,w1,v2,w2,r1,r2,ws++ex.q.ks,Hv,B2,?_,?_⟩
 ·rw[KG,hu];simp[slen]
 ·rw[hu];rw[J2j,J5u] at l3;exact l3
theorem Z0a{w:World}{q:FO}(h:Sep w q.hl)(ok:q.Ok){id:Int}{e:En Nd}(hf:find q.N id=some e) :
  Calls prog 157 #[.pointer (some ⟨q.f,0,none⟩),.int .i64 id] w (Z9U w (Q0Q (kdF q.N) (rkF q.next) id)):=by
 have ka:=Q3f h hf;have HH:=Q0a h;have EK:=Q0a ok;have HF:=Q0a hf;obtain⟨-,-,-,-,Kp,xb,a0,n0,c0,⟨f0,lk,k3⟩,⟨f0d,lkd,Kr⟩,a1,n1,c1,w1,v2,w2,r1,r2,ws',Hv,Fq,Ab,Gk⟩:=Q8T (ws:=[]) h ok hf (TwoI.startI w id) (BelI.start hf);rw[J3W] at Kp r1;have EB:=Q0a r1;have Ib:IntKind.i64.wrap 0=0:=Go.IntWalk.i64_in _ (by omega);have M2:=Q0a Hv;have CX:=Q0a Fq;clear h ok hf Hv Fq r1 Ab Gk;go_enter func157,ntmps157;go_wp2_with fail;refine wp_scope_jumps 0 (fun a' w'=>∃(wv ov:Value) (ws M:List Int) (u7 u8 u9 u10 u11 u12 u13 u14 u15 u16 u17 u18 u19 u20 u21 u22 u23 u24 u25 u26 u27 u28 u29 u30 u31 u32 u33 u34 u35 u36 u37 u38 u39 u40 u41 u42 u43 u44 u45 u46 u47 u48:Value),a'={tmps:=#[.pointer (some ⟨q.f,0,none⟩),.int .i64 id,undef,undef,.slice none 0 0,ov,wv,u7,u8,u9,u10,u11,u12,u13,u14,u15,u16,u17,u18,u19,u20,u21,u22,u23,u24,u25,u26,u27,u28,u29,u30,u31,u32,u33,u34,u35,u36,u37,u38,u39,u40,u41,u42,u43,u44,u45,u46,u47,u48],defers:=[]}/\TwoI w w' wv ws ov M/\BelI q id ws M) (fun a' _=>(preT (kdF q.N) (rkF q.next) id).length-slen (a'.tmps.getD 5 undef)) rfl ?_ ?_
 ·go_wp2_with fail;refine ka.mono ?_;rintro r w'⟨rfl,rfl⟩;go_wp2_with fail
  go_step3
  go_wp2_with fail
  go_region_law (refine Q0B rfl (.tmp 27) (.tmp 36) 38 38 rfl _ _ (by simp[Act.eval]) (by simp[Act.eval]) EB.out ?_)
  all_goals
   go_wp2_with (at_builtin;refine Lib.wpList_append_run _ rfl _ _ _ _ rfl _ _ rfl rfl _ _ r2 ?_)
   go_step3
   refine⟨rfl,.slice a1 n1 c1,v2,ws',[]++[id],_,_,_,_,_,_,_,_,_,_,_,_,_,_,_,_,_,_,_,_,_,_,_,_,_,_,_,_,_,_,_,_,_,_,_,_,_,_,_,_,_,_,rfl,M2.out,CX.out⟩
 ·rintro a' wr⟨wv,ov,ws,M,u7,u8,u9,u10,u11,u12,u13,u14,u15,u16,u17,u18,u19,u20,u21,u22,u23,u24,u25,u26,u27,u28,u29,u30,u31,u32,u33,u34,u35,u36,u37,u38,u39,u40,u41,u42,u43,u44,u45,u46,u47,u48,rfl,hT,hB⟩;have AA:ws=[]∨∃(ws':List Int) (y:Int),ws=ws'++[y]:=by
   rcases List.eq_nil_or_concat ws with h|⟨a,b,h⟩
   ·exact .inl h
   ·exact .inr ⟨a,b,by rw[h,List.concat_eq_append]⟩
  rcases AA with rfl|⟨ws0,x,rfl⟩
  ·have E0:=hB.done EK.out;have Gv:=(hB.len EK.out HF.out).2.1;have Ac:M≠[]:=fun e=>by rw[e] at E0;simp at E0
   obtain⟨aw,cw,rfl⟩:=hT.1.shape;obtain⟨g,co,rfl⟩:=hT.2.1.shape1 Ac;obtain⟨_,_,_,_,KT,_⟩:=hT.2.1.parts;have I7:=Q8S g co M.toArray wr (Z2y hT.2.1) (by simpa using Gv);have Bt:∀n,Z9U w (Q0Q (kdF q.N) (rkF q.next) id) (.returned (.slice (some ⟨g,0,none⟩) (Q0Q (kdF q.N) (rkF q.next) id).length co)) (Go.Sort.putRow encI (Go.Sort.ahead wr n) g 0 M.toArray.reverse):=fun n=>by
    have h1:=hT.2.1.reversed (k:=n);rw[E0] at h1;have h2:=h1.cut;exact⟨_,rfl,h2.1,h2.2⟩
   have Dt:M.length=(Q0Q (kdF q.N) (rkF q.next) id).length+1:=by
    have:=congrArg List.length E0
    simpa using this
   have AU:=Q0a Bt;rw[show M.toArray.size=M.length from rfl] at I7;rw[Dt] at I7 KT Gv ⊢;generalize hm:(Q0Q (kdF q.N) (rkF q.next) id).length=m at *
   have Mx:((m:Nat):Int)<=(co:Int):=by omega
   have AS:m<=co:=by omega
   have VY:(m:Int)<65536:=by omega
   have hw:IntKind.i64.wrap (m:Int)=(m:Int):=Go.IntWalk.i64_in _ (by omega);clear Bt hT hB E0 Ac Dt hm Gv KT M2 CX EB r2 Kp f0 lk k3 f0d lkd Kr ka;generalize Z9U w (Q0Q (kdF q.N) (rkF q.next) id)=Q at *
   go_wp2_with fail;refine I7.mono ?_;rintro r w3⟨rfl,n,rfl⟩;have HQ:=Q0a (AU.out n);clear I7 AU;generalize Go.Sort.putRow encI (Go.Sort.ahead wr n) g 0 M.toArray.reverse=w3 at *
   go_wp2_with fail
   try simp only[Exit.jump]
   (try go_ret);exact HQ.out
  ·clear M2 CX EB r2 Kp f0 lk k3 f0d lkd Kr ka Ib;obtain⟨g,cap,rfl⟩:=hT.1.shape1 (by simp);obtain⟨hn,AS,RW,_,Kp,xb,a0,n0,c0,⟨f0,lk,k3⟩,⟨f0d,lkd,Kr⟩,a1,n1,c1,w1,v2,w2,r1,r2,ws',Hv,Fq,Ab,Gk⟩:=Q8T HH.out EK.out HF.out hT hB;have EB:=Q0a r1;have M2:=Q0a Hv;have CX:=Q0a Fq;obtain⟨au,cu,rfl⟩:=hT.2.1.shape;have As:(preT (kdF q.N) (rkF q.next) id).length-slen v2<(preT (kdF q.N) (rkF q.next) id).length-slen (.slice au M.length cu):=by omega
   have OO:=Q0a As;rw[hn];generalize ws0.length=n at *
   have Mx:((n:Nat):Int)<=(cap:Int):=by omega
   have Ro:n<=cap:=by omega
   have JT:(n:Int)<65536:=by omega
   have hw:IntKind.i64.wrap (n:Int)=(n:Int):=Go.IntWalk.i64_in _ (by omega);have E6:(0:Int)<=(n:Int):=by omega
   clear hT hB Hv Fq r1 As Ab Gk hn AS RW;go_wp2_with fail
   go_region_law (refine Q0B rfl (.tmp 27) (.tmp 36) 38 38 rfl _ _ (by simp[Act.eval]) (by simp[Act.eval]) EB.out ?_)
   all_goals
    go_wp2_with (at_builtin;refine Lib.wpList_append_run _ rfl _ _ _ _ rfl _ _ rfl rfl _ _ r2 ?_)
    go_step3
    refine⟨rfl,⟨.slice a1 n1 c1,v2,ws',M++[x],_,_,_,_,_,_,_,_,_,_,_,_,_,_,_,_,_,_,_,_,_,_,_,_,_,_,_,_,_,_,_,_,_,_,_,_,_,_,_,_,_,_,rfl,M2.out,CX.out⟩,OO.out⟩
end Go.Proofs.YtfidemmgofcnmaaGreatDoor

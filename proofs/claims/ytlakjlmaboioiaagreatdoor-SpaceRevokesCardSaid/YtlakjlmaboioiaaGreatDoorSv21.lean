/- SpaceRevokes returns true at every input. No condition. Part of its proof. -/
import Derived.Test.YtlakjlmaboioiaaGreatDoorSv19
import Derived.Test.YtlakjlmaboioiaaGreatDoorSv20
set_option maxHeartbeats 4000000
set_option maxRecDepth 100000
set_option linter.unusedVariables false
namespace Go.Proofs.YtlakjlmaboioiaaGreatDoor
open Go.RowKit Go.Proofs.Tryz
theorem Z3j (a b:Nat) (ha:a<16) (hb:b<16):bits .andNot .i64 (a:Int) (b:Int)=((less a b:Nat):Int):=by
 have:∀a b:Fin 16,bits .andNot .i64 ((a.val:Nat):Int) ((b.val:Nat):Int)=((less a.val b.val:Nat):Int):=by decide +kernel
 exact this ⟨a,ha⟩ ⟨b,hb⟩
theorem Q6v (a b:Nat) (ha:a<16) (hb:b<16):bits .and .i64 (a:Int) (b:Int)=((a&&&b:Nat):Int):=by
 have:∀a b:Fin 16,bits .and .i64 ((a.val:Nat):Int) ((b.val:Nat):Int)=((a.val&&&b.val:Nat):Int):=by decide +kernel
 exact this ⟨a,ha⟩ ⟨b,hb⟩
theorem Q7o {S:CO} {fr:List Nat} {N K:Nat} {tb:Nat->TB} (ok:S.Ok fr N K) (t:TPI S tb) {i s:Nat} {p:Pl} (hi:S.l[i]?=some p) (h1:p.st=1) (h2:p.kind=2) (hs:s<256) {e e2:Ent} (he:(tb i).en s=some e) (hn:e2.nd=e.nd) (hl:e2.Low) {w:World} {g:Nat} (AA:Sep w S.hl) (hg:TblC S p g w) :
  Calls prog 104 #[.pointer (some ⟨g,0,none⟩),.int .i64 s,.int .u64 (e2.a:Nat),.int .u64 (e2.nd:Nat)] w fun r w'=>r=.returned (.int .i64 0)/\J1d S fr N K tb (p.fac:Int) i s (some e2) w w':=by
 have tx:=t.x (p.fac:Int);have An:=Q1r ok.inv.len hi;have T:=tx.tt ok hi h1 h2 AA hg;have EV:(tb i).lf (s/16)≠0:=fun h=>by
  have:=T.tin.hole s hs h;rw [he] at this;cases this
 have MJ:e2.nd∈S.P.usedOf 6:=t.nds.mem_iff.1 (J2l.2 ⟨i,J2b.2 An,mem_nds.2 ⟨s,e,hs,he,hn.symm⟩⟩);have hm:=Q0m ok.inv.mem.pool MJ;have GM:=Q0o ok.inv.mem.pool;obtain⟨l1,l2⟩:=hl;refine (Z1Q ok tx hi h1 h2 rfl hs (xn':=[]) (by rw [TB.nds_same hs he hn]) (by show e2.h+1+4294967296*e2.r<_;omega) (by show e2.nd<_;omega) AA hg).mono ?_;rintro r w' (⟨rfl,hp⟩|⟨h0,_⟩)
 ·exact⟨rfl,hp.turn t.full⟩
 ·exact absurd h0 EV
def Z0C (Z:SP) (fr:List Nat) (N K:Nat) (M:Int) (m:Nat) (id:Int) (w:World) (b:Bool) (w':World):Prop:=∃Z',Z'.Ok fr N K M/\weak1 m Z.av id=(Z'.av,b)/\SameZ Z Z'/\Step Z.hl Z'.hl w w'
theorem FPI.low {l:List Pl} {tb:Nat->TB} {N:List (En Nd)} (f:FPI l tb N) (lok:LOk l) {h s:Nat} {e:Ent} (he:Q0f l tb h s=some e):e.Low:=by
 obtain⟨⟨q,hq,_⟩,hr⟩:=f.cap h s e he;have h1:=pget_some.1 hq;have h2:=lok.2 q (Q0B hq);refine⟨?_,by omega⟩;have:nm (e.h%256) q=e.h:=h1.2.1;unfold nm at this;omega
theorem Q9m {w:World} {Z:SP} {fr:List Nat} {N K:Nat} {M:Int} (hs:Sep w Z.hl) (ok:Z.Ok fr N K M) {id:Int} (hf:find Z.F.N id=none) (m:Nat) :
  Calls prog 168 #[.pointer (some ⟨Z.s,0,none⟩),.int .i64 id,.int .i64 m] w fun r w'=>r=.returned (.bool false)/\Z0C Z fr N K M m id w false w':=by
 have c1:=SP.c1 hs;have ko:=Q6p (SP.sF hs) hf;obtain⟨p0,EC,Bx,_,DI,Qm,_⟩:=ok.core.inv.que.root;have B6:pget Z.S.l 1 0=some p0:=pget_some.2 ⟨EC,by unfold nm;omega,DI⟩;have ks:=Q0K hs ok.core (x:=0) (by omega) 10 (.inr ⟨p0,B6,by omega,rfl⟩);have HR:Hid (∀w',Below w.heap.size w w'->Z0C Z fr N K M m id w false w'):=fun w' hb=>⟨Z,ok,by unfold weak1;rw [show Z.av.N=Z.F.N from rfl,hf],SameZ.refl Z,hs.grown hb⟩
 clear hs ok hf B6 EC;go_enter func168,ntmps168;go_wp2_with fail;refine ko.mono ?_;rintro r w1 ⟨rfl,rfl⟩;go_wp2_with fail;refine ks.mono ?_;rintro r w1 ⟨rfl,hb⟩;have HQ:=Q0a (HR.out _ (hb.alloc hb.size (.cells #[.pointer none,.int .u32 0,.int .i64 0] 155)));clear hb HR ks ko;go_wp2_with fail
 first|exact⟨rfl,HQ.out⟩|(go_ret;exact⟨rfl,HQ.out⟩)
structure J1C (Z:SP) (fr:List Nat) (N K:Nat) (M:Int) (m:Nat) (id:Int) (h s g:Nat) (p:Pl) (e:Ent) (w w2:World):Prop where
 go:∀w3,Below w2.heap.size w2 w3->w3.cell? ⟨Z.s,1,none⟩=some (.pointer (some ⟨Z.F.f,0,none⟩)) /\
  Calls prog 74 #[.agg #[.pointer (some ⟨g,0,none⟩),.int .u32 h,.int .i64 (p.fac:Int)],.int .i64 s] w3 (Told w3 (.tuple #[.agg #[.int .u32 (e.h:Int),.int .i64 (e.r:Int)],.bool true])) /\
  Calls prog 103 #[.pointer (some ⟨g,0,none⟩),.int .i64 s] w3 (fun r w'=>r=.returned (.tuple #[.int .u64 (e.a:Nat),.int .u64 (e.nd:Nat)])/\w3=w')
 lift:less e.r m=0->∀w3,Below w2.heap.size w2 w3->Calls prog 166 #[.pointer (some ⟨Z.F.f,0,none⟩),.int .i64 id] w3 fun r w4=>(∃v,r=.returned v)/\(∀b,w2.heap.size<=b->b<w3.heap.size->w4.heap[b]?=w3.heap[b]?)/\w3.heap.size<=w4.heap.size /\
  Calls prog 81 #[.pointer (some ⟨Z.s,0,none⟩),.agg #[.pointer (some ⟨g,0,none⟩),.int .u32 h,.int .i64 (p.fac:Int)],.int .i64 s] w4 fun r w5=>r=.returned (.tuple #[])/\Z0C Z fr N K M m id w true w5
 set:less e.r m≠0->∀w3,Below w2.heap.size w2 w3->Calls prog 104 #[.pointer (some ⟨g,0,none⟩),.int .i64 s,.int .u64 ((⟨e.h,less e.r m,0⟩:Ent).a:Nat),.int .u64 (e.nd:Nat)] w3 fun r w4=>r=.returned (.int .i64 0)/\(∀b,w2.heap.size<=b->b<w3.heap.size->w4.heap[b]?=w3.heap[b]?)/\Z0C Z fr N K M m id w false w4
theorem Step.keep {H H':HL} {w w1 w':World} {B:Nat} (st:Step H H' w1 w') (hs:Sep w H) (hB:w.heap.size<=B):∀b,B<=b->b<w1.heap.size->w'.heap[b]?=w1.heap[b]?:=fun b h1 h2=>st.chg.block b h2 fun hk=>by
 have:=hs.lt hk;omega
theorem Z3k {w w1:World} {Z:SP} {fr:List Nat} {N K:Nat} {M:Int} (hs:Sep w Z.hl) (hb:Below w.heap.size w w1) (ok:Z.Ok fr N K M) {id:Int} {n:En Nd} (hf:find Z.F.N id=some n) {m:Nat} (hm:m<16) (hd:m=15∨Q3H m Z.av [] id)
  {h s:Nat} {p:Pl} {e:Ent} (h1:n.q.sp=(h:Int)) (h2:n.q.sl=(s:Int)) (hh:h<4294967296) (A6:s<256) (hp:pget Z.S.l 1 h=some p) (hk:p.kind=2) (A9:(Z.tb (h%256)).en s=some e) (he:Q0f Z.S.l Z.tb h s=some e) :
  Calls prog 73 #[.pointer (some ⟨Z.s,0,none⟩),.int .u32 h] w1 fun r w2=>∃g:Nat,r=.returned (.tuple #[.agg #[.pointer (some ⟨g,0,none⟩),.int .u32 h,.int .i64 (p.fac:Int)],.int .i64 0])/\J1C Z fr N K M m id h s g p e w w2:=by
 have s1:=(hs.grown hb).sep;have hi:=(pget_some.1 hp).1;have Ao:=(pget_some.1 hp).2.2;have A7:=ok.fpi.low ok.core.inv.lok he;have hr:=(ok.fpi.cap h s e he).r;refine (Q0U s1 ok.core hh hp hk).mono ?_;rintro r w2 ⟨g,rfl,Af,hg⟩;have Gs:Below w.heap.size w w2:=hb.trans (Af.mono hb.size);have grow:∀w3,Below w2.heap.size w2 w3->Below w.heap.size w w3/\Sep w3 Z.hl/\TblZ Z p g w3:=fun w3 Ar=>by
  have Ak:Below w.heap.size w w3:=Gs.trans (Ar.mono Gs.size);exact⟨Ak,(hs.grown Ak).sep,hg.grown (hs.grown Gs).sep Ar⟩
 have AB:(Z.tb (h%256)).at' (s:Int)=some e:=by unfold TB.at';rw [if_pos ⟨by omega,by omega⟩,J2R,A9]
 refine⟨g,rfl,fun w3 Ar=>?_,fun h0 w3 Ar=>?_,fun h0 w3 Ar=>?_⟩
 ·obtain⟨Ak,s3,g3⟩:=grow w3 Ar;have T:=(ok.tpi.x (p.fac:Int)).tt ok.core hi Ao hk (SP.sS s3) g3.c;have kc:=Q1u T (h:Int) (p.fac:Int) (s:Int) (fun e' AM=>by rw [AB] at AM;cases AM;exact A7);have kg:=Q3I T (s:Int);rw [AB] at kc kg;exact⟨SP.c1 s3,kc,kg⟩
 ·obtain⟨Ak,s3,g3⟩:=grow w3 Ar;obtain⟨hn,hid⟩:=Q0b hf;have kl:=Q9l (SP.sF s3) ok.fo (e:=n) (by rw [hid];exact hf);rw [hid] at kl;refine kl.mono ?_;rintro r w4 ⟨hv,F',FM,MG,I8,Es,st⟩;have stz:=SP.stepF s3 F' FM st;have g4:TblZ (Z.setF F') p g w4:=g3.step stz rfl;refine⟨hv,stz.keep hs Gs.size,stz.chg.size,?_⟩;refine (Q4N (Z:=Z.setF F') stz.sep ok.core ok.tpi hi Ao hk A6 A9 g4).mono ?_;rintro r w5 ⟨rfl,S',t',T,stt⟩;obtain⟨a1,a2,a3⟩:=ok.lifted hf h1 h2 hp hk A6 he h0 T MG Es I8 FM;exact⟨rfl,_,a1,a2,a3,((hs.grown Ak).trans stz).trans stt⟩
 ·obtain⟨Ak,s3,g3⟩:=grow w3 Ar;have DK:Q3H m Z.av [] id:=by
   rcases hd with rfl|hd
   ·exact absurd (Q4H e.r (by omega)) h0
   ·exact hd
  refine (Q7o (e2:=⟨e.h,less e.r m,e.nd⟩) ok.core ok.tpi hi Ao hk A6 A9 rfl ⟨A7.1,by have:=(Q5J e.r (by omega) m hm).2.2;show less e.r m<16;omega⟩ (SP.sS s3) g3.c).mono ?_;rintro r w4 ⟨rfl,S',t',T,stt⟩;have stz:=SP.stepS s3 S' (updT Z.tb (h%256) t') T.alt.c stt;obtain⟨a1,a2,a3⟩:=ok.weakened hf h1 h2 hp hk A6 he hm h0 DK T;exact⟨rfl,stz.keep hs Gs.size,_,a1,a2,a3,(hs.grown Ak).trans stz⟩
theorem Q9n {w:World} {Z:SP} {fr:List Nat} {N K:Nat} {M:Int} (hs:Sep w Z.hl) (ok:Z.Ok fr N K M) {id:Int} {n:En Nd} (hf:find Z.F.N id=some n) (m:Nat) (DE:1<=m) (hm:m<16) (hd:m=15∨Q3H m Z.av [] id) :
  Calls prog 168 #[.pointer (some ⟨Z.s,0,none⟩),.int .i64 id,.int .i64 m] w fun r w'=>∃b:Bool,r=.returned (.bool b)/\Z0C Z fr N K M m id w b w':=by
 obtain⟨hn,hid⟩:=Q0b hf;obtain⟨h,s,p,e,h1,h2,hh,A6,hp,hk,A9,he⟩:=ok.fpi.task ok.fo.n hn;have A7:=ok.fpi.low ok.core.inv.lok he;have hr:=(ok.fpi.cap h s e he).r;have c1:=SP.c1 hs;have ko:=Q6q (SP.sF hs) hf;rw [h1,h2] at ko;have MW:=Z3j e.r m (by omega) hm;have Jp:Hid (∀w,Calls prog 105 #[.agg #[.int .u32 (e.h:Int),.int .i64 ((less e.r m:Nat):Int)]] w (Told w (.int .u64 ((⟨e.h,less e.r m,0⟩:Ent).a:Nat)))):=fun w=>Q6s w e.h (less e.r m) A7.1 (by have:=(Q5J e.r (by omega) m hm).2.2;omega)
 have HC:Hid (∀w1,Below w.heap.size w w1->_):=fun w1 hb=>Z3k hs hb ok hf hm hd h1 h2 hh A6 hp hk A9 he
 have O2:(h:Int)<4294967296:=by omega
 have Vd:(0:Int)<=(h:Int):=by omega
 clear hs ok hf hd h1 h2 hh hp hk A9 he hn hid A7 hr DE hm;by_cases h0:less e.r m=0
 ·rw [h0] at MW;have M2:=Q0a h0;clear h0 Jp;have Uz:bits .andNot .i64 (e.r:Int) (m:Int)=0:=MW;clear MW;go_enter func168,ntmps168;go_wp2_with fail;refine ko.mono ?_;rintro r w1 ⟨rfl,Ax⟩;have HS:=Q0a (HC.out w1 Ax);clear Ax HC ko;go_wp2_with fail;refine HS.out.mono ?_;rintro r w2 ⟨g,rfl,hc⟩;have Il:=hc.go _ ((Below.refl _ _).alloc (J1L _) (.cells #[.pointer (some ⟨g,0,none⟩),.int .u32 h,.int .i64 (p.fac:Int)] 155));have Fx:=Il.2.1;have DL:=Q0a hc;clear hc HS Il;have hB:=Cells.new w2 155 [.pointer (some ⟨g,0,none⟩),.int .u32 h,.int .i64 (p.fac:Int)];go_wp2_with fail;refine Fx.mono ?_
  rintro r w3 ⟨rfl,Ar⟩;have BJ:Below w2.heap.size w2 w3:=Q0e Ar;have Mo:=hB.same (Ar.block w2.heap.size (by simp));have Az:Below w2.heap.size w2 (w3.alloc (.cells #[.int .u32 (e.h:Int),.int .i64 0] 35)):=BJ.alloc BJ.size _;have d1:=(DL.out.go _ Az).1;have Jo:=DL.out.lift M2.out _ Az;have D6:=Mo.alloc (.cells #[.int .u32 (e.h:Int),.int .i64 0] 35);have BR:Hid (∀w5:World,(∀b,w2.heap.size<=b->b<(w3.alloc (.cells #[.int .u32 (e.h:Int),.int .i64 0] 35)).heap.size->w5.heap[b]?=(w3.alloc (.cells #[.int .u32 (e.h:Int),.int .i64 0] 35)).heap[b]?)->Cells w5 w2.heap.size 155 [.pointer (some ⟨g,0,none⟩),.int .u32 h,.int .i64 (p.fac:Int)]):=fun w5 hk=>D6.same (hk _ (J1L _) D6.lt)
  have Eu:=Q0a Jo;clear Ar BJ hB Fx Mo D6 Az Jo M2 DL;go_wp2_with fail;refine Eu.out.mono ?_;rintro r w5 ⟨⟨v,rfl⟩,Ep,Bv,IO⟩;have J5:=BR.out w5 Ep;have b0:=J5.cell 0 _ rfl;have b1:=J5.cell 1 _ rfl;have b2:=J5.cell 2 _ rfl;have Ec:=Q0a IO;clear Ep Bv IO Eu BR J5;go_wp2_with fail;refine Ec.out.mono ?_;rintro r w6 ⟨rfl,hq⟩;have HQ:=Q0a hq;clear hq Ec;go_wp2_with fail
  first|exact⟨true,rfl,HQ.out⟩|(go_ret;exact⟨true,rfl,HQ.out⟩)
 ·have U7:(((less e.r m:Nat):Int)==0)=false:=by simpa using h0
  have M2:=Q0a h0;have Aa:∃lr,lr=less e.r m:=⟨_,rfl⟩
  obtain⟨lr,hl⟩:=Aa;rw [<- hl] at MW U7 Jp;have Rf:=Q0a hl;have P7:(lr:Int)≠0:=by
   rw [hl]
   simpa using h0
  have MA:((lr:Int) != 0)=true:=by simpa using P7
  generalize (lr:Int)=lz at *
  clear h0 hl;go_enter func168,ntmps168;go_wp2_with fail;refine ko.mono ?_;rintro r w1 ⟨rfl,Ax⟩;have HS:=Q0a (HC.out w1 Ax);clear Ax HC ko;go_wp2_with fail;refine HS.out.mono ?_;rintro r w2 ⟨g,rfl,hc⟩;have Il:=hc.go _ ((Below.refl _ _).alloc (J1L _) (.cells #[.pointer (some ⟨g,0,none⟩),.int .u32 h,.int .i64 (p.fac:Int)] 155));have Fx:=Il.2.1;have DL:=Q0a hc;clear hc HS Il;have hB:=Cells.new w2 155 [.pointer (some ⟨g,0,none⟩),.int .u32 h,.int .i64 (p.fac:Int)];go_wp2_with fail;refine Fx.mono ?_;rintro r w3 ⟨rfl,Ar⟩;have BJ:Below w2.heap.size w2 w3:=Q0e Ar;have Mo:=hB.same (Ar.block w2.heap.size (by simp))
  have Az:Below w2.heap.size w2 (w3.alloc (.cells #[.int .u32 (e.h:Int),.int .i64 lz] 35)):=BJ.alloc BJ.size _;have CQ:=(DL.out.go _ Az).2.2;have D6:=Mo.alloc (.cells #[.int .u32 (e.h:Int),.int .i64 lz] 35);have Ic:=Cells.new w3 35 [.int .u32 (e.h:Int),.int .i64 lz];have s0:=D6.cell 0 _ rfl;have q0:=Ic.cell 0 _ rfl;have q1:=Ic.cell 1 _ rfl;have Jb:Hid (∀w5,Below (w3.alloc (.cells #[.int .u32 (e.h:Int),.int .i64 lz] 35)).heap.size (w3.alloc (.cells #[.int .u32 (e.h:Int),.int .i64 lz] 35)) w5->Below w2.heap.size w2 w5/\w5.cell? ⟨w2.heap.size,0,none⟩=some (.pointer (some ⟨g,0,none⟩))/\w5.cell? ⟨w3.heap.size,0,none⟩=some (.int .u32 (e.h:Int))/\w5.cell? ⟨w3.heap.size,1,none⟩=some (.int .i64 lz)):=fun w5 AD=>⟨Az.trans (AD.mono Az.size),(D6.same (AD.block _ D6.lt)).cell 0 _ rfl,(Ic.same (AD.block _ Ic.lt)).cell 0 _ rfl,(Ic.same (AD.block _ Ic.lt)).cell 1 _ rfl⟩
  have BR:Hid (∀(w5 w6:World),Below (w3.alloc (.cells #[.int .u32 (e.h:Int),.int .i64 lz] 35)).heap.size (w3.alloc (.cells #[.int .u32 (e.h:Int),.int .i64 lz] 35)) w5->(∀b,w2.heap.size<=b->b<w5.heap.size->w6.heap[b]?=w5.heap[b]?)->w6.cell? ⟨w2.heap.size,0,none⟩=some (.pointer (some ⟨g,0,none⟩))/\w6.cell? ⟨w3.heap.size,0,none⟩=some (.int .u32 (e.h:Int))/\w6.cell? ⟨w3.heap.size,1,none⟩=some (.int .i64 lz)):=fun w5 w6 AD hk=>by
   have J5:=D6.same (AD.block _ D6.lt);have MT:=Ic.same (AD.block _ Ic.lt);have l3:w2.heap.size<=w3.heap.size:=BJ.size;exact⟨(J5.same (hk _ (J1L _) J5.lt)).cell 0 _ rfl,(MT.same (hk _ l3 MT.lt)).cell 0 _ rfl,(MT.same (hk _ l3 MT.lt)).cell 1 _ rfl⟩
  clear Ar BJ hB Fx Mo D6 Ic Az;generalize e.a=ea at *
  go_wp2_with fail;refine CQ.mono ?_;rintro r w4 ⟨rfl,rfl⟩;have Nk:=Jb.out _ ((Below.refl _ _).drew);obtain⟨bb5,x1,x2,x3⟩:=Nk;have UQ:=Q0a bb5;have Kc:=DL.out.set M2.out;rw [<- Rf.out] at Kc;have C8:=Q0a Kc;clear bb5 Kc CQ DL M2 Rf;go_wp2_with fail
  go_region_held3 (fun w'=>w'.cell? ⟨w2.heap.size,0,none⟩=some (.pointer (some ⟨g,0,none⟩))/\w'.cell? ⟨w3.heap.size,0,none⟩=some (.int .u32 (e.h:Int))/\w'.cell? ⟨w3.heap.size,1,none⟩=some (.int .i64 lz)) (first|exact⟨s0,q0,q1⟩|exact⟨x1,x2,x3⟩|exact Nk.2|exact Ts)
   (first|(go_at_call 105;refine (Jp.out _).mono ?_;rintro r w5 ⟨rfl,AD⟩;have DA:=((Below.refl (w3.alloc (.cells #[.int .u32 (e.h:Int),.int .i64 lz] 35)).heap.size _).drew).trans AD;have Nk:=Jb.out w5 DA;have C0:=Q0a DA;clear DA AD Jp)|(go_at_call 104;refine (C8.out _ Nk.1).mono ?_;rintro r w6 ⟨rfl,Ep,hq⟩;have Ts:=BR.out _ w6 C0.out Ep;have HQ:=Q0a hq;clear hq Ep C8))
  go_wp2_with fail
  first|exact⟨false,rfl,HQ.out⟩|(go_ret;exact⟨false,rfl,HQ.out⟩)
theorem Z0D {w:World} {Z:SP} {fr:List Nat} {N K:Nat} {M:Int} (hs:Sep w Z.hl) (ok:Z.Ok fr N K M) (id:Int) (m:Nat) (DE:1<=m) (hm:m<16) (hd:m=15∨Q3H m Z.av [] id) :
  Calls prog 168 #[.pointer (some ⟨Z.s,0,none⟩),.int .i64 id,.int .i64 m] w fun r w'=>∃b:Bool,r=.returned (.bool b)/\Z0C Z fr N K M m id w b w':=by
 cases hf:find Z.F.N id with
 | none=>exact (Q9m hs ok hf m).mono fun r w' ⟨h1,h2⟩=>⟨false,h1,h2⟩
 | some n=>exact Q9n hs ok hf m DE hm hd
def Q8e (Z:SP) (fr:List Nat) (N K:Nat) (M:Int) (m:Nat) (l:List Int) (w w':World):Prop:=∃Z',Z'.Ok fr N K M/\Z'.av=(Q0y m Z.av l).1/\SameZ Z Z'/\Step Z.hl Z'.hl w w'
structure WaI (Z:SP) (fr:List Nat) (N K:Nat) (M:Int) (m:Nat) (l:List Int) (a:Option Addr) (w:World) (k:Nat) (Z1:SP) (wr:World):Prop where
 ok:Z1.Ok fr N K M
 av:Z1.av=(Q0y m Z.av (l.take k)).1
 same:SameZ Z Z1
 st:Step Z.hl Z1.hl w wr
 row:AsideV Z1.hl (l.map encI) a wr
 wk:WeakOk m Z1.av (l.drop k)
theorem WaI.next {Z Z1:SP} {fr:List Nat} {N K:Nat} {M:Int} {m:Nat} {l:List Int} {a:Option Addr} {w wr w':World} {k:Nat} {x:Int} {b:Bool} (I:WaI Z fr N K M m l a w k Z1 wr) (hx:l[k]?=some x) (hm:m<16) (h:Z0C Z1 fr N K M m x wr b w') :
  (Q0y m Z.av (l.take (k+1))).2=(Q0y m Z.av (l.take k)).2+(if b=true then 1 else 0)/\∃Z2,WaI Z fr N K M m l a w (k+1) Z2 w':=by
 obtain⟨Z2,ok2,e2,s2,st2⟩:=h;have AR:l.take (k+1)=l.take k++[x]:=by rw [J3I,hx];rfl
 have Ft:l.drop k=x::l.drop (k+1):=by
  obtain⟨Ab,hg⟩:=J2c.1 hx;rw [<- hg];exact J4F Ab
 have DJ:Q0y m Z.av (l.take (k+1))=(Z2.av,(Q0y m Z.av (l.take k)).2+if b=true then 1 else 0):=by
  rw [AR,weakA_snoc,<- I.av,e2]
 have K0:=I.wk;rw [Ft] at K0;have Ao:=WeakOk.step (a:=Z1.av) (next:=Z1.F.next) I.ok.fo.n (fun h s y hy=>(I.ok.fpi.rights hy).2) hm K0;rw [e2] at Ao;exact⟨by rw [DJ],Z2,⟨ok2,by rw [DJ],I.same.trans s2,I.st.trans st2,AsideV.step I.row st2,Ao⟩⟩
theorem Q2w {w:World} {Z:SP} {fr:List Nat} {N K:Nat} {M:Int} (hs:Sep w Z.hl) (ok:Z.Ok fr N K M) (m:Nat) (DE:1<=m) (hm:m<16) (l:List Int) (a:Option Addr) (cap:Nat) (hl:l.length<=70000) (A0:AsideV Z.hl (l.map encI) a w) (hk:WeakOk m Z.av l) :
  Calls prog 85 #[.pointer (some ⟨Z.s,0,none⟩),.int .i64 m,.slice a l.length cap] w fun r w'=>r=.returned (.int .i64 ((Q0y m Z.av l).2:Nat))/\Q8e Z fr N K M m l w w':=by
 have Cf:Hid (WaI Z fr N K M m l a w 0 Z w):=⟨ok,rfl,SameZ.refl Z,Step.refl hs,A0,by simpa using hk⟩
 have HM:Hid (1<=m/\m<16):=⟨DE,hm⟩
 have EU:=Q0a hl;have Sv:Hid (∀k,(Q0y m Z.av (l.take k)).2<=l.length):=fun k=>J1M (Q5K m _ _) (List.length_take_le' k l)
 have Fd:Hid (Q0y m Z.av (l.take l.length)=Q0y m Z.av l):=by rw [J5V];exact rfl
 clear hs ok A0 hk DE hm;generalize hn:l.length=n at *
 have HN:=Q0a hn;clear hl hn;go_enter func85,ntmps85;go_wp2_with fail
 go_loopg [7,12] n (fun gk cv iv wr=>∃(k:Nat) (Z1:SP),iv=.int .i64 k/\cv=.int .i64 ((Q0y m Z.av (l.take k)).2:Nat)/\k+gk=n/\WaI Z fr N K M m l a w k Z1 wr)
 case atStart=>exact⟨0,Z,rfl,rfl,by omega,Cf.out⟩
 case round =>
  obtain⟨k,Z1,rfl,rfl,AL,hI⟩:=hrel;have Cu:=Q0a AL;have HI:=Q0a hI;by_cases Ab:k<n
  ·obtain⟨x,hx⟩:∃x,l[k]?=some x:=⟨l[k]'(by rw [HN.out];exact Ab),J4d (by rw [HN.out];exact Ab)⟩
   obtain⟨g,rfl,_,_,GK⟩:=hI.row k (.int .i64 x) (by rw [J3x,hx];rfl);have kw:=Z0D hI.st.sep hI.ok x m HM.out.1 HM.out.2 (by
    rcases hI.wk with h|h
    ·exact .inl h
    ·refine .inr (h [] x (l.drop (k+1)) ?_);obtain⟨Ab,hg⟩:=J2c.1 hx;rw [<- hg];exact J4F Ab)
   rw [hI.same.s] at kw;have HW:=Q0a kw;have HX:=Q0a hx;have ER:=Sv.out k;have C4:(k:Int)<(n:Int):=by omega
   have Bx:(0:Int)<=(k:Int):=by omega
   have FW:(k:Int)<70000:=by have:=EU.out;omega
   generalize A8:(Q0y m Z.av (l.take k)).2=c at *
   have Cd:(c:Int)<=70000:=by have:=EU.out;omega
   have KH:(0:Int)<=(c:Int):=by omega
   have DL:=Q0a A8;clear hI AL kw hx ER A8;go_wp2_with fail;refine HW.out.mono ?_;rintro r w1 ⟨b,rfl,hz⟩;obtain⟨BB,Z2,RB⟩:=HI.out.next HX.out HM.out.2 hz;have PD:=Q0a RB;rw [DL.out] at BB;have Mp:=Q0a BB;clear BB RB hz HW HI;cases b with
   | true =>
    go_wp2_with fail;go_roundg (n-(k+1))
    case measure=>have:=Cu.out;omega
    case rel=>exact⟨k+1,Z2,by go_num,by rw [Mp.out];simp,by have:=Cu.out;omega,PD.out⟩
   | false =>
    go_wp2_with fail;go_roundg (n-(k+1))
    case measure=>have:=Cu.out;omega
    case rel=>exact⟨k+1,Z2,by go_num,by rw [Mp.out];simp,by have:=Cu.out;omega,PD.out⟩
  ·obtain rfl:k=n:=by have:=Cu.out;omega
   have HR:Hid (((Q0y m Z.av (l.take k)).2=(Q0y m Z.av l).2)/\Q8e Z fr N K M m l w wr):=by
    have h1:l.take k=l:=by rw [<- HN.out,J5V]
    have h2:=hI.av;rw [h1] at h2;exact⟨by rw [h1],Z1,hI.ok,h2,hI.same,hI.st⟩
   rw [HR.out.1];clear hI AL;go_wp2_with fail
   first|exact⟨rfl,HR.out.2⟩|(go_ret;exact⟨rfl,HR.out.2⟩)
def Q5i (l:List Pl) (tb:Nat->TB) (x:Nat) (z:Int):Value:=match pget l 1 x with
 | none=>.tuple #[.agg #[.int .u32 0,.int .i64 0],.int .i64 8]
 | some p=>if p.kind=2 then (if 0<=z/\z<256 then (match Q0f l tb x z.toNat with
   | none=>.tuple #[.agg #[.int .u32 0,.int .i64 0],.int .i64 6]
   | some e=>.tuple #[.agg #[.int .u32 (e.h:Int),.int .i64 (e.r:Int)],.int .i64 0]) else .tuple #[.agg #[.int .u32 0,.int .i64 0],.int .i64 2]) else .tuple #[.agg #[.int .u32 0,.int .i64 0],.int .i64 10]
theorem Q9o {w:World} {Z:SP} {fr:List Nat} {N K:Nat} (hs:Sep w Z.hl) (ok:Z.S.Ok fr N K) {x:Nat} (hx:x<4294967296) (z e:Int) (he:e≠0) (hw:(pget Z.S.l 1 x=none/\e=8)∨∃p,pget Z.S.l 1 x=some p/\p.kind≠2/\e=10) :
  Calls prog 21 #[.pointer (some ⟨Z.s,0,none⟩),.int .u32 x,.int .i64 z] w (Told w (.tuple #[.agg #[.int .u32 0,.int .i64 0],.int .i64 e])):=by
 have b1:Below w.heap.size w (w.alloc (.cells #[.int .u32 0,.int .i64 0] 35)):=(Below.refl _ _).alloc (J1L _) _;have ks:=Q0K (hs.grown b1).sep ok hx e hw;have HC:Hid (∀w1,Below (w.alloc (.cells #[.int .u32 0,.int .i64 0] 35)).heap.size (w.alloc (.cells #[.int .u32 0,.int .i64 0] 35)) w1->(∀o,Cells (w1.alloc o) w.heap.size 35 [.int .u32 0,.int .i64 0])/\∀o a b,Below w.heap.size w (((w1.alloc o).setCell ⟨w.heap.size,0,none⟩ a).setCell ⟨w.heap.size,1,none⟩ b)):=fun w1 Ax=>by
  have hR:=(Cells.new w 35 [.int .u32 0,.int .i64 0]).same (Ax.block w.heap.size (by simp));exact⟨hR.alloc,fun o a b=>(((Q0e Ax).alloc (Q0e Ax).size o).setCell (J1L _) _).setCell (J1L _) _⟩
 have FX:(e==0)=false:=by simpa using he
 clear hs ok hx hw b1;go_enter func21,ntmps21;go_wp2_with fail;refine ks.mono ?_;rintro r w1 ⟨rfl,Ax⟩;obtain⟨BP,hz⟩:=HC.out w1 Ax;have Aj:=BP (.cells #[.pointer none,.int .u32 0,.int .i64 0] 155);have HZ:=Q0a hz;have e0:=Aj.cell 0 _ rfl;have e1:=Aj.cell 1 _ rfl;have f0:=Aj.free 0;have f1:=Aj.free 1;have Ab:=Aj.lt;clear Ax hz Aj BP HC ks;go_wp2_with fail;refine bodyPost_ret (v:=.tuple #[.agg #[.int .u32 0,.int .i64 0],.int .i64 e]) (by simp [results,results21,go_sem,e0,e1]) rfl ⟨rfl,HZ.out _ _ _⟩
theorem Z3l {w:World} {Z:SP} {fr:List Nat} {N K:Nat} {M:Int} (hs:Sep w Z.hl) (ok:Z.Ok fr N K M) {x:Nat} (hx:x<4294967296) {p:Pl} (hp:pget Z.S.l 1 x=some p) (hk:p.kind=2) (z:Int) :
  Calls prog 21 #[.pointer (some ⟨Z.s,0,none⟩),.int .u32 x,.int .i64 z] w (Told w (Q5i Z.S.l Z.tb x z)):=by
 have b1:Below w.heap.size w (w.alloc (.cells #[.int .u32 0,.int .i64 0] 35)):=(Below.refl _ _).alloc (J1L _) _;have s1:=(hs.grown b1).sep;have ks:=Q0U s1 ok.core hx hp hk;have hi:=(pget_some.1 hp).1;have Ao:=(pget_some.1 hp).2.2;have AB:(Z.tb (x%256)).at' z=if 0<=z/\z<256 then Q0f Z.S.l Z.tb x z.toNat else none:=by
  unfold TB.at';split
  ·rename_i h;rw [Q0h hp hk (by omega)]
  ·rfl
 have HC:Hid (∀(w2:World) (g:Nat),Below (w.alloc (.cells #[.int .u32 0,.int .i64 0] 35)).heap.size (w.alloc (.cells #[.int .u32 0,.int .i64 0] 35)) w2->TblZ Z p g w2 ->
   Cells (w2.alloc (.cells #[.pointer (some ⟨g,0,none⟩),.int .u32 x,.int .i64 (p.fac:Int)] 155)) w.heap.size 35 [.int .u32 0,.int .i64 0]/\(∀a b,Below w.heap.size w (((w2.alloc (.cells #[.pointer (some ⟨g,0,none⟩),.int .u32 x,.int .i64 (p.fac:Int)] 155)).setCell ⟨w.heap.size,0,none⟩ a).setCell ⟨w.heap.size,1,none⟩ b)) /\
   Calls prog 74 #[.agg #[.pointer (some ⟨g,0,none⟩),.int .u32 x,.int .i64 (p.fac:Int)],.int .i64 z] (w2.alloc (.cells #[.pointer (some ⟨g,0,none⟩),.int .u32 x,.int .i64 (p.fac:Int)] 155)) (fun r w4=>r=.returned (capV ((Z.tb (x%256)).at' z)) /\
    (∀o,Cells (w4.alloc o) w.heap.size 35 [.int .u32 0,.int .i64 0])/\∀o a b,Below w.heap.size w (((w4.alloc o).setCell ⟨w.heap.size,0,none⟩ a).setCell ⟨w.heap.size,1,none⟩ b))):=fun w2 g Af hg=>by
  have hR:=(Cells.new w 35 [.int .u32 0,.int .i64 0]).same (Af.block w.heap.size (by simp));have Dq:Below w.heap.size w w2:=Q0e Af;have Ar:Below w2.heap.size w2 (w2.alloc (.cells #[.pointer (some ⟨g,0,none⟩),.int .u32 x,.int .i64 (p.fac:Int)] 155)):=(Below.refl _ _).alloc (J1L _) _;have BJ:=Dq.alloc Dq.size (.cells #[.pointer (some ⟨g,0,none⟩),.int .u32 x,.int .i64 (p.fac:Int)] 155);have s2:=(hs.grown Dq).sep;have s3:=(s2.grown Ar).sep;have T:=(ok.tpi.x (p.fac:Int)).tt ok.core hi Ao hk (SP.sS s3) (hg.grown s2 Ar).c;refine⟨hR.alloc _,fun a b=>(BJ.setCell (J1L _) _).setCell (J1L _) _,(Q1u T (x:Int) (p.fac:Int) z fun e he=>?_).mono ?_⟩
  ·rw [AB] at he;split at he
   ·exact ok.fpi.low ok.core.inv.lok he
   ·cases he
  ·rintro r w4 ⟨rfl,Az⟩;have Uw:=(hR.alloc _).same (Az.block w.heap.size (hR.alloc _).lt);have Em:Below w.heap.size w w4:=BJ.trans (Az.mono BJ.size);exact⟨rfl,Uw.alloc,fun o a b=>((Em.alloc Em.size o).setCell (J1L _) _).setCell (J1L _) _⟩
 have hv:Q5i Z.S.l Z.tb x z=if 0<=z/\z<256 then (match (Z.tb (x%256)).at' z with
   | none=>.tuple #[.agg #[.int .u32 0,.int .i64 0],.int .i64 6]
   | some e=>.tuple #[.agg #[.int .u32 (e.h:Int),.int .i64 (e.r:Int)],.int .i64 0]) else .tuple #[.agg #[.int .u32 0,.int .i64 0],.int .i64 2]:=by
  unfold Q5i;rw [hp];simp only;rw [if_pos hk,AB];by_cases h:0<=z/\z<256
  ·simp only [if_pos h]
  ·simp only [if_neg h]
 rw [hv];have AY:Hid (∀w,Calls prog 75 #[.int .i64 z] w fun r w'=>r=.returned (.bool (decide (0<=z/\z<256)))/\w=w'):=fun w=>Q2U w z
 clear hs ok hx hp hk hi Ao AB hv b1 s1;by_cases hz:0<=z/\z<256
 ·rw [if_pos hz];rw [decide_eq_true hz] at AY;cases ho:(Z.tb (x%256)).at' z with
  | none =>
   rw [ho] at HC;simp only [capV] at HC;simp only;clear ho hz;go_enter func21,ntmps21;go_wp2_with fail;refine ks.mono ?_;rintro r w2 ⟨g,rfl,Af,hg⟩;obtain⟨-,-,kc⟩:=HC.out w2 g Af hg;have hh:=AY.out (w2.alloc (.cells #[.pointer (some ⟨g,0,none⟩),.int .u32 x,.int .i64 (p.fac:Int)] 155));clear Af hg HC ks;go_wp2_with fail;refine hh.mono ?_;rintro r w3 ⟨rfl,rfl⟩;go_wp2_with fail;refine kc.mono ?_;rintro r w4 ⟨rfl,BP,hz⟩;have Aj:=BP (.cells #[.int .u32 0,.int .i64 0] 35);have HZ:=Q0a hz;have e0:=Aj.cell 0 _ rfl;have e1:=Aj.cell 1 _ rfl;have f0:=Aj.free 0;have f1:=Aj.free 1;have Ab:=Aj.lt
   clear hz Aj BP kc hh AY;go_wp2_with fail;refine bodyPost_ret (v:=.tuple #[.agg #[.int .u32 0,.int .i64 0],.int .i64 6]) (by simp [results,results21,go_sem,e0,e1]) rfl ⟨rfl,HZ.out _ _ _⟩
  | some e =>
   rw [ho] at HC;simp only [capV] at HC;simp only;clear ho hz;generalize (e.h:Int)=eh at *
   generalize (e.r:Int)=er at *
   go_enter func21,ntmps21;go_wp2_with fail;refine ks.mono ?_;rintro r w2 ⟨g,rfl,Af,hg⟩;obtain⟨-,-,kc⟩:=HC.out w2 g Af hg;have hh:=AY.out (w2.alloc (.cells #[.pointer (some ⟨g,0,none⟩),.int .u32 x,.int .i64 (p.fac:Int)] 155));clear Af hg HC ks;go_wp2_with fail;refine hh.mono ?_;rintro r w3 ⟨rfl,rfl⟩;go_wp2_with fail;refine kc.mono ?_;rintro r w4 ⟨rfl,BP,hz⟩;have Aj:=BP (.cells #[.int .u32 eh,.int .i64 er] 35);have HZ:=Q0a hz;have e0:=Aj.cell 0 _ rfl;have e1:=Aj.cell 1 _ rfl;have f0:=Aj.free 0;have f1:=Aj.free 1;have Ab:=Aj.lt;clear hz Aj BP kc hh AY;go_wp2_with fail
   refine bodyPost_ret (v:=.tuple #[.agg #[.int .u32 eh,.int .i64 er],.int .i64 0]) (by simp [results,results21,go_sem,e0,e1]) rfl ⟨rfl,HZ.out _ _ _⟩
 ·rw [if_neg hz];rw [decide_eq_false hz] at AY;clear hz;go_enter func21,ntmps21;go_wp2_with fail;refine ks.mono ?_;rintro r w2 ⟨g,rfl,Af,hg⟩;obtain⟨Aj,hz,-⟩:=HC.out w2 g Af hg;have hh:=AY.out (w2.alloc (.cells #[.pointer (some ⟨g,0,none⟩),.int .u32 x,.int .i64 (p.fac:Int)] 155));have HZ:=Q0a hz;have e0:=Aj.cell 0 _ rfl;have e1:=Aj.cell 1 _ rfl;have f0:=Aj.free 0;have f1:=Aj.free 1;have Ab:=Aj.lt;clear Af hg HC ks hz Aj AY;go_wp2_with fail;refine hh.mono ?_;rintro r w3 ⟨rfl,rfl⟩;go_wp2_with fail;refine bodyPost_ret (v:=.tuple #[.agg #[.int .u32 0,.int .i64 0],.int .i64 2]) (by simp [results,results21,go_sem,e0,e1]) rfl ⟨rfl,HZ.out _ _⟩
theorem Q6w {w:World} {Z:SP} {fr:List Nat} {N K:Nat} {M:Int} (hs:Sep w Z.hl) (ok:Z.Ok fr N K M) {x:Nat} (hx:x<4294967296) (z:Int) :
  Calls prog 21 #[.pointer (some ⟨Z.s,0,none⟩),.int .u32 x,.int .i64 z] w (Told w (Q5i Z.S.l Z.tb x z)):=by
 cases hp:pget Z.S.l 1 x with
 | none =>
  have:=Q9o hs ok.core hx z 8 (by decide) (.inl ⟨hp,rfl⟩);unfold Q5i;rw [hp];exact this
 | some p =>
  by_cases hk:p.kind=2
  ·exact Z3l hs ok hx hp hk z
  ·have:=Q9o hs ok.core hx z 10 (by decide) (.inr ⟨p,hp,hk,rfl⟩);unfold Q5i;rw [hp];simp only [if_neg hk];exact this
def Q0q (l:List Pl) (tb:Nat->TB) (x:Nat):List Int:=match pget l 1 x with
 | none=>[]
 | some p=>if p.kind=2 then Q0X (tb (x%256)) 256 else []
theorem NewIs.base {w w1 w':World} {L:List Int} {r:Ending} (hb:Below w.heap.size w w1) (h:NewIs w1 L r w'):NewIs w L r w':=by
 obtain⟨v,rfl,h1,h2⟩:=h;exact⟨v,rfl,Q2r h1 hb.size,hb.trans (h2.mono hb.size)⟩
theorem NewIs.nil {w w':World} (hb:Below w.heap.size w w'):NewIs w [] (.returned (.slice none 0 0)) w':=⟨_,rfl,World.ownsRow_nil _ _ _ _,hb⟩
theorem Q7p {w:World} {Z:SP} {fr:List Nat} {N K:Nat} {M:Int} (hs:Sep w Z.hl) (ok:Z.Ok fr N K M) {x:Nat} (hx:x<4294967296) :
  Calls prog 25 #[.pointer (some ⟨Z.s,0,none⟩),.int .u32 x] w (NewIs w (Q0q Z.S.l Z.tb x)):=by
 have Kt:∀e:Int,e≠0->((pget Z.S.l 1 x=none/\e=8)∨∃p,pget Z.S.l 1 x=some p/\p.kind≠2/\e=10)->Calls prog 25 #[.pointer (some ⟨Z.s,0,none⟩),.int .u32 x] w (NewIs w []):=fun e he hw=>by
  have ks:=Q0K hs ok.core hx e hw;have FX:(e==0)=false:=by simpa using he
  have HR:Hid (∀w',Below w.heap.size w w'->∀o,NewIs w [] (.returned (.slice none 0 0)) (w'.alloc o)):=fun w' hb o=>NewIs.nil (hb.alloc hb.size o)
  clear hs ok hx hw;go_enter func25,ntmps25;go_wp2_with fail;refine ks.mono ?_;rintro r w1 ⟨rfl,hb⟩;have HQ:=Q0a (HR.out w1 hb);clear hb HR ks;go_wp2_with fail
  first|exact HQ.out _|(go_ret;exact HQ.out _)
 cases hp:pget Z.S.l 1 x with
 | none =>
  have:=Kt 8 (by decide) (.inl ⟨hp,rfl⟩);unfold Q0q;rw [hp];exact this
 | some p =>
  by_cases hk:p.kind=2
  ·have ks:=Q0U hs ok.core hx hp hk;have hi:=(pget_some.1 hp).1;have Ao:=(pget_some.1 hp).2.2;have hL:Q0q Z.S.l Z.tb x=Q0X (Z.tb (x%256)) 256:=by
    unfold Q0q;rw [hp];simp only [if_pos hk]
   rw [hL];have HC:Hid (∀(w2:World) (g:Nat),Below w.heap.size w w2->TblZ Z p g w2->Calls prog 89 #[.pointer (some ⟨g,0,none⟩)] (w2.alloc (.cells #[.pointer (some ⟨g,0,none⟩),.int .u32 x,.int .i64 (p.fac:Int)] 155)) (NewIs w (Q0X (Z.tb (x%256)) 256))):=fun w2 g Af hg=>by
    have Ar:Below w2.heap.size w2 (w2.alloc (.cells #[.pointer (some ⟨g,0,none⟩),.int .u32 x,.int .i64 (p.fac:Int)] 155)):=(Below.refl _ _).alloc (J1L _) _;have s2:=(hs.grown Af).sep;have T:=(ok.tpi.x (p.fac:Int)).tt ok.core hi Ao hk (SP.sS (s2.grown Ar).sep) (hg.grown s2 Ar).c;exact (Q7l T).mono fun r w' h=>h.base (Af.trans (Ar.mono Af.size))
   clear hs ok hx hp hk hi Ao hL Kt;generalize Q0X (Z.tb (x%256)) 256=L at *
   go_enter func25,ntmps25;go_wp2_with fail;refine ks.mono ?_;rintro r w2 ⟨g,rfl,Af,hg⟩;have kt:=HC.out w2 g Af hg;clear Af hg HC ks;go_wp2_with fail;refine kt.mono ?_;rintro r w3 ⟨v,rfl,hq⟩;have HQ:Hid (NewIs w L (.returned v) w3):=⟨v,rfl,hq⟩
   clear hq kt;go_wp2_with fail
   first|exact HQ.out|(go_ret;exact HQ.out)
  ·have:=Kt 10 (by decide) (.inr ⟨p,hp,hk,rfl⟩);unfold Q0q;rw [hp];simp only [if_neg hk];exact this
theorem Q5t {w:World} {Z:SP} (hs:Sep w Z.hl):Calls prog 29 #[.pointer (some ⟨Z.s,0,none⟩)] w fun r w'=>r=.returned (.pointer (some ⟨Z.S.c,0,none⟩))/\w=w':=by
 have c0:=SP.c0 hs;clear hs;go_enter func29,ntmps29
 go_wp2
 go_ret;exact⟨rfl,rfl⟩
def encS (p:Int×Int):List Value:=[.int .i64 p.1,.int .i64 p.2]
theorem Z8G:(prog.info? 46).map (fun i=>(i.zero,i.size,i.bytes))=some (some (.agg #[.int .i64 0,.int .i64 0]),2,16):=by kernel_rfl
def OutS (w wr:World) (v:Value) (L:List (Int×Int)):Prop:=wr.ownsRow w.heap.size 46 2 v L.length (L.flatMap encS)/\Below w.heap.size w wr
theorem OutS.nil (w:World):OutS w w (.slice none 0 0) []:=⟨World.ownsRow_nil _ _ _ _,Below.refl _ _⟩
theorem OutS.below {w wr w1:World} {v:Value} {L:List (Int×Int)} (h:OutS w wr v L) (hb:Below wr.heap.size wr w1):OutS w w1 v L:=
 ⟨h.1.kept (row:=none) ⟨hb.os,hb.tape,hb.output,hb.size,fun k hk _=>hb.block k hk⟩ (by cases hv:v.ownBlock with|none=>exact .inl rfl|some b=>exact .inr (by simp)),h.2.trans (hb.mono h.2.size)⟩
theorem OutS.app {w wr:World} {v:Value} {L:List (Int×Int)} (h:OutS w wr v L) (hl:L.length<=16777216) (x y:Int) (ty:TypeId):∃v' w',(Builtin.append_ #[49,49] ty #[v,.slice (some ⟨wr.heap.size,0,none⟩) 1 1]).run prog (wr.alloc (.cells #[.int .i64 x,.int .i64 y] 46))=.ok v' w'/\OutS w w' v' (L++[(x,y)])/\(∀b,b<wr.heap.size->v.ownBlock≠some b->w'.heap[b]?=wr.heap[b]?)/\(v'.ownBlock=v.ownBlock∨∀b,v'.ownBlock=some b->wr.heap.size<=b)/\wr.heap.size<=w'.heap.size:=by
 obtain⟨i0,hi,BN,Bh,Bf⟩:=info_parts Z8G;have h2:=h.below ((Below.refl _ _).alloc (J1L _) (.cells #[.int .i64 x,.int .i64 y] 46));obtain⟨v',w',hr,q1,q2,_,q4⟩:=run_append_own_at (P:=prog) (wr.alloc (.cells #[.int .i64 x,.int .i64 y] 46)) w.heap.size 49 ty 46 i0 (.agg #[.int .i64 0,.int .i64 0]) 2 16 underlying49 hi BN Bh Bf rfl (by decide) v L.length (L.flatMap encS) h2.1 ⟨wr.heap.size,0,none⟩ 1 1 [.int .i64 x,.int .i64 y] rfl (by
  intro j u hj;have:=(Cells.new wr 46 [.int .i64 x,.int .i64 y]).cell j u hj;have e:(⟨wr.heap.size,0,none⟩:Addr).add j=⟨wr.heap.size,j,none⟩:=by unfold Addr.add;split <;> simp_all
  rw [e];exact this) (fun u hu=>by
   rcases J1Q.1 hu with rfl|hu
   ·rfl
   ·rw [J3T.1 hu];rfl) (by unfold maxLen;omega) (by omega) h2.2.size
 refine⟨v',w',hr,⟨?_,?_⟩,fun b hb Aa=>?_,?_,?_⟩
 ·rw [J2v,J2t];exact q1
 ·exact h2.2.trans ((Below.refl _ _).mono h2.2.size |>.grown q2 h2.2.size (fun b hb=>(h2.1.lt b hb).1))
 ·rw [q2.block b (by simp;omega) (fun e=>Aa e.symm)];exact Below.heap_alloc _ _ _ hb
 ·rcases q4 with q4|q4
  ·exact .inl q4
  ·refine .inr fun b hb=>?_
   rw [q4] at hb;cases hb;simp
 ·have:=q2.size;simp at this;omega
def NewSp (w:World) (L:List (Int×Int)) (r:Ending) (w':World):Prop:=∃v,r=.returned v/\w'.ownsRow w.heap.size 46 2 v L.length (L.flatMap encS)/\Below w.heap.size w w'
def hasH (l:List Pl) (tb:Nat->TB) (h x:Nat) (s:Int):Bool:=match Q0f l tb x s.toNat with
 | some e=>decide (e.h=h)
 | none=>false
def Q3p (l:List Pl) (tb:Nat->TB) (h x:Nat) (L:List Int):List (Int×Int):=(L.filter (hasH l tb h x)).map fun s=>((x:Int),s)
def Q5x (l:List Pl) (tb:Nat->TB) (h x:Nat):List (Int×Int):=Q3p l tb h x (Q0q l tb x)
def Q1M (l:List Pl) (tb:Nat->TB) (h:Nat) (T:List Nat):List (Int×Int):=T.flatMap (Q5x l tb h)
def Q1v (l:List Pl) (tb:Nat->TB) (h:Nat):List (Int×Int):=Q1M l tb h (allL l 1)
theorem Z3m (l:List Pl) (tb:Nat->TB) (h x:Nat) (L:List Int) (s:Int):Q3p l tb h x (L++[s])=Q3p l tb h x L++if hasH l tb h x s=true then [((x:Int),s)] else []:=by
 unfold Q3p;rw [J3J,J5p];cases hh:hasH l tb h x s <;> simp [hh]
theorem Q9p (l:List Pl) (tb:Nat->TB) (h x:Nat) (L:List Int):(Q3p l tb h x L).length<=L.length:=by
 unfold Q3p;rw [J3v];exact J4b _ _
theorem Z3n (l:List Pl) (tb:Nat->TB) (h:Nat) (T:List Nat) (x:Nat):Q1M l tb h (T++[x])=Q1M l tb h T++Q5x l tb h x:=by
 unfold Q1M;rw [J2t];simp
theorem Q4P (l:List Pl) (tb:Nat->TB) (x:Nat):(Q0q l tb x).length<=256:=by
 unfold Q0q;split
 ·simp
 ·split
  ·exact Q4f _ _
  ·simp
theorem Q4Q (l:List Pl) (tb:Nat->TB) (h:Nat):∀T:List Nat,(Q1M l tb h T).length<=256*T.length
 | []=>J1L _
 | x::r=>by
  have h1:=Q4Q l tb h r;have h2:=Q9p l tb h x (Q0q l tb x);have h3:=Q4P l tb x;show ((x::r).flatMap (Q5x l tb h)).length<=_;rw [J2i,J2v,J2w];unfold Q1M at h1;unfold Q5x at h1 ⊢;omega
theorem mem_slotsL {l:List Pl} {tb:Nat->TB} {x:Nat} {z:Int}:z∈Q0q l tb x↔∃s:Nat,z=(s:Int)/\s<256/\∃e,Q0f l tb x s=some e:=by
 unfold Q0q Q0f;cases hp:pget l 1 x with
 | none=>simp
 | some p =>
  simp only;by_cases hk:p.kind=2
  ·rw [if_pos hk];unfold Q0X;simp only [J1R,J2f,J2b,J5r]
   constructor
   ·rintro⟨s,⟨h1,e,h2⟩,rfl⟩;exact⟨s,rfl,h1,e,by rw [if_pos ⟨hk,h1⟩];exact h2⟩
   ·rintro⟨s,rfl,h1,e,h2⟩;rw [if_pos ⟨hk,h1⟩] at h2;exact⟨s,⟨h1,e,h2⟩,rfl⟩
  ·rw [if_neg hk]
   constructor
   ·intro h;cases h
   ·rintro⟨s,rfl,h1,e,h2⟩;rw [if_neg (by simp [hk])] at h2;cases h2
theorem mem_holdL {l:List Pl} {tb:Nat->TB} {h:Nat} {T:List Nat} {p:Int×Int}:p∈Q1M l tb h T↔∃x∈T,∃s:Nat,p=((x:Int),(s:Int))/\s<256/\∃e,Q0f l tb x s=some e/\e.h=h:=by
 unfold Q1M Q5x Q3p;simp only [J2l,J1R,J2f]
 constructor
 ·rintro⟨x,hx,z,⟨h1,h2⟩,rfl⟩;obtain⟨s,rfl,h3,e,h4⟩:=mem_slotsL.1 h1;refine⟨x,hx,s,rfl,h3,e,h4,?_⟩;unfold hasH at h2;rw [J2R,h4] at h2
  simpa using h2
 ·rintro⟨x,hx,s,rfl,h3,e,h4,h5⟩;refine⟨x,hx,(s:Int),⟨mem_slotsL.2 ⟨s,rfl,h3,e,h4⟩,?_⟩,rfl⟩;unfold hasH;rw [J2R,h4]
  simpa using h5
end Go.Proofs.YtlakjlmaboioiaaGreatDoor

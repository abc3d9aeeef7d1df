/- SpaceBack returns true at every input. No condition. Part of its proof. -/
import Derived.Test.YtlakjlmaboioiaaGreatDoorSb01
import Derived.Test.YtlakjlmaboioiaaGreatDoorSb16
import Derived.Test.YtlakjlmaboioiaaGreatDoorSb17
import Derived.Test.YtlakjlmaboioiaaGreatDoorSb10
import Derived.Sort.WalkB12
import Derived.Lib.SlicesMore
import Derived.Maps.AppendAt
import Derived.Laws.OwnMore
import Derived.Test.YtlakjlmaboioiaaGreatDoorSb12
import Derived.Shelf.RegionOpenPlain
import Derived.Test.YtlakjlmaboioiaaGreatDoorSb14
import Derived.Test.YtlakjlmaboioiaaGreatDoorSb15
import Derived.ScopeJumps
set_option maxHeartbeats 4000000
set_option maxRecDepth 1000000
set_option linter.unusedVariables false
namespace Go.Proofs.YtlakjlmaboioiaaGreatDoor
open Go.RowKit Go.Proofs.Tryz
theorem Z3n (a b:Nat) (ha:a<16) (hb:b<16):bits .andNot .i64 (a:Int) (b:Int)=((less a b:Nat):Int):=by
 have:∀a b:Fin 16,bits .andNot .i64 ((a.val:Nat):Int) ((b.val:Nat):Int)=((less a.val b.val:Nat):Int):=by decide +kernel
 exact this ⟨a,ha⟩ ⟨b,hb⟩
theorem Q6v (a b:Nat) (ha:a<16) (hb:b<16):bits .and .i64 (a:Int) (b:Int)=((a&&&b:Nat):Int):=by
 have:∀a b:Fin 16,bits .and .i64 ((a.val:Nat):Int) ((b.val:Nat):Int)=((a.val&&&b.val:Nat):Int):=by decide +kernel
 exact this ⟨a,ha⟩ ⟨b,hb⟩
theorem Q7v {S:CO} {fr:List Nat} {N K:Nat} {tb:Nat->TB} (ok:S.Ok fr N K) (t:TPI S tb) {i s:Nat} {p:Pl} (hi:S.l[i]?=some p) (h1:p.st=1) (h2:p.kind=2) (hs:s<256) {e e2:Ent} (he:(tb i).en s=some e) (hn:e2.nd=e.nd) (hl:e2.Low) {w:World} {g:Nat} (hsep:Sep w S.hl) (hg:TblC S p g w) :
  Calls prog 104 #[.pointer (some ⟨g,0,none⟩),.int .i64 s,.int .u64 (e2.a:Nat),.int .u64 (e2.nd:Nat)] w fun r w'=>r=.returned (.int .i64 0)/\J1I S fr N K tb (p.fac:Int) i s (some e2) w w':=by
 have tx:=t.x (p.fac:Int);have hi256:=Q1s ok.inv.len hi;have T:=tx.tt ok hi h1 h2 hsep hg;have hlf:(tb i).lf (s/16)≠0:=fun h=>by
  have:=T.tin.hole s hs h;rw [he] at this;cases this
 have hnu:e2.nd∈S.P.usedOf 6:=t.nds.mem_iff.1 (J2X.2 ⟨i,J2N.2 hi256,mem_nds.2 ⟨s,e,hs,he,hn.symm⟩⟩);have hm:=Q0m ok.inv.mem.pool hnu;have hbm:=Q0o ok.inv.mem.pool;obtain⟨l1,l2⟩:=hl;refine (Z2b ok tx hi h1 h2 rfl hs (xn':=[]) (by rw [TB.nds_same hs he hn]) (by show e2.h+1+4294967296*e2.r<_;omega) (by show e2.nd<_;omega) hsep hg).mono ?_;rintro r w' (⟨rfl,hp⟩|⟨h0,_⟩)
 ·exact⟨rfl,hp.turn t.full⟩
 ·exact absurd h0 hlf
def Z0J (Z:SP) (fr:List Nat) (N K:Nat) (M:Int) (m:Nat) (id:Int) (w:World) (b:Bool) (w':World):Prop:=∃Z',Z'.Ok fr N K M/\weak1 m Z.av id=(Z'.av,b)/\SameZ Z Z'/\Step Z.hl Z'.hl w w'
theorem FPI.low {l:List Pl} {tb:Nat->TB} {N:List (En Nd)} (f:FPI l tb N) (lok:LOk l) {h s:Nat} {e:Ent} (he:Q0f l tb h s=some e):e.Low:=by
 obtain⟨⟨q,hq,_⟩,hr⟩:=f.cap h s e he;have h1:=pget_some.1 hq;have h2:=lok.2 q (Q0y hq);refine⟨?_,by omega⟩;have:nm (e.h%256) q=e.h:=h1.2.1;unfold nm at this;omega
theorem Q9u {w:World} {Z:SP} {fr:List Nat} {N K:Nat} {M:Int} (hs:Sep w Z.hl) (ok:Z.Ok fr N K M) {id:Int} (hf:find Z.F.N id=none) (m:Nat) :
  Calls prog 168 #[.pointer (some ⟨Z.s,0,none⟩),.int .i64 id,.int .i64 m] w fun r w'=>r=.returned (.bool false)/\Z0J Z fr N K M m id w false w':=by
 have c1:=SP.c1 hs;have ko:=Q6p (SP.sF hs) hf;obtain⟨p0,hp0,hk0,_,hs0,ha0,_⟩:=ok.core.inv.que.root;have hroot:pget Z.S.l 1 0=some p0:=pget_some.2 ⟨hp0,by unfold nm;omega,hs0⟩;have ks:=Q0H hs ok.core (x:=0) (by omega) 10 (.inr ⟨p0,hroot,by omega,rfl⟩);have HR:Hid (∀w',Below w.heap.size w w'->Z0J Z fr N K M m id w false w'):=fun w' hb=>⟨Z,ok,by unfold weak1;rw [show Z.av.N=Z.F.N from rfl,hf],SameZ.refl Z,hs.grown hb⟩
 clear hs ok hf hroot hp0;go_enter func168,ntmps168;go_wp2_with fail;refine ko.mono ?_;rintro r w1 ⟨rfl,rfl⟩;go_wp2_with fail;refine ks.mono ?_;rintro r w1 ⟨rfl,hb⟩;have HQ:=Q0a (HR.out _ (hb.alloc hb.size (.cells #[.pointer none,.int .u32 0,.int .i64 0] 155)));clear hb HR ks ko;go_wp2_with fail
 first|exact⟨rfl,HQ.out⟩|(go_ret;exact⟨rfl,HQ.out⟩)
structure J2o (Z:SP) (fr:List Nat) (N K:Nat) (M:Int) (m:Nat) (id:Int) (h s g:Nat) (p:Pl) (e:Ent) (w w2:World):Prop where
 go:∀w3,Below w2.heap.size w2 w3->w3.cell? ⟨Z.s,1,none⟩=some (.pointer (some ⟨Z.F.f,0,none⟩)) /\
  Calls prog 74 #[.agg #[.pointer (some ⟨g,0,none⟩),.int .u32 h,.int .i64 (p.fac:Int)],.int .i64 s] w3 (Told w3 (.tuple #[.agg #[.int .u32 (e.h:Int),.int .i64 (e.r:Int)],.bool true])) /\
  Calls prog 103 #[.pointer (some ⟨g,0,none⟩),.int .i64 s] w3 (fun r w'=>r=.returned (.tuple #[.int .u64 (e.a:Nat),.int .u64 (e.nd:Nat)])/\w3=w')
 lift:less e.r m=0->∀w3,Below w2.heap.size w2 w3->Calls prog 166 #[.pointer (some ⟨Z.F.f,0,none⟩),.int .i64 id] w3 fun r w4=>(∃v,r=.returned v)/\(∀b,w2.heap.size<=b->b<w3.heap.size->w4.heap[b]?=w3.heap[b]?)/\w3.heap.size<=w4.heap.size /\
  Calls prog 81 #[.pointer (some ⟨Z.s,0,none⟩),.agg #[.pointer (some ⟨g,0,none⟩),.int .u32 h,.int .i64 (p.fac:Int)],.int .i64 s] w4 fun r w5=>r=.returned (.tuple #[])/\Z0J Z fr N K M m id w true w5
 set:less e.r m≠0->∀w3,Below w2.heap.size w2 w3->Calls prog 104 #[.pointer (some ⟨g,0,none⟩),.int .i64 s,.int .u64 ((⟨e.h,less e.r m,0⟩:Ent).a:Nat),.int .u64 (e.nd:Nat)] w3 fun r w4=>r=.returned (.int .i64 0)/\(∀b,w2.heap.size<=b->b<w3.heap.size->w4.heap[b]?=w3.heap[b]?)/\Z0J Z fr N K M m id w false w4
theorem Step.keep {H H':HL} {w w1 w':World} {B:Nat} (st:Step H H' w1 w') (hs:Sep w H) (hB:w.heap.size<=B):∀b,B<=b->b<w1.heap.size->w'.heap[b]?=w1.heap[b]?:=fun b h1 h2=>st.chg.block b h2 fun hk=>by
 have:=hs.lt hk;omega
theorem Z3o {w w1:World} {Z:SP} {fr:List Nat} {N K:Nat} {M:Int} (hs:Sep w Z.hl) (hb:Below w.heap.size w w1) (ok:Z.Ok fr N K M) {id:Int} {n:En Nd} (hf:find Z.F.N id=some n) {m:Nat} (hm:m<16) (hd:m=15∨Q3F m Z.av [] id)
  {h s:Nat} {p:Pl} {e:Ent} (h1:n.q.sp=(h:Int)) (h2:n.q.sl=(s:Int)) (hh:h<4294967296) (hs2:s<256) (hp:pget Z.S.l 1 h=some p) (hk:p.kind=2) (hen:(Z.tb (h%256)).en s=some e) (he:Q0f Z.S.l Z.tb h s=some e) :
  Calls prog 73 #[.pointer (some ⟨Z.s,0,none⟩),.int .u32 h] w1 fun r w2=>∃g:Nat,r=.returned (.tuple #[.agg #[.pointer (some ⟨g,0,none⟩),.int .u32 h,.int .i64 (p.fac:Int)],.int .i64 0])/\J2o Z fr N K M m id h s g p e w w2:=by
 have s1:=(hs.grown hb).sep;have hi:=(pget_some.1 hp).1;have hst:=(pget_some.1 hp).2.2;have hlow:=ok.fpi.low ok.core.inv.lok he;have hr:=(ok.fpi.cap h s e he).r;refine (Q0U s1 ok.core hh hp hk).mono ?_;rintro r w2 ⟨g,rfl,hb2,hg⟩;have hb12:Below w.heap.size w w2:=hb.trans (hb2.mono hb.size);have grow:∀w3,Below w2.heap.size w2 w3->Below w.heap.size w w3/\Sep w3 Z.hl/\TblZ Z p g w3:=fun w3 hb3=>by
  have hb':Below w.heap.size w w3:=hb12.trans (hb3.mono hb12.size);exact⟨hb',(hs.grown hb').sep,hg.grown (hs.grown hb12).sep hb3⟩
 have hat:(Z.tb (h%256)).at' (s:Int)=some e:=by unfold TB.at';rw [if_pos ⟨by omega,by omega⟩,J3C,hen]
 refine⟨g,rfl,fun w3 hb3=>?_,fun h0 w3 hb3=>?_,fun h0 w3 hb3=>?_⟩
 ·obtain⟨hb',s3,g3⟩:=grow w3 hb3;have T:=(ok.tpi.x (p.fac:Int)).tt ok.core hi hst hk (SP.sS s3) g3.c;have kc:=Q1x T (h:Int) (p.fac:Int) (s:Int) (fun e' he'=>by rw [hat] at he';cases he';exact hlow);have kg:=Q3I T (s:Int);rw [hat] at kc kg;exact⟨SP.c1 s3,kc,kg⟩
 ·obtain⟨hb',s3,g3⟩:=grow w3 hb3;obtain⟨hn,hid⟩:=Q0b hf;have kl:=Q9t (SP.sF s3) ok.fo (e:=n) (by rw [hid];exact hf);rw [hid] at kl;refine kl.mono ?_;rintro r w4 ⟨hv,F',hFf,hFN,hFn,hFok,st⟩;have stz:=SP.stepF s3 F' hFf st;have g4:TblZ (Z.setF F') p g w4:=g3.step stz rfl;refine⟨hv,stz.keep hs hb12.size,stz.chg.size,?_⟩;refine (Q4O (Z:=Z.setF F') stz.sep ok.core ok.tpi hi hst hk hs2 hen g4).mono ?_;rintro r w5 ⟨rfl,S',t',T,stt⟩;obtain⟨a1,a2,a3⟩:=ok.lifted hf h1 h2 hp hk hs2 he h0 T hFN hFok hFn hFf;exact⟨rfl,_,a1,a2,a3,((hs.grown hb').trans stz).trans stt⟩
 ·obtain⟨hb',s3,g3⟩:=grow w3 hb3;have hd':Q3F m Z.av [] id:=by
   rcases hd with rfl|hd
   ·exact absurd (Q4E e.r (by omega)) h0
   ·exact hd
  refine (Q7v (e2:=⟨e.h,less e.r m,e.nd⟩) ok.core ok.tpi hi hst hk hs2 hen rfl ⟨hlow.1,by have:=(Q5E e.r (by omega) m hm).2.2;show less e.r m<16;omega⟩ (SP.sS s3) g3.c).mono ?_;rintro r w4 ⟨rfl,S',t',T,stt⟩;have stz:=SP.stepS s3 S' (updT Z.tb (h%256) t') T.alt.c stt;obtain⟨a1,a2,a3⟩:=ok.weakened hf h1 h2 hp hk hs2 he hm h0 hd' T;exact⟨rfl,stz.keep hs hb12.size,_,a1,a2,a3,(hs.grown hb').trans stz⟩
theorem Q9v {w:World} {Z:SP} {fr:List Nat} {N K:Nat} {M:Int} (hs:Sep w Z.hl) (ok:Z.Ok fr N K M) {id:Int} {n:En Nd} (hf:find Z.F.N id=some n) (m:Nat) (hm1:1<=m) (hm:m<16) (hd:m=15∨Q3F m Z.av [] id) :
  Calls prog 168 #[.pointer (some ⟨Z.s,0,none⟩),.int .i64 id,.int .i64 m] w fun r w'=>∃b:Bool,r=.returned (.bool b)/\Z0J Z fr N K M m id w b w':=by
 obtain⟨hn,hid⟩:=Q0b hf;obtain⟨h,s,p,e,h1,h2,hh,hs2,hp,hk,hen,he⟩:=ok.fpi.task ok.fo.n hn;have hlow:=ok.fpi.low ok.core.inv.lok he;have hr:=(ok.fpi.cap h s e he).r;have c1:=SP.c1 hs;have ko:=Q6q (SP.sF hs) hf;rw [h1,h2] at ko;have han:=Z3n e.r m (by omega) hm;have HPk:Hid (∀w,Calls prog 105 #[.agg #[.int .u32 (e.h:Int),.int .i64 ((less e.r m:Nat):Int)]] w (Told w (.int .u64 ((⟨e.h,less e.r m,0⟩:Ent).a:Nat)))):=fun w=>Q6s w e.h (less e.r m) hlow.1 (by have:=(Q5E e.r (by omega) m hm).2.2;omega)
 have HC:Hid (∀w1,Below w.heap.size w w1->_):=fun w1 hb=>Z3o hs hb ok hf hm hd h1 h2 hh hs2 hp hk hen he
 have hhi:(h:Int)<4294967296:=by omega
 have hh0:(0:Int)<=(h:Int):=by omega
 clear hs ok hf hd h1 h2 hh hp hk hen he hn hid hlow hr hm1 hm;by_cases h0:less e.r m=0
 ·rw [h0] at han;have HZ0:=Q0a h0;clear h0 HPk;have han0:bits .andNot .i64 (e.r:Int) (m:Int)=0:=han;clear han;go_enter func168,ntmps168;go_wp2_with fail;refine ko.mono ?_;rintro r w1 ⟨rfl,hb1⟩;have HS:=Q0a (HC.out w1 hb1);clear hb1 HC ko;go_wp2_with fail;refine HS.out.mono ?_;rintro r w2 ⟨g,rfl,hc⟩;have hgo:=hc.go _ ((Below.refl _ _).alloc (J2x _) (.cells #[.pointer (some ⟨g,0,none⟩),.int .u32 h,.int .i64 (p.fac:Int)] 155));have kcap:=hgo.2.1;have HCc:=Q0a hc;clear hc HS hgo;have hB:=Cells.new w2 155 [.pointer (some ⟨g,0,none⟩),.int .u32 h,.int .i64 (p.fac:Int)];go_wp2_with fail;refine kcap.mono ?_
  rintro r w3 ⟨rfl,hb3⟩;have hb3':Below w2.heap.size w2 w3:=Q0e hb3;have hB3:=hB.same (hb3.block w2.heap.size (by simp));have hb4:Below w2.heap.size w2 (w3.alloc (.cells #[.int .u32 (e.h:Int),.int .i64 0] 35)):=hb3'.alloc hb3'.size _;have d1:=(HCc.out.go _ hb4).1;have klift:=HCc.out.lift HZ0.out _ hb4;have hB4:=hB3.alloc (.cells #[.int .u32 (e.h:Int),.int .i64 0] 35);have HKeep:Hid (∀w5:World,(∀b,w2.heap.size<=b->b<(w3.alloc (.cells #[.int .u32 (e.h:Int),.int .i64 0] 35)).heap.size->w5.heap[b]?=(w3.alloc (.cells #[.int .u32 (e.h:Int),.int .i64 0] 35)).heap[b]?)->Cells w5 w2.heap.size 155 [.pointer (some ⟨g,0,none⟩),.int .u32 h,.int .i64 (p.fac:Int)]):=fun w5 hk=>hB4.same (hk _ (J2x _) hB4.lt)
  have HLift:=Q0a klift;clear hb3 hb3' hB kcap hB3 hB4 hb4 klift HZ0 HCc;go_wp2_with fail;refine HLift.out.mono ?_;rintro r w5 ⟨⟨v,rfl⟩,hkeep,hsz,hbare⟩;have hB5:=HKeep.out w5 hkeep;have b0:=hB5.cell 0 _ rfl;have b1:=hB5.cell 1 _ rfl;have b2:=hB5.cell 2 _ rfl;have HBare:=Q0a hbare;clear hkeep hsz hbare HLift HKeep hB5;go_wp2_with fail;refine HBare.out.mono ?_;rintro r w6 ⟨rfl,hq⟩;have HQ:=Q0a hq;clear hq HBare;go_wp2_with fail
  first|exact⟨true,rfl,HQ.out⟩|(go_ret;exact⟨true,rfl,HQ.out⟩)
 ·have hnz:(((less e.r m:Nat):Int)==0)=false:=by simpa using h0
  have HZ0:=Q0a h0;have hne:∃lr,lr=less e.r m:=⟨_,rfl⟩
  obtain⟨lr,hl⟩:=hne;rw [<- hl] at han hnz HPk;have HLr:=Q0a hl;have hnz2:(lr:Int)≠0:=by
   rw [hl]
   simpa using h0
  have hnb2:((lr:Int) != 0)=true:=by simpa using hnz2
  generalize (lr:Int)=lz at *
  clear h0 hl;go_enter func168,ntmps168;go_wp2_with fail;refine ko.mono ?_;rintro r w1 ⟨rfl,hb1⟩;have HS:=Q0a (HC.out w1 hb1);clear hb1 HC ko;go_wp2_with fail;refine HS.out.mono ?_;rintro r w2 ⟨g,rfl,hc⟩;have hgo:=hc.go _ ((Below.refl _ _).alloc (J2x _) (.cells #[.pointer (some ⟨g,0,none⟩),.int .u32 h,.int .i64 (p.fac:Int)] 155));have kcap:=hgo.2.1;have HCc:=Q0a hc;clear hc HS hgo;have hB:=Cells.new w2 155 [.pointer (some ⟨g,0,none⟩),.int .u32 h,.int .i64 (p.fac:Int)];go_wp2_with fail;refine kcap.mono ?_;rintro r w3 ⟨rfl,hb3⟩;have hb3':Below w2.heap.size w2 w3:=Q0e hb3;have hB3:=hB.same (hb3.block w2.heap.size (by simp))
  have hb4:Below w2.heap.size w2 (w3.alloc (.cells #[.int .u32 (e.h:Int),.int .i64 lz] 35)):=hb3'.alloc hb3'.size _;have kget:=(HCc.out.go _ hb4).2.2;have hB4:=hB3.alloc (.cells #[.int .u32 (e.h:Int),.int .i64 lz] 35);have hC4:=Cells.new w3 35 [.int .u32 (e.h:Int),.int .i64 lz];have s0:=hB4.cell 0 _ rfl;have q0:=hC4.cell 0 _ rfl;have q1:=hC4.cell 1 _ rfl;have HHeld:Hid (∀w5,Below (w3.alloc (.cells #[.int .u32 (e.h:Int),.int .i64 lz] 35)).heap.size (w3.alloc (.cells #[.int .u32 (e.h:Int),.int .i64 lz] 35)) w5->Below w2.heap.size w2 w5/\w5.cell? ⟨w2.heap.size,0,none⟩=some (.pointer (some ⟨g,0,none⟩))/\w5.cell? ⟨w3.heap.size,0,none⟩=some (.int .u32 (e.h:Int))/\w5.cell? ⟨w3.heap.size,1,none⟩=some (.int .i64 lz)):=fun w5 hb5=>⟨hb4.trans (hb5.mono hb4.size),(hB4.same (hb5.block _ hB4.lt)).cell 0 _ rfl,(hC4.same (hb5.block _ hC4.lt)).cell 0 _ rfl,(hC4.same (hb5.block _ hC4.lt)).cell 1 _ rfl⟩
  have HKeep:Hid (∀(w5 w6:World),Below (w3.alloc (.cells #[.int .u32 (e.h:Int),.int .i64 lz] 35)).heap.size (w3.alloc (.cells #[.int .u32 (e.h:Int),.int .i64 lz] 35)) w5->(∀b,w2.heap.size<=b->b<w5.heap.size->w6.heap[b]?=w5.heap[b]?)->w6.cell? ⟨w2.heap.size,0,none⟩=some (.pointer (some ⟨g,0,none⟩))/\w6.cell? ⟨w3.heap.size,0,none⟩=some (.int .u32 (e.h:Int))/\w6.cell? ⟨w3.heap.size,1,none⟩=some (.int .i64 lz)):=fun w5 w6 hb5 hk=>by
   have hB5:=hB4.same (hb5.block _ hB4.lt);have hC5:=hC4.same (hb5.block _ hC4.lt);have l3:w2.heap.size<=w3.heap.size:=hb3'.size;exact⟨(hB5.same (hk _ (J2x _) hB5.lt)).cell 0 _ rfl,(hC5.same (hk _ l3 hC5.lt)).cell 0 _ rfl,(hC5.same (hk _ l3 hC5.lt)).cell 1 _ rfl⟩
  clear hb3 hb3' hB kcap hB3 hB4 hC4 hb4;generalize e.a=ea at *
  go_wp2_with fail;refine kget.mono ?_;rintro r w4 ⟨rfl,rfl⟩;have hh5:=HHeld.out _ ((Below.refl _ _).drew);obtain⟨bb5,x1,x2,x3⟩:=hh5;have HBB:=Q0a bb5;have kset:=HCc.out.set HZ0.out;rw [<- HLr.out] at kset;have HSet:=Q0a kset;clear bb5 kset kget HCc HZ0 HLr;go_wp2_with fail
  go_region_held3 (fun w'=>w'.cell? ⟨w2.heap.size,0,none⟩=some (.pointer (some ⟨g,0,none⟩))/\w'.cell? ⟨w3.heap.size,0,none⟩=some (.int .u32 (e.h:Int))/\w'.cell? ⟨w3.heap.size,1,none⟩=some (.int .i64 lz)) (first|exact⟨s0,q0,q1⟩|exact⟨x1,x2,x3⟩|exact hh5.2|exact hh6)
   (first|(go_at_call 105;refine (HPk.out _).mono ?_;rintro r w5 ⟨rfl,hb5⟩;have hbw:=((Below.refl (w3.alloc (.cells #[.int .u32 (e.h:Int),.int .i64 lz] 35)).heap.size _).drew).trans hb5;have hh5:=HHeld.out w5 hbw;have HBw:=Q0a hbw;clear hbw hb5 HPk)|(go_at_call 104;refine (HSet.out _ hh5.1).mono ?_;rintro r w6 ⟨rfl,hkeep,hq⟩;have hh6:=HKeep.out _ w6 HBw.out hkeep;have HQ:=Q0a hq;clear hq hkeep HSet))
  go_wp2_with fail
  first|exact⟨false,rfl,HQ.out⟩|(go_ret;exact⟨false,rfl,HQ.out⟩)
theorem Z0K {w:World} {Z:SP} {fr:List Nat} {N K:Nat} {M:Int} (hs:Sep w Z.hl) (ok:Z.Ok fr N K M) (id:Int) (m:Nat) (hm1:1<=m) (hm:m<16) (hd:m=15∨Q3F m Z.av [] id) :
  Calls prog 168 #[.pointer (some ⟨Z.s,0,none⟩),.int .i64 id,.int .i64 m] w fun r w'=>∃b:Bool,r=.returned (.bool b)/\Z0J Z fr N K M m id w b w':=by
 cases hf:find Z.F.N id with
 | none=>exact (Q9u hs ok hf m).mono fun r w' ⟨h1,h2⟩=>⟨false,h1,h2⟩
 | some n=>exact Q9v hs ok hf m hm1 hm hd
def Q8f (Z:SP) (fr:List Nat) (N K:Nat) (M:Int) (m:Nat) (l:List Int) (w w':World):Prop:=∃Z',Z'.Ok fr N K M/\Z'.av=(Q0M m Z.av l).1/\SameZ Z Z'/\Step Z.hl Z'.hl w w'
structure WaI (Z:SP) (fr:List Nat) (N K:Nat) (M:Int) (m:Nat) (l:List Int) (a:Option Addr) (w:World) (k:Nat) (Z1:SP) (wr:World):Prop where
 ok:Z1.Ok fr N K M
 av:Z1.av=(Q0M m Z.av (l.take k)).1
 same:SameZ Z Z1
 st:Step Z.hl Z1.hl w wr
 row:AsideV Z1.hl (l.map encI) a wr
 wk:WeakOk m Z1.av (l.drop k)
theorem WaI.next {Z Z1:SP} {fr:List Nat} {N K:Nat} {M:Int} {m:Nat} {l:List Int} {a:Option Addr} {w wr w':World} {k:Nat} {x:Int} {b:Bool} (I:WaI Z fr N K M m l a w k Z1 wr) (hx:l[k]?=some x) (hm:m<16) (h:Z0J Z1 fr N K M m x wr b w') :
  (Q0M m Z.av (l.take (k+1))).2=(Q0M m Z.av (l.take k)).2+(if b=true then 1 else 0)/\∃Z2,WaI Z fr N K M m l a w (k+1) Z2 w':=by
 obtain⟨Z2,ok2,e2,s2,st2⟩:=h;have htk:l.take (k+1)=l.take k++[x]:=by rw [J4t,hx];rfl
 have hdr:l.drop k=x::l.drop (k+1):=by
  obtain⟨hlt,hg⟩:=J2O.1 hx;rw [<- hg];exact J5q hlt
 have hsn:Q0M m Z.av (l.take (k+1))=(Z2.av,(Q0M m Z.av (l.take k)).2+if b=true then 1 else 0):=by
  rw [htk,weakA_snoc,<- I.av,e2]
 have hwk:=I.wk;rw [hdr] at hwk;have hst:=WeakOk.step (a:=Z1.av) (next:=Z1.F.next) I.ok.fo.n (fun h s y hy=>(I.ok.fpi.rights hy).2) hm hwk;rw [e2] at hst;exact⟨by rw [hsn],Z2,⟨ok2,by rw [hsn],I.same.trans s2,I.st.trans st2,AsideV.step I.row st2,hst⟩⟩
theorem Q2w {w:World} {Z:SP} {fr:List Nat} {N K:Nat} {M:Int} (hs:Sep w Z.hl) (ok:Z.Ok fr N K M) (m:Nat) (hm1:1<=m) (hm:m<16) (l:List Int) (a:Option Addr) (cap:Nat) (hl:l.length<=70000) (hrow:AsideV Z.hl (l.map encI) a w) (hk:WeakOk m Z.av l) :
  Calls prog 85 #[.pointer (some ⟨Z.s,0,none⟩),.int .i64 m,.slice a l.length cap] w fun r w'=>r=.returned (.int .i64 ((Q0M m Z.av l).2:Nat))/\Q8f Z fr N K M m l w w':=by
 have HStart:Hid (WaI Z fr N K M m l a w 0 Z w):=⟨ok,rfl,SameZ.refl Z,Step.refl hs,hrow,by simpa using hk⟩
 have HM:Hid (1<=m/\m<16):=⟨hm1,hm⟩
 have HLen:=Q0a hl;have HLe:Hid (∀k,(Q0M m Z.av (l.take k)).2<=l.length):=fun k=>J2y (Q5F m _ _) (List.length_take_le' k l)
 have HEnd:Hid (Q0M m Z.av (l.take l.length)=Q0M m Z.av l):=by rw [J6J];exact rfl
 clear hs ok hrow hk hm1 hm;generalize hn:l.length=n at *
 have HN:=Q0a hn;clear hl hn;go_enter func85,ntmps85;go_wp2_with fail
 go_loopg [7,12] n (fun gk cv iv wr=>∃(k:Nat) (Z1:SP),iv=.int .i64 k/\cv=.int .i64 ((Q0M m Z.av (l.take k)).2:Nat)/\k+gk=n/\WaI Z fr N K M m l a w k Z1 wr)
 case atStart=>exact⟨0,Z,rfl,rfl,by omega,HStart.out⟩
 case round =>
  obtain⟨k,Z1,rfl,rfl,hkg,hI⟩:=hrel;have HKg:=Q0a hkg;have HI:=Q0a hI;by_cases hlt:k<n
  ·obtain⟨x,hx⟩:∃x,l[k]?=some x:=⟨l[k]'(by rw [HN.out];exact hlt),J4O (by rw [HN.out];exact hlt)⟩
   obtain⟨g,rfl,_,_,hcx⟩:=hI.row k (.int .i64 x) (by rw [J4i,hx];rfl);have kw:=Z0K hI.st.sep hI.ok x m HM.out.1 HM.out.2 (by
    rcases hI.wk with h|h
    ·exact .inl h
    ·refine .inr (h [] x (l.drop (k+1)) ?_);obtain⟨hlt,hg⟩:=J2O.1 hx;rw [<- hg];exact J5q hlt)
   rw [hI.same.s] at kw;have HW:=Q0a kw;have HX:=Q0a hx;have hcb:=HLe.out k;have hki:(k:Int)<(n:Int):=by omega
   have hk0:(0:Int)<=(k:Int):=by omega
   have hkb:(k:Int)<70000:=by have:=HLen.out;omega
   generalize hcc:(Q0M m Z.av (l.take k)).2=c at *
   have hc1:(c:Int)<=70000:=by have:=HLen.out;omega
   have hc0:(0:Int)<=(c:Int):=by omega
   have HCc:=Q0a hcc;clear hI hkg kw hx hcb hcc;go_wp2_with fail;refine HW.out.mono ?_;rintro r w1 ⟨b,rfl,hz⟩;obtain⟨hcnt,Z2,hI2⟩:=HI.out.next HX.out HM.out.2 hz;have HI2:=Q0a hI2;rw [HCc.out] at hcnt;have HCnt:=Q0a hcnt;clear hcnt hI2 hz HW HI;cases b with
   | true =>
    go_wp2_with fail;go_roundg (n-(k+1))
    case measure=>have:=HKg.out;omega
    case rel=>exact⟨k+1,Z2,by go_num,by rw [HCnt.out];simp,by have:=HKg.out;omega,HI2.out⟩
   | false =>
    go_wp2_with fail;go_roundg (n-(k+1))
    case measure=>have:=HKg.out;omega
    case rel=>exact⟨k+1,Z2,by go_num,by rw [HCnt.out];simp,by have:=HKg.out;omega,HI2.out⟩
  ·obtain rfl:k=n:=by have:=HKg.out;omega
   have HR:Hid (((Q0M m Z.av (l.take k)).2=(Q0M m Z.av l).2)/\Q8f Z fr N K M m l w wr):=by
    have h1:l.take k=l:=by rw [<- HN.out,J6J]
    have h2:=hI.av;rw [h1] at h2;exact⟨by rw [h1],Z1,hI.ok,h2,hI.same,hI.st⟩
   rw [HR.out.1];clear hI hkg;go_wp2_with fail
   first|exact⟨rfl,HR.out.2⟩|(go_ret;exact⟨rfl,HR.out.2⟩)
def Q9w (l:List Pl) (tb:Nat->TB) (x:Nat) (z:Int):Value:=match pget l 1 x with
 | none=>.tuple #[.agg #[.int .u32 0,.int .i64 0],.int .i64 8]
 | some p=>if p.kind=2 then (if 0<=z/\z<256 then (match Q0f l tb x z.toNat with
   | none=>.tuple #[.agg #[.int .u32 0,.int .i64 0],.int .i64 6]
   | some e=>.tuple #[.agg #[.int .u32 (e.h:Int),.int .i64 (e.r:Int)],.int .i64 0]) else .tuple #[.agg #[.int .u32 0,.int .i64 0],.int .i64 2]) else .tuple #[.agg #[.int .u32 0,.int .i64 0],.int .i64 10]
theorem Q9x {w:World} {Z:SP} {fr:List Nat} {N K:Nat} (hs:Sep w Z.hl) (ok:Z.S.Ok fr N K) {x:Nat} (hx:x<4294967296) (z e:Int) (he:e≠0) (hw:(pget Z.S.l 1 x=none/\e=8)∨∃p,pget Z.S.l 1 x=some p/\p.kind≠2/\e=10) :
  Calls prog 21 #[.pointer (some ⟨Z.s,0,none⟩),.int .u32 x,.int .i64 z] w (Told w (.tuple #[.agg #[.int .u32 0,.int .i64 0],.int .i64 e])):=by
 have b1:Below w.heap.size w (w.alloc (.cells #[.int .u32 0,.int .i64 0] 35)):=(Below.refl _ _).alloc (J2x _) _;have ks:=Q0H (hs.grown b1).sep ok hx e hw;have HC:Hid (∀w1,Below (w.alloc (.cells #[.int .u32 0,.int .i64 0] 35)).heap.size (w.alloc (.cells #[.int .u32 0,.int .i64 0] 35)) w1->(∀o,Cells (w1.alloc o) w.heap.size 35 [.int .u32 0,.int .i64 0])/\∀o a b,Below w.heap.size w (((w1.alloc o).setCell ⟨w.heap.size,0,none⟩ a).setCell ⟨w.heap.size,1,none⟩ b)):=fun w1 hb1=>by
  have hR:=(Cells.new w 35 [.int .u32 0,.int .i64 0]).same (hb1.block w.heap.size (by simp));exact⟨hR.alloc,fun o a b=>(((Q0e hb1).alloc (Q0e hb1).size o).setCell (J2x _) _).setCell (J2x _) _⟩
 have hnb:(e==0)=false:=by simpa using he
 clear hs ok hx hw b1;go_enter func21,ntmps21;go_wp2_with fail;refine ks.mono ?_;rintro r w1 ⟨rfl,hb1⟩;obtain⟨hres0,hz⟩:=HC.out w1 hb1;have hres:=hres0 (.cells #[.pointer none,.int .u32 0,.int .i64 0] 155);have HZ:=Q0a hz;have e0:=hres.cell 0 _ rfl;have e1:=hres.cell 1 _ rfl;have f0:=hres.free 0;have f1:=hres.free 1;have hlt:=hres.lt;clear hb1 hz hres hres0 HC ks;go_wp2_with fail;refine bodyPost_ret (v:=.tuple #[.agg #[.int .u32 0,.int .i64 0],.int .i64 e]) (by simp [results,results21,go_sem,e0,e1]) rfl ⟨rfl,HZ.out _ _ _⟩
theorem Z3p {w:World} {Z:SP} {fr:List Nat} {N K:Nat} {M:Int} (hs:Sep w Z.hl) (ok:Z.Ok fr N K M) {x:Nat} (hx:x<4294967296) {p:Pl} (hp:pget Z.S.l 1 x=some p) (hk:p.kind=2) (z:Int) :
  Calls prog 21 #[.pointer (some ⟨Z.s,0,none⟩),.int .u32 x,.int .i64 z] w (Told w (Q9w Z.S.l Z.tb x z)):=by
 have b1:Below w.heap.size w (w.alloc (.cells #[.int .u32 0,.int .i64 0] 35)):=(Below.refl _ _).alloc (J2x _) _;have s1:=(hs.grown b1).sep;have ks:=Q0U s1 ok.core hx hp hk;have hi:=(pget_some.1 hp).1;have hst:=(pget_some.1 hp).2.2;have hat:(Z.tb (x%256)).at' z=if 0<=z/\z<256 then Q0f Z.S.l Z.tb x z.toNat else none:=by
  unfold TB.at';split
  ·rename_i h;rw [Q0g hp hk (by omega)]
  ·rfl
 have HC:Hid (∀(w2:World) (g:Nat),Below (w.alloc (.cells #[.int .u32 0,.int .i64 0] 35)).heap.size (w.alloc (.cells #[.int .u32 0,.int .i64 0] 35)) w2->TblZ Z p g w2 ->
   Cells (w2.alloc (.cells #[.pointer (some ⟨g,0,none⟩),.int .u32 x,.int .i64 (p.fac:Int)] 155)) w.heap.size 35 [.int .u32 0,.int .i64 0]/\(∀a b,Below w.heap.size w (((w2.alloc (.cells #[.pointer (some ⟨g,0,none⟩),.int .u32 x,.int .i64 (p.fac:Int)] 155)).setCell ⟨w.heap.size,0,none⟩ a).setCell ⟨w.heap.size,1,none⟩ b)) /\
   Calls prog 74 #[.agg #[.pointer (some ⟨g,0,none⟩),.int .u32 x,.int .i64 (p.fac:Int)],.int .i64 z] (w2.alloc (.cells #[.pointer (some ⟨g,0,none⟩),.int .u32 x,.int .i64 (p.fac:Int)] 155)) (fun r w4=>r=.returned (capV ((Z.tb (x%256)).at' z)) /\
    (∀o,Cells (w4.alloc o) w.heap.size 35 [.int .u32 0,.int .i64 0])/\∀o a b,Below w.heap.size w (((w4.alloc o).setCell ⟨w.heap.size,0,none⟩ a).setCell ⟨w.heap.size,1,none⟩ b))):=fun w2 g hb2 hg=>by
  have hR:=(Cells.new w 35 [.int .u32 0,.int .i64 0]).same (hb2.block w.heap.size (by simp));have hb2':Below w.heap.size w w2:=Q0e hb2;have hb3:Below w2.heap.size w2 (w2.alloc (.cells #[.pointer (some ⟨g,0,none⟩),.int .u32 x,.int .i64 (p.fac:Int)] 155)):=(Below.refl _ _).alloc (J2x _) _;have hb3':=hb2'.alloc hb2'.size (.cells #[.pointer (some ⟨g,0,none⟩),.int .u32 x,.int .i64 (p.fac:Int)] 155);have s2:=(hs.grown hb2').sep;have s3:=(s2.grown hb3).sep;have T:=(ok.tpi.x (p.fac:Int)).tt ok.core hi hst hk (SP.sS s3) (hg.grown s2 hb3).c;refine⟨hR.alloc _,fun a b=>(hb3'.setCell (J2x _) _).setCell (J2x _) _,(Q1x T (x:Int) (p.fac:Int) z fun e he=>?_).mono ?_⟩
  ·rw [hat] at he;split at he
   ·exact ok.fpi.low ok.core.inv.lok he
   ·cases he
  ·rintro r w4 ⟨rfl,hb4⟩;have hR4:=(hR.alloc _).same (hb4.block w.heap.size (hR.alloc _).lt);have hb4':Below w.heap.size w w4:=hb3'.trans (hb4.mono hb3'.size);exact⟨rfl,hR4.alloc,fun o a b=>((hb4'.alloc hb4'.size o).setCell (J2x _) _).setCell (J2x _) _⟩
 have hv:Q9w Z.S.l Z.tb x z=if 0<=z/\z<256 then (match (Z.tb (x%256)).at' z with
   | none=>.tuple #[.agg #[.int .u32 0,.int .i64 0],.int .i64 6]
   | some e=>.tuple #[.agg #[.int .u32 (e.h:Int),.int .i64 (e.r:Int)],.int .i64 0]) else .tuple #[.agg #[.int .u32 0,.int .i64 0],.int .i64 2]:=by
  unfold Q9w;rw [hp];simp only;rw [if_pos hk,hat];by_cases h:0<=z/\z<256
  ·simp only [if_pos h]
  ·simp only [if_neg h]
 rw [hv];have HHas:Hid (∀w,Calls prog 75 #[.int .i64 z] w fun r w'=>r=.returned (.bool (decide (0<=z/\z<256)))/\w=w'):=fun w=>Q2V w z
 clear hs ok hx hp hk hi hst hat hv b1 s1;by_cases hz:0<=z/\z<256
 ·rw [if_pos hz];rw [decide_eq_true hz] at HHas;cases ho:(Z.tb (x%256)).at' z with
  | none =>
   rw [ho] at HC;simp only [capV] at HC;simp only;clear ho hz;go_enter func21,ntmps21;go_wp2_with fail;refine ks.mono ?_;rintro r w2 ⟨g,rfl,hb2,hg⟩;obtain⟨-,-,kc⟩:=HC.out w2 g hb2 hg;have hh:=HHas.out (w2.alloc (.cells #[.pointer (some ⟨g,0,none⟩),.int .u32 x,.int .i64 (p.fac:Int)] 155));clear hb2 hg HC ks;go_wp2_with fail;refine hh.mono ?_;rintro r w3 ⟨rfl,rfl⟩;go_wp2_with fail;refine kc.mono ?_;rintro r w4 ⟨rfl,hres0,hz⟩;have hres:=hres0 (.cells #[.int .u32 0,.int .i64 0] 35);have HZ:=Q0a hz;have e0:=hres.cell 0 _ rfl;have e1:=hres.cell 1 _ rfl;have f0:=hres.free 0;have f1:=hres.free 1;have hlt:=hres.lt
   clear hz hres hres0 kc hh HHas;go_wp2_with fail;refine bodyPost_ret (v:=.tuple #[.agg #[.int .u32 0,.int .i64 0],.int .i64 6]) (by simp [results,results21,go_sem,e0,e1]) rfl ⟨rfl,HZ.out _ _ _⟩
  | some e =>
   rw [ho] at HC;simp only [capV] at HC;simp only;clear ho hz;generalize (e.h:Int)=eh at *
   generalize (e.r:Int)=er at *
   go_enter func21,ntmps21;go_wp2_with fail;refine ks.mono ?_;rintro r w2 ⟨g,rfl,hb2,hg⟩;obtain⟨-,-,kc⟩:=HC.out w2 g hb2 hg;have hh:=HHas.out (w2.alloc (.cells #[.pointer (some ⟨g,0,none⟩),.int .u32 x,.int .i64 (p.fac:Int)] 155));clear hb2 hg HC ks;go_wp2_with fail;refine hh.mono ?_;rintro r w3 ⟨rfl,rfl⟩;go_wp2_with fail;refine kc.mono ?_;rintro r w4 ⟨rfl,hres0,hz⟩;have hres:=hres0 (.cells #[.int .u32 eh,.int .i64 er] 35);have HZ:=Q0a hz;have e0:=hres.cell 0 _ rfl;have e1:=hres.cell 1 _ rfl;have f0:=hres.free 0;have f1:=hres.free 1;have hlt:=hres.lt;clear hz hres hres0 kc hh HHas;go_wp2_with fail
   refine bodyPost_ret (v:=.tuple #[.agg #[.int .u32 eh,.int .i64 er],.int .i64 0]) (by simp [results,results21,go_sem,e0,e1]) rfl ⟨rfl,HZ.out _ _ _⟩
 ·rw [if_neg hz];rw [decide_eq_false hz] at HHas;clear hz;go_enter func21,ntmps21;go_wp2_with fail;refine ks.mono ?_;rintro r w2 ⟨g,rfl,hb2,hg⟩;obtain⟨hres,hz,-⟩:=HC.out w2 g hb2 hg;have hh:=HHas.out (w2.alloc (.cells #[.pointer (some ⟨g,0,none⟩),.int .u32 x,.int .i64 (p.fac:Int)] 155));have HZ:=Q0a hz;have e0:=hres.cell 0 _ rfl;have e1:=hres.cell 1 _ rfl;have f0:=hres.free 0;have f1:=hres.free 1;have hlt:=hres.lt;clear hb2 hg HC ks hz hres HHas;go_wp2_with fail;refine hh.mono ?_;rintro r w3 ⟨rfl,rfl⟩;go_wp2_with fail;refine bodyPost_ret (v:=.tuple #[.agg #[.int .u32 0,.int .i64 0],.int .i64 2]) (by simp [results,results21,go_sem,e0,e1]) rfl ⟨rfl,HZ.out _ _⟩
theorem Z6E {w:World} {Z:SP} {fr:List Nat} {N K:Nat} {M:Int} (hs:Sep w Z.hl) (ok:Z.Ok fr N K M) {x:Nat} (hx:x<4294967296) (z:Int) :
  Calls prog 21 #[.pointer (some ⟨Z.s,0,none⟩),.int .u32 x,.int .i64 z] w (Told w (Q9w Z.S.l Z.tb x z)):=by
 cases hp:pget Z.S.l 1 x with
 | none =>
  have:=Q9x hs ok.core hx z 8 (by decide) (.inl ⟨hp,rfl⟩);unfold Q9w;rw [hp];exact this
 | some p =>
  by_cases hk:p.kind=2
  ·exact Z3p hs ok hx hp hk z
  ·have:=Q9x hs ok.core hx z 10 (by decide) (.inr ⟨p,hp,hk,rfl⟩);unfold Q9w;rw [hp];simp only [if_neg hk];exact this
def encH (x:Nat):Value:=.int .u32 x
theorem OutH.shape {w wr:World} {v:Value} {L:List Nat} (h:OutH w wr v L):∃(a:Option Addr) (cap:Nat),v=.slice a L.length cap:=by
 rcases h.1.2 with ⟨rfl,h0⟩|⟨g,cap,cur,rfl,_⟩
 ·exact⟨none,0,by rw [h0]⟩
 ·exact⟨_,cap,rfl⟩
theorem OutH.shape1 {w wr:World} {v:Value} {L:List Nat} (h:OutH w wr v L) (hl:L≠[]):∃(g cap:Nat),v=.slice (some ⟨g,0,none⟩) L.length cap:=by
 rcases h.1.2 with ⟨rfl,h0⟩|⟨g,cap,cur,rfl,_⟩
 ·exact absurd (J4N h0) hl
 ·exact⟨g,cap,rfl⟩
theorem OutH.parts {w wr:World} {g n cap:Nat} {L:List Nat} (h:OutH w wr (.slice (some ⟨g,0,none⟩) n cap) L):∃cur,n=L.length/\w.heap.size<=g/\wr.heap[g]?=some (.cells cur 27 (0,0))/\L.length<=cap/\cap<=maxLen/\cur.size=cap/\cur.toList.take L.length=Q1h L:=by
 rcases h.1.2 with ⟨h',_⟩|⟨g',cap',cur,h',a1,a2,a3,a4,a5,a6⟩
 ·simp at h'
 ·simp only [Value.slice.injEq,J2L,Addr.mk.injEq,and_true] at h';obtain⟨rfl,rfl,rfl⟩:=h';exact⟨cur,rfl,a1,a2,a3,a4,by simpa using a5,by simpa using a6⟩
theorem OutH.cellAt {w wr:World} {g n cap:Nat} {L:List Nat} (h:OutH w wr (.slice (some ⟨g,0,none⟩) n cap) L) {j x:Nat} (hj:L[j]?=some x):wr.cell? ⟨g,j,none⟩=some (.int .u32 x)/\w.heap.size<=g/\g<wr.heap.size:=by
 obtain⟨cur,_,a1,a2,_,_,_,a6⟩:=h.parts;refine⟨?_,a1,lt_of_block a2⟩;have hv:=Q7Z hj;rw [<- a6,J4A] at hv;split at hv
 ·simp only [World.cell?,a2,J5A,J6q,if_false];rw [<- J4X];exact hv
 ·cases hv
theorem OutH.cut {w wr:World} {g n cap x:Nat} {L:List Nat} (h:OutH w wr (.slice (some ⟨g,0,none⟩) n cap) (L++[x])):OutH w wr (.slice (some ⟨g,0,none⟩) L.length cap) L:=by
 obtain⟨cur,_,a1,a2,a3,a4,a5,a6⟩:=h.parts;have hl:L.length+1<=cap:=by simpa using a3
 refine⟨⟨by simp [Q3f],.inr ⟨g,cap,cur,rfl,a1,a2,by omega,a4,by simpa using a5,?_⟩⟩,h.2⟩;have:=congrArg (List.take L.length) a6;rw [J4S,J3h,hands_app,show min L.length (L.length+[x].length)=L.length by simp] at this;rw [J3D,this];have e:=Q3f L;rw [<- e,J4V]
def Two (w wr:World) (v:Value) (L:List Nat) (u:Value) (M:List Nat):Prop:=OutH w wr v L/\OutH w wr u M/\∀b,v.ownBlock=some b->u.ownBlock≠some b
theorem Two.swap {w wr:World} {v u:Value} {L M:List Nat} (h:Two w wr v L u M):Two w wr u M v L:=⟨h.2.1,h.1,fun b h1 h2=>h.2.2 b h2 h1⟩
theorem Two.below {w wr w1:World} {v u:Value} {L M:List Nat} (h:Two w wr v L u M) (hb:Below wr.heap.size wr w1):Two w w1 v L u M:=⟨h.1.below hb,h.2.1.below hb,h.2.2⟩
theorem Two.alloc {w wr:World} {v u:Value} {L M:List Nat} (h:Two w wr v L u M) (o:Obj):Two w (wr.alloc o) v L u M:=⟨h.1.alloc o,h.2.1.alloc o,h.2.2⟩
theorem Two.cut {w wr:World} {g n cap x:Nat} {u:Value} {L M:List Nat} (h:Two w wr (.slice (some ⟨g,0,none⟩) n cap) (L++[x]) u M):Two w wr (.slice (some ⟨g,0,none⟩) L.length cap) L u M:=⟨h.1.cut,h.2.1,h.2.2⟩
theorem Two.app {w wr w1:World} {v v' u:Value} {L M X:List Nat} (h:Two w wr v L u M) (hown:w1.ownsRow w.heap.size 27 1 v' (L.length+X.length) (Q1h L++Q1h X)) (hg:wr.grownBy w1 v.ownBlock) (hat:v'.ownBlock=v.ownBlock∨v'.ownBlock=some wr.heap.size):Two w w1 v' (L++X) u M:=by
 obtain⟨h1,h2,h3⟩:=h;have hb:Below w.heap.size w w1:=h1.2.trans ((Below.refl _ wr).mono h1.2.size |>.grown hg h1.2.size (fun b hb=>(h1.1.lt b hb).1));refine⟨h1.app0 hown hg,⟨h2.1.kept hg ?_,hb⟩,fun b e1 e2=>?_⟩
 ·cases hv:v.ownBlock with
  | none=>cases hu:u.ownBlock with
   | none=>exact .inl rfl
   | some c=>exact .inr (by simp)
  | some b=>exact .inr (fun e=>h3 b hv e)
 ·rcases hat with e|e
  ·exact h3 b (e ▸ e1) e2
  ·rw [e] at e1;cases e1;exact absurd (h2.1.lt _ e2).2 (by omega)
theorem Z6F {w:World} {B B':Nat} {v:Value} {L M:List Nat} {a:Option Addr} {cap:Nat} {ty:TypeId} (h:w.ownsRow B 27 1 v L.length (Q1h L)) (hM:IsHs B' M a w) (hn:L.length+M.length<=65536) (hB:B<=w.heap.size) :
  ∃v' w',(Builtin.append_ #[66,66] ty #[v,.slice a M.length (match a with|none=>0|some _=>cap)]).run prog w=.ok v' w'/\w'.ownsRow B 27 1 v' (L.length+M.length) (Q1h L++Q1h M)/\w.grownBy w' v.ownBlock/\(v'.ownBlock=v.ownBlock∨v'.ownBlock=some w.heap.size):=by
 obtain⟨i0,hinf,hz0,hz1,hz2⟩:=info_parts Q3B;cases a with
 | none =>
  have hM0:M=[]:=by
   cases M with
   | nil=>rfl
   | cons x r=>obtain⟨g,h1,_⟩:=hM.at' 0 x rfl;cases h1
  subst hM0;exact⟨v,w,run_append_owned_none w B 66 ty 27 i0 1 underlying66 hinf v _ _ h,by simpa [Q1h] using h,⟨rfl,rfl,rfl,J2x _,fun _ _ _=>rfl⟩,.inl rfl⟩
 | some ad =>
  obtain⟨v',w',e1,e2,e3,_,e5⟩:=run_append_own_at (P:=prog) w B 66 ty 27 i0 (.int .u32 0) 1 4 underlying66 hinf hz0 hz1 hz2 rfl (by decide) v _ _ h ad M.length cap (Q1h M) (by simp [Q3f]) (fun j u hj=>by
   have hj':j<M.length:=by have:=(J2O.1 hj).1;simpa [Q3f] using this
   obtain⟨g,g1,_,_,g4⟩:=hM.at' j M[j] (J4O hj');cases g1;rw [Q7Z (J4O hj')] at hj;cases hj;have e:(⟨g,0,none⟩:Addr).add j=⟨g,j,none⟩:=by unfold Addr.add;split <;> simp_all
   rw [e];exact g4) (fun u hu=>by
    obtain⟨x,_,rfl⟩:=J2D.1 hu;rfl) (by unfold maxLen;omega) (by omega) hB
  exact⟨v',w',e1,e2,e3,e5⟩
theorem Z0L {w wr:World} {g n cap:Nat} {L:List Nat} (h:OutH w wr (.slice (some ⟨g,0,none⟩) n cap) L):Go.Sort.Holds encH wr g 0 L.toArray:=by
 obtain⟨cur,_,a1,a2,_,_,_,a6⟩:=h.parts;intro j hj;have hj':j<L.length:=by simpa using hj
 have hx:=J4O hj';refine⟨?_,by simp [World.frozen?,a2]⟩;have:=(h.cellAt hx).1;rw [J5b,this,getElem!_pos _ j hj];simp [encH]
theorem Q6O (cur:Array Value) (F:Array Nat) (h:F.size<=cur.size):(Go.Sort.putCells encH 0 F cur).toList.take F.size=F.toList.map encH:=by
 apply J4f
 intro j;by_cases hj:j<F.size
 ·rw [J6U hj,J4X];simp [Go.Sort.putCells,hj,show j<cur.size by omega]
 ·rw [J6V (by omega),J4m (by simp;omega)]
theorem Z6G {w:World} {g n:Nat} {cur:Array Value} {e:TypeId} (d:Array Nat) (hb:w.heap[g]?=some (.cells cur e (0,0))) :
  (Go.Sort.putRow encH (Go.Sort.ahead w n) g 0 d).heap[g]?=some (.cells (Go.Sort.putCells encH 0 d cur) e (0,0)):=by
 have hg:g<w.heap.size:=(J6W.1 hb).1;simp [Go.Sort.putRow,Go.Sort.mapBlock,Go.Sort.ahead,J2w,hb,Go.Sort.onCells]
theorem Z3q {w:World} {g n:Nat} (d:Array Nat):w.grownBy (Go.Sort.putRow encH (Go.Sort.ahead w n) g 0 d) (some g):=by
 refine⟨rfl,rfl,rfl,by simp [Go.Sort.putRow,Go.Sort.mapBlock,Go.Sort.ahead],fun k hk hne=>?_⟩;have:g≠k:=fun e=>hne (by rw [e])
 simp [Go.Sort.putRow,Go.Sort.mapBlock,Go.Sort.ahead,J2w,this]
theorem OutH.reversed {w wr:World} {g n cap k:Nat} {L:List Nat} (h:OutH w wr (.slice (some ⟨g,0,none⟩) n cap) L):OutH w (Go.Sort.putRow encH (Go.Sort.ahead wr k) g 0 L.toArray.reverse) (.slice (some ⟨g,0,none⟩) n cap) L.reverse:=by
 obtain⟨cur,rfl,a1,a2,a3,a4,a5,a6⟩:=h.parts;have hgr:=Z3q (w:=wr) (g:=g) (n:=k) L.toArray.reverse;have hsz:L.toArray.reverse.size=L.length:=by simp
 refine⟨⟨by simp [Q3f],.inr ⟨g,cap,_,by rw [J6X],a1,Z6G _ a2,by simpa using a3,a4,by simp [Go.Sort.putCells,a5],?_⟩⟩,h.2.trans ((Below.refl _ wr).mono h.2.size |>.grown hgr h.2.size (fun b hb=>by cases hb;exact a1))⟩;have e:L.reverse.length*1=L.toArray.reverse.size:=by simp
 rw [e,Q6O _ _ (by rw [hsz,a5];exact a3)];simp [Q1h,encH]
theorem NewHs.shape0 {w:World} {L:List Nat} {r:Ending} {w':World} (h:NewHs w L r w'):∃(a:Option Addr) (cap:Nat),r=.returned (.slice a L.length cap)/\Below w.heap.size w w'/\IsHs w.heap.size L a w'/\(a=none->cap=0):=by
 obtain⟨v,rfl,⟨h1,h2⟩,hb⟩:=h;have h:=NewHs.shape (w:=w) (L:=L) (w':=w') (r:=.returned v) ⟨v,rfl,⟨h1,h2⟩,hb⟩;obtain⟨a,cap,e,hb',hi⟩:=h;refine⟨a,cap,e,hb',hi,fun ha=>?_⟩;subst ha;rcases h2 with ⟨rfl,h0⟩|⟨g,cap',cur,rfl,_⟩
 ·simp only [Ending.returned.injEq,Value.slice.injEq] at e;omega
 ·simp at e
theorem J0P {w:World} {B B':Nat} {v:Value} {L M:List Nat} {a:Option Addr} {cap:Nat} {ty:TypeId} (h:w.ownsRow B 27 1 v L.length (Q1h L)) (hM:IsHs B' M a w) (ha:a=none->cap=0) (hn:L.length+M.length<=65536) (hB:B<=w.heap.size) :
  ∃v' w',(Builtin.append_ #[66,66] ty #[v,.slice a M.length cap]).run prog w=.ok v' w'/\w'.ownsRow B 27 1 v' (L.length+M.length) (Q1h L++Q1h M)/\w.grownBy w' v.ownBlock/\(v'.ownBlock=v.ownBlock∨v'.ownBlock=some w.heap.size):=by
 have:=Z6F (ty:=ty) (cap:=cap) h hM hn hB;cases a with
 | none=>rw [ha rfl];exact this
 | some ad=>exact this
open Go.Sort (Holds putRow holds_putRow holds_ahead putRow_self reverseLoop swp size_swp)
theorem Q9y (blk cap:Nat) (d:Array Int) (w:World) (hH:Holds encI w blk 0 d) (hsz:d.size<=65536) :
  Calls prog 167 #[.slice (some ⟨blk,0,none⟩) d.size cap] w fun e w'=>e=.returned (.tuple #[])/\∃n,w'=putRow encI (Go.Sort.ahead w n) blk 0 d.reverse:=by
 go_enter func167,ntmps167;go_wp2_with fail
 go_loopg [2,3] d.size (fun k s2 s3 wr=>∃(i jn:Nat) (jz:Int) (dk:Array Int) (n:Nat),s2=.int .i64 i/\s3=.int .i64 jz/\((i:Int)<jz->jz=jn/\jn<d.size)/\(¬(i:Int)<jz->¬i<jn)/\jn-i<=k /\
  dk.size=d.size/\wr=putRow encI (Go.Sort.ahead w n) blk 0 dk/\reverseLoop i jn dk=reverseLoop 0 (d.size-1) d)
 case atStart=>exact⟨0,d.size-1,(d.size:Int)-1,d,0,rfl,rfl,fun h=>⟨by omega,by omega⟩,fun h=>by omega,by omega,rfl,(putRow_self encI w blk 0 d hH).symm,rfl⟩
 case round =>
  obtain⟨i,jn,jz,dk,n,rfl,rfl,h1,h2,hk,hds,hwr,heq⟩:=hrel;by_cases hlt:(i:Int)<jz
  ·obtain⟨rfl,hjn⟩:=h1 hlt;have hij:i<jn:=by omega
   have hHk:Holds encI wr blk 0 dk:=by rw [hwr];exact holds_putRow encI _ blk 0 d dk (holds_ahead encI w n blk 0 d hH) hds
   obtain⟨ci,fi⟩:=hHk i (by omega);obtain⟨cj,fj⟩:=hHk jn (by omega);have A:Go.Aside (wr=putRow encI (Go.Sort.ahead w n) blk 0 dk):=hwr;have SW:Hid (((wr.setCell ⟨blk,i,none⟩ (.int .i64 dk[jn]!)).setCell ⟨blk,jn,none⟩ (.int .i64 dk[i]!)).drew=putRow encI (Go.Sort.ahead w (n+1)) blk 0 (swp dk i jn)):=by
    have:=swap_world encI (off:=0) (i:=i) (j:=jn) (by omega) (by omega) hwr rfl rfl;rw [J5b,J5b] at this;exact this
   clear hwr hHk hH h1 h2;go_wp2_with fail;rw [J5b] at ci fi cj fj;unfold encI at ci cj;go_region
   all_goals
    go_wp2_with fail;go_roundg (jn-1-(i+1))
    case measure=>omega
    case rel =>
     rw [reverseLoop,if_pos hij] at heq;exact⟨i+1,jn-1,(jn:Int)-1,swp dk i jn,n+1,by go_num,by go_num,fun h=>⟨by omega,by omega⟩,fun h=>by omega,J2x _,by rw [size_swp];exact hds,
      (by have hsw:=SW.out;first|exact hsw|(simp only [getElem!_pos dk jn (by omega)] at hsw;exact hsw)),heq⟩
  ·have hnot:=h2 hlt;go_wp2_with fail
   first|go_end0|skip
   refine⟨rfl,n,?_⟩;rw [reverseLoop,if_neg hnot] at heq;rw [<- Go.Lib.reverseLoop_reverse,<- heq]
end Go.Proofs.YtlakjlmaboioiaaGreatDoor
namespace Go.Proofs.YtlakjlmaboioiaaGreatDoor
open Go.RowKit Go.Proofs.Tryz
theorem OutI.parts {w wr:World} {g n cap:Nat} {L:List Int} (h:OutI w wr (.slice (some ⟨g,0,none⟩) n cap) L):∃cur,n=L.length/\w.heap.size<=g/\wr.heap[g]?=some (.cells cur 3 (0,0))/\L.length<=cap/\cap<=maxLen/\cur.size=cap/\cur.toList.take L.length=(L.map encI):=by
 rcases h.1.2 with ⟨h',_⟩|⟨g',cap',cur,h',a1,a2,a3,a4,a5,a6⟩
 ·simp at h'
 ·simp only [Value.slice.injEq,J2L,Addr.mk.injEq,and_true] at h';obtain⟨rfl,rfl,rfl⟩:=h';exact⟨cur,rfl,a1,a2,a3,a4,by simpa using a5,by simpa using a6⟩
theorem OutI.cellAt {w wr:World} {g n cap:Nat} {L:List Int} (h:OutI w wr (.slice (some ⟨g,0,none⟩) n cap) L) {j:Nat} {x:Int} (hj:L[j]?=some x):wr.cell? ⟨g,j,none⟩=some (.int .i64 x)/\w.heap.size<=g/\g<wr.heap.size:=by
 obtain⟨cur,_,a1,a2,_,_,_,a6⟩:=h.parts;refine⟨?_,a1,lt_of_block a2⟩;have hv:(L.map encI)[j]?=some (.int .i64 x):=by rw [J4i,hj];rfl
 rw [<- a6,J4A] at hv;split at hv
 ·simp only [World.cell?,a2,J5A,J6q,if_false];rw [<- J4X];exact hv
 ·cases hv
theorem OutI.cut {w wr:World} {g n cap:Nat} {x:Int} {L:List Int} (h:OutI w wr (.slice (some ⟨g,0,none⟩) n cap) (L++[x])):OutI w wr (.slice (some ⟨g,0,none⟩) L.length cap) L:=by
 obtain⟨cur,_,a1,a2,a3,a4,a5,a6⟩:=h.parts;have hl:L.length+1<=cap:=by simpa using a3
 refine⟨⟨by simp [J4g],.inr ⟨g,cap,cur,rfl,a1,a2,by omega,a4,by simpa using a5,?_⟩⟩,h.2⟩;have:=congrArg (List.take L.length) a6;rw [J4S,J3h,J6b,show min L.length (L.length+[x].length)=L.length by simp] at this;rw [J3D,this];have e:(L.map encI).length=L.length:=J4g _;rw [<- e,J4V]
theorem Z3r {w wr:World} {g n cap:Nat} {L:List Int} (h:OutI w wr (.slice (some ⟨g,0,none⟩) n cap) L):Go.Sort.Holds encI wr g 0 L.toArray:=by
 obtain⟨cur,_,a1,a2,_,_,_,a6⟩:=h.parts;intro j hj;have hj':j<L.length:=by simpa using hj
 have hx:=J4O hj';refine⟨?_,by simp [World.frozen?,a2]⟩;have:=(h.cellAt hx).1;rw [J5b,this,getElem!_pos _ j hj];simp [encI]
theorem Q6P (cur:Array Value) (F:Array Int) (h:F.size<=cur.size):(Go.Sort.putCells encI 0 F cur).toList.take F.size=F.toList.map encI:=by
 apply J4f
 intro j;by_cases hj:j<F.size
 ·rw [J6U hj,J4X];simp [Go.Sort.putCells,hj,show j<cur.size by omega]
 ·rw [J6V (by omega),J4m (by simp;omega)]
theorem Z6H {w:World} {g n:Nat} {cur:Array Value} {e:TypeId} (d:Array Int) (hb:w.heap[g]?=some (.cells cur e (0,0))) :
  (Go.Sort.putRow encI (Go.Sort.ahead w n) g 0 d).heap[g]?=some (.cells (Go.Sort.putCells encI 0 d cur) e (0,0)):=by
 have hg:g<w.heap.size:=(J6W.1 hb).1;simp [Go.Sort.putRow,Go.Sort.mapBlock,Go.Sort.ahead,J2w,hb,Go.Sort.onCells]
theorem Z3s {w:World} {g n:Nat} (d:Array Int):w.grownBy (Go.Sort.putRow encI (Go.Sort.ahead w n) g 0 d) (some g):=by
 refine⟨rfl,rfl,rfl,by simp [Go.Sort.putRow,Go.Sort.mapBlock,Go.Sort.ahead],fun k hk hne=>?_⟩;have:g≠k:=fun e=>hne (by rw [e])
 simp [Go.Sort.putRow,Go.Sort.mapBlock,Go.Sort.ahead,J2w,this]
theorem OutI.reversed {w wr:World} {g n cap k:Nat} {L:List Int} (h:OutI w wr (.slice (some ⟨g,0,none⟩) n cap) L):OutI w (Go.Sort.putRow encI (Go.Sort.ahead wr k) g 0 L.toArray.reverse) (.slice (some ⟨g,0,none⟩) n cap) L.reverse:=by
 obtain⟨cur,rfl,a1,a2,a3,a4,a5,a6⟩:=h.parts;have hgr:=Z3s (w:=wr) (g:=g) (n:=k) L.toArray.reverse;have hsz:L.toArray.reverse.size=L.length:=by simp
 refine⟨⟨by simp [J4g],.inr ⟨g,cap,_,by rw [J6X],a1,Z6H _ a2,by simpa using a3,a4,by simp [Go.Sort.putCells,a5],?_⟩⟩,h.2.trans ((Below.refl _ wr).mono h.2.size |>.grown hgr h.2.size (fun b hb=>by cases hb;exact a1))⟩;have e:L.reverse.length*1=L.toArray.reverse.size:=by simp
 rw [e,Q6P _ _ (by rw [hsz,a5];exact a3)];simp
theorem OutI.alloc {w wr:World} {v:Value} {L:List Int} (h:OutI w wr v L) (o:Obj):OutI w (wr.alloc o) v L:=⟨h.1.alloc _,h.2.alloc h.2.size _⟩
theorem OutI.app0 {w wr w1:World} {v v':Value} {L M:List Int} (h:OutI w wr v L) (hown:w1.ownsRow w.heap.size 3 1 v' (L.length+M.length) (L.map encI++M.map encI)) (hg:wr.grownBy w1 v.ownBlock):OutI w w1 v' (L++M):=
 ⟨by rw [J3h,J6b];exact hown,h.2.trans ((Below.refl _ wr).mono h.2.size |>.grown hg h.2.size (fun b hb=>(h.1.lt b hb).1))⟩
def TwoI (w wr:World) (v:Value) (L:List Int) (u:Value) (M:List Int):Prop:=OutI w wr v L/\OutI w wr u M/\∀b,v.ownBlock=some b->u.ownBlock≠some b
theorem TwoI.swap {w wr:World} {v u:Value} {L M:List Int} (h:TwoI w wr v L u M):TwoI w wr u M v L:=⟨h.2.1,h.1,fun b h1 h2=>h.2.2 b h2 h1⟩
theorem TwoI.below {w wr w1:World} {v u:Value} {L M:List Int} (h:TwoI w wr v L u M) (hb:Below wr.heap.size wr w1):TwoI w w1 v L u M:=⟨h.1.below hb,h.2.1.below hb,h.2.2⟩
theorem TwoI.alloc {w wr:World} {v u:Value} {L M:List Int} (h:TwoI w wr v L u M) (o:Obj):TwoI w (wr.alloc o) v L u M:=⟨h.1.alloc o,h.2.1.alloc o,h.2.2⟩
theorem TwoI.cut {w wr:World} {g n cap:Nat} {x:Int} {u:Value} {L M:List Int} (h:TwoI w wr (.slice (some ⟨g,0,none⟩) n cap) (L++[x]) u M):TwoI w wr (.slice (some ⟨g,0,none⟩) L.length cap) L u M:=⟨h.1.cut,h.2.1,h.2.2⟩
theorem TwoI.app {w wr w1:World} {v v' u:Value} {L M X:List Int} (h:TwoI w wr v L u M) (hown:w1.ownsRow w.heap.size 3 1 v' (L.length+X.length) (L.map encI++X.map encI)) (hg:wr.grownBy w1 v.ownBlock) (hat:v'.ownBlock=v.ownBlock∨v'.ownBlock=some wr.heap.size):TwoI w w1 v' (L++X) u M:=by
 obtain⟨h1,h2,h3⟩:=h;have hb:Below w.heap.size w w1:=h1.2.trans ((Below.refl _ wr).mono h1.2.size |>.grown hg h1.2.size (fun b hb=>(h1.1.lt b hb).1));refine⟨h1.app0 hown hg,⟨h2.1.kept hg ?_,hb⟩,fun b e1 e2=>?_⟩
 ·cases hv:v.ownBlock with
  | none=>cases hu:u.ownBlock with
   | none=>exact .inl rfl
   | some c=>exact .inr (by simp)
  | some b=>exact .inr (fun e=>h3 b hv e)
 ·rcases hat with e|e
  ·exact h3 b (e ▸ e1) e2
  ·rw [e] at e1;cases e1;exact absurd (h2.1.lt _ e2).2 (by omega)
theorem Z2d {w:World} {B:Nat} {v:Value} {L M:List Int} {rv:RV} {ty:TypeId} (h:w.ownsRow B 3 1 v L.length (L.map encI)) (hM:∀g cap,rv=some (g,cap)->∀(j:Nat) (x:Int),M[j]?=some x->w.cell? ⟨g,j,none⟩=some (.int .i64 x)) (hrv:rvOk rv M.length) (hn:L.length+M.length<=16777216) (hB:B<=w.heap.size) :
  ∃v' w',(Builtin.append_ #[36,36] ty #[v,lvOf rv M.length]).run prog w=.ok v' w'/\w'.ownsRow B 3 1 v' (L.length+M.length) (L.map encI++M.map encI)/\w.grownBy w' v.ownBlock/\(v'.ownBlock=v.ownBlock∨v'.ownBlock=some w.heap.size):=by
 obtain⟨i0,hinf,hz0,hz1,hz2⟩:=info_parts Z0D;cases rv with
 | none =>
  have hM0:M=[]:=J4N hrv;subst hM0;exact⟨v,w,run_append_owned_none w B 36 ty 3 i0 1 underlying36 hinf v _ _ h,by simpa using h,⟨rfl,rfl,rfl,J2x _,fun _ _ _=>rfl⟩,.inl rfl⟩
 | some p =>
  obtain⟨g,cap⟩:=p;obtain⟨v',w',e1,e2,e3,_,e5⟩:=run_append_own_at (P:=prog) w B 36 ty 3 i0 (.int .i64 0) 1 8 underlying36 hinf hz0 hz1 hz2 rfl (by decide) v _ _ h ⟨g,0,none⟩ M.length cap (M.map encI) (by simp) (fun j u hj=>by
   rw [J4i] at hj;obtain⟨x,hx,rfl⟩:=J6v.1 hj;have:=hM g cap rfl j x hx;have e:(⟨g,0,none⟩:Addr).add j=⟨g,j,none⟩:=by unfold Addr.add;split <;> simp_all
   rw [e];exact this) (fun u hu=>by
    obtain⟨x,_,rfl⟩:=J2D.1 hu;rfl) (by unfold maxLen;omega) (by omega) hB
  exact⟨v',w',e1,e2,e3,e5⟩
theorem Z0M {w wr:World} {q:FO} (h:Sep w q.hl) (ok:q.Ok) {x:Int} {e:En Nd} (hf:find q.N x=some e) {g n cap:Nat} {u:Value} {ws M:List Int} (T:TwoI w wr (.slice (some ⟨g,0,none⟩) n cap) (ws++[x]) u M) (hws:ws.length<=65536) (hM:M.length<=65536) :
  ∃v1 w1 v2 w2,(Builtin.append_ #[36,36] 36 #[.slice (some ⟨g,0,none⟩) ws.length cap,lvOf (q.kr x) e.q.ks.length]).run prog wr.drew=.ok v1 w1 /\
   (Builtin.append_ #[36,36] 36 #[u,.slice (some ⟨w1.heap.size,0,none⟩) 1 1]).run prog (w1.alloc (.cells #[.int .i64 x] 3))=.ok v2 w2/\TwoI w w2 v1 (ws++e.q.ks) v2 (M++[x]):=by
 obtain⟨hem,heid⟩:=Q0b hf;have hfew:=ok.n.kids_few hem;have hfew2:=ok.few;have hrv:=ok.rv e hem;rw [heid] at hrv;have T1:TwoI w wr.drew (.slice (some ⟨g,0,none⟩) ws.length cap) ws u M:=T.cut.below ((Below.refl _ _).drew);have hs:Sep wr.drew q.hl:=(h.grown T1.1.2).sep;obtain⟨R,p1,_⟩:=FO.split ok.n.ids hf;have hrow:Sep wr.drew (rowH (q.kr x) 3 1 (e.q.ks.map encI)):=(hs.perm p1).left.tail;obtain⟨v1,w1,r1,o1,g1,b1⟩:=Z2d (rv:=q.kr x) (M:=e.q.ks) (ty:=36) T1.1.1 (fun g' cap' hr j y hj=>by
  rw [hr] at hrow;exact Q0Z hrow j _ (by rw [J4i,hj];rfl)) hrv (by omega) T1.1.2.size
 have T2:=T1.app o1 g1 b1;have T3:=T2.swap.alloc (.cells #[.int .i64 x] 3);have cn:=Cells.new w1 3 [.int .i64 x];obtain⟨v2,w2,r2,o2,g2,b2⟩:=Z2d (rv:=some (w1.heap.size,1)) (M:=[x]) (ty:=36) T3.1.1 (fun g' cap' hr j y hj=>by
  cases hr
  exact cn.cell j _ (by
   cases j with
   | zero=>simp at hj;subst hj;rfl
   | succ j=>simp at hj)) ⟨J2x _,by unfold maxLen;omega⟩ (by simp;omega) T3.1.2.size
 exact⟨v1,w1,v2,w2,r1,r2,(T3.app o2 g2 b2).swap⟩
theorem OutI.shape {w wr:World} {v:Value} {L:List Int} (h:OutI w wr v L):∃(a:Option Addr) (cap:Nat),v=.slice a L.length cap:=by
 rcases h.1.2 with ⟨rfl,h0⟩|⟨g,cap,cur,rfl,_⟩
 ·exact⟨none,0,by rw [h0]⟩
 ·exact⟨_,cap,rfl⟩
theorem OutI.shape1 {w wr:World} {v:Value} {L:List Int} (h:OutI w wr v L) (hl:L≠[]):∃(g cap:Nat),v=.slice (some ⟨g,0,none⟩) L.length cap:=by
 rcases h.1.2 with ⟨rfl,h0⟩|⟨g,cap,cur,rfl,_⟩
 ·exact absurd (J4N h0) hl
 ·exact⟨g,cap,rfl⟩
theorem TwoI.startI (w:World) (x:Int):TwoI w (w.alloc (.cells #[.int .i64 x] 3)) (.slice (some ⟨w.heap.size,0,none⟩) 1 1) [x] (.slice none 0 0) []:=by
 have hb:Below w.heap.size w (w.alloc (.cells #[.int .i64 x] 3)):=(Below.refl _ _).alloc (J2x _) _;refine⟨⟨?_,hb⟩,(OutI.nil w).below hb,fun b _=>by simp [Value.ownBlock]⟩;refine⟨by simp,.inr ⟨w.heap.size,1,#[.int .i64 x],rfl,J2x _,Cells.new w 3 [.int .i64 x],J2x _,by unfold maxLen;omega,by simp,by simp⟩⟩
structure BelI (q:FO) (id:Int) (ws M:List Int):Prop where
 eq:M++Q8T (kdF q.N) (rkF q.next) ws=preT (kdF q.N) (rkF q.next) id
 nodes:∀y∈ws,∃e,find q.N y=some e
theorem Z3t {q:FO} (ok:q.Ok) {id y:Int} {e:En Nd} (hf:find q.N id=some e) (hy:y∈preT (kdF q.N) (rkF q.next) id):∃e',find q.N y=some e':=by
 have hd:=(Z1V ok.n.tree).1 hy;rcases hd.last with rfl|⟨z,_,hz⟩
 ·exact⟨e,hf⟩
 ·unfold kdF at hz;cases hfz:find q.N z with
  | none=>rw [hfz] at hz;cases hz
  | some p =>
   rw [hfz] at hz;obtain⟨p1,_⟩:=Q0b hfz;obtain⟨k,hk,_⟩:=ok.n.kids p p1 y hz;exact⟨k,hk⟩
theorem Z2e {q:FO} (ok:q.Ok) {id:Int} {e:En Nd} (hf:find q.N id=some e):(preT (kdF q.N) (rkF q.next) id).length<=65536:=by
 have hnd:(preT (kdF q.N) (rkF q.next) id).Nodup:=(Q6b ok.n.tree id).imp fun h=>h.1
 have:=J6Q hnd (l₂:=q.N.map En.id) (fun y hy=>by
  obtain⟨k,hk⟩:=Z3t ok hf hy;obtain⟨k1,k2⟩:=Q0b hk;exact J2D.2 ⟨k,k1,k2⟩)
 rw [J4g] at this;have:=ok.few;omega
theorem BelI.start {q:FO} {id:Int} {e:En Nd} (hf:find q.N id=some e):BelI q id [id] []:=⟨by simp [Q8T],fun y hy=>by
 rw [J4E] at hy;subst hy;exact⟨e,hf⟩⟩
theorem BelI.step {q:FO} (ok:q.Ok) {id x:Int} {e:En Nd} {ws M:List Int} (b:BelI q id (ws++[x]) M) (hf:find q.N x=some e):BelI q id (ws++e.q.ks) (M++[x]):=by
 have hk:kdF q.N x=e.q.ks:=by unfold kdF;rw [hf]
 refine⟨?_,fun y hy=>?_⟩
 ·rw [<- b.eq,Z2R ok.n.tree,hk];simp
 ·rcases J3l.1 hy with hy|hy
  ·exact b.nodes y (by simp [hy])
  ·obtain⟨e1,_⟩:=Q0b hf;obtain⟨k,hk,_⟩:=ok.n.kids e e1 y hy;exact⟨k,hk⟩
theorem BelI.len {q:FO} (ok:q.Ok) {id:Int} {e:En Nd} (hf:find q.N id=some e) {ws M:List Int} (b:BelI q id ws M):ws.length<=65536/\M.length<=65536/\M.length<=(preT (kdF q.N) (rkF q.next) id).length:=by
 have h1:=Z2e ok hf;have h2:=Z5Q (kdF q.N) (rkF q.next) ok.n.tree ws;rw [<- b.eq,J3h] at h1 ⊢;omega
theorem BelI.done {q:FO} (ok:q.Ok) {id:Int} {M:List Int} (b:BelI q id [] M):M.reverse=Q0G (kdF q.N) (rkF q.next) id++[id]:=by
 have h:=b.eq;have h0:Q8T (kdF q.N) (rkF q.next) []=[]:=rfl;rw [h0,J4D,Q3C ok.n.tree] at h;rw [h];simp
def slen:Value->Nat
 | .slice _ n _=>n
 | _=>0
end Go.Proofs.YtlakjlmaboioiaaGreatDoor

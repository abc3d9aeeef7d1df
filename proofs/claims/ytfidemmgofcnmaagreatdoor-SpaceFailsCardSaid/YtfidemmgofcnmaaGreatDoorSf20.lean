/- SpaceFails returns true at every input. No condition. Part of its proof. -/
import Derived.Test.YtfidemmgofcnmaaGreatDoorSf19
import Derived.ProofKit
import Derived.Deep.Slices
import Derived.OpenShut
set_option maxHeartbeats 8000000
set_option maxRecDepth 100000
set_option linter.unusedVariables false
namespace Go.Proofs.YtfidemmgofcnmaaGreatDoor
open Go.RowKit Go.Proofs.Tryz
theorem Z6T(w:World)(k:Int):Calls prog 101 #[.int .i64 k] w fun r w'=>r=.returned (.bool (decide (k=8∨1<=k/\k<=5)))/\w=w':=by
 by_cases h8:k=8
 ·subst h8;go_enter func101,ntmps101;go_wp2_with fail
  (try go_ret);exact⟨rfl,rfl⟩
 ·have b8:(k==8)=false:=by simpa using h8
  have d8:decide (k=8)=false:=decide_eq_false h8;by_cases h1:1<=k
  ·have d1:decide (1<=k)=true:=decide_eq_true h1;by_cases h5:k<=5
   ·have d5:decide (k<=5)=true:=decide_eq_true h5;have hv:decide (k=8∨1<=k/\k<=5)=true:=decide_eq_true (.inr ⟨h1,h5⟩);rw[hv];clear hv;go_enter func101,ntmps101;go_wp2_with fail
    (try go_ret);exact⟨rfl,rfl⟩
   ·have d5:decide (k<=5)=false:=decide_eq_false h5;have hv:decide (k=8∨1<=k/\k<=5)=false:=decide_eq_false (by omega);rw[hv];clear hv;go_enter func101,ntmps101;go_wp2_with fail
    (try go_ret);exact⟨rfl,rfl⟩
  ·have d1:decide (1<=k)=false:=decide_eq_false h1;have hv:decide (k=8∨1<=k/\k<=5)=false:=decide_eq_false (by omega);rw[hv];clear hv;go_enter func101,ntmps101;go_wp2_with fail
   (try go_ret);exact⟨rfl,rfl⟩
theorem Q7N{w:World}{s x y:Nat}{z k lim e:Int}(he:e≠0)(hS:Calls prog 90 #[.pointer (some ⟨s,0,none⟩),.int .u32 x] w (Told w (.tuple #[.agg #[.pointer none,.int .u32 0,.int .i64 0],.int .i64 e]))) :
  Calls prog 40 #[.pointer (some ⟨s,0,none⟩),.int .u32 x,.int .i64 z,.int .u32 y,.int .i64 k,.int .i64 lim] w (Told w (.tuple #[.int .u32 0,.int .i64 e])):=by
 have FV:(e != 0)=true:=by simpa using he
 have HB:Hid (∀w1,Below w.heap.size w w1->∀o,Below w.heap.size w (w1.alloc o)):=fun w1 hb o=>hb.alloc hb.size o
 go_enter func40,ntmps40;go_wp2_with fail;refine hS.mono ?_;rintro rv w1⟨rfl,hb⟩;have HW:=Q0a (HB.out w1 hb);clear hb HB hS;go_wp2_with fail
 (try go_ret2);exact⟨rfl,HW.out _⟩
def J2U(bh bm bc bk full:Bool)(er:Int):Prop:=(bh=false/\er=2)∨(bh=true/\bm=false/\er=1)∨(bh=true/\bm=true/\(bc==bk)=true/\er=1)∨(bh=true/\bm=true/\(bc==bk)=false/\full=true/\er=7)
def Z6U(Z:SP)(g x f B:Nat)(w':World):Prop:=w'.cell? ⟨Z.s,0,none⟩=some (.pointer (some ⟨Z.S.c,0,none⟩))/\w'.cell? ⟨Z.s,1,none⟩=some (.pointer (some ⟨Z.F.f,0,none⟩))/\w'.cell? ⟨B,0,none⟩=some (.pointer (some ⟨g,0,none⟩))/\w'.cell? ⟨B,1,none⟩=some (.int .u32 x)/\w'.cell? ⟨B,2,none⟩=some (.int .i64 f)
def Z2r(Z:SP)(g x f B y:Nat)(z k lim:Int)(Q:Nat->Int->World->Prop)(w5:World):Prop:=
 Calls prog 79 #[.pointer (some ⟨Z.S.c,0,none⟩),.int .u32 y,.int .i64 k,.int .i64 lim] w5 fun rv w6=>∃(hh:Nat) (er:Int),rv=.returned (.tuple #[.int .u32 hh,.int .i64 er])/\Z6U Z g x f B w6 /\
  ((er≠0/\Calls prog 99 #[.pointer (some ⟨Z.s,0,none⟩),.agg #[.pointer (some ⟨g,0,none⟩),.int .u32 x,.int .i64 f],.int .i64 z] w6 fun rv w7=>rv=.returned (.tuple #[])/\Q 0 er w7) ∨
   (er=0/\∃a b c:Nat,Calls prog 102 #[.pointer (some ⟨g,0,none⟩),.int .i64 z] w6 (fun rv w7=>rv=.returned (.tuple #[.int .u64 a,.int .u64 b])/\w6=w7) /\
   (∀w8,Below w6.heap.size w6 w8->Z6U Z g x f B w8/\Calls prog 104 #[.agg #[.int .u32 hh,.int .i64 15]] w8 (Told w8 (.int .u64 c)) /\
    Calls prog 103 #[.pointer (some ⟨g,0,none⟩),.int .i64 z,.int .u64 c,.int .u64 b] w8 fun rv w9=>(∃v,rv=.returned (.int .i64 v))/\Z6U Z g x f B w9/\∀n,
    Calls prog 105 #[.pointer (some ⟨Z.F.f,0,none⟩),.int .i64 0,.int .i64 x,.int .i64 z] (w9.drewN n) fun rv w'=>(∃a b:Value,rv=.returned (.tuple #[a,b]))/\Q hh 0 w')))
theorem Z3H{w:World}{Z:SP}{fr:List Nat}{N K:Nat}{M:Int}(hs:Sep w Z.hl)(ok:Z.Ok fr N K M){x y:Nat}(hx:x<4294967296){p:Pl}(hp:pget Z.S.l 1 x=some p)(hk:p.kind=2)(z k lim:Int){Q:Nat->Int->World->Prop}
  (Ay:(∃er,J2U (decide (0<=z/\z<256)) (decide (k=8∨1<=k/\k<=5)) (decide (z<128)) (k==8) ((Z.tb (x%256)).at' z).isSome er/\∀W,Below w.heap.size w W->Q 0 er W) ∨
   (decide (0<=z/\z<256)=true/\decide (k=8∨1<=k/\k<=5)=true/\(decide (z<128)==(k==8))=false/\((Z.tb (x%256)).at' z).isSome=false /\
    ∀W g B,Below w.heap.size w W->TblZ Z p g W->AsideV Z.hl [.pointer (some ⟨g,0,none⟩),.int .u32 x,.int .i64 (p.fac:Int)] (some ⟨B,0,none⟩) W->Calls prog 98 #[.pointer (some ⟨Z.s,0,none⟩),.agg #[.pointer (some ⟨g,0,none⟩),.int .u32 x,.int .i64 (p.fac:Int)],.int .i64 z,.agg #[.int .u32 0,.int .i64 15]] W fun rv w5=>∃er:Int,rv=.returned (.int .i64 er) /\
     ((er≠0/\Q 0 er w5)∨(er=0/\Z6U Z g x p.fac B w5/\Z2r Z g x p.fac B y z k lim Q w5)))) :
  Calls prog 40 #[.pointer (some ⟨Z.s,0,none⟩),.int .u32 x,.int .i64 z,.int .u32 y,.int .i64 k,.int .i64 lim] w fun rv w'=>∃(hh:Nat) (er:Int),rv=.returned (.tuple #[.int .u32 hh,.int .i64 er])/\Q hh er w':=by
 have ks:=Q0N hs ok.core hx hp hk;have hi:=(pget_some.1 hp).1;have Ap:=(pget_some.1 hp).2.2;obtain⟨ca,cb,Cu⟩:=Q2N ((Z.tb (x%256)).at' z);have AA:(Z.tb (x%256)).at' z=if 0<=z/\z<256 then Q0f Z.S.l Z.tb x z.toNat else none:=by
  unfold TB.at';split
  ·rename_i h;rw[Q0g hp hk (by omega)]
  ·rfl
 have Eu:Hid (∀W g,Below w.heap.size w W->TblZ Z p g W->Calls prog 93 #[.agg #[.pointer (some ⟨g,0,none⟩),.int .u32 x,.int .i64 (p.fac:Int)],.int .i64 z] W (Told W (.tuple #[.agg #[.int .u32 ca,.int .i64 cb],.bool ((Z.tb (x%256)).at' z).isSome]))):=fun W g hb hg=>by
  have T:=(ok.tpi.x (p.fac:Int)).tt ok.core hi Ap hk (SP.sS (hs.grown hb).sep) hg.c;have:=Q1m T (x:Int) (p.fac:Int) z fun e AT=>by
   rw[AA] at AT;split at AT
   ·exact ok.fpi.low ok.core.inv.lok AT
   ·cases AT
  rwa [Cu] at this
 have Nf:Hid (∀(w2:World) (g:Nat),Below w.heap.size w w2->TblZ Z p g w2->∀W,Below (w2.alloc (.cells #[.pointer (some ⟨g,0,none⟩),.int .u32 x,.int .i64 (p.fac:Int)] 191)).heap.size (w2.alloc (.cells #[.pointer (some ⟨g,0,none⟩),.int .u32 x,.int .i64 (p.fac:Int)] 191)) W ->
   Below w.heap.size w W/\TblZ Z p g W/\AsideV Z.hl [.pointer (some ⟨g,0,none⟩),.int .u32 x,.int .i64 (p.fac:Int)] (some ⟨w2.heap.size,0,none⟩) W):=fun w2 g Ai hg W FX=>by
  have s2:=(hs.grown Ai).sep;have Ar:Below w2.heap.size w2 W:=Q0e FX;have h9:=(Cells.new w2 191 [.pointer (some ⟨g,0,none⟩),.int .u32 x,.int .i64 (p.fac:Int)]).same (FX.block w2.heap.size (by simp));refine⟨Ai.trans (Ar.mono Ai.size),hg.grown s2 Ar,fun j v hj=>⟨w2.heap.size,rfl,fun hk=>?_,h9.lt,h9.cell j v hj⟩⟩;exact absurd (s2.lt hk) (Nat.lt_irrefl _)
 have CD:=Q0a Ay;have Bd:Hid (∀W,Calls prog 92 #[.int .i64 z] W fun r w'=>r=.returned (.bool (decide (0<=z/\z<256)))/\W=w'):=fun W=>Q2Z W z
 have Jd:Hid (∀W,Calls prog 101 #[.int .i64 k] W fun r' w'=>r'=.returned (.bool (decide (k=8∨1<=k/\k<=5)))/\W=w'):=fun W=>Z6T W k
 have D4:Hid (∀W,Calls prog 96 #[.int .i64 z] W fun r w'=>r=.returned (.bool (decide (z<128)))/\W=w'):=fun W=>Q2M W z
 have Cw:(0:Int)<=(x:Int):=by omega
 have Dl:(x:Int)<4294967296:=by omega
 have M7:IntKind.i64.wrap (x:Int)=(x:Int):=Go.IntWalk.i64_in _ (by omega);generalize ((Z.tb (x%256)).at' z).isSome=full at *
 generalize decide (0<=z/\z<256)=bh at *
 generalize decide (k=8∨1<=k/\k<=5)=bm at *
 generalize decide (z<128)=bc at *
 clear hs ok hx hp hk hi Ap Cu AA Ay;go_enter func40,ntmps40;go_wp2_with fail;refine ks.mono ?_;rintro rv w2⟨g,rfl,Ai,hg⟩;have HW:=Q0a (Nf.out w2 g Ai hg);obtain⟨Ar,IL,Oc⟩:=HW.out _ (Below.refl _ _);have kc:=Eu.out _ g Ar IL;have v0:=Oc.at 0 _ rfl;have v1:=Oc.at 1 _ rfl;have v2:=Oc.at 2 _ rfl;clear Ai hg Nf ks Eu Ar IL Oc;go_wp2_with fail;refine kc.mono ?_;rintro rv w6⟨rfl,C8⟩;go_wp2_with fail;generalize hW7:(w6.alloc (.cells #[.int .u32 ca,.int .i64 cb] 72))=w7;have CQ:=Q0a (HW.out w7 (by rw[<- hW7];exact C8.alloc C8.size _));have kh:=Bd.out w7;have km:=Jd.out w7
 have kp:=D4.out w7;clear hW7 C8 kc v0 v1 v2 HW Jd D4 Bd;rcases CD.out with ⟨er,hT,hQ⟩|⟨rfl,rfl,AJ,rfl,hl⟩
 ·have HQ:=Q0a (hQ _ CQ.out.1);clear hQ CD;rcases hT with ⟨rfl,rfl⟩|⟨rfl,rfl,rfl⟩|⟨rfl,rfl,AJ,rfl⟩|⟨rfl,rfl,AJ,rfl,rfl⟩
  ·refine kh.mono ?_;rintro rv w'⟨rfl,rfl⟩;go_wp2_with fail
   (try go_ret2);exact⟨0,_,rfl,HQ.out⟩
  ·refine kh.mono ?_;rintro rv w'⟨rfl,rfl⟩;go_wp2_with fail;refine km.mono ?_;rintro rv w'⟨rfl,rfl⟩;go_wp2_with fail
   (try go_ret2);exact⟨0,_,rfl,HQ.out⟩
  ·have hc:=Q9K AJ;clear AJ;rcases hc with ⟨rfl,rfl⟩|⟨rfl,No,Lv⟩
   ·refine kh.mono ?_;rintro rv w'⟨rfl,rfl⟩;go_wp2_with fail;refine km.mono ?_;rintro rv w'⟨rfl,rfl⟩;go_wp2_with fail;refine kp.mono ?_;rintro rv w'⟨rfl,rfl⟩;go_wp2_with fail
    (try go_ret2);exact⟨0,_,rfl,HQ.out⟩
   ·refine kh.mono ?_;rintro rv w'⟨rfl,rfl⟩;go_wp2_with fail;refine km.mono ?_;rintro rv w'⟨rfl,rfl⟩;go_wp2_with fail;refine kp.mono ?_;rintro rv w'⟨rfl,rfl⟩;go_wp2_with fail
    (try go_ret2);exact⟨0,_,rfl,HQ.out⟩
  ·have hc:=Q3w AJ;clear AJ;rcases hc with ⟨rfl,No,Lv⟩|⟨rfl,rfl⟩
   ·refine kh.mono ?_;rintro rv w'⟨rfl,rfl⟩;go_wp2_with fail;refine km.mono ?_;rintro rv w'⟨rfl,rfl⟩;go_wp2_with fail;refine kp.mono ?_;rintro rv w'⟨rfl,rfl⟩;go_wp2_with fail
    (try go_ret2);exact⟨0,_,rfl,HQ.out⟩
   ·refine kh.mono ?_;rintro rv w'⟨rfl,rfl⟩;go_wp2_with fail;refine km.mono ?_;rintro rv w'⟨rfl,rfl⟩;go_wp2_with fail;refine kp.mono ?_;rintro rv w'⟨rfl,rfl⟩;go_wp2_with fail
    (try go_ret2);exact⟨0,_,rfl,HQ.out⟩
 ·have HL:=Q0a (hl w7 g w2.heap.size CQ.out.1 CQ.out.2.1 CQ.out.2.2);have v0:=CQ.out.2.2.at 0 _ rfl;have v1:=CQ.out.2.2.at 1 _ rfl;have v2:=CQ.out.2.2.at 2 _ rfl;clear hl CD;have hc:=Q3w AJ;clear AJ;rcases hc with ⟨rfl,No,Lv⟩|⟨rfl,rfl⟩
  ·refine kh.mono ?_;rintro rv w'⟨rfl,rfl⟩;go_wp2_with fail;refine km.mono ?_;rintro rv w'⟨rfl,rfl⟩;go_wp2_with fail;refine kp.mono ?_;rintro rv w'⟨rfl,rfl⟩;go_wp2_with fail;refine HL.out.mono ?_;rintro rv w5⟨er,rfl,⟨Aa,hq⟩|⟨rfl,⟨c0,c1,v0,v1,v2⟩,DZ⟩⟩
   ·have B0:(er != 0)=true:=by simp[Aa]
    have HQ:=Q0a hq;clear hq;go_wp2_with fail
    (try go_ret2);exact⟨0,_,rfl,HQ.out⟩
   ·have HT:=Q0a DZ;clear DZ kh km kp HL;go_wp2_with fail;refine HT.out.mono ?_;clear v0 v1 v2 c0 c1;rintro rv w6⟨hh,er,rfl,⟨c0,c1,v0,v1,v2⟩,⟨Aa,hb⟩|⟨rfl,a,b,c,Da,h8⟩⟩
    ·have B0:(er != 0)=true:=by simp[Aa]
     have JK:=Q0a hb;clear hb HT;go_wp2_with fail;refine JK.out.mono ?_;rintro rv w8⟨rfl,hq⟩;have HQ:=Q0a hq;clear hq;go_wp2_with fail
     (try go_ret2);exact⟨0,_,rfl,HQ.out⟩
    ·have H8:=Q0a h8;clear h8 HT;go_wp2_with fail;refine Da.mono ?_;rintro rv w'⟨rfl,rfl⟩;clear Da;have OU:=(H8.out w6.drew (Below.refl _ _).drew).2.1;have d0:w6.drew.cell? ⟨w2.heap.size,0,none⟩=some (.pointer (some ⟨g,0,none⟩)):=v0;go_wp2_with fail
     go_region_held3 (fun w'=>w'.cell? ⟨w2.heap.size,0,none⟩=some (.pointer (some ⟨g,0,none⟩))) (first|exact v0|exact d0|exact e0|exact m0)
      (first|(go_at_call 104;refine OU.mono ?_;rintro rv w8⟨rfl,G3⟩;have h9:=H8.out w8 ((Below.refl w6.heap.size w6).drew.trans (G3.mono (J3b _)));have e0:=h9.1.2.2.1;have CI:=Q0a h9.2.2;clear h9 G3)|(go_at_call 103;refine CI.out.mono ?_;rintro rv w9⟨⟨sv,rfl⟩,⟨-,m1,m0,-,-⟩,B7⟩;have Dp:=Q0a B7;clear B7))
     go_wp2_with fail;refine(Dp.out 0).mono ?_;rintro rv w10⟨⟨ra,rb,rfl⟩,hq⟩;have HQ:=Q0a hq;clear hq;go_wp2_with fail
     (try go_ret2);exact⟨hh,_,rfl,HQ.out⟩
  ·refine kh.mono ?_;rintro rv w'⟨rfl,rfl⟩;go_wp2_with fail;refine km.mono ?_;rintro rv w'⟨rfl,rfl⟩;go_wp2_with fail;refine kp.mono ?_;rintro rv w'⟨rfl,rfl⟩;go_wp2_with fail;refine HL.out.mono ?_;rintro rv w5⟨er,rfl,⟨Aa,hq⟩|⟨rfl,⟨c0,c1,v0,v1,v2⟩,DZ⟩⟩
   ·have B0:(er != 0)=true:=by simp[Aa]
    have HQ:=Q0a hq;clear hq;go_wp2_with fail
    (try go_ret2);exact⟨0,_,rfl,HQ.out⟩
   ·have HT:=Q0a DZ;clear DZ kh km kp HL;go_wp2_with fail;refine HT.out.mono ?_;clear v0 v1 v2 c0 c1;rintro rv w6⟨hh,er,rfl,⟨c0,c1,v0,v1,v2⟩,⟨Aa,hb⟩|⟨rfl,a,b,c,Da,h8⟩⟩
    ·have B0:(er != 0)=true:=by simp[Aa]
     have JK:=Q0a hb;clear hb HT;go_wp2_with fail;refine JK.out.mono ?_;rintro rv w8⟨rfl,hq⟩;have HQ:=Q0a hq;clear hq;go_wp2_with fail
     (try go_ret2);exact⟨0,_,rfl,HQ.out⟩
    ·have H8:=Q0a h8;clear h8 HT;go_wp2_with fail;refine Da.mono ?_;rintro rv w'⟨rfl,rfl⟩;clear Da;have OU:=(H8.out w6.drew (Below.refl _ _).drew).2.1;have d0:w6.drew.cell? ⟨w2.heap.size,0,none⟩=some (.pointer (some ⟨g,0,none⟩)):=v0;go_wp2_with fail
     go_region_held3 (fun w'=>w'.cell? ⟨w2.heap.size,0,none⟩=some (.pointer (some ⟨g,0,none⟩))) (first|exact v0|exact d0|exact e0|exact m0)
      (first|(go_at_call 104;refine OU.mono ?_;rintro rv w8⟨rfl,G3⟩;have h9:=H8.out w8 ((Below.refl w6.heap.size w6).drew.trans (G3.mono (J3b _)));have e0:=h9.1.2.2.1;have CI:=Q0a h9.2.2;clear h9 G3)|(go_at_call 103;refine CI.out.mono ?_;rintro rv w9⟨⟨sv,rfl⟩,⟨-,m1,m0,-,-⟩,B7⟩;have Dp:=Q0a B7;clear B7))
     go_wp2_with fail;refine(Dp.out 0).mono ?_;rintro rv w10⟨⟨ra,rb,rfl⟩,hq⟩;have HQ:=Q0a hq;clear hq;go_wp2_with fail
     (try go_ret2);exact⟨hh,_,rfl,HQ.out⟩
theorem Q9M{l:List Pl}{i:Nat}{p q:Pl}(hi:l[i]?=some p)(hp:p.st=0){x:Nat}{r:Pl}(hr:pget l 1 x=some r):pget (l.set i q) 1 x=some r:=by
 obtain⟨a,b,c⟩:=pget_some.1 hr;rw[Q0A q hi,if_neg]
 ·exact hr
 ·intro e;rw[e,hi] at a;cases a;omega
theorem Q7O{l:List Pl}{tb:Nat->TB}{i:Nat}{p q:Pl}(hi:l[i]?=some p)(hn:(tb i).Nil)(h s:Nat):Q0f (l.set i q) tb h s=Q0f l tb h s:=by
 by_cases e:h%256=i
 ·have z:∀l',Q0f l' tb h s=none:=fun l'=>by
   unfold Q0f;split
   ·split
    ·rename_i hc;rw[e];exact hn.2 s hc.2
    ·rfl
   ·rfl
  rw[z,z]
 ·unfold Q0f;rw[Q0A q hi,if_neg e]
section
variable {Z:SP} {fr fr':List Nat} {N K:Nat} {M:Int}
theorem SP.Ok.made_added(ok:Z.Ok fr N K M){x s:Nat}{p:Pl}(hp:pget Z.S.l 1 x=some p)(hk:p.kind=2)(hs:s<256)(h0:Q0f Z.S.l Z.tb x s=none){S1:CO}{t1:TB}{e1:Ent}(T1:TurnP Z.S fr N K Z.tb (p.fac:Int) (x%256) s (some e1) S1 t1)
  {f q:Pl} {ef:En Fa} {n a y i:Nat} {lim:Int} {P':PL} (m:MadeOk S1 fr f ef n a lim y i q P' fr') (hi:S1.l[i]?=some q) (hq:q.st=0) {e2:Ent} (hc:Q7a (S1.made f n a y i q P').l s e2)
  {S3:CO} {t3:TB} (T3:TurnP (S1.made f n a y i q P') fr' (N+1) K (updT Z.tb (x%256) t1) (p.fac:Int) (x%256) s (some e2) S3 t3) {F':FO} (A:Z2l Z.F 0 (x:Int) (s:Int) F') :
  ((Z.setF F').setS S3 (updT Z.tb (x%256) t3)).Ok fr' (N+1) K (M+1)/\((Z.setF F').setS S3 (updT Z.tb (x%256) t3)).av.en=setA Z.av.en x s (some (e2.h,e2.r))/\∃b,((Z.setF F').setS S3 (updT Z.tb (x%256) t3)).av.N=addN Z.F.N 0 (Z.F.next+1) b (x:Int) (s:Int):=by
 have DG:S1.l=Z.S.l:=T1.alt.l;have F8:(S1.made f n a y i q P').l=Z.S.l.set i ⟨n,a,f.own,1,q.age,y⟩:=by
  show S1.l.set i _=_;rw[DG]
 have Ld:S3.l=Z.S.l.set i ⟨n,a,f.own,1,q.age,y⟩:=T3.alt.l.trans F8;have BJ:Z.S.l[i]?=some q:=by rw[<- DG];exact hi
 have BT:(Z.tb i).Nil:=ok.tpi.nil i q BJ (by omega);obtain⟨b,hN⟩:=A.N;have A5:pget (Z.S.l.set i ⟨n,a,f.own,1,q.age,y⟩) 1 x=some p:=Q9M BJ hq hp;have T6:Q0f (Z.S.l.set i ⟨n,a,f.own,1,q.age,y⟩) Z.tb x s=none:=by rw[Q7O BJ BT];exact h0
 have Bf:∀z,t3.en z=if z=s then some e2 else(Z.tb (x%256)).en z:=fun z=>by
  rw[T3.en z,updT_same,T1.en z];split <;> rfl
 have Es:=Q6A Z.F.N F'.N A5 hk hs Bf;have GS:((Z.setF F').setS S3 (updT Z.tb (x%256) t3)).av=⟨setA Z.av.en x s ((some e2).map Ent.c),F'.N⟩:=by
  show avOf S3.l (updT Z.tb (x%256) t3) F'.N=_;rw[Ld,Es];congr 2;unfold SP.av avOf;funext h' s';simp only;rw[Q7O BJ BT]
 have Kh:=T3.tpi;rw[Q1c] at Kh;refine⟨⟨T3.ok,Kh,?_,A.ok,by show F'.next<=M+1;rw[A.next];have:=ok.next;omega⟩,by rw[GS];rfl,b,by rw[GS];exact hN⟩;show FPI S3.l _ F'.N;rw[Ld,hN];rw[F8] at hc;exact(ok.fpi.made (q:=⟨n,a,f.own,1,q.age,y⟩) BJ hq BT).add ok.fo.n A5 hk hs T6 Bf hc b (.inl rfl)
end
end Go.Proofs.YtfidemmgofcnmaaGreatDoor
namespace Go.Proofs.YtfidemmgofcnmaaGreatDoor
open Go.ChangeShapes Go.WideShapes Go.ChangeAt Go.RowKit Go.Deep Go.Proofs.Tryz
theorem Q6K{w:World}{x:Addr}{v:Value}(h:w.cell? x=some v):x=⟨x.block,x.off,none⟩:=by
 obtain⟨b,o,s⟩:=x;cases s with
 | none=>rfl
 | some s =>
  exfalso;unfold World.cell? at h;split at h <;> simp at h
theorem add_plain5(b o j:Nat):(⟨b,o,none⟩:Addr).add j=⟨b,o+j,none⟩:=by
 unfold Addr.add;split
 ·rename_i h;simp
 ·rfl
abbrev I64(x:Int):Prop:=-9223372036854775808<=x/\x<=9223372036854775807
structure Mv where
 src:Int
 dst:Int
 r:Int
 g:Bool
def Mv.cells(x:Mv):List Value:=[.int .i64 x.src,.int .i64 x.dst,.int .i64 x.r,.bool x.g]
structure Mv.Wf(x:Mv):Prop where
 src:I64 x.src
 dst:I64 x.dst
 r:I64 x.r
structure It where
 base:Int
 order:Int
 r:Int
 off:Int
 g:Bool
def It.cells(x:It):List Value:=[.int .i64 x.base,.int .i64 x.order,.int .i64 x.r,.int .i64 x.off,.bool x.g]
structure It.Wf(x:It):Prop where
 base:I64 x.base
 order:I64 x.order
 r:I64 x.r
 off:I64 x.off
structure Wi where
 base:Int
 order:Int
def Wi.cells(x:Wi):List Value:=[.int .i64 x.base,.int .i64 x.order]
structure Wi.Wf(x:Wi):Prop where
 base:I64 x.base
 order:I64 x.order
def IsMv(w:World)(a0:Option Addr)(len:Nat)(A:Nat->Mv):Prop:=∀j,j<len->∃g off,a0=some ⟨g,off,none⟩/\g<w.heap.size/\(∀(i:Nat) (v:Value),(A j).cells[i]?=some v->w.cell? ⟨g,off+j*4+i,none⟩=some v)/\(A j).Wf
theorem IsMv.below{w w':World}{a0:Option Addr}{len:Nat}{A:Nat->Mv}(h:IsMv w a0 len A)(hb:Below w.heap.size w w'):IsMv w' a0 len A:=by
 intro j hj;obtain⟨g,off,h1,h2,h3,h4⟩:=h j hj;have e:=hb.block g h2;exact⟨g,off,h1,J3d h2 hb.size,fun i v hv=>(World.cell?_of_block (w:=w) e).trans (h3 i v hv),h4⟩
structure A17 where
 kind:Int
 n:Int
 k:Int
 m:Int
 t:Int
 u:Int
 s:Int
 r:Int
 self:Bool
 la:Option Addr
 ll:Nat
 lc:Nat
 L:Nat->Mv
 i:It
 w:Wi
def A17.cells(x:A17):List Value:=[.int .i64 x.kind,.int .i64 x.n,.int .i64 x.k,.int .i64 x.m,.int .i64 x.t,.int .i64 x.u,.int .i64 x.s,.int .i64 x.r,.bool x.self,.slice x.la x.ll x.lc]++x.i.cells++x.w.cells
structure A17.Wf(x:A17):Prop where
 n:I64 x.n
 k:I64 x.k
 m:I64 x.m
 t:I64 x.t
 u:I64 x.u
 s:I64 x.s
 r:I64 x.r
 len:x.ll<=x.lc/\x.lc<=maxLen
 i:x.i.Wf
 w:x.w.Wf
def IsA17(w:World)(a0:Option Addr)(len:Nat)(A:Nat->A17):Prop:=∀j,j<len->∃g off,a0=some ⟨g,off,none⟩/\g<w.heap.size/\(∀(i:Nat) (v:Value),(A j).cells[i]?=some v->w.cell? ⟨g,off+j*17+i,none⟩=some v)/\(A j).Wf/\IsMv w (A j).la (A j).ll (A j).L
theorem IsA17.below{w w':World}{a0:Option Addr}{len:Nat}{A:Nat->A17}(h:IsA17 w a0 len A)(hb:Below w.heap.size w w'):IsA17 w' a0 len A:=by
 intro j hj;obtain⟨g,off,h1,h2,h3,h4,h5⟩:=h j hj;have e:=hb.block g h2;exact⟨g,off,h1,J3d h2 hb.size,fun i v hv=>(World.cell?_of_block (w:=w) e).trans (h3 i v hv),h4,h5.below hb⟩
theorem Z6V:prog.cellsOf 67=17:=by kernel_rfl
theorem Q9N:prog.cellsOf 90=4:=by kernel_rfl
theorem Q9O:prog.cellsOf 63=5:=by kernel_rfl
theorem Q9P:prog.cellsOf 65=2:=by kernel_rfl
theorem Q3T:prog.cellsOf 3=1:=by kernel_rfl
theorem Q4n:prog.cellsOf 4=1:=by kernel_rfl
theorem Z3I:prog.cellsOf 61=1:=by kernel_rfl
theorem Z0X{H:Type}{enc:TypeId×Value->H}{w:World}{n:Nat}{cs:List Value}{y:DataW H×List MemPlace}
  (h:DataW.trod enc prog w 0 (fun _=>true) true n 90 cs=some y):∃x:Mv,cs=x.cells/\x.Wf:=by
 obtain⟨xs,n',_,_,Ac,D2,hf⟩:=DataW.trod_struct underlying90 h;rw[Q9N] at Ac
 match cs,Ac with
 | [v0,v1,v2,v3],_ =>
  match xs,D2 with
  | [y0,y1,y2,y3],_ =>
   have g0:DataW.trod enc prog w 0 (fun _=>true) true n' 3 (List.take (prog.cellsOf 3) (List.drop 0 [v0,v1,v2,v3]))=some y0:=hf 0 _ rfl;have g1:DataW.trod enc prog w 0 (fun _=>true) true n' 3 (List.take (prog.cellsOf 3) (List.drop 1 [v0,v1,v2,v3]))=some y1:=hf 1 _ rfl;have g2:DataW.trod enc prog w 0 (fun _=>true) true n' 3 (List.take (prog.cellsOf 3) (List.drop 2 [v0,v1,v2,v3]))=some y2:=hf 2 _ rfl;have g3:DataW.trod enc prog w 0 (fun _=>true) true n' 4 (List.take (prog.cellsOf 4) (List.drop 3 [v0,v1,v2,v3]))=some y3:=hf 3 _ rfl;rw[Q3T] at g0 g1 g2;rw[Q4n] at g3;simp only[J6W,J7D,J6C,J7E] at g0 g1 g2 g3
   obtain⟨a0,e0,_,M9⟩:=DataW.trod_int underlying3 g0;have Bw:=bounds_i64 (n:=a0) (by simp_all);obtain⟨a1,e1,_,Du⟩:=DataW.trod_int underlying3 g1;have Aw:=bounds_i64 (n:=a1) (by simp_all);obtain⟨a2,e2,_,EV⟩:=DataW.trod_int underlying3 g2;have Ai:=bounds_i64 (n:=a2) (by simp_all);obtain⟨a3,e3,_⟩:=DataW.trod_bool underlying4 g3;simp only[J3f,and_true] at e0 e1 e2 e3;subst e0;subst e1;subst e2;subst e3;exact⟨⟨a0,a1,a2,a3⟩,rfl,⟨by simpa using Bw,by simpa using Aw,by simpa using Ai⟩⟩
theorem Z0Y{H:Type}{enc:TypeId×Value->H}{w:World}{n:Nat}{cs:List Value}{y:DataW H×List MemPlace}
  (h:DataW.trod enc prog w 0 (fun _=>true) true n 63 cs=some y):∃x:It,cs=x.cells/\x.Wf:=by
 obtain⟨xs,n',_,_,Ac,D2,hf⟩:=DataW.trod_struct underlying63 h;rw[Q9O] at Ac
 match cs,Ac with
 | [v0,v1,v2,v3,v4],_ =>
  match xs,D2 with
  | [y0,y1,y2,y3,y4],_ =>
   have g0:DataW.trod enc prog w 0 (fun _=>true) true n' 3 (List.take (prog.cellsOf 3) (List.drop 0 [v0,v1,v2,v3,v4]))=some y0:=hf 0 _ rfl;have g1:DataW.trod enc prog w 0 (fun _=>true) true n' 3 (List.take (prog.cellsOf 3) (List.drop 1 [v0,v1,v2,v3,v4]))=some y1:=hf 1 _ rfl;have g2:DataW.trod enc prog w 0 (fun _=>true) true n' 3 (List.take (prog.cellsOf 3) (List.drop 2 [v0,v1,v2,v3,v4]))=some y2:=hf 2 _ rfl;have g3:DataW.trod enc prog w 0 (fun _=>true) true n' 3 (List.take (prog.cellsOf 3) (List.drop 3 [v0,v1,v2,v3,v4]))=some y3:=hf 3 _ rfl;have g4:DataW.trod enc prog w 0 (fun _=>true) true n' 4 (List.take (prog.cellsOf 4) (List.drop 4 [v0,v1,v2,v3,v4]))=some y4:=hf 4 _ rfl
   rw[Q3T] at g0 g1 g2 g3;rw[Q4n] at g4;simp only[J6W,J7D,J6C,J7E] at g0 g1 g2 g3 g4;obtain⟨a0,e0,_,M9⟩:=DataW.trod_int underlying3 g0;have Bw:=bounds_i64 (n:=a0) (by simp_all);obtain⟨a1,e1,_,Du⟩:=DataW.trod_int underlying3 g1;have Aw:=bounds_i64 (n:=a1) (by simp_all);obtain⟨a2,e2,_,EV⟩:=DataW.trod_int underlying3 g2;have Ai:=bounds_i64 (n:=a2) (by simp_all);obtain⟨a3,e3,_,IF⟩:=DataW.trod_int underlying3 g3;have Ar:=bounds_i64 (n:=a3) (by simp_all);obtain⟨a4,e4,_⟩:=DataW.trod_bool underlying4 g4;simp only[J3f,and_true] at e0 e1 e2 e3 e4;subst e0;subst e1;subst e2;subst e3;subst e4;exact⟨⟨a0,a1,a2,a3,a4⟩,rfl,⟨by simpa using Bw,by simpa using Aw,by simpa using Ai,by simpa using Ar⟩⟩
theorem Z3J{H:Type}{enc:TypeId×Value->H}{w:World}{n:Nat}{cs:List Value}{y:DataW H×List MemPlace}
  (h:DataW.trod enc prog w 0 (fun _=>true) true n 65 cs=some y):∃x:Wi,cs=x.cells/\x.Wf:=by
 obtain⟨xs,n',_,_,Ac,D2,hf⟩:=DataW.trod_struct underlying65 h;rw[Q9P] at Ac
 match cs,Ac with
 | [v0,v1],_ =>
  match xs,D2 with
  | [y0,y1],_ =>
   have g0:DataW.trod enc prog w 0 (fun _=>true) true n' 3 (List.take (prog.cellsOf 3) (List.drop 0 [v0,v1]))=some y0:=hf 0 _ rfl;have g1:DataW.trod enc prog w 0 (fun _=>true) true n' 3 (List.take (prog.cellsOf 3) (List.drop 1 [v0,v1]))=some y1:=hf 1 _ rfl;rw[Q3T] at g0 g1;simp only[J6W,J7D,J6C,J7E] at g0 g1;obtain⟨a0,e0,_,M9⟩:=DataW.trod_int underlying3 g0;have Bw:=bounds_i64 (n:=a0) (by simp_all);obtain⟨a1,e1,_,Du⟩:=DataW.trod_int underlying3 g1;have Aw:=bounds_i64 (n:=a1) (by simp_all);simp only[J3f,and_true] at e0 e1;subst e0;subst e1;exact⟨⟨a0,a1⟩,rfl,⟨by simpa using Bw,by simpa using Aw⟩⟩
theorem Q9Q{H:Type}{enc:TypeId×Value->H}{w:World}{fuel:Nat}{cs:List Value}{x:DataW H×List MemPlace}
  (h:DataW.trod enc prog w 0 (fun _=>true) true fuel 61 cs=some x):∃(a0:Option Addr) (len cap:Nat),cs=[.slice a0 len cap]/\(len<=cap/\cap<=maxLen)/\∃A,IsMv w a0 len A:=by
 rcases open_slice underlying61 h with ⟨B4,_⟩|⟨a,len,cap,m,n,D,Pl,B4,_,hl,CR,J8,_,hi⟩
 ·exact⟨none,0,0,B4,⟨J3b _,by unfold maxLen;omega⟩,fun _=>⟨0,0,0,false⟩,fun j hj=>absurd hj (J6F _)⟩
 ·refine⟨some a,len,cap,B4,⟨hl,CR⟩,?_⟩;have hm:len<=m:=by rw[J8];simp;exact hl
  have each:∀j,j<len->∃x:Mv,(∀(i:Nat) (v:Value),x.cells[i]?=some v->w.cell? ((a.add (j*4)).add i)=some v)/\x.Wf:=by
   intro j hj;obtain⟨Te,hc,ht⟩:=hi j (by omega);rw[Q9N] at hc;obtain⟨x,rfl,hx⟩:=Z0X ht;obtain⟨_,_,AA⟩:=World.cells?_some hc;refine⟨x,fun i v hv=>?_,hx⟩;have Qo:i<4:=by simpa[Mv.cells] using (J3t.1 hv).1
   exact(AA i Qo).trans hv
  by_cases h0:len=0
  ·exact⟨fun _=>⟨0,0,0,false⟩,fun j hj=>by omega⟩
  ·obtain⟨x0,c0,_⟩:=each 0 (by omega);have hp:=Q6K (x:=a) (by simpa[Addr.add] using c0 0 _ rfl);refine⟨fun j=>if hj:j<len then(each j hj).choose else⟨0,0,0,false⟩,fun j hj=>?_⟩;obtain⟨h1,h2⟩:=(each j hj).choose_spec;simp only[hj,dif_pos];generalize (each j hj).choose=y at h1 h2;have h3:∀(i:Nat) (v:Value),y.cells[i]?=some v->w.cell? ⟨a.block,a.off+j*4+i,none⟩=some v:=fun i v hv=>by
    have:=h1 i v hv;rw[hp,add_plain5,add_plain5] at this;exact this
   exact⟨a.block,a.off,congrArg some hp,World.block_lt_of_cell? w ⟨a.block,a.off+j*4+0,none⟩ (h3 0 _ rfl),h3,h2⟩
theorem Q7P{H:Type}{enc:TypeId×Value->H}{w:World}{n:Nat}{cs:List Value}{y:DataW H×List MemPlace}
  (h:DataW.trod enc prog w 0 (fun _=>true) true n 67 cs=some y):∃x:A17,cs=x.cells/\x.Wf/\IsMv w x.la x.ll x.L:=by
 obtain⟨xs,n',_,_,Ac,D2,hf⟩:=DataW.trod_struct underlying67 h;rw[Z6V] at Ac
 match cs,Ac with
 | [v0,v1,v2,v3,v4,v5,v6,v7,v8,v9,v10,v11,v12,v13,v14,v15,v16],_ =>
  match xs,D2 with
  | [y0,y1,y2,y3,y4,y5,y6,y7,y8,y9,y10,y11],_ =>
   have g0:DataW.trod enc prog w 0 (fun _=>true) true n' 3 (List.take (prog.cellsOf 3) (List.drop 0 [v0,v1,v2,v3,v4,v5,v6,v7,v8,v9,v10,v11,v12,v13,v14,v15,v16]))=some y0:=hf 0 _ rfl;have g1:DataW.trod enc prog w 0 (fun _=>true) true n' 3 (List.take (prog.cellsOf 3) (List.drop 1 [v0,v1,v2,v3,v4,v5,v6,v7,v8,v9,v10,v11,v12,v13,v14,v15,v16]))=some y1:=hf 1 _ rfl;have g2:DataW.trod enc prog w 0 (fun _=>true) true n' 3 (List.take (prog.cellsOf 3) (List.drop 2 [v0,v1,v2,v3,v4,v5,v6,v7,v8,v9,v10,v11,v12,v13,v14,v15,v16]))=some y2:=hf 2 _ rfl;have g3:DataW.trod enc prog w 0 (fun _=>true) true n' 3 (List.take (prog.cellsOf 3) (List.drop 3 [v0,v1,v2,v3,v4,v5,v6,v7,v8,v9,v10,v11,v12,v13,v14,v15,v16]))=some y3:=hf 3 _ rfl
   have g4:DataW.trod enc prog w 0 (fun _=>true) true n' 3 (List.take (prog.cellsOf 3) (List.drop 4 [v0,v1,v2,v3,v4,v5,v6,v7,v8,v9,v10,v11,v12,v13,v14,v15,v16]))=some y4:=hf 4 _ rfl;have g5:DataW.trod enc prog w 0 (fun _=>true) true n' 3 (List.take (prog.cellsOf 3) (List.drop 5 [v0,v1,v2,v3,v4,v5,v6,v7,v8,v9,v10,v11,v12,v13,v14,v15,v16]))=some y5:=hf 5 _ rfl;have g6:DataW.trod enc prog w 0 (fun _=>true) true n' 3 (List.take (prog.cellsOf 3) (List.drop 6 [v0,v1,v2,v3,v4,v5,v6,v7,v8,v9,v10,v11,v12,v13,v14,v15,v16]))=some y6:=hf 6 _ rfl;have g7:DataW.trod enc prog w 0 (fun _=>true) true n' 3 (List.take (prog.cellsOf 3) (List.drop 7 [v0,v1,v2,v3,v4,v5,v6,v7,v8,v9,v10,v11,v12,v13,v14,v15,v16]))=some y7:=hf 7 _ rfl
   have g8:DataW.trod enc prog w 0 (fun _=>true) true n' 4 (List.take (prog.cellsOf 4) (List.drop 8 [v0,v1,v2,v3,v4,v5,v6,v7,v8,v9,v10,v11,v12,v13,v14,v15,v16]))=some y8:=hf 8 _ rfl;have g9:DataW.trod enc prog w 0 (fun _=>true) true n' 61 (List.take (prog.cellsOf 61) (List.drop 9 [v0,v1,v2,v3,v4,v5,v6,v7,v8,v9,v10,v11,v12,v13,v14,v15,v16]))=some y9:=hf 9 _ rfl;have g10:DataW.trod enc prog w 0 (fun _=>true) true n' 63 (List.take (prog.cellsOf 63) (List.drop 10 [v0,v1,v2,v3,v4,v5,v6,v7,v8,v9,v10,v11,v12,v13,v14,v15,v16]))=some y10:=hf 10 _ rfl;have g11:DataW.trod enc prog w 0 (fun _=>true) true n' 65 (List.take (prog.cellsOf 65) (List.drop 15 [v0,v1,v2,v3,v4,v5,v6,v7,v8,v9,v10,v11,v12,v13,v14,v15,v16]))=some y11:=hf 11 _ rfl
   rw[Q3T] at g0 g1 g2 g3 g4 g5 g6 g7;rw[Q4n] at g8;rw[Z3I] at g9;rw[Q9O] at g10;rw[Q9P] at g11;simp only[J6W,J7D,J6C,J7E] at g0 g1 g2 g3 g4 g5 g6 g7 g8 g9 g10 g11;obtain⟨a0,e0,_,M9⟩:=DataW.trod_int underlying3 g0;have Bw:=bounds_i64 (n:=a0) (by simp_all);obtain⟨a1,e1,_,Du⟩:=DataW.trod_int underlying3 g1;have Aw:=bounds_i64 (n:=a1) (by simp_all);obtain⟨a2,e2,_,EV⟩:=DataW.trod_int underlying3 g2;have Ai:=bounds_i64 (n:=a2) (by simp_all);obtain⟨a3,e3,_,IF⟩:=DataW.trod_int underlying3 g3;have Ar:=bounds_i64 (n:=a3) (by simp_all);obtain⟨a4,e4,_,Wu⟩:=DataW.trod_int underlying3 g4;have A9:=bounds_i64 (n:=a4) (by simp_all)
   obtain⟨a5,e5,_,Wk⟩:=DataW.trod_int underlying3 g5;have AD:=bounds_i64 (n:=a5) (by simp_all);obtain⟨a6,e6,_,Wo⟩:=DataW.trod_int underlying3 g6;have C8:=bounds_i64 (n:=a6) (by simp_all);obtain⟨a7,e7,_,Wj⟩:=DataW.trod_int underlying3 g7;have GX:=bounds_i64 (n:=a7) (by simp_all);obtain⟨a8,e8,_⟩:=DataW.trod_bool underlying4 g8;obtain⟨aa,al,ac,e9,CH,B5⟩:=Q9Q g9;obtain⟨it,e10,Uk⟩:=Z0Y g10;obtain⟨wi,e11,PN⟩:=Z3J g11;simp only[J3f,and_true] at e0 e1 e2 e3 e4 e5 e6 e7 e8 e9;subst e0;subst e1;subst e2;subst e3;subst e4;subst e5;subst e6;subst e7;subst e8;subst e9;obtain⟨mvs,B5⟩:=B5;refine⟨⟨a0,a1,a2,a3,a4,a5,a6,a7,a8,aa,al,ac,mvs,it,wi⟩,?_,⟨by simpa using Aw,by simpa using Ai,by simpa using Ar,by simpa using A9,by simpa using AD,by simpa using C8,by simpa using GX,CH,Uk,PN⟩,B5⟩
   unfold A17.cells;rw[<- e10,<- e11];rfl
theorem Z0Z{H:Type}{enc:TypeId×Value->H}{w:World}{fuel:Nat}{a0:Option Addr}{len cap:Nat}{x:DataW H×List MemPlace}
  (h:DataW.trod enc prog w 0 (fun _=>true) true fuel 44 [.slice a0 len cap]=some x):∃A,IsA17 w a0 len A:=by
 have dflt:A17:=⟨0,0,0,0,0,0,0,0,false,none,0,0,fun _=>⟨0,0,0,false⟩,⟨0,0,0,0,false⟩,⟨0,0⟩⟩
 rcases open_slice underlying44 h with ⟨B4,_⟩|⟨a,len',BG,m,n,D,Pl,B4,_,hl,_,J8,_,hi⟩
 ·simp only[J3f,Value.slice.injEq,and_true] at B4;obtain⟨rfl,rfl,rfl⟩:=B4;exact⟨fun _=>dflt,fun j hj=>absurd hj (J6F _)⟩
 ·simp only[J3f,Value.slice.injEq,and_true] at B4;obtain⟨rfl,rfl,rfl⟩:=B4;have hm:len<=m:=by rw[J8];simp;exact hl
  have each:∀j,j<len->∃x:A17,(∀(i:Nat) (v:Value),x.cells[i]?=some v->w.cell? ((a.add (j*17)).add i)=some v)/\x.Wf/\IsMv w x.la x.ll x.L:=by
   intro j hj;obtain⟨Te,hc,ht⟩:=hi j (by omega);rw[Z6V] at hc;obtain⟨x,rfl,hx,D3⟩:=Q7P ht;obtain⟨_,_,AA⟩:=World.cells?_some hc;refine⟨x,fun i v hv=>?_,hx,D3⟩;have Qo:i<17:=by simpa[A17.cells,It.cells,Wi.cells] using (J3t.1 hv).1
   exact(AA i Qo).trans hv
  by_cases h0:len=0
  ·exact⟨fun _=>dflt,fun j hj=>by omega⟩
  ·obtain⟨x0,c0,_⟩:=each 0 (by omega);have hp:=Q6K (x:=a) (by simpa[Addr.add] using c0 0 _ rfl);refine⟨fun j=>if hj:j<len then(each j hj).choose else dflt,fun j hj=>?_⟩;obtain⟨h1,h2,Rf⟩:=(each j hj).choose_spec;simp only[hj,dif_pos];generalize (each j hj).choose=y at h1 h2 Rf;have h3:∀(i:Nat) (v:Value),y.cells[i]?=some v->w.cell? ⟨a.block,a.off+j*17+i,none⟩=some v:=fun i v hv=>by
    have:=h1 i v hv;rw[hp,add_plain5,add_plain5] at this;exact this
   exact⟨a.block,a.off,congrArg some hp,World.block_lt_of_cell? w ⟨a.block,a.off+j*17+0,none⟩ (h3 0 _ rfl),h3,h2,Rf⟩
end Go.Proofs.YtfidemmgofcnmaaGreatDoor
namespace Go.Proofs.YtfidemmgofcnmaaGreatDoor
open Go.RowKit Go.Proofs.Tryz
def Mv.clash(o m:Mv):Bool:=(o.dst==m.dst)||((o.src==m.src)&&(o.g||m.g))
def Mv.agg(m:Mv):Value:=.agg #[.int .i64 m.src,.int .i64 m.dst,.int .i64 m.r,.bool m.g]
theorem Z6W(w:World)(o m:Mv)(b:Nat)(hb:b<w.heap.size)(h0:w.cell? ⟨b,0,none⟩=some (.int .i64 m.src))(h1:w.cell? ⟨b,1,none⟩=some (.int .i64 m.dst))(h3:w.cell? ⟨b,3,none⟩=some (.bool m.g)) :
  Calls prog 172 #[o.agg,.pointer (some ⟨b,0,none⟩)] w (Told w (.bool (o.clash m))):=by
 obtain⟨os,od,orr,og⟩:=o;obtain⟨ms,md,mr,mg⟩:=m;unfold Mv.clash Mv.agg;dsimp only at *
 have Aa:b≠w.heap.size:=by omega
 have HB:Hid (∀o,Below w.heap.size w (w.alloc o)):=fun o=>(Below.refl _ _).alloc (J3b _) o
 have b1:Below w.heap.size w (w.alloc (.cells #[.int .i64 os,.int .i64 od,.int .i64 orr,.bool og] 90)):=HB.out _;have g0:=(b1.cell (p:=⟨b,0,none⟩) hb).trans h0;have g1:=(b1.cell (p:=⟨b,1,none⟩) hb).trans h1;have g3:=(b1.cell (p:=⟨b,3,none⟩) hb).trans h3;clear b1 h0 h1 h3 hb;by_cases e1:od=md
 ·have v1:(od==md)=true:=by simpa using e1
  rw[v1];simp only[Bool.true_or];clear e1;go_enter func172,ntmps172;go_wp2_with fail
  (try go_ret);exact⟨rfl,HB.out _⟩
 ·have v1:(od==md)=false:=by simpa using e1
  have d1:decide (od=md)=false:=decide_eq_false e1;rw[v1];simp only[J6m];by_cases e2:os=ms
  ·have v2:(os==ms)=true:=by simpa using e2
   rw[v2];simp only[J4s];clear e2;cases og
   ·go_enter func172,ntmps172;go_wp2_with fail
    (try go_ret);exact⟨rfl,HB.out _⟩
   ·go_enter func172,ntmps172;go_wp2_with fail
    (try go_ret);exact⟨rfl,HB.out _⟩
  ·have v2:(os==ms)=false:=by simpa using e2
   have d2:decide (os=ms)=false:=decide_eq_false e2;rw[v2];simp only[J7F];go_enter func172,ntmps172;go_wp2_with fail
   (try go_ret);exact⟨rfl,HB.out _⟩
def Z3K(b:Nat):Value:=.func (.func 172) #[] #[.pointer (some ⟨b,0,none⟩)]
def Z2s(w:World)(n:Nat)(A:Nat->Mv)(m:Mv)(e:Ending)(w':World):Prop:=Below w.heap.size w w'/\((∃k:Nat,k<n/\e=.returned (.int .i64 k)/\(A k).clash m=true)∨(e=.returned (.int .i64 (-1))/\∀j,j<n->(A j).clash m=false))
theorem Z3L{w:World}{a0:Option Addr}{len:Nat}{A:Nat->Mv}(h:IsMv w a0 len A){n:Nat}(cap:Nat)(hn:n<=len)(hm:n<=4611686018427387904)(m:Mv)(b:Nat)(hb:b<w.heap.size)(h0:w.cell? ⟨b,0,none⟩=some (.int .i64 m.src))(h1:w.cell? ⟨b,1,none⟩=some (.int .i64 m.dst))(h3:w.cell? ⟨b,3,none⟩=some (.bool m.g)) :
  Calls prog 214 #[.slice a0 n cap,Z3K b] w (Z2s w n A m):=by
 have HP:Hid (∀k wr,k<n->Below w.heap.size w wr->∃g off,a0=some ⟨g,off,none⟩/\wr.cell? ⟨g,off+k*4,none⟩=some (.int .i64 (A k).src)/\wr.cell? ⟨g,off+k*4+1,none⟩=some (.int .i64 (A k).dst)/\wr.cell? ⟨g,off+k*4+2,none⟩=some (.int .i64 (A k).r)/\wr.cell? ⟨g,off+k*4+3,none⟩=some (.bool (A k).g) /\
   Calls prog 172 #[.agg #[.int .i64 (A k).src,.int .i64 (A k).dst,.int .i64 (A k).r,.bool (A k).g],.pointer (some ⟨b,0,none⟩)] wr fun r w'=>r=.returned (.bool ((A k).clash m))/\Below w.heap.size w w'):=fun k wr hk Dc=>by
  obtain⟨g,off,e,_,hc,_⟩:=IsMv.below h Dc k (by omega);exact⟨g,off,e,hc 0 _ rfl,hc 1 _ rfl,hc 2 _ rfl,hc 3 _ rfl,(Z6W wr (A k) m b (J3d hb Dc.size) ((Dc.cell (p:=⟨b,0,none⟩) hb).trans h0) ((Dc.cell (p:=⟨b,1,none⟩) hb).trans h1) ((Dc.cell (p:=⟨b,3,none⟩) hb).trans h3)).mono fun r w' q=>⟨q.1,Dc.trans (q.2.mono Dc.size)⟩⟩
 have Hk:Hid (∀k w',k<n->Below w.heap.size w w'->(A k).clash m=true->Z2s w n A m (.returned (.int .i64 k)) w'):=fun k w' hk Al hc=>⟨Al,.inl ⟨k,hk,rfl,hc⟩⟩
 have CE:Hid (∀w',Below w.heap.size w w'->(∀j,j<n->(A j).clash m=false)->Z2s w n A m (.returned (.int .i64 (-1))) w'):=fun w' Al hc=>⟨Al,.inr ⟨rfl,hc⟩⟩
 clear h h0 h1 h3 hb hn;generalize Z2s w n A m=Q at *
 unfold Z3K;go_enter func214,ntmps214;go_wp2_with fail
 go_loopw [5,8] (fun _ i wr=>∃k:Nat,k<=n/\i=.int .i64 k/\(∀j,j<k->(A j).clash m=false)/\Below w.heap.size w wr) (fun _ i _=>n-(intOf i).toNat)
 case atStart=>exact⟨0,J5e _,rfl,by intro j hj;omega,Below.refl _ _⟩
 case round =>
  obtain⟨k,hk,rfl,A3,Dc⟩:=hrel;have Hp:=Q0a A3;have HB:=Q0a Dc;clear A3 Dc;by_cases Ab:k<n
  ·obtain⟨g,off,rfl,c0,c1,c2,c3,AR⟩:=HP.out k wr Ab HB.out;have HC:=Q0a AR;clear AR;cases hv:(A k).clash m with
   | true =>
    have HV:=Q0a hv;rw[hv] at HC;clear hv;go_wp2_with (go_at_call 172;refine HC.out.mono ?_;rintro e w'⟨rfl,Al⟩)
    (try go_ret);exact Hk.out k _ Ab Al HV.out
   | false =>
    have HV:=Q0a hv;rw[hv] at HC;clear hv;go_wp2_with (go_at_call 172;refine HC.out.mono ?_;rintro e w'⟨rfl,Al⟩);go_roundw
    case rel =>
     refine⟨k+1,by omega,by go_num,fun j hj=>?_,Al⟩;by_cases e:j=k
     ·rw[e];exact HV.out
     ·exact Hp.out j (by omega)
    case measure=>simp[intOf];omega
  ·obtain rfl:k=n:=by omega
   clear HP;go_wp2_with fail
   (try go_ret);exact CE.out _ HB.out Hp.out
def Q1z(A:Nat->Mv)(n:Nat)(m:Mv):Bool:=(List.range n).any fun k=>(A k).clash m
theorem Q8v{w:World}{a0:Option Addr}{len:Nat}{A:Nat->Mv}(h:IsMv w a0 len A){n:Nat}(cap:Nat)(hn:n<=len)(hm:n<=4611686018427387904)(m:Mv)(b:Nat)(hb:b<w.heap.size)(h0:w.cell? ⟨b,0,none⟩=some (.int .i64 m.src))(h1:w.cell? ⟨b,1,none⟩=some (.int .i64 m.dst))(h3:w.cell? ⟨b,3,none⟩=some (.bool m.g)) :
  Calls prog 171 #[.slice a0 n cap,Z3K b] w (Told w (.bool (Q1z A n m))):=by
 have ki:=Z3L h cap hn hm m b hb h0 h1 h3;clear h h0 h1 h3 hb hn hm;unfold Z3K at *
 go_enter func171,ntmps171;go_wp2_with fail;refine ki.mono ?_;rintro e w'⟨Al,⟨k,hk,rfl,hc⟩|⟨rfl,hc⟩⟩
 ·have hv:Q1z A n m=true:=List.any_eq_true.2 ⟨k,J3s.2 hk,hc⟩;have HR:Hid (Told w (.bool (Q1z A n m)) (.returned (.bool true)) w'):=⟨by rw[hv],Al⟩
  have Bz:(0:Int)<=(k:Int):=by omega
  clear hv hc Al;generalize Q1z A n m=v at *
  go_wp2_with fail
  (try go_ret);exact HR.out
 ·have hv:Q1z A n m=false:=J7G.2 fun k hk=>by simp[hc k (List.mem_range.1 hk)]
  have HR:Hid (Told w (.bool (Q1z A n m)) (.returned (.bool false)) w'):=⟨by rw[hv],Al⟩
  clear hv hc Al;generalize Q1z A n m=v at *
  go_wp2_with fail
  (try go_ret);exact HR.out
end Go.Proofs.YtfidemmgofcnmaaGreatDoor

/- What the laws of spaces share is proved. No condition. Part of a proof. -/
import Derived.Test.YtlakjlmaboioiaaGreatDoorVa24
import Derived.ProofKit
import Derived.Deep.Slices
import Derived.OpenShut
set_option maxHeartbeats 8000000
set_option maxRecDepth 100000
set_option linter.unusedVariables false
namespace Go.Proofs.YtlakjlmaboioiaaGreatDoor
open Go.RowKit Go.Proofs.Tryz
def J2d (bh bm bc bk full:Bool) (er:Int):Prop:=(bh=false/\er=2)∨(bh=true/\bm=false/\er=1)∨(bh=true/\bm=true/\(bc==bk)=true/\er=1)∨(bh=true/\bm=true/\(bc==bk)=false/\full=true/\er=7)
def Z6O (Z:SP) (g x f B:Nat) (w':World):Prop:=w'.cell? ⟨Z.s,0,none⟩=some (.pointer (some ⟨Z.S.c,0,none⟩))/\w'.cell? ⟨Z.s,1,none⟩=some (.pointer (some ⟨Z.F.f,0,none⟩))/\w'.cell? ⟨B,0,none⟩=some (.pointer (some ⟨g,0,none⟩))/\w'.cell? ⟨B,1,none⟩=some (.int .u32 x)/\w'.cell? ⟨B,2,none⟩=some (.int .i64 f)
def Z2k (Z:SP) (g x f B y:Nat) (z k lim:Int) (Q:Nat->Int->World->Prop) (w5:World):Prop:=
 Calls prog 16 #[.pointer (some ⟨Z.S.c,0,none⟩),.int .u32 y,.int .i64 k,.int .i64 lim] w5 fun rv w6=>∃(hh:Nat) (er:Int),rv=.returned (.tuple #[.int .u32 hh,.int .i64 er])/\Z6O Z g x f B w6 /\
  ((er≠0/\Calls prog 81 #[.pointer (some ⟨Z.s,0,none⟩),.agg #[.pointer (some ⟨g,0,none⟩),.int .u32 x,.int .i64 f],.int .i64 z] w6 fun rv w7=>rv=.returned (.tuple #[])/\Q 0 er w7) ∨
   (er=0/\∃a b c:Nat,Calls prog 103 #[.pointer (some ⟨g,0,none⟩),.int .i64 z] w6 (fun rv w7=>rv=.returned (.tuple #[.int .u64 a,.int .u64 b])/\w6=w7) /\
   (∀w8,Below w6.heap.size w6 w8->Z6O Z g x f B w8/\Calls prog 105 #[.agg #[.int .u32 hh,.int .i64 15]] w8 (Told w8 (.int .u64 c)) /\
    Calls prog 104 #[.pointer (some ⟨g,0,none⟩),.int .i64 z,.int .u64 c,.int .u64 b] w8 fun rv w9=>(∃v,rv=.returned (.int .i64 v))/\Z6O Z g x f B w9/\∀n,
    Calls prog 79 #[.pointer (some ⟨Z.F.f,0,none⟩),.int .i64 0,.int .i64 x,.int .i64 z] (w9.drewN n) fun rv w'=>(∃a b:Value,rv=.returned (.tuple #[a,b]))/\Q hh 0 w')))
theorem Z3O {w:World} {Z:SP} {fr:List Nat} {N K:Nat} {M:Int} (hs:Sep w Z.hl) (ok:Z.Ok fr N K M) {x y:Nat} (hx:x<4294967296) {p:Pl} (hp:pget Z.S.l 1 x=some p) (hk:p.kind=2) (z k lim:Int) {Q:Nat->Int->World->Prop}
  (Ay:(∃er,J2d (decide (0<=z/\z<256)) (decide (k=8∨1<=k/\k<=5)) (decide (z<128)) (k==8) ((Z.tb (x%256)).at' z).isSome er/\∀W,Below w.heap.size w W->Q 0 er W) ∨
   (decide (0<=z/\z<256)=true/\decide (k=8∨1<=k/\k<=5)=true/\(decide (z<128)==(k==8))=false/\((Z.tb (x%256)).at' z).isSome=false /\
    ∀W g B,Below w.heap.size w W->TblZ Z p g W->AsideV Z.hl [.pointer (some ⟨g,0,none⟩),.int .u32 x,.int .i64 (p.fac:Int)] (some ⟨B,0,none⟩) W->Calls prog 78 #[.pointer (some ⟨Z.s,0,none⟩),.agg #[.pointer (some ⟨g,0,none⟩),.int .u32 x,.int .i64 (p.fac:Int)],.int .i64 z,.agg #[.int .u32 0,.int .i64 15]] W fun rv w5=>∃er:Int,rv=.returned (.int .i64 er) /\
     ((er≠0/\Q 0 er w5)∨(er=0/\Z6O Z g x p.fac B w5/\Z2k Z g x p.fac B y z k lim Q w5)))) :
  Calls prog 38 #[.pointer (some ⟨Z.s,0,none⟩),.int .u32 x,.int .i64 z,.int .u32 y,.int .i64 k,.int .i64 lim] w fun rv w'=>∃(hh:Nat) (er:Int),rv=.returned (.tuple #[.int .u32 hh,.int .i64 er])/\Q hh er w':=by
 have ks:=Q0U hs ok.core hx hp hk;have hi:=(pget_some.1 hp).1;have Ap:=(pget_some.1 hp).2.2;obtain⟨ca,cb,Cu⟩:=Q3O ((Z.tb (x%256)).at' z);have AC:(Z.tb (x%256)).at' z=if 0<=z/\z<256 then Q0f Z.S.l Z.tb x z.toNat else none:=by
  unfold TB.at';split
  ·rename_i h;rw [Q0h hp hk (by omega)]
  ·rfl
 have Ez:Hid (∀W g,Below w.heap.size w W->TblZ Z p g W->Calls prog 74 #[.agg #[.pointer (some ⟨g,0,none⟩),.int .u32 x,.int .i64 (p.fac:Int)],.int .i64 z] W (Told W (.tuple #[.agg #[.int .u32 ca,.int .i64 cb],.bool ((Z.tb (x%256)).at' z).isSome]))):=fun W g hb hg=>by
  have T:=(ok.tpi.x (p.fac:Int)).tt ok.core hi Ap hk (SP.sS (hs.grown hb).sep) hg.c;have:=Q1w T (x:Int) (p.fac:Int) z fun e AL=>by
   rw [AC] at AL;split at AL
   ·exact ok.fpi.low ok.core.inv.lok AL
   ·cases AL
  rwa [Cu] at this
 have Ms:Hid (∀(w2:World) (g:Nat),Below w.heap.size w w2->TblZ Z p g w2->∀W,Below (w2.alloc (.cells #[.pointer (some ⟨g,0,none⟩),.int .u32 x,.int .i64 (p.fac:Int)] 155)).heap.size (w2.alloc (.cells #[.pointer (some ⟨g,0,none⟩),.int .u32 x,.int .i64 (p.fac:Int)] 155)) W ->
   Below w.heap.size w W/\TblZ Z p g W/\AsideV Z.hl [.pointer (some ⟨g,0,none⟩),.int .u32 x,.int .i64 (p.fac:Int)] (some ⟨w2.heap.size,0,none⟩) W):=fun w2 g Af hg W Gn=>by
  have s2:=(hs.grown Af).sep;have As:Below w2.heap.size w2 W:=Q0e Gn;have h9:=(Cells.new w2 155 [.pointer (some ⟨g,0,none⟩),.int .u32 x,.int .i64 (p.fac:Int)]).same (Gn.block w2.heap.size (by simp));refine⟨Af.trans (As.mono Af.size),hg.grown s2 As,fun j v hj=>⟨w2.heap.size,rfl,fun hk=>?_,h9.lt,h9.cell j v hj⟩⟩;exact absurd (s2.lt hk) (Nat.lt_irrefl _)
 have CD:=Q0a Ay;have Bd:Hid (∀W,Calls prog 75 #[.int .i64 z] W fun r w'=>r=.returned (.bool (decide (0<=z/\z<256)))/\W=w'):=fun W=>Q2V W z
 have JJ:Hid (∀W,Calls prog 102 #[.int .i64 k] W fun r' w'=>r'=.returned (.bool (decide (k=8∨1<=k/\k<=5)))/\W=w'):=fun W=>Z6N W k
 have DA:Hid (∀W,Calls prog 77 #[.int .i64 z] W fun r w'=>r=.returned (.bool (decide (z<128)))/\W=w'):=fun W=>Q2I W z
 have Cj:(0:Int)<=(x:Int):=by omega
 have Dg:(x:Int)<4294967296:=by omega
 have MO:IntKind.i64.wrap (x:Int)=(x:Int):=Go.IntWalk.i64_in _ (by omega);generalize ((Z.tb (x%256)).at' z).isSome=full at *
 generalize decide (0<=z/\z<256)=bh at *
 generalize decide (k=8∨1<=k/\k<=5)=bm at *
 generalize decide (z<128)=bc at *
 clear hs ok hx hp hk hi Ap Cu AC Ay;go_enter func38,ntmps38;go_wp2_with fail;refine ks.mono ?_;rintro rv w2 ⟨g,rfl,Af,hg⟩;have HW:=Q0a (Ms.out w2 g Af hg);obtain⟨As,KG,NU⟩:=HW.out _ (Below.refl _ _);have kc:=Ez.out _ g As KG;have v0:=NU.at 0 _ rfl;have v1:=NU.at 1 _ rfl;have v2:=NU.at 2 _ rfl;clear Af hg Ms ks Ez As KG NU;go_wp2_with fail;refine kc.mono ?_;rintro rv w6 ⟨rfl,CC⟩;go_wp2_with fail;generalize hW7:(w6.alloc (.cells #[.int .u32 ca,.int .i64 cb] 35))=w7;have CR:=Q0a (HW.out w7 (by rw [<- hW7];exact CC.alloc CC.size _));have kh:=Bd.out w7;have km:=JJ.out w7
 have kp:=DA.out w7;clear hW7 CC kc v0 v1 v2 HW JJ DA Bd;rcases CD.out with ⟨er,hT,hQ⟩|⟨rfl,rfl,AE,rfl,hl⟩
 ·have HQ:=Q0a (hQ _ CR.out.1);clear hQ CD;rcases hT with ⟨rfl,rfl⟩|⟨rfl,rfl,rfl⟩|⟨rfl,rfl,AE,rfl⟩|⟨rfl,rfl,AE,rfl,rfl⟩
  ·refine kh.mono ?_;rintro rv w' ⟨rfl,rfl⟩;go_wp2_with fail
   first|exact⟨0,_,rfl,HQ.out⟩|(go_ret2;exact⟨0,_,rfl,HQ.out⟩)
  ·refine kh.mono ?_;rintro rv w' ⟨rfl,rfl⟩;go_wp2_with fail;refine km.mono ?_;rintro rv w' ⟨rfl,rfl⟩;go_wp2_with fail
   first|exact⟨0,_,rfl,HQ.out⟩|(go_ret2;exact⟨0,_,rfl,HQ.out⟩)
  ·have hc:=Q9S AE;clear AE;rcases hc with ⟨rfl,rfl⟩|⟨rfl,MN,Mf⟩
   ·refine kh.mono ?_;rintro rv w' ⟨rfl,rfl⟩;go_wp2_with fail;refine km.mono ?_;rintro rv w' ⟨rfl,rfl⟩;go_wp2_with fail;refine kp.mono ?_;rintro rv w' ⟨rfl,rfl⟩;go_wp2_with fail
    first|exact⟨0,_,rfl,HQ.out⟩|(go_ret2;exact⟨0,_,rfl,HQ.out⟩)
   ·refine kh.mono ?_;rintro rv w' ⟨rfl,rfl⟩;go_wp2_with fail;refine km.mono ?_;rintro rv w' ⟨rfl,rfl⟩;go_wp2_with fail;refine kp.mono ?_;rintro rv w' ⟨rfl,rfl⟩;go_wp2_with fail
    first|exact⟨0,_,rfl,HQ.out⟩|(go_ret2;exact⟨0,_,rfl,HQ.out⟩)
  ·have hc:=Q3v AE;clear AE;rcases hc with ⟨rfl,MN,Mf⟩|⟨rfl,rfl⟩
   ·refine kh.mono ?_;rintro rv w' ⟨rfl,rfl⟩;go_wp2_with fail;refine km.mono ?_;rintro rv w' ⟨rfl,rfl⟩;go_wp2_with fail;refine kp.mono ?_;rintro rv w' ⟨rfl,rfl⟩;go_wp2_with fail
    first|exact⟨0,_,rfl,HQ.out⟩|(go_ret2;exact⟨0,_,rfl,HQ.out⟩)
   ·refine kh.mono ?_;rintro rv w' ⟨rfl,rfl⟩;go_wp2_with fail;refine km.mono ?_;rintro rv w' ⟨rfl,rfl⟩;go_wp2_with fail;refine kp.mono ?_;rintro rv w' ⟨rfl,rfl⟩;go_wp2_with fail
    first|exact⟨0,_,rfl,HQ.out⟩|(go_ret2;exact⟨0,_,rfl,HQ.out⟩)
 ·have HL:=Q0a (hl w7 g w2.heap.size CR.out.1 CR.out.2.1 CR.out.2.2);have v0:=CR.out.2.2.at 0 _ rfl;have v1:=CR.out.2.2.at 1 _ rfl;have v2:=CR.out.2.2.at 2 _ rfl;clear hl CD;have hc:=Q3v AE;clear AE;rcases hc with ⟨rfl,MN,Mf⟩|⟨rfl,rfl⟩
  ·refine kh.mono ?_;rintro rv w' ⟨rfl,rfl⟩;go_wp2_with fail;refine km.mono ?_;rintro rv w' ⟨rfl,rfl⟩;go_wp2_with fail;refine kp.mono ?_;rintro rv w' ⟨rfl,rfl⟩;go_wp2_with fail;refine HL.out.mono ?_;rintro rv w5 ⟨er,rfl,⟨Aa,hq⟩|⟨rfl,⟨c0,c1,v0,v1,v2⟩,Em⟩⟩
   ·have B9:(er != 0)=true:=by simp [Aa]
    have HQ:=Q0a hq;clear hq;go_wp2_with fail
    first|exact⟨0,_,rfl,HQ.out⟩|(go_ret2;exact⟨0,_,rfl,HQ.out⟩)
   ·have HT:=Q0a Em;clear Em kh km kp HL;go_wp2_with fail;refine HT.out.mono ?_;clear v0 v1 v2 c0 c1;rintro rv w6 ⟨hh,er,rfl,⟨c0,c1,v0,v1,v2⟩,⟨Aa,hb⟩|⟨rfl,a,b,c,CX,h8⟩⟩
    ·have B9:(er != 0)=true:=by simp [Aa]
     have EY:=Q0a hb;clear hb HT;go_wp2_with fail;refine EY.out.mono ?_;rintro rv w8 ⟨rfl,hq⟩;have HQ:=Q0a hq;clear hq;go_wp2_with fail
     first|exact⟨0,_,rfl,HQ.out⟩|(go_ret2;exact⟨0,_,rfl,HQ.out⟩)
    ·have H8:=Q0a h8;clear h8 HT;go_wp2_with fail;refine CX.mono ?_;rintro rv w' ⟨rfl,rfl⟩;clear CX;have PI:=(H8.out w6.drew (Below.refl _ _).drew).2.1;have d0:w6.drew.cell? ⟨w2.heap.size,0,none⟩=some (.pointer (some ⟨g,0,none⟩)):=v0;go_wp2_with fail
     go_region_held3 (fun w'=>w'.cell? ⟨w2.heap.size,0,none⟩=some (.pointer (some ⟨g,0,none⟩))) (first|exact v0|exact d0|exact e0|exact m0)
      (first|(go_at_call 105;refine PI.mono ?_;rintro rv w8 ⟨rfl,Fo⟩;have h9:=H8.out w8 ((Below.refl w6.heap.size w6).drew.trans (Fo.mono (J2h _)));have e0:=h9.1.2.2.1;have CP:=Q0a h9.2.2;clear h9 Fo)|(go_at_call 104;refine CP.out.mono ?_;rintro rv w9 ⟨⟨sv,rfl⟩,⟨-,m1,m0,-,-⟩,BE⟩;have Dv:=Q0a BE;clear BE))
     go_wp2_with fail;refine (Dv.out 0).mono ?_;rintro rv w10 ⟨⟨ra,rb,rfl⟩,hq⟩;have HQ:=Q0a hq;clear hq;go_wp2_with fail
     first|exact⟨hh,_,rfl,HQ.out⟩|(go_ret2;exact⟨hh,_,rfl,HQ.out⟩)
  ·refine kh.mono ?_;rintro rv w' ⟨rfl,rfl⟩;go_wp2_with fail;refine km.mono ?_;rintro rv w' ⟨rfl,rfl⟩;go_wp2_with fail;refine kp.mono ?_;rintro rv w' ⟨rfl,rfl⟩;go_wp2_with fail;refine HL.out.mono ?_;rintro rv w5 ⟨er,rfl,⟨Aa,hq⟩|⟨rfl,⟨c0,c1,v0,v1,v2⟩,Em⟩⟩
   ·have B9:(er != 0)=true:=by simp [Aa]
    have HQ:=Q0a hq;clear hq;go_wp2_with fail
    first|exact⟨0,_,rfl,HQ.out⟩|(go_ret2;exact⟨0,_,rfl,HQ.out⟩)
   ·have HT:=Q0a Em;clear Em kh km kp HL;go_wp2_with fail;refine HT.out.mono ?_;clear v0 v1 v2 c0 c1;rintro rv w6 ⟨hh,er,rfl,⟨c0,c1,v0,v1,v2⟩,⟨Aa,hb⟩|⟨rfl,a,b,c,CX,h8⟩⟩
    ·have B9:(er != 0)=true:=by simp [Aa]
     have EY:=Q0a hb;clear hb HT;go_wp2_with fail;refine EY.out.mono ?_;rintro rv w8 ⟨rfl,hq⟩;have HQ:=Q0a hq;clear hq;go_wp2_with fail
     first|exact⟨0,_,rfl,HQ.out⟩|(go_ret2;exact⟨0,_,rfl,HQ.out⟩)
    ·have H8:=Q0a h8;clear h8 HT;go_wp2_with fail;refine CX.mono ?_;rintro rv w' ⟨rfl,rfl⟩;clear CX;have PI:=(H8.out w6.drew (Below.refl _ _).drew).2.1;have d0:w6.drew.cell? ⟨w2.heap.size,0,none⟩=some (.pointer (some ⟨g,0,none⟩)):=v0;go_wp2_with fail
     go_region_held3 (fun w'=>w'.cell? ⟨w2.heap.size,0,none⟩=some (.pointer (some ⟨g,0,none⟩))) (first|exact v0|exact d0|exact e0|exact m0)
      (first|(go_at_call 105;refine PI.mono ?_;rintro rv w8 ⟨rfl,Fo⟩;have h9:=H8.out w8 ((Below.refl w6.heap.size w6).drew.trans (Fo.mono (J2h _)));have e0:=h9.1.2.2.1;have CP:=Q0a h9.2.2;clear h9 Fo)|(go_at_call 104;refine CP.out.mono ?_;rintro rv w9 ⟨⟨sv,rfl⟩,⟨-,m1,m0,-,-⟩,BE⟩;have Dv:=Q0a BE;clear BE))
     go_wp2_with fail;refine (Dv.out 0).mono ?_;rintro rv w10 ⟨⟨ra,rb,rfl⟩,hq⟩;have HQ:=Q0a hq;clear hq;go_wp2_with fail
     first|exact⟨hh,_,rfl,HQ.out⟩|(go_ret2;exact⟨hh,_,rfl,HQ.out⟩)
theorem Q9V {l:List Pl} {i:Nat} {p q:Pl} (hi:l[i]?=some p) (hp:p.st=0) {x:Nat} {r:Pl} (hr:pget l 1 x=some r):pget (l.set i q) 1 x=some r:=by
 obtain⟨a,b,c⟩:=pget_some.1 hr;rw [Q0A q hi,if_neg]
 ·exact hr
 ·intro e;rw [e,hi] at a;cases a;omega
theorem Q7R {l:List Pl} {tb:Nat->TB} {i:Nat} {p q:Pl} (hi:l[i]?=some p) (hn:(tb i).Nil) (h s:Nat):Q0f (l.set i q) tb h s=Q0f l tb h s:=by
 by_cases e:h%256=i
 ·have z:∀l',Q0f l' tb h s=none:=fun l'=>by
   unfold Q0f;split
   ·split
    ·rename_i hc;rw [e];exact hn.2 s hc.2
    ·rfl
   ·rfl
  rw [z,z]
 ·unfold Q0f;rw [Q0A q hi,if_neg e]
section
variable {Z:SP} {fr fr':List Nat} {N K:Nat} {M:Int}
theorem SP.Ok.made_added (ok:Z.Ok fr N K M) {x s:Nat} {p:Pl} (hp:pget Z.S.l 1 x=some p) (hk:p.kind=2) (hs:s<256) (h0:Q0f Z.S.l Z.tb x s=none) {S1:CO} {t1:TB} {e1:Ent} (T1:TurnP Z.S fr N K Z.tb (p.fac:Int) (x%256) s (some e1) S1 t1)
  {f q:Pl} {ef:En Fa} {n a y i:Nat} {lim:Int} {P':PL} (m:MadeOk S1 fr f ef n a lim y i q P' fr') (hi:S1.l[i]?=some q) (hq:q.st=0) {e2:Ent} (hc:Q7b (S1.made f n a y i q P').l s e2)
  {S3:CO} {t3:TB} (T3:TurnP (S1.made f n a y i q P') fr' (N+1) K (updT Z.tb (x%256) t1) (p.fac:Int) (x%256) s (some e2) S3 t3) {F':FO} (A:Z2b Z.F 0 (x:Int) (s:Int) F') :
  ((Z.setF F').setS S3 (updT Z.tb (x%256) t3)).Ok fr' (N+1) K (M+1)/\((Z.setF F').setS S3 (updT Z.tb (x%256) t3)).av.en=setA Z.av.en x s (some (e2.h,e2.r))/\∃b,((Z.setF F').setS S3 (updT Z.tb (x%256) t3)).av.N=addN Z.F.N 0 (Z.F.next+1) b (x:Int) (s:Int):=by
 have DD:S1.l=Z.S.l:=T1.alt.l;have FL:(S1.made f n a y i q P').l=Z.S.l.set i ⟨n,a,f.own,1,q.age,y⟩:=by
  show S1.l.set i _=_;rw [DD]
 have Ls:S3.l=Z.S.l.set i ⟨n,a,f.own,1,q.age,y⟩:=T3.alt.l.trans FL;have BJ:Z.S.l[i]?=some q:=by rw [<- DD];exact hi
 have Cq:(Z.tb i).Nil:=ok.tpi.nil i q BJ (by omega);obtain⟨b,hN⟩:=A.N;have A8:pget (Z.S.l.set i ⟨n,a,f.own,1,q.age,y⟩) 1 x=some p:=Q9V BJ hq hp;have UR:Q0f (Z.S.l.set i ⟨n,a,f.own,1,q.age,y⟩) Z.tb x s=none:=by rw [Q7R BJ Cq];exact h0
 have AP:∀z,t3.en z=if z=s then some e2 else (Z.tb (x%256)).en z:=fun z=>by
  rw [T3.en z,updT_same,T1.en z];split <;> rfl
 have E8:=Q6B Z.F.N F'.N A8 hk hs AP;have GU:((Z.setF F').setS S3 (updT Z.tb (x%256) t3)).av=⟨setA Z.av.en x s ((some e2).map Ent.c),F'.N⟩:=by
  show avOf S3.l (updT Z.tb (x%256) t3) F'.N=_;rw [Ls,E8];congr 2;unfold SP.av avOf;funext h' s';simp only;rw [Q7R BJ Cq]
 have Ld:=T3.tpi;rw [Q1c] at Ld;refine⟨⟨T3.ok,Ld,?_,A.ok,by show F'.next<=M+1;rw [A.next];have:=ok.next;omega⟩,by rw [GU];rfl,b,by rw [GU];exact hN⟩;show FPI S3.l _ F'.N;rw [Ls,hN];rw [FL] at hc;exact (ok.fpi.made (q:=⟨n,a,f.own,1,q.age,y⟩) BJ hq Cq).add ok.fo.n A8 hk hs UR AP hc b (.inl rfl)
end
end Go.Proofs.YtlakjlmaboioiaaGreatDoor
namespace Go.Proofs.YtlakjlmaboioiaaGreatDoor
open Go.ChangeShapes Go.WideShapes Go.ChangeAt Go.RowKit Go.Deep Go.Proofs.Tryz
theorem Q6M {w:World} {x:Addr} {v:Value} (h:w.cell? x=some v):x=⟨x.block,x.off,none⟩:=by
 obtain⟨b,o,s⟩:=x;cases s with
 | none=>rfl
 | some s =>
  exfalso;unfold World.cell? at h;split at h <;> simp at h
theorem add_plain5 (b o j:Nat):(⟨b,o,none⟩:Addr).add j=⟨b,o+j,none⟩:=by
 unfold Addr.add;split
 ·rename_i h;simp
 ·rfl
abbrev I64 (x:Int):Prop:=-9223372036854775808<=x/\x<=9223372036854775807
structure Mv where
 src:Int
 dst:Int
 r:Int
 g:Bool
def Mv.cells (x:Mv):List Value:=[.int .i64 x.src,.int .i64 x.dst,.int .i64 x.r,.bool x.g]
structure Mv.Wf (x:Mv):Prop where
 src:I64 x.src
 dst:I64 x.dst
 r:I64 x.r
structure It where
 base:Int
 order:Int
 r:Int
 off:Int
 g:Bool
def It.cells (x:It):List Value:=[.int .i64 x.base,.int .i64 x.order,.int .i64 x.r,.int .i64 x.off,.bool x.g]
structure It.Wf (x:It):Prop where
 base:I64 x.base
 order:I64 x.order
 r:I64 x.r
 off:I64 x.off
structure Wi where
 base:Int
 order:Int
def Wi.cells (x:Wi):List Value:=[.int .i64 x.base,.int .i64 x.order]
structure Wi.Wf (x:Wi):Prop where
 base:I64 x.base
 order:I64 x.order
def IsMv (w:World) (a0:Option Addr) (len:Nat) (A:Nat->Mv):Prop:=∀j,j<len->∃g off,a0=some ⟨g,off,none⟩/\g<w.heap.size/\(∀(i:Nat) (v:Value),(A j).cells[i]?=some v->w.cell? ⟨g,off+j*4+i,none⟩=some v)/\(A j).Wf
theorem IsMv.below {w w':World} {a0:Option Addr} {len:Nat} {A:Nat->Mv} (h:IsMv w a0 len A) (hb:Below w.heap.size w w'):IsMv w' a0 len A:=by
 intro j hj;obtain⟨g,off,h1,h2,h3,h4⟩:=h j hj;have e:=hb.block g h2;exact⟨g,off,h1,J2j h2 hb.size,fun i v hv=>(World.cell?_of_block (w:=w) e).trans (h3 i v hv),h4⟩
structure A17 where
 kind:Int
 n:Int
 k:Int
 m:Int
 t:Int
 u:Int
 s:Int
 r:Int
 self:Bool
 la:Option Addr
 ll:Nat
 lc:Nat
 L:Nat->Mv
 i:It
 w:Wi
def A17.cells (x:A17):List Value:=[.int .i64 x.kind,.int .i64 x.n,.int .i64 x.k,.int .i64 x.m,.int .i64 x.t,.int .i64 x.u,.int .i64 x.s,.int .i64 x.r,.bool x.self,.slice x.la x.ll x.lc]++x.i.cells++x.w.cells
structure A17.Wf (x:A17):Prop where
 n:I64 x.n
 k:I64 x.k
 m:I64 x.m
 t:I64 x.t
 u:I64 x.u
 s:I64 x.s
 r:I64 x.r
 len:x.ll<=x.lc/\x.lc<=maxLen
 i:x.i.Wf
 w:x.w.Wf
def IsA17 (w:World) (a0:Option Addr) (len:Nat) (A:Nat->A17):Prop:=∀j,j<len->∃g off,a0=some ⟨g,off,none⟩/\g<w.heap.size/\(∀(i:Nat) (v:Value),(A j).cells[i]?=some v->w.cell? ⟨g,off+j*17+i,none⟩=some v)/\(A j).Wf/\IsMv w (A j).la (A j).ll (A j).L
theorem IsA17.below {w w':World} {a0:Option Addr} {len:Nat} {A:Nat->A17} (h:IsA17 w a0 len A) (hb:Below w.heap.size w w'):IsA17 w' a0 len A:=by
 intro j hj;obtain⟨g,off,h1,h2,h3,h4,h5⟩:=h j hj;have e:=hb.block g h2;exact⟨g,off,h1,J2j h2 hb.size,fun i v hv=>(World.cell?_of_block (w:=w) e).trans (h3 i v hv),h4,h5.below hb⟩
theorem Z6P:prog.cellsOf 92=17:=by kernel_rfl
theorem Q9W:prog.cellsOf 39=4:=by kernel_rfl
theorem Q9X:prog.cellsOf 54=5:=by kernel_rfl
theorem Q9Y:prog.cellsOf 56=2:=by kernel_rfl
theorem Q3Q:prog.cellsOf 3=1:=by kernel_rfl
theorem Q4o:prog.cellsOf 4=1:=by kernel_rfl
theorem Z3P:prog.cellsOf 58=1:=by kernel_rfl
theorem Q6N {H:Type} {enc:TypeId×Value->H} {w:World} {n:Nat} {cs:List Value} {y:DataW H×List MemPlace}
  (h:DataW.trod enc prog w 0 (fun _=>true) true n 39 cs=some y):∃x:Mv,cs=x.cells/\x.Wf:=by
 obtain⟨xs,n',_,_,Ac,C9,hf⟩:=DataW.trod_struct underlying39 h;rw [Q9W] at Ac
 match cs,Ac with
 | [v0,v1,v2,v3],_ =>
  match xs,C9 with
  | [y0,y1,y2,y3],_ =>
   have g0:DataW.trod enc prog w 0 (fun _=>true) true n' 3 (List.take (prog.cellsOf 3) (List.drop 0 [v0,v1,v2,v3]))=some y0:=hf 0 _ rfl;have g1:DataW.trod enc prog w 0 (fun _=>true) true n' 3 (List.take (prog.cellsOf 3) (List.drop 1 [v0,v1,v2,v3]))=some y1:=hf 1 _ rfl;have g2:DataW.trod enc prog w 0 (fun _=>true) true n' 3 (List.take (prog.cellsOf 3) (List.drop 2 [v0,v1,v2,v3]))=some y2:=hf 2 _ rfl;have g3:DataW.trod enc prog w 0 (fun _=>true) true n' 4 (List.take (prog.cellsOf 4) (List.drop 3 [v0,v1,v2,v3]))=some y3:=hf 3 _ rfl;rw [Q3Q] at g0 g1 g2;rw [Q4o] at g3;simp only [J6a,J6F,J5G,J6G] at g0 g1 g2 g3
   obtain⟨a0,e0,_,N9⟩:=DataW.trod_int underlying3 g0;have Bz:=bounds_i64 (n:=a0) (by simp_all);obtain⟨a1,e1,_,Dt⟩:=DataW.trod_int underlying3 g1;have Av:=bounds_i64 (n:=a1) (by simp_all);obtain⟨a2,e2,_,ES⟩:=DataW.trod_int underlying3 g2;have Af:=bounds_i64 (n:=a2) (by simp_all);obtain⟨a3,e3,_⟩:=DataW.trod_bool underlying4 g3;simp only [J2l,and_true] at e0 e1 e2 e3;subst e0;subst e1;subst e2;subst e3;exact⟨⟨a0,a1,a2,a3⟩,rfl,⟨by simpa using Bz,by simpa using Av,by simpa using Af⟩⟩
theorem Z1e {H:Type} {enc:TypeId×Value->H} {w:World} {n:Nat} {cs:List Value} {y:DataW H×List MemPlace}
  (h:DataW.trod enc prog w 0 (fun _=>true) true n 54 cs=some y):∃x:It,cs=x.cells/\x.Wf:=by
 obtain⟨xs,n',_,_,Ac,C9,hf⟩:=DataW.trod_struct underlying54 h;rw [Q9X] at Ac
 match cs,Ac with
 | [v0,v1,v2,v3,v4],_ =>
  match xs,C9 with
  | [y0,y1,y2,y3,y4],_ =>
   have g0:DataW.trod enc prog w 0 (fun _=>true) true n' 3 (List.take (prog.cellsOf 3) (List.drop 0 [v0,v1,v2,v3,v4]))=some y0:=hf 0 _ rfl;have g1:DataW.trod enc prog w 0 (fun _=>true) true n' 3 (List.take (prog.cellsOf 3) (List.drop 1 [v0,v1,v2,v3,v4]))=some y1:=hf 1 _ rfl;have g2:DataW.trod enc prog w 0 (fun _=>true) true n' 3 (List.take (prog.cellsOf 3) (List.drop 2 [v0,v1,v2,v3,v4]))=some y2:=hf 2 _ rfl;have g3:DataW.trod enc prog w 0 (fun _=>true) true n' 3 (List.take (prog.cellsOf 3) (List.drop 3 [v0,v1,v2,v3,v4]))=some y3:=hf 3 _ rfl;have g4:DataW.trod enc prog w 0 (fun _=>true) true n' 4 (List.take (prog.cellsOf 4) (List.drop 4 [v0,v1,v2,v3,v4]))=some y4:=hf 4 _ rfl
   rw [Q3Q] at g0 g1 g2 g3;rw [Q4o] at g4;simp only [J6a,J6F,J5G,J6G] at g0 g1 g2 g3 g4;obtain⟨a0,e0,_,N9⟩:=DataW.trod_int underlying3 g0;have Bz:=bounds_i64 (n:=a0) (by simp_all);obtain⟨a1,e1,_,Dt⟩:=DataW.trod_int underlying3 g1;have Av:=bounds_i64 (n:=a1) (by simp_all);obtain⟨a2,e2,_,ES⟩:=DataW.trod_int underlying3 g2;have Af:=bounds_i64 (n:=a2) (by simp_all);obtain⟨a3,e3,_,Je⟩:=DataW.trod_int underlying3 g3;have As:=bounds_i64 (n:=a3) (by simp_all);obtain⟨a4,e4,_⟩:=DataW.trod_bool underlying4 g4;simp only [J2l,and_true] at e0 e1 e2 e3 e4;subst e0;subst e1;subst e2;subst e3;subst e4;exact⟨⟨a0,a1,a2,a3,a4⟩,rfl,⟨by simpa using Bz,by simpa using Av,by simpa using Af,by simpa using As⟩⟩
theorem Z3Q {H:Type} {enc:TypeId×Value->H} {w:World} {n:Nat} {cs:List Value} {y:DataW H×List MemPlace}
  (h:DataW.trod enc prog w 0 (fun _=>true) true n 56 cs=some y):∃x:Wi,cs=x.cells/\x.Wf:=by
 obtain⟨xs,n',_,_,Ac,C9,hf⟩:=DataW.trod_struct underlying56 h;rw [Q9Y] at Ac
 match cs,Ac with
 | [v0,v1],_ =>
  match xs,C9 with
  | [y0,y1],_ =>
   have g0:DataW.trod enc prog w 0 (fun _=>true) true n' 3 (List.take (prog.cellsOf 3) (List.drop 0 [v0,v1]))=some y0:=hf 0 _ rfl;have g1:DataW.trod enc prog w 0 (fun _=>true) true n' 3 (List.take (prog.cellsOf 3) (List.drop 1 [v0,v1]))=some y1:=hf 1 _ rfl;rw [Q3Q] at g0 g1;simp only [J6a,J6F,J5G,J6G] at g0 g1;obtain⟨a0,e0,_,N9⟩:=DataW.trod_int underlying3 g0;have Bz:=bounds_i64 (n:=a0) (by simp_all);obtain⟨a1,e1,_,Dt⟩:=DataW.trod_int underlying3 g1;have Av:=bounds_i64 (n:=a1) (by simp_all);simp only [J2l,and_true] at e0 e1;subst e0;subst e1;exact⟨⟨a0,a1⟩,rfl,⟨by simpa using Bz,by simpa using Av⟩⟩
theorem Q9Z {H:Type} {enc:TypeId×Value->H} {w:World} {fuel:Nat} {cs:List Value} {x:DataW H×List MemPlace}
  (h:DataW.trod enc prog w 0 (fun _=>true) true fuel 58 cs=some x):∃(a0:Option Addr) (len cap:Nat),cs=[.slice a0 len cap]/\(len<=cap/\cap<=maxLen)/\∃A,IsMv w a0 len A:=by
 rcases open_slice underlying58 h with ⟨BB,_⟩|⟨a,len,cap,m,n,D,Pl,BB,_,hl,Dx,Ly,_,hi⟩
 ·exact⟨none,0,0,BB,⟨J2h _,by unfold maxLen;omega⟩,fun _=>⟨0,0,0,false⟩,fun j hj=>absurd hj (J5J _)⟩
 ·refine⟨some a,len,cap,BB,⟨hl,Dx⟩,?_⟩;have hm:len<=m:=by rw [Ly];simp;exact hl
  have each:∀j,j<len->∃x:Mv,(∀(i:Nat) (v:Value),x.cells[i]?=some v->w.cell? ((a.add (j*4)).add i)=some v)/\x.Wf:=by
   intro j hj;obtain⟨Uc,hc,ht⟩:=hi j (by omega);rw [Q9W] at hc;obtain⟨x,rfl,hx⟩:=Q6N ht;obtain⟨_,_,AC⟩:=World.cells?_some hc;refine⟨x,fun i v hv=>?_,hx⟩;have Pt:i<4:=by simpa [Mv.cells] using (J2y.1 hv).1
   exact (AC i Pt).trans hv
  by_cases h0:len=0
  ·exact⟨fun _=>⟨0,0,0,false⟩,fun j hj=>by omega⟩
  ·obtain⟨x0,c0,_⟩:=each 0 (by omega);have hp:=Q6M (x:=a) (by simpa [Addr.add] using c0 0 _ rfl);refine⟨fun j=>if hj:j<len then (each j hj).choose else ⟨0,0,0,false⟩,fun j hj=>?_⟩;obtain⟨h1,h2⟩:=(each j hj).choose_spec;simp only [hj,dif_pos];generalize (each j hj).choose=y at h1 h2;have h3:∀(i:Nat) (v:Value),y.cells[i]?=some v->w.cell? ⟨a.block,a.off+j*4+i,none⟩=some v:=fun i v hv=>by
    have:=h1 i v hv;rw [hp,add_plain5,add_plain5] at this;exact this
   exact⟨a.block,a.off,congrArg some hp,World.block_lt_of_cell? w ⟨a.block,a.off+j*4+0,none⟩ (h3 0 _ rfl),h3,h2⟩
theorem Z3R {H:Type} {enc:TypeId×Value->H} {w:World} {n:Nat} {cs:List Value} {y:DataW H×List MemPlace}
  (h:DataW.trod enc prog w 0 (fun _=>true) true n 92 cs=some y):∃x:A17,cs=x.cells/\x.Wf/\IsMv w x.la x.ll x.L:=by
 obtain⟨xs,n',_,_,Ac,C9,hf⟩:=DataW.trod_struct underlying92 h;rw [Z6P] at Ac
 match cs,Ac with
 | [v0,v1,v2,v3,v4,v5,v6,v7,v8,v9,v10,v11,v12,v13,v14,v15,v16],_ =>
  match xs,C9 with
  | [y0,y1,y2,y3,y4,y5,y6,y7,y8,y9,y10,y11],_ =>
   have g0:DataW.trod enc prog w 0 (fun _=>true) true n' 3 (List.take (prog.cellsOf 3) (List.drop 0 [v0,v1,v2,v3,v4,v5,v6,v7,v8,v9,v10,v11,v12,v13,v14,v15,v16]))=some y0:=hf 0 _ rfl;have g1:DataW.trod enc prog w 0 (fun _=>true) true n' 3 (List.take (prog.cellsOf 3) (List.drop 1 [v0,v1,v2,v3,v4,v5,v6,v7,v8,v9,v10,v11,v12,v13,v14,v15,v16]))=some y1:=hf 1 _ rfl;have g2:DataW.trod enc prog w 0 (fun _=>true) true n' 3 (List.take (prog.cellsOf 3) (List.drop 2 [v0,v1,v2,v3,v4,v5,v6,v7,v8,v9,v10,v11,v12,v13,v14,v15,v16]))=some y2:=hf 2 _ rfl;have g3:DataW.trod enc prog w 0 (fun _=>true) true n' 3 (List.take (prog.cellsOf 3) (List.drop 3 [v0,v1,v2,v3,v4,v5,v6,v7,v8,v9,v10,v11,v12,v13,v14,v15,v16]))=some y3:=hf 3 _ rfl
   have g4:DataW.trod enc prog w 0 (fun _=>true) true n' 3 (List.take (prog.cellsOf 3) (List.drop 4 [v0,v1,v2,v3,v4,v5,v6,v7,v8,v9,v10,v11,v12,v13,v14,v15,v16]))=some y4:=hf 4 _ rfl;have g5:DataW.trod enc prog w 0 (fun _=>true) true n' 3 (List.take (prog.cellsOf 3) (List.drop 5 [v0,v1,v2,v3,v4,v5,v6,v7,v8,v9,v10,v11,v12,v13,v14,v15,v16]))=some y5:=hf 5 _ rfl;have g6:DataW.trod enc prog w 0 (fun _=>true) true n' 3 (List.take (prog.cellsOf 3) (List.drop 6 [v0,v1,v2,v3,v4,v5,v6,v7,v8,v9,v10,v11,v12,v13,v14,v15,v16]))=some y6:=hf 6 _ rfl;have g7:DataW.trod enc prog w 0 (fun _=>true) true n' 3 (List.take (prog.cellsOf 3) (List.drop 7 [v0,v1,v2,v3,v4,v5,v6,v7,v8,v9,v10,v11,v12,v13,v14,v15,v16]))=some y7:=hf 7 _ rfl
   have g8:DataW.trod enc prog w 0 (fun _=>true) true n' 4 (List.take (prog.cellsOf 4) (List.drop 8 [v0,v1,v2,v3,v4,v5,v6,v7,v8,v9,v10,v11,v12,v13,v14,v15,v16]))=some y8:=hf 8 _ rfl;have g9:DataW.trod enc prog w 0 (fun _=>true) true n' 58 (List.take (prog.cellsOf 58) (List.drop 9 [v0,v1,v2,v3,v4,v5,v6,v7,v8,v9,v10,v11,v12,v13,v14,v15,v16]))=some y9:=hf 9 _ rfl;have g10:DataW.trod enc prog w 0 (fun _=>true) true n' 54 (List.take (prog.cellsOf 54) (List.drop 10 [v0,v1,v2,v3,v4,v5,v6,v7,v8,v9,v10,v11,v12,v13,v14,v15,v16]))=some y10:=hf 10 _ rfl;have g11:DataW.trod enc prog w 0 (fun _=>true) true n' 56 (List.take (prog.cellsOf 56) (List.drop 15 [v0,v1,v2,v3,v4,v5,v6,v7,v8,v9,v10,v11,v12,v13,v14,v15,v16]))=some y11:=hf 11 _ rfl
   rw [Q3Q] at g0 g1 g2 g3 g4 g5 g6 g7;rw [Q4o] at g8;rw [Z3P] at g9;rw [Q9X] at g10;rw [Q9Y] at g11;simp only [J6a,J6F,J5G,J6G] at g0 g1 g2 g3 g4 g5 g6 g7 g8 g9 g10 g11;obtain⟨a0,e0,_,N9⟩:=DataW.trod_int underlying3 g0;have Bz:=bounds_i64 (n:=a0) (by simp_all);obtain⟨a1,e1,_,Dt⟩:=DataW.trod_int underlying3 g1;have Av:=bounds_i64 (n:=a1) (by simp_all);obtain⟨a2,e2,_,ES⟩:=DataW.trod_int underlying3 g2;have Af:=bounds_i64 (n:=a2) (by simp_all);obtain⟨a3,e3,_,Je⟩:=DataW.trod_int underlying3 g3;have As:=bounds_i64 (n:=a3) (by simp_all);obtain⟨a4,e4,_,SB⟩:=DataW.trod_int underlying3 g4;have A5:=bounds_i64 (n:=a4) (by simp_all)
   obtain⟨a5,e5,_,W8⟩:=DataW.trod_int underlying3 g5;have AH:=bounds_i64 (n:=a5) (by simp_all);obtain⟨a6,e6,_,WE⟩:=DataW.trod_int underlying3 g6;have CC:=bounds_i64 (n:=a6) (by simp_all);obtain⟨a7,e7,_,Xe⟩:=DataW.trod_int underlying3 g7;have CT:=bounds_i64 (n:=a7) (by simp_all);obtain⟨a8,e8,_⟩:=DataW.trod_bool underlying4 g8;obtain⟨aa,al,ac,e9,DU,BR⟩:=Q9Z g9;obtain⟨it,e10,Ua⟩:=Z1e g10;obtain⟨wi,e11,Oa⟩:=Z3Q g11;simp only [J2l,and_true] at e0 e1 e2 e3 e4 e5 e6 e7 e8 e9;subst e0;subst e1;subst e2;subst e3;subst e4;subst e5;subst e6;subst e7;subst e8;subst e9;obtain⟨mvs,BR⟩:=BR;refine⟨⟨a0,a1,a2,a3,a4,a5,a6,a7,a8,aa,al,ac,mvs,it,wi⟩,?_,⟨by simpa using Av,by simpa using Af,by simpa using As,by simpa using A5,by simpa using AH,by simpa using CC,by simpa using CT,DU,Ua,Oa⟩,BR⟩
   unfold A17.cells;rw [<- e10,<- e11];rfl
theorem Q6O {H:Type} {enc:TypeId×Value->H} {w:World} {fuel:Nat} {a0:Option Addr} {len cap:Nat} {x:DataW H×List MemPlace}
  (h:DataW.trod enc prog w 0 (fun _=>true) true fuel 63 [.slice a0 len cap]=some x):∃A,IsA17 w a0 len A:=by
 have dflt:A17:=⟨0,0,0,0,0,0,0,0,false,none,0,0,fun _=>⟨0,0,0,false⟩,⟨0,0,0,0,false⟩,⟨0,0⟩⟩
 rcases open_slice underlying63 h with ⟨BB,_⟩|⟨a,len',BH,m,n,D,Pl,BB,_,hl,_,Ly,_,hi⟩
 ·simp only [J2l,Value.slice.injEq,and_true] at BB;obtain⟨rfl,rfl,rfl⟩:=BB;exact⟨fun _=>dflt,fun j hj=>absurd hj (J5J _)⟩
 ·simp only [J2l,Value.slice.injEq,and_true] at BB;obtain⟨rfl,rfl,rfl⟩:=BB;have hm:len<=m:=by rw [Ly];simp;exact hl
  have each:∀j,j<len->∃x:A17,(∀(i:Nat) (v:Value),x.cells[i]?=some v->w.cell? ((a.add (j*17)).add i)=some v)/\x.Wf/\IsMv w x.la x.ll x.L:=by
   intro j hj;obtain⟨Uc,hc,ht⟩:=hi j (by omega);rw [Z6P] at hc;obtain⟨x,rfl,hx,EV⟩:=Z3R ht;obtain⟨_,_,AC⟩:=World.cells?_some hc;refine⟨x,fun i v hv=>?_,hx,EV⟩;have Pt:i<17:=by simpa [A17.cells,It.cells,Wi.cells] using (J2y.1 hv).1
   exact (AC i Pt).trans hv
  by_cases h0:len=0
  ·exact⟨fun _=>dflt,fun j hj=>by omega⟩
  ·obtain⟨x0,c0,_⟩:=each 0 (by omega);have hp:=Q6M (x:=a) (by simpa [Addr.add] using c0 0 _ rfl);refine⟨fun j=>if hj:j<len then (each j hj).choose else dflt,fun j hj=>?_⟩;obtain⟨h1,h2,SH⟩:=(each j hj).choose_spec;simp only [hj,dif_pos];generalize (each j hj).choose=y at h1 h2 SH;have h3:∀(i:Nat) (v:Value),y.cells[i]?=some v->w.cell? ⟨a.block,a.off+j*17+i,none⟩=some v:=fun i v hv=>by
    have:=h1 i v hv;rw [hp,add_plain5,add_plain5] at this;exact this
   exact⟨a.block,a.off,congrArg some hp,World.block_lt_of_cell? w ⟨a.block,a.off+j*17+0,none⟩ (h3 0 _ rfl),h3,h2,SH⟩
end Go.Proofs.YtlakjlmaboioiaaGreatDoor
namespace Go.Proofs.YtlakjlmaboioiaaGreatDoor
open Go.RowKit Go.Proofs.Tryz
def Mv.clash (o m:Mv):Bool:=(o.dst==m.dst)||((o.src==m.src)&&(o.g||m.g))
def Mv.agg (m:Mv):Value:=.agg #[.int .i64 m.src,.int .i64 m.dst,.int .i64 m.r,.bool m.g]
theorem Z6Q (w:World) (o m:Mv) (b:Nat) (hb:b<w.heap.size) (h0:w.cell? ⟨b,0,none⟩=some (.int .i64 m.src)) (h1:w.cell? ⟨b,1,none⟩=some (.int .i64 m.dst)) (h3:w.cell? ⟨b,3,none⟩=some (.bool m.g)) :
  Calls prog 164 #[o.agg,.pointer (some ⟨b,0,none⟩)] w (Told w (.bool (o.clash m))):=by
 obtain⟨os,od,orr,og⟩:=o;obtain⟨ms,md,mr,mg⟩:=m;unfold Mv.clash Mv.agg;dsimp only at *
 have Aa:b≠w.heap.size:=by omega
 have HB:Hid (∀o,Below w.heap.size w (w.alloc o)):=fun o=>(Below.refl _ _).alloc (J2h _) o
 have b1:Below w.heap.size w (w.alloc (.cells #[.int .i64 os,.int .i64 od,.int .i64 orr,.bool og] 39)):=HB.out _;have g0:=(b1.cell (p:=⟨b,0,none⟩) hb).trans h0;have g1:=(b1.cell (p:=⟨b,1,none⟩) hb).trans h1;have g3:=(b1.cell (p:=⟨b,3,none⟩) hb).trans h3;clear b1 h0 h1 h3 hb;by_cases e1:od=md
 ·have v1:(od==md)=true:=by simpa using e1
  rw [v1];simp only [Bool.true_or];clear e1;go_enter func164,ntmps164;go_wp2_with fail
  first|exact⟨rfl,HB.out _⟩|(go_ret;exact⟨rfl,HB.out _⟩)
 ·have v1:(od==md)=false:=by simpa using e1
  have d1:decide (od=md)=false:=decide_eq_false e1;rw [v1];simp only [J5r];by_cases e2:os=ms
  ·have v2:(os==ms)=true:=by simpa using e2
   rw [v2];simp only [J3x];clear e2;cases og
   ·go_enter func164,ntmps164;go_wp2_with fail
    first|exact⟨rfl,HB.out _⟩|(go_ret;exact⟨rfl,HB.out _⟩)
   ·go_enter func164,ntmps164;go_wp2_with fail
    first|exact⟨rfl,HB.out _⟩|(go_ret;exact⟨rfl,HB.out _⟩)
  ·have v2:(os==ms)=false:=by simpa using e2
   have d2:decide (os=ms)=false:=decide_eq_false e2;rw [v2];simp only [J6H];go_enter func164,ntmps164;go_wp2_with fail
   first|exact⟨rfl,HB.out _⟩|(go_ret;exact⟨rfl,HB.out _⟩)
def Z3S (b:Nat):Value:=.func (.func 164) #[] #[.pointer (some ⟨b,0,none⟩)]
def Z2l (w:World) (n:Nat) (A:Nat->Mv) (m:Mv) (e:Ending) (w':World):Prop:=Below w.heap.size w w'/\((∃k:Nat,k<n/\e=.returned (.int .i64 k)/\(A k).clash m=true)∨(e=.returned (.int .i64 (-1))/\∀j,j<n->(A j).clash m=false))
theorem Z3T {w:World} {a0:Option Addr} {len:Nat} {A:Nat->Mv} (h:IsMv w a0 len A) {n:Nat} (cap:Nat) (hn:n<=len) (hm:n<=4611686018427387904) (m:Mv) (b:Nat) (hb:b<w.heap.size) (h0:w.cell? ⟨b,0,none⟩=some (.int .i64 m.src)) (h1:w.cell? ⟨b,1,none⟩=some (.int .i64 m.dst)) (h3:w.cell? ⟨b,3,none⟩=some (.bool m.g)) :
  Calls prog 233 #[.slice a0 n cap,Z3S b] w (Z2l w n A m):=by
 have HP:Hid (∀k wr,k<n->Below w.heap.size w wr->∃g off,a0=some ⟨g,off,none⟩/\wr.cell? ⟨g,off+k*4,none⟩=some (.int .i64 (A k).src)/\wr.cell? ⟨g,off+k*4+1,none⟩=some (.int .i64 (A k).dst)/\wr.cell? ⟨g,off+k*4+2,none⟩=some (.int .i64 (A k).r)/\wr.cell? ⟨g,off+k*4+3,none⟩=some (.bool (A k).g) /\
   Calls prog 164 #[.agg #[.int .i64 (A k).src,.int .i64 (A k).dst,.int .i64 (A k).r,.bool (A k).g],.pointer (some ⟨b,0,none⟩)] wr fun r w'=>r=.returned (.bool ((A k).clash m))/\Below w.heap.size w w'):=fun k wr hk B3=>by
  obtain⟨g,off,e,_,hc,_⟩:=IsMv.below h B3 k (by omega);exact⟨g,off,e,hc 0 _ rfl,hc 1 _ rfl,hc 2 _ rfl,hc 3 _ rfl,(Z6Q wr (A k) m b (J2j hb B3.size) ((B3.cell (p:=⟨b,0,none⟩) hb).trans h0) ((B3.cell (p:=⟨b,1,none⟩) hb).trans h1) ((B3.cell (p:=⟨b,3,none⟩) hb).trans h3)).mono fun r w' q=>⟨q.1,B3.trans (q.2.mono B3.size)⟩⟩
 have Ik:Hid (∀k w',k<n->Below w.heap.size w w'->(A k).clash m=true->Z2l w n A m (.returned (.int .i64 k)) w'):=fun k w' hk Al hc=>⟨Al,.inl ⟨k,hk,rfl,hc⟩⟩
 have Dl:Hid (∀w',Below w.heap.size w w'->(∀j,j<n->(A j).clash m=false)->Z2l w n A m (.returned (.int .i64 (-1))) w'):=fun w' Al hc=>⟨Al,.inr ⟨rfl,hc⟩⟩
 clear h h0 h1 h3 hb hn;generalize Z2l w n A m=Q at *
 unfold Z3S;go_enter func233,ntmps233;go_wp2_with fail
 go_loopw [5,8] (fun _ i wr=>∃k:Nat,k<=n/\i=.int .i64 k/\(∀j,j<k->(A j).clash m=false)/\Below w.heap.size w wr) (fun _ i _=>n-(intOf i).toNat)
 case atStart=>exact⟨0,J4j _,rfl,by intro j hj;omega,Below.refl _ _⟩
 case round =>
  obtain⟨k,hk,rfl,A3,B3⟩:=hrel;have Hp:=Q0a A3;have HB:=Q0a B3;clear A3 B3;by_cases Ab:k<n
  ·obtain⟨g,off,rfl,c0,c1,c2,c3,Bl⟩:=HP.out k wr Ab HB.out;have HC:=Q0a Bl;clear Bl;cases hv:(A k).clash m with
   | true =>
    have HV:=Q0a hv;rw [hv] at HC;clear hv;go_wp2_with (go_at_call 164;refine HC.out.mono ?_;rintro e w' ⟨rfl,Al⟩)
    first|exact Ik.out k _ Ab Al HV.out|(go_ret;exact Ik.out k _ Ab Al HV.out)
   | false =>
    have HV:=Q0a hv;rw [hv] at HC;clear hv;go_wp2_with (go_at_call 164;refine HC.out.mono ?_;rintro e w' ⟨rfl,Al⟩);go_roundw
    case rel =>
     refine⟨k+1,by omega,by go_num,fun j hj=>?_,Al⟩;by_cases e:j=k
     ·rw [e];exact HV.out
     ·exact Hp.out j (by omega)
    case measure=>simp [intOf];omega
  ·obtain rfl:k=n:=by omega
   clear HP;go_wp2_with fail
   first|exact Dl.out _ HB.out Hp.out|(go_ret;exact Dl.out _ HB.out Hp.out)
def Q1x (A:Nat->Mv) (n:Nat) (m:Mv):Bool:=(List.range n).any fun k=>(A k).clash m
theorem Q8A {w:World} {a0:Option Addr} {len:Nat} {A:Nat->Mv} (h:IsMv w a0 len A) {n:Nat} (cap:Nat) (hn:n<=len) (hm:n<=4611686018427387904) (m:Mv) (b:Nat) (hb:b<w.heap.size) (h0:w.cell? ⟨b,0,none⟩=some (.int .i64 m.src)) (h1:w.cell? ⟨b,1,none⟩=some (.int .i64 m.dst)) (h3:w.cell? ⟨b,3,none⟩=some (.bool m.g)) :
  Calls prog 163 #[.slice a0 n cap,Z3S b] w (Told w (.bool (Q1x A n m))):=by
 have ki:=Z3T h cap hn hm m b hb h0 h1 h3;clear h h0 h1 h3 hb hn hm;unfold Z3S at *
 go_enter func163,ntmps163;go_wp2_with fail;refine ki.mono ?_;rintro e w' ⟨Al,⟨k,hk,rfl,hc⟩|⟨rfl,hc⟩⟩
 ·have hv:Q1x A n m=true:=List.any_eq_true.2 ⟨k,J2x.2 hk,hc⟩;have HR:Hid (Told w (.bool (Q1x A n m)) (.returned (.bool true)) w'):=⟨by rw [hv],Al⟩
  have By:(0:Int)<=(k:Int):=by omega
  clear hv hc Al;generalize Q1x A n m=v at *
  go_wp2_with fail
  first|exact HR.out|(go_ret;exact HR.out)
 ·have hv:Q1x A n m=false:=J6I.2 fun k hk=>by simp [hc k (List.mem_range.1 hk)]
  have HR:Hid (Told w (.bool (Q1x A n m)) (.returned (.bool false)) w'):=⟨by rw [hv],Al⟩
  clear hv hc Al;generalize Q1x A n m=v at *
  go_wp2_with fail
  first|exact HR.out|(go_ret;exact HR.out)
def J1G (h1 h2 br c1 c2 s1 z1 z2 s2 cl:Bool) (er:Int):Prop:=(h1=false/\er=2)∨(h1=true/\h2=false/\er=2)∨(h1=true/\h2=true/\br=false/\er=1)∨(h1=true/\h2=true/\br=true/\c1=!c2/\er=1)∨(h1=true/\h2=true/\br=true/\c1=c2/\s1=false/\er=6)∨(h1=true/\h2=true/\br=true/\c1=c2/\s1=true/\z1=true/\er=9)∨(h1=true/\h2=true/\br=true/\c1=c2/\s1=true/\z1=false/\z2=true/\er=9)∨(h1=true/\h2=true/\br=true/\c1=c2/\s1=true/\z1=false/\z2=false/\s2=true/\er=7)∨(h1=true/\h2=true/\br=true/\c1=c2/\s1=true/\z1=false/\z2=false/\s2=false/\cl=true/\er=7)∨(h1=true/\h2=true/\br=true/\c1=c2/\s1=true/\z1=false/\z2=false/\s2=false/\cl=false/\er=0)
theorem Z3U {w:World} {g1 x1 g2 x2:Nat} {f1 f2:Int} {m:Mv} {a0:Option Addr} {n cap:Nat} {ca1 cb1 ca2 cb2 er:Int} {s1 s2 cl:Bool}
  (Fi:∀W,Below w.heap.size w W->Calls prog 74 #[.agg #[.pointer (some ⟨g1,0,none⟩),.int .u32 x1,.int .i64 f1],.int .i64 m.src] W (Told W (.tuple #[.agg #[.int .u32 ca1,.int .i64 cb1],.bool s1])))
  (Gz:∀W,Below w.heap.size w W->Calls prog 74 #[.agg #[.pointer (some ⟨g2,0,none⟩),.int .u32 x2,.int .i64 f2],.int .i64 m.dst] W (Told W (.tuple #[.agg #[.int .u32 ca2,.int .i64 cb2],.bool s2])))
  (hCl:∀W b,Below w.heap.size w W->b<W.heap.size->W.cell? ⟨b,0,none⟩=some (.int .i64 m.src)->W.cell? ⟨b,1,none⟩=some (.int .i64 m.dst)->W.cell? ⟨b,3,none⟩=some (.bool m.g)->Calls prog 163 #[.slice a0 n cap,Z3S b] W (Told W (.bool cl)))
  (hT:J1G (decide (0<=m.src/\m.src<256)) (decide (0<=m.dst/\m.dst<256)) (decide (0<m.r/\m.r<=15)) (decide (m.src<128)) (decide (m.dst<128)) s1 (bits .and .i64 cb1 4==0) (bits .and .i64 cb1 m.r==0) s2 cl er) :
  Calls prog 80 #[.agg #[.pointer (some ⟨g1,0,none⟩),.int .u32 x1,.int .i64 f1],.agg #[.pointer (some ⟨g2,0,none⟩),.int .u32 x2,.int .i64 f2],.agg #[.int .i64 m.src,.int .i64 m.dst,.int .i64 m.r,.bool m.g],.slice a0 n cap] w (Told w (.int .i64 er)):=by
 have RA:Hid (∀W,Calls prog 75 #[.int .i64 m.src] W fun r w'=>r=.returned (.bool (decide (0<=m.src/\m.src<256)))/\W=w'):=fun W=>Q2V W m.src
 have Tj:Hid (∀W,Calls prog 75 #[.int .i64 m.dst] W fun r w'=>r=.returned (.bool (decide (0<=m.dst/\m.dst<256)))/\W=w'):=fun W=>Q2V W m.dst
 have RR:Hid (∀W,Calls prog 76 #[.int .i64 m.r] W fun r' w'=>r'=.returned (.bool (decide (0<m.r/\m.r<=15)))/\W=w'):=fun W=>Q3M W m.r
 have G5:Hid (∀W,Calls prog 77 #[.int .i64 m.src] W fun r w'=>r=.returned (.bool (decide (m.src<128)))/\W=w'):=fun W=>Q2I W m.src
 have Il:Hid (∀W,Calls prog 77 #[.int .i64 m.dst] W fun r w'=>r=.returned (.bool (decide (m.dst<128)))/\W=w'):=fun W=>Q2I W m.dst
 obtain⟨ms,md,mr,mg⟩:=m;dsimp only at *
 have HW:Hid (∀W,Below (((w.alloc (.cells #[.pointer (some ⟨g1,0,none⟩),.int .u32 x1,.int .i64 f1] 155)).alloc (.cells #[.pointer (some ⟨g2,0,none⟩),.int .u32 x2,.int .i64 f2] 155)).alloc (.cells #[.int .i64 ms,.int .i64 md,.int .i64 mr,.bool mg] 39)).heap.size (((w.alloc (.cells #[.pointer (some ⟨g1,0,none⟩),.int .u32 x1,.int .i64 f1] 155)).alloc (.cells #[.pointer (some ⟨g2,0,none⟩),.int .u32 x2,.int .i64 f2] 155)).alloc (.cells #[.int .i64 ms,.int .i64 md,.int .i64 mr,.bool mg] 39)) W ->
   Below w.heap.size w W/\w.heap.size+2<W.heap.size/\(W.cell? ⟨w.heap.size+1,0,none⟩=some (.pointer (some ⟨g2,0,none⟩))/\W.cell? ⟨w.heap.size+1,1,none⟩=some (.int .u32 x2)/\W.cell? ⟨w.heap.size+1,2,none⟩=some (.int .i64 f2)) /\
   W.cell? ⟨w.heap.size+2,0,none⟩=some (.int .i64 ms)/\W.cell? ⟨w.heap.size+2,1,none⟩=some (.int .i64 md)/\W.cell? ⟨w.heap.size+2,2,none⟩=some (.int .i64 mr)/\W.cell? ⟨w.heap.size+2,3,none⟩=some (.bool mg)):=fun W hb=>by
  have h5:=((Cells.new (w.alloc (.cells #[.pointer (some ⟨g1,0,none⟩),.int .u32 x1,.int .i64 f1] 155)) 155 [.pointer (some ⟨g2,0,none⟩),.int .u32 x2,.int .i64 f2]).alloc (.cells #[.int .i64 ms,.int .i64 md,.int .i64 mr,.bool mg] 39)).same (hb.block _ (by simp));have h6:=(Cells.new ((w.alloc (.cells #[.pointer (some ⟨g1,0,none⟩),.int .u32 x1,.int .i64 f1] 155)).alloc (.cells #[.pointer (some ⟨g2,0,none⟩),.int .u32 x2,.int .i64 f2] 155)) 39 [.int .i64 ms,.int .i64 md,.int .i64 mr,.bool mg]).same (hb.block _ (by simp));have e1:(w.alloc (.cells #[.pointer (some ⟨g1,0,none⟩),.int .u32 x1,.int .i64 f1] 155)).heap.size=w.heap.size+1:=by simp
  have e2:((w.alloc (.cells #[.pointer (some ⟨g1,0,none⟩),.int .u32 x1,.int .i64 f1] 155)).alloc (.cells #[.pointer (some ⟨g2,0,none⟩),.int .u32 x2,.int .i64 f2] 155)).heap.size=w.heap.size+2:=by simp
  rw [e1] at h5;rw [e2] at h6;exact⟨Q0e (Q0e (Q0e hb)),h6.lt,⟨h5.cell 0 _ rfl,h5.cell 1 _ rfl,h5.cell 2 _ rfl⟩,h6.cell 0 _ rfl,h6.cell 1 _ rfl,h6.cell 2 _ rfl,h6.cell 3 _ rfl⟩
 have k1:=Fi _ (HW.out _ (Below.refl _ _)).1;have Eu:=Q0a Gz;have D9:=Q0a hCl;have HT:=Q0a hT;clear Fi Gz hCl hT;go_enter func80,ntmps80;go_wp2_with fail;refine k1.mono ?_;rintro rv w1 ⟨rfl,Av⟩;have Bg:Hid (∀o,Below (((w.alloc (.cells #[.pointer (some ⟨g1,0,none⟩),.int .u32 x1,.int .i64 f1] 155)).alloc (.cells #[.pointer (some ⟨g2,0,none⟩),.int .u32 x2,.int .i64 f2] 155)).alloc (.cells #[.int .i64 ms,.int .i64 md,.int .i64 mr,.bool mg] 39)).heap.size (((w.alloc (.cells #[.pointer (some ⟨g1,0,none⟩),.int .u32 x1,.int .i64 f1] 155)).alloc (.cells #[.pointer (some ⟨g2,0,none⟩),.int .u32 x2,.int .i64 f2] 155)).alloc (.cells #[.int .i64 ms,.int .i64 md,.int .i64 mr,.bool mg] 39)) (w1.alloc o)):=fun o=>Av.alloc Av.size o
 have h2:=HW.out _ (Bg.out (.cells #[.int .u32 ca1,.int .i64 cb1] 35));obtain⟨ES,-,⟨p0,p1,p2⟩,m0,m1,m2,m3⟩:=h2;have k2:=Eu.out _ ES;clear Av k1 ES Eu;go_wp2_with fail;refine k2.mono ?_;rintro rv w2 ⟨rfl,Af⟩;have As:=((Bg.out (.cells #[.int .u32 ca1,.int .i64 cb1] 35)).trans (Af.mono (Bg.out (.cells #[.int .u32 ca1,.int .i64 cb1] 35)).size)).alloc ((Bg.out (.cells #[.int .u32 ca1,.int .i64 cb1] 35)).trans (Af.mono (Bg.out (.cells #[.int .u32 ca1,.int .i64 cb1] 35)).size)).size (.cells #[.int .u32 ca2,.int .i64 cb2] 35);have Nw:=(((Cells.new w1 35 [.int .u32 ca1,.int .i64 cb1]).same (Af.block _ (by simp))).alloc (.cells #[.int .u32 ca2,.int .i64 cb2] 35))
 clear p0 p1 p2 m0 m1 m2 m3 k2;go_wp2_with fail;generalize hW3:(w2.alloc (.cells #[.int .u32 ca2,.int .i64 cb2] 35))=w3 at *
 obtain⟨Je,Ls,-,m0,m1,m2,m3⟩:=HW.out _ As;have kc:=D9.out w3 (w.heap.size+2) Je Ls m0 m1 m3;clear hW3 m0 m1 m2 m3 D9 Af Je Ls Bg;unfold Z3S at kc;refine kc.mono ?_;rintro rv w4 ⟨rfl,A5⟩;have Ao:Hid (∀n,Below w.heap.size w (w4.drewN n)):=fun n=>(HW.out _ (Q1n (As.trans (A5.mono As.size)) n)).1
 obtain⟨-,-,-,m0,m1,m2,m3⟩:=HW.out _ (As.trans (A5.mono As.size));have r1:=(Nw.same (A5.block _ Nw.lt)).cell 1 _ rfl;have E3:=RA.out w4;have EW:=Tj.out w4;have Di:Hid (∀n,Calls prog 76 #[.int .i64 mr] (w4.drewN n) fun e w''=>e=.returned (.bool (decide (0<mr/\mr<=15)))/\∃m,w''=w4.drewN m):=fun n=>(RR.out _).mono fun e w' h=>⟨h.1,n,h.2.symm⟩
 have Ck:Hid (∀n,Calls prog 77 #[.int .i64 ms] (w4.drewN n) fun e w''=>e=.returned (.bool (decide (ms<128)))/\∃m,w''=w4.drewN m):=fun n=>(G5.out _).mono fun e w' h=>⟨h.1,n,h.2.symm⟩
 have Cm:Hid (∀n,Calls prog 77 #[.int .i64 md] (w4.drewN n) fun e w''=>e=.returned (.bool (decide (md<128)))/\∃m,w''=w4.drewN m):=fun n=>(Il.out _).mono fun e w' h=>⟨h.1,n,h.2.symm⟩
 clear As A5 Nw HW kc RA Tj RR G5 Il;generalize decide (0<=ms/\ms<256)=h1 at *
 generalize decide (0<=md/\md<256)=h2 at *
 generalize decide (0<mr/\mr<=15)=br at *
 generalize decide (ms<128)=c1 at *
 generalize decide (md<128)=c2 at *
 have hT:=HT.out;clear HT;go_wp2_with fail;rcases hT with ⟨rfl,rfl⟩|⟨rfl,rfl,rfl⟩|⟨rfl,rfl,rfl,rfl⟩|⟨rfl,rfl,rfl,rfl,rfl⟩|⟨rfl,rfl,rfl,rfl,rfl,rfl⟩|⟨rfl,rfl,rfl,rfl,rfl,Bt,rfl⟩|⟨rfl,rfl,rfl,rfl,rfl,Bt,Bp,rfl⟩|⟨rfl,rfl,rfl,rfl,rfl,Bt,Bp,rfl,rfl⟩|⟨rfl,rfl,rfl,rfl,rfl,Bt,Bp,rfl,rfl,rfl⟩|⟨rfl,rfl,rfl,rfl,rfl,Bt,Bp,rfl,rfl,rfl⟩
 ·refine E3.mono ?_;rintro rv w' ⟨rfl,rfl⟩;go_wp2_with fail
  first|exact⟨rfl,Ao.out _⟩|exact⟨rfl,Ao.out 0⟩|(go_ret;first|exact⟨rfl,Ao.out _⟩|exact⟨rfl,Ao.out 0⟩)
 ·refine E3.mono ?_;rintro rv w' ⟨rfl,rfl⟩;go_wp2_with fail;refine EW.mono ?_;rintro rv w' ⟨rfl,rfl⟩;go_wp2_with fail
  first|exact⟨rfl,Ao.out _⟩|exact⟨rfl,Ao.out 0⟩|(go_ret;first|exact⟨rfl,Ao.out _⟩|exact⟨rfl,Ao.out 0⟩)
 ·refine E3.mono ?_;rintro rv w' ⟨rfl,rfl⟩;go_wp2_with fail;refine EW.mono ?_;rintro rv w' ⟨rfl,rfl⟩;go_wp2_with fail
  go_quiet (first|(go_at_call 76;exact Di.out _)|(go_at_call 77;exact Ck.out _)|(go_at_call 77;exact Cm.out _))
  go_wp2_with fail
  first|exact⟨rfl,Ao.out _⟩|exact⟨rfl,Ao.out 0⟩|(go_ret;first|exact⟨rfl,Ao.out _⟩|exact⟨rfl,Ao.out 0⟩)
 ·cases c2
  ·refine E3.mono ?_;rintro rv w' ⟨rfl,rfl⟩;go_wp2_with fail;refine EW.mono ?_;rintro rv w' ⟨rfl,rfl⟩;go_wp2_with fail
   go_quiet (first|(go_at_call 76;exact Di.out _)|(go_at_call 77;exact Ck.out _)|(go_at_call 77;exact Cm.out _))
   go_wp2_with fail
   first|exact⟨rfl,Ao.out _⟩|exact⟨rfl,Ao.out 0⟩|(go_ret;first|exact⟨rfl,Ao.out _⟩|exact⟨rfl,Ao.out 0⟩)
  ·refine E3.mono ?_;rintro rv w' ⟨rfl,rfl⟩;go_wp2_with fail;refine EW.mono ?_;rintro rv w' ⟨rfl,rfl⟩;go_wp2_with fail
   go_quiet (first|(go_at_call 76;exact Di.out _)|(go_at_call 77;exact Ck.out _)|(go_at_call 77;exact Cm.out _))
   go_wp2_with fail
   first|exact⟨rfl,Ao.out _⟩|exact⟨rfl,Ao.out 0⟩|(go_ret;first|exact⟨rfl,Ao.out _⟩|exact⟨rfl,Ao.out 0⟩)
 ·cases c1
  ·refine E3.mono ?_;rintro rv w' ⟨rfl,rfl⟩;go_wp2_with fail;refine EW.mono ?_;rintro rv w' ⟨rfl,rfl⟩;go_wp2_with fail
   go_quiet (first|(go_at_call 76;exact Di.out _)|(go_at_call 77;exact Ck.out _)|(go_at_call 77;exact Cm.out _))
   go_wp2_with fail
   first|exact⟨rfl,Ao.out _⟩|exact⟨rfl,Ao.out 0⟩|(go_ret;first|exact⟨rfl,Ao.out _⟩|exact⟨rfl,Ao.out 0⟩)
  ·refine E3.mono ?_;rintro rv w' ⟨rfl,rfl⟩;go_wp2_with fail;refine EW.mono ?_;rintro rv w' ⟨rfl,rfl⟩;go_wp2_with fail
   go_quiet (first|(go_at_call 76;exact Di.out _)|(go_at_call 77;exact Ck.out _)|(go_at_call 77;exact Cm.out _))
   go_wp2_with fail
   first|exact⟨rfl,Ao.out _⟩|exact⟨rfl,Ao.out 0⟩|(go_ret;first|exact⟨rfl,Ao.out _⟩|exact⟨rfl,Ao.out 0⟩)
 ·cases c1
  ·refine E3.mono ?_;rintro rv w' ⟨rfl,rfl⟩;go_wp2_with fail;refine EW.mono ?_;rintro rv w' ⟨rfl,rfl⟩;go_wp2_with fail
   go_quiet (first|(go_at_call 76;exact Di.out _)|(go_at_call 77;exact Ck.out _)|(go_at_call 77;exact Cm.out _))
   go_wp2_with fail
   first|exact⟨rfl,Ao.out _⟩|exact⟨rfl,Ao.out 0⟩|(go_ret;first|exact⟨rfl,Ao.out _⟩|exact⟨rfl,Ao.out 0⟩)
  ·refine E3.mono ?_;rintro rv w' ⟨rfl,rfl⟩;go_wp2_with fail;refine EW.mono ?_;rintro rv w' ⟨rfl,rfl⟩;go_wp2_with fail
   go_quiet (first|(go_at_call 76;exact Di.out _)|(go_at_call 77;exact Ck.out _)|(go_at_call 77;exact Cm.out _))
   go_wp2_with fail
   first|exact⟨rfl,Ao.out _⟩|exact⟨rfl,Ao.out 0⟩|(go_ret;first|exact⟨rfl,Ao.out _⟩|exact⟨rfl,Ao.out 0⟩)
 ·cases c1
  ·refine E3.mono ?_;rintro rv w' ⟨rfl,rfl⟩;go_wp2_with fail;refine EW.mono ?_;rintro rv w' ⟨rfl,rfl⟩;go_wp2_with fail
   go_quiet (first|(go_at_call 76;exact Di.out _)|(go_at_call 77;exact Ck.out _)|(go_at_call 77;exact Cm.out _))
   go_wp2_with fail
   first|exact⟨rfl,Ao.out _⟩|exact⟨rfl,Ao.out 0⟩|(go_ret;first|exact⟨rfl,Ao.out _⟩|exact⟨rfl,Ao.out 0⟩)
  ·refine E3.mono ?_;rintro rv w' ⟨rfl,rfl⟩;go_wp2_with fail;refine EW.mono ?_;rintro rv w' ⟨rfl,rfl⟩;go_wp2_with fail
   go_quiet (first|(go_at_call 76;exact Di.out _)|(go_at_call 77;exact Ck.out _)|(go_at_call 77;exact Cm.out _))
   go_wp2_with fail
   first|exact⟨rfl,Ao.out _⟩|exact⟨rfl,Ao.out 0⟩|(go_ret;first|exact⟨rfl,Ao.out _⟩|exact⟨rfl,Ao.out 0⟩)
 ·cases c1
  ·refine E3.mono ?_;rintro rv w' ⟨rfl,rfl⟩;go_wp2_with fail;refine EW.mono ?_;rintro rv w' ⟨rfl,rfl⟩;go_wp2_with fail
   go_quiet (first|(go_at_call 76;exact Di.out _)|(go_at_call 77;exact Ck.out _)|(go_at_call 77;exact Cm.out _))
   go_wp2_with fail
   first|exact⟨rfl,Ao.out _⟩|exact⟨rfl,Ao.out 0⟩|(go_ret;first|exact⟨rfl,Ao.out _⟩|exact⟨rfl,Ao.out 0⟩)
  ·refine E3.mono ?_;rintro rv w' ⟨rfl,rfl⟩;go_wp2_with fail;refine EW.mono ?_;rintro rv w' ⟨rfl,rfl⟩;go_wp2_with fail
   go_quiet (first|(go_at_call 76;exact Di.out _)|(go_at_call 77;exact Ck.out _)|(go_at_call 77;exact Cm.out _))
   go_wp2_with fail
   first|exact⟨rfl,Ao.out _⟩|exact⟨rfl,Ao.out 0⟩|(go_ret;first|exact⟨rfl,Ao.out _⟩|exact⟨rfl,Ao.out 0⟩)
 ·cases c1
  ·refine E3.mono ?_;rintro rv w' ⟨rfl,rfl⟩;go_wp2_with fail;refine EW.mono ?_;rintro rv w' ⟨rfl,rfl⟩;go_wp2_with fail
   go_quiet (first|(go_at_call 76;exact Di.out _)|(go_at_call 77;exact Ck.out _)|(go_at_call 77;exact Cm.out _))
   go_wp2_with fail
   first|exact⟨rfl,Ao.out _⟩|exact⟨rfl,Ao.out 0⟩|(go_ret;first|exact⟨rfl,Ao.out _⟩|exact⟨rfl,Ao.out 0⟩)
  ·refine E3.mono ?_;rintro rv w' ⟨rfl,rfl⟩;go_wp2_with fail;refine EW.mono ?_;rintro rv w' ⟨rfl,rfl⟩;go_wp2_with fail
   go_quiet (first|(go_at_call 76;exact Di.out _)|(go_at_call 77;exact Ck.out _)|(go_at_call 77;exact Cm.out _))
   go_wp2_with fail
   first|exact⟨rfl,Ao.out _⟩|exact⟨rfl,Ao.out 0⟩|(go_ret;first|exact⟨rfl,Ao.out _⟩|exact⟨rfl,Ao.out 0⟩)
 ·cases c1
  ·refine E3.mono ?_;rintro rv w' ⟨rfl,rfl⟩;go_wp2_with fail;refine EW.mono ?_;rintro rv w' ⟨rfl,rfl⟩;go_wp2_with fail
   go_quiet (first|(go_at_call 76;exact Di.out _)|(go_at_call 77;exact Ck.out _)|(go_at_call 77;exact Cm.out _))
   go_wp2_with fail
   first|exact⟨rfl,Ao.out _⟩|exact⟨rfl,Ao.out 0⟩|(go_ret;first|exact⟨rfl,Ao.out _⟩|exact⟨rfl,Ao.out 0⟩)
  ·refine E3.mono ?_;rintro rv w' ⟨rfl,rfl⟩;go_wp2_with fail;refine EW.mono ?_;rintro rv w' ⟨rfl,rfl⟩;go_wp2_with fail
   go_quiet (first|(go_at_call 76;exact Di.out _)|(go_at_call 77;exact Ck.out _)|(go_at_call 77;exact Cm.out _))
   go_wp2_with fail
   first|exact⟨rfl,Ao.out _⟩|exact⟨rfl,Ao.out 0⟩|(go_ret;first|exact⟨rfl,Ao.out _⟩|exact⟨rfl,Ao.out 0⟩)
end Go.Proofs.YtlakjlmaboioiaaGreatDoor

/- What the laws of spaces share is proved. No condition. Part of a proof. -/
import Derived.Test.YtfidemmgofcnmaaGreatDoorAt19
import Derived.ProofKit
import Derived.Deep.Slices
import Derived.OpenShut
set_option maxHeartbeats 8000000
set_option maxRecDepth 100000
set_option linter.unusedVariables false
namespace Go.Proofs.YtfidemmgofcnmaaGreatDoor
open Go.RowKit Go.Proofs.Tryz
def J1y(bh bm bc bk full:Bool)(er:Int):Prop:=(bh=false/\er=2)∨(bh=true/\bm=false/\er=1)∨(bh=true/\bm=true/\(bc==bk)=true/\er=1)∨(bh=true/\bm=true/\(bc==bk)=false/\full=true/\er=7)
def Z5t(Z:SP)(g x f B:Nat)(w':World):Prop:=w'.cell? ⟨Z.s,0,none⟩=some (.pointer (some ⟨Z.S.c,0,none⟩))/\w'.cell? ⟨Z.s,1,none⟩=some (.pointer (some ⟨Z.F.f,0,none⟩))/\w'.cell? ⟨B,0,none⟩=some (.pointer (some ⟨g,0,none⟩))/\w'.cell? ⟨B,1,none⟩=some (.int .u32 x)/\w'.cell? ⟨B,2,none⟩=some (.int .i64 f)
def Z1e(Z:SP)(g x f B y:Nat)(z k lim:Int)(Q:Nat->Int->World->Prop)(w5:World):Prop:=
 Calls prog 79 #[.pointer (some ⟨Z.S.c,0,none⟩),.int .u32 y,.int .i64 k,.int .i64 lim] w5 fun rv w6=>∃(hh:Nat) (er:Int),rv=.returned (.tuple #[.int .u32 hh,.int .i64 er])/\Z5t Z g x f B w6 /\
  ((er≠0/\Calls prog 99 #[.pointer (some ⟨Z.s,0,none⟩),.agg #[.pointer (some ⟨g,0,none⟩),.int .u32 x,.int .i64 f],.int .i64 z] w6 fun rv w7=>rv=.returned (.tuple #[])/\Q 0 er w7) ∨
   (er=0/\∃a b c:Nat,Calls prog 102 #[.pointer (some ⟨g,0,none⟩),.int .i64 z] w6 (fun rv w7=>rv=.returned (.tuple #[.int .u64 a,.int .u64 b])/\w6=w7) /\
   (∀w8,Below w6.heap.size w6 w8->Z5t Z g x f B w8/\Calls prog 104 #[.agg #[.int .u32 hh,.int .i64 15]] w8 (Told w8 (.int .u64 c)) /\
    Calls prog 103 #[.pointer (some ⟨g,0,none⟩),.int .i64 z,.int .u64 c,.int .u64 b] w8 fun rv w9=>(∃v,rv=.returned (.int .i64 v))/\Z5t Z g x f B w9/\∀n,
    Calls prog 105 #[.pointer (some ⟨Z.F.f,0,none⟩),.int .i64 0,.int .i64 x,.int .i64 z] (w9.drewN n) fun rv w'=>(∃a b:Value,rv=.returned (.tuple #[a,b]))/\Q hh 0 w')))
theorem Z2D{w:World}{Z:SP}{fr:List Nat}{N K:Nat}{M:Int}(hs:Sep w Z.hl)(ok:Z.Ok fr N K M){x y:Nat}(hx:x<4294967296){p:Pl}(hp:pget Z.S.l 1 x=some p)(hk:p.kind=2)(z k lim:Int){Q:Nat->Int->World->Prop}
  (Az:(∃er,J1y (decide (0<=z/\z<256)) (decide (k=8∨1<=k/\k<=5)) (decide (z<128)) (k==8) ((Z.tb (x%256)).at' z).isSome er/\∀W,Below w.heap.size w W->Q 0 er W) ∨
   (decide (0<=z/\z<256)=true/\decide (k=8∨1<=k/\k<=5)=true/\(decide (z<128)==(k==8))=false/\((Z.tb (x%256)).at' z).isSome=false /\
    ∀W g B,Below w.heap.size w W->TblZ Z p g W->AsideV Z.hl [.pointer (some ⟨g,0,none⟩),.int .u32 x,.int .i64 (p.fac:Int)] (some ⟨B,0,none⟩) W->Calls prog 98 #[.pointer (some ⟨Z.s,0,none⟩),.agg #[.pointer (some ⟨g,0,none⟩),.int .u32 x,.int .i64 (p.fac:Int)],.int .i64 z,.agg #[.int .u32 0,.int .i64 15]] W fun rv w5=>∃er:Int,rv=.returned (.int .i64 er) /\
     ((er≠0/\Q 0 er w5)∨(er=0/\Z5t Z g x p.fac B w5/\Z1e Z g x p.fac B y z k lim Q w5)))) :
  Calls prog 40 #[.pointer (some ⟨Z.s,0,none⟩),.int .u32 x,.int .i64 z,.int .u32 y,.int .i64 k,.int .i64 lim] w fun rv w'=>∃(hh:Nat) (er:Int),rv=.returned (.tuple #[.int .u32 hh,.int .i64 er])/\Q hh er w':=by
 have ks:=Q0W hs ok.core hx hp hk;have hi:=(pget_some.1 hp).1;have Aq:=(pget_some.1 hp).2.2;obtain⟨ca,cb,B5⟩:=Q3h ((Z.tb (x%256)).at' z);have AW:(Z.tb (x%256)).at' z=if 0<=z/\z<256 then Q0g Z.S.l Z.tb x z.toNat else none:=by
  unfold TB.at';split
  ·rename_i h;rw[Q0h hp hk (by omega)]
  ·rfl
 have F6:Hid (∀W g,Below w.heap.size w W->TblZ Z p g W->Calls prog 93 #[.agg #[.pointer (some ⟨g,0,none⟩),.int .u32 x,.int .i64 (p.fac:Int)],.int .i64 z] W (Told W (.tuple #[.agg #[.int .u32 ca,.int .i64 cb],.bool ((Z.tb (x%256)).at' z).isSome]))):=fun W g hb hg=>by
  have T:=(ok.tpi.x (p.fac:Int)).tt ok.core hi Aq hk (SP.sS (hs.grown hb).sep) hg.c;have:=Q1s T (x:Int) (p.fac:Int) z fun e AH=>by
   rw[AW] at AH;split at AH
   ·exact ok.fpi.low ok.core.inv.lok AH
   ·cases AH
  rwa [B5] at this
 have Ix:Hid (∀(w2:World) (g:Nat),Below w.heap.size w w2->TblZ Z p g w2->∀W,Below (w2.alloc (.cells #[.pointer (some ⟨g,0,none⟩),.int .u32 x,.int .i64 (p.fac:Int)] 191)).heap.size (w2.alloc (.cells #[.pointer (some ⟨g,0,none⟩),.int .u32 x,.int .i64 (p.fac:Int)] 191)) W ->
   Below w.heap.size w W/\TblZ Z p g W/\AsideV Z.hl [.pointer (some ⟨g,0,none⟩),.int .u32 x,.int .i64 (p.fac:Int)] (some ⟨w2.heap.size,0,none⟩) W):=fun w2 g Ae hg W FZ=>by
  have s2:=(hs.grown Ae).sep;have An:Below w2.heap.size w2 W:=Q0b FZ;have h9:=(Cells.new w2 191 [.pointer (some ⟨g,0,none⟩),.int .u32 x,.int .i64 (p.fac:Int)]).same (FZ.block w2.heap.size (by simp));refine⟨Ae.trans (An.mono Ae.size),hg.grown s2 An,fun j v hj=>⟨w2.heap.size,rfl,fun hk=>?_,h9.lt,h9.cell j v hj⟩⟩;exact absurd (s2.lt hk) (Nat.lt_irrefl _)
 have Cr:=Q0a Az;have AT:Hid (∀W,Calls prog 92 #[.int .i64 z] W fun r w'=>r=.returned (.bool (decide (0<=z/\z<256)))/\W=w'):=fun W=>Q2s W z
 have IU:Hid (∀W,Calls prog 101 #[.int .i64 k] W fun r' w'=>r'=.returned (.bool (decide (k=8∨1<=k/\k<=5)))/\W=w'):=fun W=>Z5s W k
 have Dq:Hid (∀W,Calls prog 96 #[.int .i64 z] W fun r w'=>r=.returned (.bool (decide (z<128)))/\W=w'):=fun W=>Q2e W z
 have CI:(0:Int)<=(x:Int):=by omega
 have Hj:(x:Int)<4294967296:=by omega
 have L1:IntKind.i64.wrap (x:Int)=(x:Int):=Go.IntWalk.i64_in _ (by omega);generalize ((Z.tb (x%256)).at' z).isSome=full at *
 generalize decide (0<=z/\z<256)=bh at *
 generalize decide (k=8∨1<=k/\k<=5)=bm at *
 generalize decide (z<128)=bc at *
 clear hs ok hx hp hk hi Aq B5 AW Az;go_enter func40,ntmps40;go_wp2_with fail;refine ks.mono ?_;rintro rv w2⟨g,rfl,Ae,hg⟩;have HW:=Q0a (Ix.out w2 g Ae hg);obtain⟨An,Kq,Oa⟩:=HW.out _ (Below.refl _ _);have kc:=F6.out _ g An Kq;have v0:=Oa.at 0 _ rfl;have v1:=Oa.at 1 _ rfl;have v2:=Oa.at 2 _ rfl;clear Ae hg Ix ks F6 An Kq Oa;go_wp2_with fail;refine kc.mono ?_;rintro rv w6⟨rfl,Ch⟩;go_wp2_with fail;generalize hW7:(w6.alloc (.cells #[.int .u32 ca,.int .i64 cb] 72))=w7;have CD:=Q0a (HW.out w7 (by rw[<- hW7];exact Ch.alloc Ch.size _));have kh:=AT.out w7;have km:=IU.out w7
 have kp:=Dq.out w7;clear hW7 Ch kc v0 v1 v2 HW IU Dq AT;rcases Cr.out with ⟨er,hT,hQ⟩|⟨rfl,rfl,AK,rfl,hl⟩
 ·have HQ:=Q0a (hQ _ CD.out.1);clear hQ Cr;rcases hT with ⟨rfl,rfl⟩|⟨rfl,rfl,rfl⟩|⟨rfl,rfl,AK,rfl⟩|⟨rfl,rfl,AK,rfl,rfl⟩
  ·refine kh.mono ?_;rintro rv w'⟨rfl,rfl⟩;go_wp2_with fail
   (try go_ret2);exact⟨0,_,rfl,HQ.out⟩
  ·refine kh.mono ?_;rintro rv w'⟨rfl,rfl⟩;go_wp2_with fail;refine km.mono ?_;rintro rv w'⟨rfl,rfl⟩;go_wp2_with fail
   (try go_ret2);exact⟨0,_,rfl,HQ.out⟩
  ·have hc:=Q8U AK;clear AK;rcases hc with ⟨rfl,rfl⟩|⟨rfl,Nj,Nb⟩
   ·refine kh.mono ?_;rintro rv w'⟨rfl,rfl⟩;go_wp2_with fail;refine km.mono ?_;rintro rv w'⟨rfl,rfl⟩;go_wp2_with fail;refine kp.mono ?_;rintro rv w'⟨rfl,rfl⟩;go_wp2_with fail
    (try go_ret2);exact⟨0,_,rfl,HQ.out⟩
   ·refine kh.mono ?_;rintro rv w'⟨rfl,rfl⟩;go_wp2_with fail;refine km.mono ?_;rintro rv w'⟨rfl,rfl⟩;go_wp2_with fail;refine kp.mono ?_;rintro rv w'⟨rfl,rfl⟩;go_wp2_with fail
    (try go_ret2);exact⟨0,_,rfl,HQ.out⟩
  ·have hc:=Q2Q AK;clear AK;rcases hc with ⟨rfl,Nj,Nb⟩|⟨rfl,rfl⟩
   ·refine kh.mono ?_;rintro rv w'⟨rfl,rfl⟩;go_wp2_with fail;refine km.mono ?_;rintro rv w'⟨rfl,rfl⟩;go_wp2_with fail;refine kp.mono ?_;rintro rv w'⟨rfl,rfl⟩;go_wp2_with fail
    (try go_ret2);exact⟨0,_,rfl,HQ.out⟩
   ·refine kh.mono ?_;rintro rv w'⟨rfl,rfl⟩;go_wp2_with fail;refine km.mono ?_;rintro rv w'⟨rfl,rfl⟩;go_wp2_with fail;refine kp.mono ?_;rintro rv w'⟨rfl,rfl⟩;go_wp2_with fail
    (try go_ret2);exact⟨0,_,rfl,HQ.out⟩
 ·have HL:=Q0a (hl w7 g w2.heap.size CD.out.1 CD.out.2.1 CD.out.2.2);have v0:=CD.out.2.2.at 0 _ rfl;have v1:=CD.out.2.2.at 1 _ rfl;have v2:=CD.out.2.2.at 2 _ rfl;clear hl Cr;have hc:=Q2Q AK;clear AK;rcases hc with ⟨rfl,Nj,Nb⟩|⟨rfl,rfl⟩
  ·refine kh.mono ?_;rintro rv w'⟨rfl,rfl⟩;go_wp2_with fail;refine km.mono ?_;rintro rv w'⟨rfl,rfl⟩;go_wp2_with fail;refine kp.mono ?_;rintro rv w'⟨rfl,rfl⟩;go_wp2_with fail;refine HL.out.mono ?_;rintro rv w5⟨er,rfl,⟨Ac,hq⟩|⟨rfl,⟨c0,c1,v0,v1,v2⟩,Er⟩⟩
   ·have Bk:(er != 0)=true:=by simp[Ac]
    have HQ:=Q0a hq;clear hq;go_wp2_with fail
    (try go_ret2);exact⟨0,_,rfl,HQ.out⟩
   ·have HT:=Q0a Er;clear Er kh km kp HL;go_wp2_with fail;refine HT.out.mono ?_;clear v0 v1 v2 c0 c1;rintro rv w6⟨hh,er,rfl,⟨c0,c1,v0,v1,v2⟩,⟨Ac,hb⟩|⟨rfl,a,b,c,CM,h8⟩⟩
    ·have Bk:(er != 0)=true:=by simp[Ac]
     have BZ:=Q0a hb;clear hb HT;go_wp2_with fail;refine BZ.out.mono ?_;rintro rv w8⟨rfl,hq⟩;have HQ:=Q0a hq;clear hq;go_wp2_with fail
     (try go_ret2);exact⟨0,_,rfl,HQ.out⟩
    ·have H8:=Q0a h8;clear h8 HT;go_wp2_with fail;refine CM.mono ?_;rintro rv w'⟨rfl,rfl⟩;clear CM;have Pr:=(H8.out w6.drew (Below.refl _ _).drew).2.1;have d0:w6.drew.cell? ⟨w2.heap.size,0,none⟩=some (.pointer (some ⟨g,0,none⟩)):=v0;go_wp2_with fail
     go_region_held3 (fun w'=>w'.cell? ⟨w2.heap.size,0,none⟩=some (.pointer (some ⟨g,0,none⟩))) (first|exact v0|exact d0|exact e0|exact m0)
      (first|(go_at_call 104;refine Pr.mono ?_;rintro rv w8⟨rfl,IJ⟩;have h9:=H8.out w8 ((Below.refl w6.heap.size w6).drew.trans (IJ.mono (J1E _)));have e0:=h9.1.2.2.1;have C5:=Q0a h9.2.2;clear h9 IJ)|(go_at_call 103;refine C5.out.mono ?_;rintro rv w9⟨⟨sv,rfl⟩,⟨-,m1,m0,-,-⟩,Bp⟩;have Df:=Q0a Bp;clear Bp))
     go_wp2_with fail;refine(Df.out 0).mono ?_;rintro rv w10⟨⟨ra,rb,rfl⟩,hq⟩;have HQ:=Q0a hq;clear hq;go_wp2_with fail
     (try go_ret2);exact⟨hh,_,rfl,HQ.out⟩
  ·refine kh.mono ?_;rintro rv w'⟨rfl,rfl⟩;go_wp2_with fail;refine km.mono ?_;rintro rv w'⟨rfl,rfl⟩;go_wp2_with fail;refine kp.mono ?_;rintro rv w'⟨rfl,rfl⟩;go_wp2_with fail;refine HL.out.mono ?_;rintro rv w5⟨er,rfl,⟨Ac,hq⟩|⟨rfl,⟨c0,c1,v0,v1,v2⟩,Er⟩⟩
   ·have Bk:(er != 0)=true:=by simp[Ac]
    have HQ:=Q0a hq;clear hq;go_wp2_with fail
    (try go_ret2);exact⟨0,_,rfl,HQ.out⟩
   ·have HT:=Q0a Er;clear Er kh km kp HL;go_wp2_with fail;refine HT.out.mono ?_;clear v0 v1 v2 c0 c1;rintro rv w6⟨hh,er,rfl,⟨c0,c1,v0,v1,v2⟩,⟨Ac,hb⟩|⟨rfl,a,b,c,CM,h8⟩⟩
    ·have Bk:(er != 0)=true:=by simp[Ac]
     have BZ:=Q0a hb;clear hb HT;go_wp2_with fail;refine BZ.out.mono ?_;rintro rv w8⟨rfl,hq⟩;have HQ:=Q0a hq;clear hq;go_wp2_with fail
     (try go_ret2);exact⟨0,_,rfl,HQ.out⟩
    ·have H8:=Q0a h8;clear h8 HT;go_wp2_with fail;refine CM.mono ?_;rintro rv w'⟨rfl,rfl⟩;clear CM;have Pr:=(H8.out w6.drew (Below.refl _ _).drew).2.1;have d0:w6.drew.cell? ⟨w2.heap.size,0,none⟩=some (.pointer (some ⟨g,0,none⟩)):=v0;go_wp2_with fail
     go_region_held3 (fun w'=>w'.cell? ⟨w2.heap.size,0,none⟩=some (.pointer (some ⟨g,0,none⟩))) (first|exact v0|exact d0|exact e0|exact m0)
      (first|(go_at_call 104;refine Pr.mono ?_;rintro rv w8⟨rfl,IJ⟩;have h9:=H8.out w8 ((Below.refl w6.heap.size w6).drew.trans (IJ.mono (J1E _)));have e0:=h9.1.2.2.1;have C5:=Q0a h9.2.2;clear h9 IJ)|(go_at_call 103;refine C5.out.mono ?_;rintro rv w9⟨⟨sv,rfl⟩,⟨-,m1,m0,-,-⟩,Bp⟩;have Df:=Q0a Bp;clear Bp))
     go_wp2_with fail;refine(Df.out 0).mono ?_;rintro rv w10⟨⟨ra,rb,rfl⟩,hq⟩;have HQ:=Q0a hq;clear hq;go_wp2_with fail
     (try go_ret2);exact⟨hh,_,rfl,HQ.out⟩
theorem Q8X{l:List Pl}{i:Nat}{p q:Pl}(hi:l[i]?=some p)(hp:p.st=0){x:Nat}{r:Pl}(hr:pget l 1 x=some r):pget (l.set i q) 1 x=some r:=by
 obtain⟨a,b,c⟩:=pget_some.1 hr;rw[Q2o q hi,if_neg]
 ·exact hr
 ·intro e;rw[e,hi] at a;cases a;omega
theorem Q7b{l:List Pl}{tb:Nat->TB}{i:Nat}{p q:Pl}(hi:l[i]?=some p)(hn:(tb i).Nil)(h s:Nat):Q0g (l.set i q) tb h s=Q0g l tb h s:=by
 by_cases e:h%256=i
 ·have z:∀l',Q0g l' tb h s=none:=fun l'=>by
   unfold Q0g;split
   ·split
    ·rename_i hc;rw[e];exact hn.2 s hc.2
    ·rfl
   ·rfl
  rw[z,z]
 ·unfold Q0g;rw[Q2o q hi,if_neg e]
section
variable {Z:SP} {fr fr':List Nat} {N K:Nat} {M:Int}
theorem SP.Ok.made_added(ok:Z.Ok fr N K M){x s:Nat}{p:Pl}(hp:pget Z.S.l 1 x=some p)(hk:p.kind=2)(hs:s<256)(h0:Q0g Z.S.l Z.tb x s=none){S1:CO}{t1:TB}{e1:Ent}(T1:TurnP Z.S fr N K Z.tb (p.fac:Int) (x%256) s (some e1) S1 t1)
  {f q:Pl} {ef:En Fa} {n a y i:Nat} {lim:Int} {P':PL} (m:MadeOk S1 fr f ef n a lim y i q P' fr') (hi:S1.l[i]?=some q) (hq:q.st=0) {e2:Ent} (hc:Q6q (S1.made f n a y i q P').l s e2)
  {S3:CO} {t3:TB} (T3:TurnP (S1.made f n a y i q P') fr' (N+1) K (updT Z.tb (x%256) t1) (p.fac:Int) (x%256) s (some e2) S3 t3) {F':FO} (A:Z0Y Z.F 0 (x:Int) (s:Int) F') :
  ((Z.setF F').setS S3 (updT Z.tb (x%256) t3)).Ok fr' (N+1) K (M+1)/\((Z.setF F').setS S3 (updT Z.tb (x%256) t3)).av.en=setA Z.av.en x s (some (e2.h,e2.r))/\∃b,((Z.setF F').setS S3 (updT Z.tb (x%256) t3)).av.N=addN Z.F.N 0 (Z.F.next+1) b (x:Int) (s:Int):=by
 have Dt:S1.l=Z.S.l:=T1.alt.l;have DL:(S1.made f n a y i q P').l=Z.S.l.set i ⟨n,a,f.own,1,q.age,y⟩:=by
  show S1.l.set i _=_;rw[Dt]
 have LQ:S3.l=Z.S.l.set i ⟨n,a,f.own,1,q.age,y⟩:=T3.alt.l.trans DL;have BB:Z.S.l[i]?=some q:=by rw[<- Dt];exact hi
 have DY:(Z.tb i).Nil:=ok.tpi.nil i q BB (by omega);obtain⟨b,hN⟩:=A.N;have Ax:pget (Z.S.l.set i ⟨n,a,f.own,1,q.age,y⟩) 1 x=some p:=Q8X BB hq hp;have U1:Q0g (Z.S.l.set i ⟨n,a,f.own,1,q.age,y⟩) Z.tb x s=none:=by rw[Q7b BB DY];exact h0
 have Bz:∀z,t3.en z=if z=s then some e2 else(Z.tb (x%256)).en z:=fun z=>by
  rw[T3.en z,updT_same,T1.en z];split <;> rfl
 have Dh:=Q5N Z.F.N F'.N Ax hk hs Bz;have Gq:((Z.setF F').setS S3 (updT Z.tb (x%256) t3)).av=⟨setA Z.av.en x s ((some e2).map Ent.c),F'.N⟩:=by
  show avOf S3.l (updT Z.tb (x%256) t3) F'.N=_;rw[LQ,Dh];congr 2;unfold SP.av avOf;funext h' s';simp only;rw[Q7b BB DY]
 have Ke:=T3.tpi;rw[Q0U] at Ke;refine⟨⟨T3.ok,Ke,?_,A.ok,by show F'.next<=M+1;rw[A.next];have:=ok.next;omega⟩,by rw[Gq];rfl,b,by rw[Gq];exact hN⟩;show FPI S3.l _ F'.N;rw[LQ,hN];rw[DL] at hc;exact(ok.fpi.made (q:=⟨n,a,f.own,1,q.age,y⟩) BB hq DY).add ok.fo.n Ax hk hs U1 Bz hc b (.inl rfl)
end
end Go.Proofs.YtfidemmgofcnmaaGreatDoor
namespace Go.Proofs.YtfidemmgofcnmaaGreatDoor
open Go.ChangeShapes Go.WideShapes Go.ChangeAt Go.RowKit Go.Deep Go.Proofs.Tryz
theorem Q2u{w:World}{x:Addr}{v:Value}(h:w.cell? x=some v):x=⟨x.block,x.off,none⟩:=by
 obtain⟨b,o,s⟩:=x;cases s with
 | none=>rfl
 | some s =>
  exfalso;unfold World.cell? at h;split at h <;> simp at h
theorem add_plain5(b o j:Nat):(⟨b,o,none⟩:Addr).add j=⟨b,o+j,none⟩:=by
 unfold Addr.add;split
 ·rename_i h;simp
 ·rfl
abbrev I64(x:Int):Prop:=-9223372036854775808<=x/\x<=9223372036854775807
structure Mv where
 src:Int
 dst:Int
 r:Int
 g:Bool
def Mv.cells(x:Mv):List Value:=[.int .i64 x.src,.int .i64 x.dst,.int .i64 x.r,.bool x.g]
structure Mv.Wf(x:Mv):Prop where
 src:I64 x.src
 dst:I64 x.dst
 r:I64 x.r
structure It where
 base:Int
 order:Int
 r:Int
 off:Int
 g:Bool
def It.cells(x:It):List Value:=[.int .i64 x.base,.int .i64 x.order,.int .i64 x.r,.int .i64 x.off,.bool x.g]
structure It.Wf(x:It):Prop where
 base:I64 x.base
 order:I64 x.order
 r:I64 x.r
 off:I64 x.off
structure Wi where
 base:Int
 order:Int
def Wi.cells(x:Wi):List Value:=[.int .i64 x.base,.int .i64 x.order]
structure Wi.Wf(x:Wi):Prop where
 base:I64 x.base
 order:I64 x.order
def IsMv(w:World)(a0:Option Addr)(len:Nat)(A:Nat->Mv):Prop:=∀j,j<len->∃g off,a0=some ⟨g,off,none⟩/\g<w.heap.size/\(∀(i:Nat) (v:Value),(A j).cells[i]?=some v->w.cell? ⟨g,off+j*4+i,none⟩=some v)/\(A j).Wf
theorem IsMv.below{w w':World}{a0:Option Addr}{len:Nat}{A:Nat->Mv}(h:IsMv w a0 len A)(hb:Below w.heap.size w w'):IsMv w' a0 len A:=by
 intro j hj;obtain⟨g,off,h1,h2,h3,h4⟩:=h j hj;have e:=hb.block g h2;exact⟨g,off,h1,J1G h2 hb.size,fun i v hv=>(World.cell?_of_block (w:=w) e).trans (h3 i v hv),h4⟩
structure A17 where
 kind:Int
 n:Int
 k:Int
 m:Int
 t:Int
 u:Int
 s:Int
 r:Int
 self:Bool
 la:Option Addr
 ll:Nat
 lc:Nat
 L:Nat->Mv
 i:It
 w:Wi
def A17.cells(x:A17):List Value:=[.int .i64 x.kind,.int .i64 x.n,.int .i64 x.k,.int .i64 x.m,.int .i64 x.t,.int .i64 x.u,.int .i64 x.s,.int .i64 x.r,.bool x.self,.slice x.la x.ll x.lc]++x.i.cells++x.w.cells
structure A17.Wf(x:A17):Prop where
 n:I64 x.n
 k:I64 x.k
 m:I64 x.m
 t:I64 x.t
 u:I64 x.u
 s:I64 x.s
 r:I64 x.r
 len:x.ll<=x.lc/\x.lc<=maxLen
 i:x.i.Wf
 w:x.w.Wf
theorem Z5u:prog.cellsOf 67=17:=by kernel_rfl
theorem Q8Y:prog.cellsOf 90=4:=by kernel_rfl
theorem Q5U:prog.cellsOf 63=5:=by kernel_rfl
theorem Q5V:prog.cellsOf 65=2:=by kernel_rfl
theorem Q2f:prog.cellsOf 3=1:=by kernel_rfl
theorem Q3G:prog.cellsOf 4=1:=by kernel_rfl
theorem Z2E:prog.cellsOf 61=1:=by kernel_rfl
theorem Z0c{H:Type}{enc:TypeId×Value->H}{w:World}{n:Nat}{cs:List Value}{y:DataW H×List MemPlace}
  (h:DataW.trod enc prog w 0 (fun _=>true) true n 90 cs=some y):∃x:Mv,cs=x.cells/\x.Wf:=by
 obtain⟨xs,n',_,_,Ab,CU,hf⟩:=DataW.trod_struct underlying90 h;rw[Q8Y] at Ab
 match cs,Ab with
 | [v0,v1,v2,v3],_ =>
  match xs,CU with
  | [y0,y1,y2,y3],_ =>
   have g0:DataW.trod enc prog w 0 (fun _=>true) true n' 3 (List.take (prog.cellsOf 3) (List.drop 0 [v0,v1,v2,v3]))=some y0:=hf 0 _ rfl;have g1:DataW.trod enc prog w 0 (fun _=>true) true n' 3 (List.take (prog.cellsOf 3) (List.drop 1 [v0,v1,v2,v3]))=some y1:=hf 1 _ rfl;have g2:DataW.trod enc prog w 0 (fun _=>true) true n' 3 (List.take (prog.cellsOf 3) (List.drop 2 [v0,v1,v2,v3]))=some y2:=hf 2 _ rfl;have g3:DataW.trod enc prog w 0 (fun _=>true) true n' 4 (List.take (prog.cellsOf 4) (List.drop 3 [v0,v1,v2,v3]))=some y3:=hf 3 _ rfl;rw[Q2f] at g0 g1 g2;rw[Q3G] at g3;simp only[J5o,J5L,J4X,J5M] at g0 g1 g2 g3
   obtain⟨a0,e0,_,Ib⟩:=DataW.trod_int underlying3 g0;have Bq:=bounds_i64 (n:=a0) (by simp_all);obtain⟨a1,e1,_,DD⟩:=DataW.trod_int underlying3 g1;have Ar:=bounds_i64 (n:=a1) (by simp_all);obtain⟨a2,e2,_,Ej⟩:=DataW.trod_int underlying3 g2;have Ae:=bounds_i64 (n:=a2) (by simp_all);obtain⟨a3,e3,_⟩:=DataW.trod_bool underlying4 g3;simp only[J1I,and_true] at e0 e1 e2 e3;subst e0;subst e1;subst e2;subst e3;exact⟨⟨a0,a1,a2,a3⟩,rfl,⟨by simpa using Bq,by simpa using Ar,by simpa using Ae⟩⟩
theorem Q5W{H:Type}{enc:TypeId×Value->H}{w:World}{n:Nat}{cs:List Value}{y:DataW H×List MemPlace}
  (h:DataW.trod enc prog w 0 (fun _=>true) true n 63 cs=some y):∃x:It,cs=x.cells/\x.Wf:=by
 obtain⟨xs,n',_,_,Ab,CU,hf⟩:=DataW.trod_struct underlying63 h;rw[Q5U] at Ab
 match cs,Ab with
 | [v0,v1,v2,v3,v4],_ =>
  match xs,CU with
  | [y0,y1,y2,y3,y4],_ =>
   have g0:DataW.trod enc prog w 0 (fun _=>true) true n' 3 (List.take (prog.cellsOf 3) (List.drop 0 [v0,v1,v2,v3,v4]))=some y0:=hf 0 _ rfl;have g1:DataW.trod enc prog w 0 (fun _=>true) true n' 3 (List.take (prog.cellsOf 3) (List.drop 1 [v0,v1,v2,v3,v4]))=some y1:=hf 1 _ rfl;have g2:DataW.trod enc prog w 0 (fun _=>true) true n' 3 (List.take (prog.cellsOf 3) (List.drop 2 [v0,v1,v2,v3,v4]))=some y2:=hf 2 _ rfl;have g3:DataW.trod enc prog w 0 (fun _=>true) true n' 3 (List.take (prog.cellsOf 3) (List.drop 3 [v0,v1,v2,v3,v4]))=some y3:=hf 3 _ rfl;have g4:DataW.trod enc prog w 0 (fun _=>true) true n' 4 (List.take (prog.cellsOf 4) (List.drop 4 [v0,v1,v2,v3,v4]))=some y4:=hf 4 _ rfl
   rw[Q2f] at g0 g1 g2 g3;rw[Q3G] at g4;simp only[J5o,J5L,J4X,J5M] at g0 g1 g2 g3 g4;obtain⟨a0,e0,_,Ib⟩:=DataW.trod_int underlying3 g0;have Bq:=bounds_i64 (n:=a0) (by simp_all);obtain⟨a1,e1,_,DD⟩:=DataW.trod_int underlying3 g1;have Ar:=bounds_i64 (n:=a1) (by simp_all);obtain⟨a2,e2,_,Ej⟩:=DataW.trod_int underlying3 g2;have Ae:=bounds_i64 (n:=a2) (by simp_all);obtain⟨a3,e3,_,FF⟩:=DataW.trod_int underlying3 g3;have An:=bounds_i64 (n:=a3) (by simp_all);obtain⟨a4,e4,_⟩:=DataW.trod_bool underlying4 g4;simp only[J1I,and_true] at e0 e1 e2 e3 e4;subst e0;subst e1;subst e2;subst e3;subst e4;exact⟨⟨a0,a1,a2,a3,a4⟩,rfl,⟨by simpa using Bq,by simpa using Ar,by simpa using Ae,by simpa using An⟩⟩
theorem Q7c{H:Type}{enc:TypeId×Value->H}{w:World}{n:Nat}{cs:List Value}{y:DataW H×List MemPlace}
  (h:DataW.trod enc prog w 0 (fun _=>true) true n 65 cs=some y):∃x:Wi,cs=x.cells/\x.Wf:=by
 obtain⟨xs,n',_,_,Ab,CU,hf⟩:=DataW.trod_struct underlying65 h;rw[Q5V] at Ab
 match cs,Ab with
 | [v0,v1],_ =>
  match xs,CU with
  | [y0,y1],_ =>
   have g0:DataW.trod enc prog w 0 (fun _=>true) true n' 3 (List.take (prog.cellsOf 3) (List.drop 0 [v0,v1]))=some y0:=hf 0 _ rfl;have g1:DataW.trod enc prog w 0 (fun _=>true) true n' 3 (List.take (prog.cellsOf 3) (List.drop 1 [v0,v1]))=some y1:=hf 1 _ rfl;rw[Q2f] at g0 g1;simp only[J5o,J5L,J4X,J5M] at g0 g1;obtain⟨a0,e0,_,Ib⟩:=DataW.trod_int underlying3 g0;have Bq:=bounds_i64 (n:=a0) (by simp_all);obtain⟨a1,e1,_,DD⟩:=DataW.trod_int underlying3 g1;have Ar:=bounds_i64 (n:=a1) (by simp_all);simp only[J1I,and_true] at e0 e1;subst e0;subst e1;exact⟨⟨a0,a1⟩,rfl,⟨by simpa using Bq,by simpa using Ar⟩⟩
theorem Q8Z{H:Type}{enc:TypeId×Value->H}{w:World}{fuel:Nat}{cs:List Value}{x:DataW H×List MemPlace}
  (h:DataW.trod enc prog w 0 (fun _=>true) true fuel 61 cs=some x):∃(a0:Option Addr) (len cap:Nat),cs=[.slice a0 len cap]/\(len<=cap/\cap<=maxLen)/\∃A,IsMv w a0 len A:=by
 rcases open_slice underlying61 h with ⟨AQ,_⟩|⟨a,len,cap,m,n,D,Pl,AQ,_,hl,Cy,Hd,_,hi⟩
 ·exact⟨none,0,0,AQ,⟨J1E _,by unfold maxLen;omega⟩,fun _=>⟨0,0,0,false⟩,fun j hj=>absurd hj (J4Y _)⟩
 ·refine⟨some a,len,cap,AQ,⟨hl,Cy⟩,?_⟩;have hm:len<=m:=by rw[Hd];simp;exact hl
  have each:∀j,j<len->∃x:Mv,(∀(i:Nat) (v:Value),x.cells[i]?=some v->w.cell? ((a.add (j*4)).add i)=some v)/\x.Wf:=by
   intro j hj;obtain⟨PH,hc,ht⟩:=hi j (by omega);rw[Q8Y] at hc;obtain⟨x,rfl,hx⟩:=Z0c ht;obtain⟨_,_,AW⟩:=World.cells?_some hc;refine⟨x,fun i v hv=>?_,hx⟩;have Ll:i<4:=by simpa[Mv.cells] using (J1V.1 hv).1
   exact(AW i Ll).trans hv
  by_cases h0:len=0
  ·exact⟨fun _=>⟨0,0,0,false⟩,fun j hj=>by omega⟩
  ·obtain⟨x0,c0,_⟩:=each 0 (by omega);have hp:=Q2u (x:=a) (by simpa[Addr.add] using c0 0 _ rfl);refine⟨fun j=>if hj:j<len then(each j hj).choose else⟨0,0,0,false⟩,fun j hj=>?_⟩;obtain⟨h1,h2⟩:=(each j hj).choose_spec;simp only[hj,dif_pos];generalize (each j hj).choose=y at h1 h2;have h3:∀(i:Nat) (v:Value),y.cells[i]?=some v->w.cell? ⟨a.block,a.off+j*4+i,none⟩=some v:=fun i v hv=>by
    have:=h1 i v hv;rw[hp,add_plain5,add_plain5] at this;exact this
   exact⟨a.block,a.off,congrArg some hp,World.block_lt_of_cell? w ⟨a.block,a.off+j*4+0,none⟩ (h3 0 _ rfl),h3,h2⟩
theorem Z2F{H:Type}{enc:TypeId×Value->H}{w:World}{n:Nat}{cs:List Value}{y:DataW H×List MemPlace}
  (h:DataW.trod enc prog w 0 (fun _=>true) true n 67 cs=some y):∃x:A17,cs=x.cells/\x.Wf/\IsMv w x.la x.ll x.L:=by
 obtain⟨xs,n',_,_,Ab,CU,hf⟩:=DataW.trod_struct underlying67 h;rw[Z5u] at Ab
 match cs,Ab with
 | [v0,v1,v2,v3,v4,v5,v6,v7,v8,v9,v10,v11,v12,v13,v14,v15,v16],_ =>
  match xs,CU with
  | [y0,y1,y2,y3,y4,y5,y6,y7,y8,y9,y10,y11],_ =>
   have g0:DataW.trod enc prog w 0 (fun _=>true) true n' 3 (List.take (prog.cellsOf 3) (List.drop 0 [v0,v1,v2,v3,v4,v5,v6,v7,v8,v9,v10,v11,v12,v13,v14,v15,v16]))=some y0:=hf 0 _ rfl;have g1:DataW.trod enc prog w 0 (fun _=>true) true n' 3 (List.take (prog.cellsOf 3) (List.drop 1 [v0,v1,v2,v3,v4,v5,v6,v7,v8,v9,v10,v11,v12,v13,v14,v15,v16]))=some y1:=hf 1 _ rfl;have g2:DataW.trod enc prog w 0 (fun _=>true) true n' 3 (List.take (prog.cellsOf 3) (List.drop 2 [v0,v1,v2,v3,v4,v5,v6,v7,v8,v9,v10,v11,v12,v13,v14,v15,v16]))=some y2:=hf 2 _ rfl;have g3:DataW.trod enc prog w 0 (fun _=>true) true n' 3 (List.take (prog.cellsOf 3) (List.drop 3 [v0,v1,v2,v3,v4,v5,v6,v7,v8,v9,v10,v11,v12,v13,v14,v15,v16]))=some y3:=hf 3 _ rfl
   have g4:DataW.trod enc prog w 0 (fun _=>true) true n' 3 (List.take (prog.cellsOf 3) (List.drop 4 [v0,v1,v2,v3,v4,v5,v6,v7,v8,v9,v10,v11,v12,v13,v14,v15,v16]))=some y4:=hf 4 _ rfl;have g5:DataW.trod enc prog w 0 (fun _=>true) true n' 3 (List.take (prog.cellsOf 3) (List.drop 5 [v0,v1,v2,v3,v4,v5,v6,v7,v8,v9,v10,v11,v12,v13,v14,v15,v16]))=some y5:=hf 5 _ rfl;have g6:DataW.trod enc prog w 0 (fun _=>true) true n' 3 (List.take (prog.cellsOf 3) (List.drop 6 [v0,v1,v2,v3,v4,v5,v6,v7,v8,v9,v10,v11,v12,v13,v14,v15,v16]))=some y6:=hf 6 _ rfl;have g7:DataW.trod enc prog w 0 (fun _=>true) true n' 3 (List.take (prog.cellsOf 3) (List.drop 7 [v0,v1,v2,v3,v4,v5,v6,v7,v8,v9,v10,v11,v12,v13,v14,v15,v16]))=some y7:=hf 7 _ rfl
   have g8:DataW.trod enc prog w 0 (fun _=>true) true n' 4 (List.take (prog.cellsOf 4) (List.drop 8 [v0,v1,v2,v3,v4,v5,v6,v7,v8,v9,v10,v11,v12,v13,v14,v15,v16]))=some y8:=hf 8 _ rfl;have g9:DataW.trod enc prog w 0 (fun _=>true) true n' 61 (List.take (prog.cellsOf 61) (List.drop 9 [v0,v1,v2,v3,v4,v5,v6,v7,v8,v9,v10,v11,v12,v13,v14,v15,v16]))=some y9:=hf 9 _ rfl;have g10:DataW.trod enc prog w 0 (fun _=>true) true n' 63 (List.take (prog.cellsOf 63) (List.drop 10 [v0,v1,v2,v3,v4,v5,v6,v7,v8,v9,v10,v11,v12,v13,v14,v15,v16]))=some y10:=hf 10 _ rfl;have g11:DataW.trod enc prog w 0 (fun _=>true) true n' 65 (List.take (prog.cellsOf 65) (List.drop 15 [v0,v1,v2,v3,v4,v5,v6,v7,v8,v9,v10,v11,v12,v13,v14,v15,v16]))=some y11:=hf 11 _ rfl
   rw[Q2f] at g0 g1 g2 g3 g4 g5 g6 g7;rw[Q3G] at g8;rw[Z2E] at g9;rw[Q5U] at g10;rw[Q5V] at g11;simp only[J5o,J5L,J4X,J5M] at g0 g1 g2 g3 g4 g5 g6 g7 g8 g9 g10 g11;obtain⟨a0,e0,_,Ib⟩:=DataW.trod_int underlying3 g0;have Bq:=bounds_i64 (n:=a0) (by simp_all);obtain⟨a1,e1,_,DD⟩:=DataW.trod_int underlying3 g1;have Ar:=bounds_i64 (n:=a1) (by simp_all);obtain⟨a2,e2,_,Ej⟩:=DataW.trod_int underlying3 g2;have Ae:=bounds_i64 (n:=a2) (by simp_all);obtain⟨a3,e3,_,FF⟩:=DataW.trod_int underlying3 g3;have An:=bounds_i64 (n:=a3) (by simp_all);obtain⟨a4,e4,_,TS⟩:=DataW.trod_int underlying3 g4;have A2:=bounds_i64 (n:=a4) (by simp_all)
   obtain⟨a5,e5,_,SV⟩:=DataW.trod_int underlying3 g5;have Au:=bounds_i64 (n:=a5) (by simp_all);obtain⟨a6,e6,_,Wr⟩:=DataW.trod_int underlying3 g6;have Ch:=bounds_i64 (n:=a6) (by simp_all);obtain⟨a7,e7,_,VZ⟩:=DataW.trod_int underlying3 g7;have Cl:=bounds_i64 (n:=a7) (by simp_all);obtain⟨a8,e8,_⟩:=DataW.trod_bool underlying4 g8;obtain⟨aa,al,ac,e9,Bo,BF⟩:=Q8Z g9;obtain⟨it,e10,Ta⟩:=Q5W g10;obtain⟨wi,e11,Jq⟩:=Q7c g11;simp only[J1I,and_true] at e0 e1 e2 e3 e4 e5 e6 e7 e8 e9;subst e0;subst e1;subst e2;subst e3;subst e4;subst e5;subst e6;subst e7;subst e8;subst e9;obtain⟨mvs,BF⟩:=BF;refine⟨⟨a0,a1,a2,a3,a4,a5,a6,a7,a8,aa,al,ac,mvs,it,wi⟩,?_,⟨by simpa using Ar,by simpa using Ae,by simpa using An,by simpa using A2,by simpa using Au,by simpa using Ch,by simpa using Cl,Bo,Ta,Jq⟩,BF⟩
   unfold A17.cells;rw[<- e10,<- e11];rfl
end Go.Proofs.YtfidemmgofcnmaaGreatDoor
namespace Go.Proofs.YtfidemmgofcnmaaGreatDoor
open Go.RowKit Go.Proofs.Tryz
def Mv.clash(o m:Mv):Bool:=(o.dst==m.dst)||((o.src==m.src)&&(o.g||m.g))
def Mv.agg(m:Mv):Value:=.agg #[.int .i64 m.src,.int .i64 m.dst,.int .i64 m.r,.bool m.g]
theorem Z5v(w:World)(o m:Mv)(b:Nat)(hb:b<w.heap.size)(h0:w.cell? ⟨b,0,none⟩=some (.int .i64 m.src))(h1:w.cell? ⟨b,1,none⟩=some (.int .i64 m.dst))(h3:w.cell? ⟨b,3,none⟩=some (.bool m.g)) :
  Calls prog 172 #[o.agg,.pointer (some ⟨b,0,none⟩)] w (Told w (.bool (o.clash m))):=by
 obtain⟨os,od,orr,og⟩:=o;obtain⟨ms,md,mr,mg⟩:=m;unfold Mv.clash Mv.agg;dsimp only at *
 have Ac:b≠w.heap.size:=by omega
 have HB:Hid (∀o,Below w.heap.size w (w.alloc o)):=fun o=>(Below.refl _ _).alloc (J1E _) o
 have b1:Below w.heap.size w (w.alloc (.cells #[.int .i64 os,.int .i64 od,.int .i64 orr,.bool og] 90)):=HB.out _;have g0:=(b1.cell (p:=⟨b,0,none⟩) hb).trans h0;have g1:=(b1.cell (p:=⟨b,1,none⟩) hb).trans h1;have g3:=(b1.cell (p:=⟨b,3,none⟩) hb).trans h3;clear b1 h0 h1 h3 hb;by_cases e1:od=md
 ·have v1:(od==md)=true:=by simpa using e1
  rw[v1];simp only[Bool.true_or];clear e1;go_enter func172,ntmps172;go_wp2_with fail
  (try go_ret);exact⟨rfl,HB.out _⟩
 ·have v1:(od==md)=false:=by simpa using e1
  have d1:decide (od=md)=false:=decide_eq_false e1;rw[v1];simp only[J4H];by_cases e2:os=ms
  ·have v2:(os==ms)=true:=by simpa using e2
   rw[v2];simp only[J2N];clear e2;cases og
   ·go_enter func172,ntmps172;go_wp2_with fail
    (try go_ret);exact⟨rfl,HB.out _⟩
   ·go_enter func172,ntmps172;go_wp2_with fail
    (try go_ret);exact⟨rfl,HB.out _⟩
  ·have v2:(os==ms)=false:=by simpa using e2
   have d2:decide (os=ms)=false:=decide_eq_false e2;rw[v2];simp only[J5N];go_enter func172,ntmps172;go_wp2_with fail
   (try go_ret);exact⟨rfl,HB.out _⟩
def Z2G(b:Nat):Value:=.func (.func 172) #[] #[.pointer (some ⟨b,0,none⟩)]
def Z1f(w:World)(n:Nat)(A:Nat->Mv)(m:Mv)(e:Ending)(w':World):Prop:=Below w.heap.size w w'/\((∃k:Nat,k<n/\e=.returned (.int .i64 k)/\(A k).clash m=true)∨(e=.returned (.int .i64 (-1))/\∀j,j<n->(A j).clash m=false))
theorem Z2H{w:World}{a0:Option Addr}{len:Nat}{A:Nat->Mv}(h:IsMv w a0 len A){n:Nat}(cap:Nat)(hn:n<=len)(hm:n<=4611686018427387904)(m:Mv)(b:Nat)(hb:b<w.heap.size)(h0:w.cell? ⟨b,0,none⟩=some (.int .i64 m.src))(h1:w.cell? ⟨b,1,none⟩=some (.int .i64 m.dst))(h3:w.cell? ⟨b,3,none⟩=some (.bool m.g)) :
  Calls prog 214 #[.slice a0 n cap,Z2G b] w (Z1f w n A m):=by
 have HP:Hid (∀k wr,k<n->Below w.heap.size w wr->∃g off,a0=some ⟨g,off,none⟩/\wr.cell? ⟨g,off+k*4,none⟩=some (.int .i64 (A k).src)/\wr.cell? ⟨g,off+k*4+1,none⟩=some (.int .i64 (A k).dst)/\wr.cell? ⟨g,off+k*4+2,none⟩=some (.int .i64 (A k).r)/\wr.cell? ⟨g,off+k*4+3,none⟩=some (.bool (A k).g) /\
   Calls prog 172 #[.agg #[.int .i64 (A k).src,.int .i64 (A k).dst,.int .i64 (A k).r,.bool (A k).g],.pointer (some ⟨b,0,none⟩)] wr fun r w'=>r=.returned (.bool ((A k).clash m))/\Below w.heap.size w w'):=fun k wr hk Bi=>by
  obtain⟨g,off,e,_,hc,_⟩:=IsMv.below h Bi k (by omega);exact⟨g,off,e,hc 0 _ rfl,hc 1 _ rfl,hc 2 _ rfl,hc 3 _ rfl,(Z5v wr (A k) m b (J1G hb Bi.size) ((Bi.cell (p:=⟨b,0,none⟩) hb).trans h0) ((Bi.cell (p:=⟨b,1,none⟩) hb).trans h1) ((Bi.cell (p:=⟨b,3,none⟩) hb).trans h3)).mono fun r w' q=>⟨q.1,Bi.trans (q.2.mono Bi.size)⟩⟩
 have EB:Hid (∀k w',k<n->Below w.heap.size w w'->(A k).clash m=true->Z1f w n A m (.returned (.int .i64 k)) w'):=fun k w' hk Aj hc=>⟨Aj,.inl ⟨k,hk,rfl,hc⟩⟩
 have DR:Hid (∀w',Below w.heap.size w w'->(∀j,j<n->(A j).clash m=false)->Z1f w n A m (.returned (.int .i64 (-1))) w'):=fun w' Aj hc=>⟨Aj,.inr ⟨rfl,hc⟩⟩
 clear h h0 h1 h3 hb hn;generalize Z1f w n A m=Q at *
 unfold Z2G;go_enter func214,ntmps214;go_wp2_with fail
 go_loopw [5,8] (fun _ i wr=>∃k:Nat,k<=n/\i=.int .i64 k/\(∀j,j<k->(A j).clash m=false)/\Below w.heap.size w wr) (fun _ i _=>n-(intOf i).toNat)
 case atStart=>exact⟨0,J3z _,rfl,by intro j hj;omega,Below.refl _ _⟩
 case round =>
  obtain⟨k,hk,rfl,Ay,Bi⟩:=hrel;have Hp:=Q0a Ay;have HB:=Q0a Bi;clear Ay Bi;by_cases Aa:k<n
  ·obtain⟨g,off,rfl,c0,c1,c2,c3,AY⟩:=HP.out k wr Aa HB.out;have HC:=Q0a AY;clear AY;cases hv:(A k).clash m with
   | true =>
    have HV:=Q0a hv;rw[hv] at HC;clear hv;go_wp2_with (go_at_call 172;refine HC.out.mono ?_;rintro e w'⟨rfl,Aj⟩)
    (try go_ret);exact EB.out k _ Aa Aj HV.out
   | false =>
    have HV:=Q0a hv;rw[hv] at HC;clear hv;go_wp2_with (go_at_call 172;refine HC.out.mono ?_;rintro e w'⟨rfl,Aj⟩);go_roundw
    case rel =>
     refine⟨k+1,by omega,by go_num,fun j hj=>?_,Aj⟩;by_cases e:j=k
     ·rw[e];exact HV.out
     ·exact Hp.out j (by omega)
    case measure=>simp[intOf];omega
  ·obtain rfl:k=n:=by omega
   clear HP;go_wp2_with fail
   (try go_ret);exact DR.out _ HB.out Hp.out
def Q1c(A:Nat->Mv)(n:Nat)(m:Mv):Bool:=(List.range n).any fun k=>(A k).clash m
theorem Q7N{w:World}{a0:Option Addr}{len:Nat}{A:Nat->Mv}(h:IsMv w a0 len A){n:Nat}(cap:Nat)(hn:n<=len)(hm:n<=4611686018427387904)(m:Mv)(b:Nat)(hb:b<w.heap.size)(h0:w.cell? ⟨b,0,none⟩=some (.int .i64 m.src))(h1:w.cell? ⟨b,1,none⟩=some (.int .i64 m.dst))(h3:w.cell? ⟨b,3,none⟩=some (.bool m.g)) :
  Calls prog 171 #[.slice a0 n cap,Z2G b] w (Told w (.bool (Q1c A n m))):=by
 have ki:=Z2H h cap hn hm m b hb h0 h1 h3;clear h h0 h1 h3 hb hn hm;unfold Z2G at *
 go_enter func171,ntmps171;go_wp2_with fail;refine ki.mono ?_;rintro e w'⟨Aj,⟨k,hk,rfl,hc⟩|⟨rfl,hc⟩⟩
 ·have hv:Q1c A n m=true:=List.any_eq_true.2 ⟨k,J1U.2 hk,hc⟩;have HR:Hid (Told w (.bool (Q1c A n m)) (.returned (.bool true)) w'):=⟨by rw[hv],Aj⟩
  have B4:(0:Int)<=(k:Int):=by omega
  clear hv hc Aj;generalize Q1c A n m=v at *
  go_wp2_with fail
  (try go_ret);exact HR.out
 ·have hv:Q1c A n m=false:=J5O.2 fun k hk=>by simp[hc k (List.mem_range.1 hk)]
  have HR:Hid (Told w (.bool (Q1c A n m)) (.returned (.bool false)) w'):=⟨by rw[hv],Aj⟩
  clear hv hc Aj;generalize Q1c A n m=v at *
  go_wp2_with fail
  (try go_ret);exact HR.out
def J1a(h1 h2 br c1 c2 s1 z1 z2 s2 cl:Bool)(er:Int):Prop:=(h1=false/\er=2)∨(h1=true/\h2=false/\er=2)∨(h1=true/\h2=true/\br=false/\er=1)∨(h1=true/\h2=true/\br=true/\c1=!c2/\er=1)∨(h1=true/\h2=true/\br=true/\c1=c2/\s1=false/\er=6)∨(h1=true/\h2=true/\br=true/\c1=c2/\s1=true/\z1=true/\er=9)∨(h1=true/\h2=true/\br=true/\c1=c2/\s1=true/\z1=false/\z2=true/\er=9)∨(h1=true/\h2=true/\br=true/\c1=c2/\s1=true/\z1=false/\z2=false/\s2=true/\er=7)∨(h1=true/\h2=true/\br=true/\c1=c2/\s1=true/\z1=false/\z2=false/\s2=false/\cl=true/\er=7)∨(h1=true/\h2=true/\br=true/\c1=c2/\s1=true/\z1=false/\z2=false/\s2=false/\cl=false/\er=0)
theorem Z2I{w:World}{g1 x1 g2 x2:Nat}{f1 f2:Int}{m:Mv}{a0:Option Addr}{n cap:Nat}{ca1 cb1 ca2 cb2 er:Int}{s1 s2 cl:Bool}
  (N0:∀W,Below w.heap.size w W->Calls prog 93 #[.agg #[.pointer (some ⟨g1,0,none⟩),.int .u32 x1,.int .i64 f1],.int .i64 m.src] W (Told W (.tuple #[.agg #[.int .u32 ca1,.int .i64 cb1],.bool s1])))
  (Lr:∀W,Below w.heap.size w W->Calls prog 93 #[.agg #[.pointer (some ⟨g2,0,none⟩),.int .u32 x2,.int .i64 f2],.int .i64 m.dst] W (Told W (.tuple #[.agg #[.int .u32 ca2,.int .i64 cb2],.bool s2])))
  (hCl:∀W b,Below w.heap.size w W->b<W.heap.size->W.cell? ⟨b,0,none⟩=some (.int .i64 m.src)->W.cell? ⟨b,1,none⟩=some (.int .i64 m.dst)->W.cell? ⟨b,3,none⟩=some (.bool m.g)->Calls prog 171 #[.slice a0 n cap,Z2G b] W (Told W (.bool cl)))
  (hT:J1a (decide (0<=m.src/\m.src<256)) (decide (0<=m.dst/\m.dst<256)) (decide (0<m.r/\m.r<=15)) (decide (m.src<128)) (decide (m.dst<128)) s1 (bits .and .i64 cb1 4==0) (bits .and .i64 cb1 m.r==0) s2 cl er) :
  Calls prog 97 #[.agg #[.pointer (some ⟨g1,0,none⟩),.int .u32 x1,.int .i64 f1],.agg #[.pointer (some ⟨g2,0,none⟩),.int .u32 x2,.int .i64 f2],.agg #[.int .i64 m.src,.int .i64 m.dst,.int .i64 m.r,.bool m.g],.slice a0 n cap] w (Told w (.int .i64 er)):=by
 have SK:Hid (∀W,Calls prog 92 #[.int .i64 m.src] W fun r w'=>r=.returned (.bool (decide (0<=m.src/\m.src<256)))/\W=w'):=fun W=>Q2s W m.src
 have RS:Hid (∀W,Calls prog 92 #[.int .i64 m.dst] W fun r w'=>r=.returned (.bool (decide (0<=m.dst/\m.dst<256)))/\W=w'):=fun W=>Q2s W m.dst
 have Mq:Hid (∀W,Calls prog 106 #[.int .i64 m.r] W fun r' w'=>r'=.returned (.bool (decide (0<m.r/\m.r<=15)))/\W=w'):=fun W=>Q3g W m.r
 have GW:Hid (∀W,Calls prog 96 #[.int .i64 m.src] W fun r w'=>r=.returned (.bool (decide (m.src<128)))/\W=w'):=fun W=>Q2e W m.src
 have K8:Hid (∀W,Calls prog 96 #[.int .i64 m.dst] W fun r w'=>r=.returned (.bool (decide (m.dst<128)))/\W=w'):=fun W=>Q2e W m.dst
 obtain⟨ms,md,mr,mg⟩:=m;dsimp only at *
 have HW:Hid (∀W,Below (((w.alloc (.cells #[.pointer (some ⟨g1,0,none⟩),.int .u32 x1,.int .i64 f1] 191)).alloc (.cells #[.pointer (some ⟨g2,0,none⟩),.int .u32 x2,.int .i64 f2] 191)).alloc (.cells #[.int .i64 ms,.int .i64 md,.int .i64 mr,.bool mg] 90)).heap.size (((w.alloc (.cells #[.pointer (some ⟨g1,0,none⟩),.int .u32 x1,.int .i64 f1] 191)).alloc (.cells #[.pointer (some ⟨g2,0,none⟩),.int .u32 x2,.int .i64 f2] 191)).alloc (.cells #[.int .i64 ms,.int .i64 md,.int .i64 mr,.bool mg] 90)) W ->
   Below w.heap.size w W/\w.heap.size+2<W.heap.size/\(W.cell? ⟨w.heap.size+1,0,none⟩=some (.pointer (some ⟨g2,0,none⟩))/\W.cell? ⟨w.heap.size+1,1,none⟩=some (.int .u32 x2)/\W.cell? ⟨w.heap.size+1,2,none⟩=some (.int .i64 f2)) /\
   W.cell? ⟨w.heap.size+2,0,none⟩=some (.int .i64 ms)/\W.cell? ⟨w.heap.size+2,1,none⟩=some (.int .i64 md)/\W.cell? ⟨w.heap.size+2,2,none⟩=some (.int .i64 mr)/\W.cell? ⟨w.heap.size+2,3,none⟩=some (.bool mg)):=fun W hb=>by
  have h5:=((Cells.new (w.alloc (.cells #[.pointer (some ⟨g1,0,none⟩),.int .u32 x1,.int .i64 f1] 191)) 191 [.pointer (some ⟨g2,0,none⟩),.int .u32 x2,.int .i64 f2]).alloc (.cells #[.int .i64 ms,.int .i64 md,.int .i64 mr,.bool mg] 90)).same (hb.block _ (by simp));have h6:=(Cells.new ((w.alloc (.cells #[.pointer (some ⟨g1,0,none⟩),.int .u32 x1,.int .i64 f1] 191)).alloc (.cells #[.pointer (some ⟨g2,0,none⟩),.int .u32 x2,.int .i64 f2] 191)) 90 [.int .i64 ms,.int .i64 md,.int .i64 mr,.bool mg]).same (hb.block _ (by simp));have e1:(w.alloc (.cells #[.pointer (some ⟨g1,0,none⟩),.int .u32 x1,.int .i64 f1] 191)).heap.size=w.heap.size+1:=by simp
  have e2:((w.alloc (.cells #[.pointer (some ⟨g1,0,none⟩),.int .u32 x1,.int .i64 f1] 191)).alloc (.cells #[.pointer (some ⟨g2,0,none⟩),.int .u32 x2,.int .i64 f2] 191)).heap.size=w.heap.size+2:=by simp
  rw[e1] at h5;rw[e2] at h6;exact⟨Q0b (Q0b (Q0b hb)),h6.lt,⟨h5.cell 0 _ rfl,h5.cell 1 _ rfl,h5.cell 2 _ rfl⟩,h6.cell 0 _ rfl,h6.cell 1 _ rfl,h6.cell 2 _ rfl,h6.cell 3 _ rfl⟩
 have k1:=N0 _ (HW.out _ (Below.refl _ _)).1;have DG:=Q0a Lr;have QO:=Q0a hCl;have HT:=Q0a hT;clear N0 Lr hCl hT;go_enter func97,ntmps97;go_wp2_with fail;refine k1.mono ?_;rintro rv w1⟨rfl,Ar⟩;have BK:Hid (∀o,Below (((w.alloc (.cells #[.pointer (some ⟨g1,0,none⟩),.int .u32 x1,.int .i64 f1] 191)).alloc (.cells #[.pointer (some ⟨g2,0,none⟩),.int .u32 x2,.int .i64 f2] 191)).alloc (.cells #[.int .i64 ms,.int .i64 md,.int .i64 mr,.bool mg] 90)).heap.size (((w.alloc (.cells #[.pointer (some ⟨g1,0,none⟩),.int .u32 x1,.int .i64 f1] 191)).alloc (.cells #[.pointer (some ⟨g2,0,none⟩),.int .u32 x2,.int .i64 f2] 191)).alloc (.cells #[.int .i64 ms,.int .i64 md,.int .i64 mr,.bool mg] 90)) (w1.alloc o)):=fun o=>Ar.alloc Ar.size o
 have h2:=HW.out _ (BK.out (.cells #[.int .u32 ca1,.int .i64 cb1] 72));obtain⟨Ej,-,⟨p0,p1,p2⟩,m0,m1,m2,m3⟩:=h2;have k2:=DG.out _ Ej;clear Ar k1 Ej DG;go_wp2_with fail;refine k2.mono ?_;rintro rv w2⟨rfl,Ae⟩;have An:=((BK.out (.cells #[.int .u32 ca1,.int .i64 cb1] 72)).trans (Ae.mono (BK.out (.cells #[.int .u32 ca1,.int .i64 cb1] 72)).size)).alloc ((BK.out (.cells #[.int .u32 ca1,.int .i64 cb1] 72)).trans (Ae.mono (BK.out (.cells #[.int .u32 ca1,.int .i64 cb1] 72)).size)).size (.cells #[.int .u32 ca2,.int .i64 cb2] 72);have Jb:=(((Cells.new w1 72 [.int .u32 ca1,.int .i64 cb1]).same (Ae.block _ (by simp))).alloc (.cells #[.int .u32 ca2,.int .i64 cb2] 72))
 clear p0 p1 p2 m0 m1 m2 m3 k2;go_wp2_with fail;generalize Km:(w2.alloc (.cells #[.int .u32 ca2,.int .i64 cb2] 72))=w3 at *
 obtain⟨FF,LQ,-,m0,m1,m2,m3⟩:=HW.out _ An;have kc:=QO.out w3 (w.heap.size+2) FF LQ m0 m1 m3;clear Km m0 m1 m2 m3 QO Ae FF LQ BK;unfold Z2G at kc;refine kc.mono ?_;rintro rv w4⟨rfl,A2⟩;have Ak:Hid (∀n,Below w.heap.size w (w4.drewN n)):=fun n=>(HW.out _ (Q0q (An.trans (A2.mono An.size)) n)).1
 obtain⟨-,-,-,m0,m1,m2,m3⟩:=HW.out _ (An.trans (A2.mono An.size));have r1:=(Jb.same (A2.block _ Jb.lt)).cell 1 _ rfl;have Eo:=SK.out w4;have EA:=RS.out w4;have CE:Hid (∀n,Calls prog 106 #[.int .i64 mr] (w4.drewN n) fun e w''=>e=.returned (.bool (decide (0<mr/\mr<=15)))/\∃m,w''=w4.drewN m):=fun n=>(Mq.out _).mono fun e w' h=>⟨h.1,n,h.2.symm⟩
 have BT:Hid (∀n,Calls prog 96 #[.int .i64 ms] (w4.drewN n) fun e w''=>e=.returned (.bool (decide (ms<128)))/\∃m,w''=w4.drewN m):=fun n=>(GW.out _).mono fun e w' h=>⟨h.1,n,h.2.symm⟩
 have BS:Hid (∀n,Calls prog 96 #[.int .i64 md] (w4.drewN n) fun e w''=>e=.returned (.bool (decide (md<128)))/\∃m,w''=w4.drewN m):=fun n=>(K8.out _).mono fun e w' h=>⟨h.1,n,h.2.symm⟩
 clear An A2 Jb HW kc SK RS Mq GW K8;generalize decide (0<=ms/\ms<256)=h1 at *
 generalize decide (0<=md/\md<256)=h2 at *
 generalize decide (0<mr/\mr<=15)=br at *
 generalize decide (ms<128)=c1 at *
 generalize decide (md<128)=c2 at *
 have hT:=HT.out;clear HT;go_wp2_with fail;rcases hT with ⟨rfl,rfl⟩|⟨rfl,rfl,rfl⟩|⟨rfl,rfl,rfl,rfl⟩|⟨rfl,rfl,rfl,rfl,rfl⟩|⟨rfl,rfl,rfl,rfl,rfl,rfl⟩|⟨rfl,rfl,rfl,rfl,rfl,AZ,rfl⟩|⟨rfl,rfl,rfl,rfl,rfl,AZ,Bd,rfl⟩|⟨rfl,rfl,rfl,rfl,rfl,AZ,Bd,rfl,rfl⟩|⟨rfl,rfl,rfl,rfl,rfl,AZ,Bd,rfl,rfl,rfl⟩|⟨rfl,rfl,rfl,rfl,rfl,AZ,Bd,rfl,rfl,rfl⟩
 ·refine Eo.mono ?_;rintro rv w'⟨rfl,rfl⟩;go_wp2_with fail
  first|exact⟨rfl,Ak.out _⟩|exact⟨rfl,Ak.out 0⟩|(go_ret;first|exact⟨rfl,Ak.out _⟩|exact⟨rfl,Ak.out 0⟩)
 ·refine Eo.mono ?_;rintro rv w'⟨rfl,rfl⟩;go_wp2_with fail;refine EA.mono ?_;rintro rv w'⟨rfl,rfl⟩;go_wp2_with fail
  first|exact⟨rfl,Ak.out _⟩|exact⟨rfl,Ak.out 0⟩|(go_ret;first|exact⟨rfl,Ak.out _⟩|exact⟨rfl,Ak.out 0⟩)
 ·refine Eo.mono ?_;rintro rv w'⟨rfl,rfl⟩;go_wp2_with fail;refine EA.mono ?_;rintro rv w'⟨rfl,rfl⟩;go_wp2_with fail
  go_quiet (first|(go_at_call 106;exact CE.out _)|(go_at_call 96;exact BT.out _)|(go_at_call 96;exact BS.out _))
  go_wp2_with fail
  first|exact⟨rfl,Ak.out _⟩|exact⟨rfl,Ak.out 0⟩|(go_ret;first|exact⟨rfl,Ak.out _⟩|exact⟨rfl,Ak.out 0⟩)
 ·cases c2
  ·refine Eo.mono ?_;rintro rv w'⟨rfl,rfl⟩;go_wp2_with fail;refine EA.mono ?_;rintro rv w'⟨rfl,rfl⟩;go_wp2_with fail
   go_quiet (first|(go_at_call 106;exact CE.out _)|(go_at_call 96;exact BT.out _)|(go_at_call 96;exact BS.out _))
   go_wp2_with fail
   first|exact⟨rfl,Ak.out _⟩|exact⟨rfl,Ak.out 0⟩|(go_ret;first|exact⟨rfl,Ak.out _⟩|exact⟨rfl,Ak.out 0⟩)
  ·refine Eo.mono ?_;rintro rv w'⟨rfl,rfl⟩;go_wp2_with fail;refine EA.mono ?_;rintro rv w'⟨rfl,rfl⟩;go_wp2_with fail
   go_quiet (first|(go_at_call 106;exact CE.out _)|(go_at_call 96;exact BT.out _)|(go_at_call 96;exact BS.out _))
   go_wp2_with fail
   first|exact⟨rfl,Ak.out _⟩|exact⟨rfl,Ak.out 0⟩|(go_ret;first|exact⟨rfl,Ak.out _⟩|exact⟨rfl,Ak.out 0⟩)
 ·cases c1
  ·refine Eo.mono ?_;rintro rv w'⟨rfl,rfl⟩;go_wp2_with fail;refine EA.mono ?_;rintro rv w'⟨rfl,rfl⟩;go_wp2_with fail
   go_quiet (first|(go_at_call 106;exact CE.out _)|(go_at_call 96;exact BT.out _)|(go_at_call 96;exact BS.out _))
   go_wp2_with fail
   first|exact⟨rfl,Ak.out _⟩|exact⟨rfl,Ak.out 0⟩|(go_ret;first|exact⟨rfl,Ak.out _⟩|exact⟨rfl,Ak.out 0⟩)
  ·refine Eo.mono ?_;rintro rv w'⟨rfl,rfl⟩;go_wp2_with fail;refine EA.mono ?_;rintro rv w'⟨rfl,rfl⟩;go_wp2_with fail
   go_quiet (first|(go_at_call 106;exact CE.out _)|(go_at_call 96;exact BT.out _)|(go_at_call 96;exact BS.out _))
   go_wp2_with fail
   first|exact⟨rfl,Ak.out _⟩|exact⟨rfl,Ak.out 0⟩|(go_ret;first|exact⟨rfl,Ak.out _⟩|exact⟨rfl,Ak.out 0⟩)
 ·cases c1
  ·refine Eo.mono ?_;rintro rv w'⟨rfl,rfl⟩;go_wp2_with fail;refine EA.mono ?_;rintro rv w'⟨rfl,rfl⟩;go_wp2_with fail
   go_quiet (first|(go_at_call 106;exact CE.out _)|(go_at_call 96;exact BT.out _)|(go_at_call 96;exact BS.out _))
   go_wp2_with fail
   first|exact⟨rfl,Ak.out _⟩|exact⟨rfl,Ak.out 0⟩|(go_ret;first|exact⟨rfl,Ak.out _⟩|exact⟨rfl,Ak.out 0⟩)
  ·refine Eo.mono ?_;rintro rv w'⟨rfl,rfl⟩;go_wp2_with fail;refine EA.mono ?_;rintro rv w'⟨rfl,rfl⟩;go_wp2_with fail
   go_quiet (first|(go_at_call 106;exact CE.out _)|(go_at_call 96;exact BT.out _)|(go_at_call 96;exact BS.out _))
   go_wp2_with fail
   first|exact⟨rfl,Ak.out _⟩|exact⟨rfl,Ak.out 0⟩|(go_ret;first|exact⟨rfl,Ak.out _⟩|exact⟨rfl,Ak.out 0⟩)
 ·cases c1
  ·refine Eo.mono ?_;rintro rv w'⟨rfl,rfl⟩;go_wp2_with fail;refine EA.mono ?_;rintro rv w'⟨rfl,rfl⟩;go_wp2_with fail
   go_quiet (first|(go_at_call 106;exact CE.out _)|(go_at_call 96;exact BT.out _)|(go_at_call 96;exact BS.out _))
   go_wp2_with fail
   first|exact⟨rfl,Ak.out _⟩|exact⟨rfl,Ak.out 0⟩|(go_ret;first|exact⟨rfl,Ak.out _⟩|exact⟨rfl,Ak.out 0⟩)
  ·refine Eo.mono ?_;rintro rv w'⟨rfl,rfl⟩;go_wp2_with fail;refine EA.mono ?_;rintro rv w'⟨rfl,rfl⟩;go_wp2_with fail
   go_quiet (first|(go_at_call 106;exact CE.out _)|(go_at_call 96;exact BT.out _)|(go_at_call 96;exact BS.out _))
   go_wp2_with fail
   first|exact⟨rfl,Ak.out _⟩|exact⟨rfl,Ak.out 0⟩|(go_ret;first|exact⟨rfl,Ak.out _⟩|exact⟨rfl,Ak.out 0⟩)
 ·cases c1
  ·refine Eo.mono ?_;rintro rv w'⟨rfl,rfl⟩;go_wp2_with fail;refine EA.mono ?_;rintro rv w'⟨rfl,rfl⟩;go_wp2_with fail
   go_quiet (first|(go_at_call 106;exact CE.out _)|(go_at_call 96;exact BT.out _)|(go_at_call 96;exact BS.out _))
   go_wp2_with fail
   first|exact⟨rfl,Ak.out _⟩|exact⟨rfl,Ak.out 0⟩|(go_ret;first|exact⟨rfl,Ak.out _⟩|exact⟨rfl,Ak.out 0⟩)
  ·refine Eo.mono ?_;rintro rv w'⟨rfl,rfl⟩;go_wp2_with fail;refine EA.mono ?_;rintro rv w'⟨rfl,rfl⟩;go_wp2_with fail
   go_quiet (first|(go_at_call 106;exact CE.out _)|(go_at_call 96;exact BT.out _)|(go_at_call 96;exact BS.out _))
   go_wp2_with fail
   first|exact⟨rfl,Ak.out _⟩|exact⟨rfl,Ak.out 0⟩|(go_ret;first|exact⟨rfl,Ak.out _⟩|exact⟨rfl,Ak.out 0⟩)
 ·cases c1
  ·refine Eo.mono ?_;rintro rv w'⟨rfl,rfl⟩;go_wp2_with fail;refine EA.mono ?_;rintro rv w'⟨rfl,rfl⟩;go_wp2_with fail
   go_quiet (first|(go_at_call 106;exact CE.out _)|(go_at_call 96;exact BT.out _)|(go_at_call 96;exact BS.out _))
   go_wp2_with fail
   first|exact⟨rfl,Ak.out _⟩|exact⟨rfl,Ak.out 0⟩|(go_ret;first|exact⟨rfl,Ak.out _⟩|exact⟨rfl,Ak.out 0⟩)
  ·refine Eo.mono ?_;rintro rv w'⟨rfl,rfl⟩;go_wp2_with fail;refine EA.mono ?_;rintro rv w'⟨rfl,rfl⟩;go_wp2_with fail
   go_quiet (first|(go_at_call 106;exact CE.out _)|(go_at_call 96;exact BT.out _)|(go_at_call 96;exact BS.out _))
   go_wp2_with fail
   first|exact⟨rfl,Ak.out _⟩|exact⟨rfl,Ak.out 0⟩|(go_ret;first|exact⟨rfl,Ak.out _⟩|exact⟨rfl,Ak.out 0⟩)
 ·cases c1
  ·refine Eo.mono ?_;rintro rv w'⟨rfl,rfl⟩;go_wp2_with fail;refine EA.mono ?_;rintro rv w'⟨rfl,rfl⟩;go_wp2_with fail
   go_quiet (first|(go_at_call 106;exact CE.out _)|(go_at_call 96;exact BT.out _)|(go_at_call 96;exact BS.out _))
   go_wp2_with fail
   first|exact⟨rfl,Ak.out _⟩|exact⟨rfl,Ak.out 0⟩|(go_ret;first|exact⟨rfl,Ak.out _⟩|exact⟨rfl,Ak.out 0⟩)
  ·refine Eo.mono ?_;rintro rv w'⟨rfl,rfl⟩;go_wp2_with fail;refine EA.mono ?_;rintro rv w'⟨rfl,rfl⟩;go_wp2_with fail
   go_quiet (first|(go_at_call 106;exact CE.out _)|(go_at_call 96;exact BT.out _)|(go_at_call 96;exact BS.out _))
   go_wp2_with fail
   first|exact⟨rfl,Ak.out _⟩|exact⟨rfl,Ak.out 0⟩|(go_ret;first|exact⟨rfl,Ak.out _⟩|exact⟨rfl,Ak.out 0⟩)
end Go.Proofs.YtfidemmgofcnmaaGreatDoor

/- SpaceCharge returns true at every input. No condition. Part of its proof. -/
import Derived.Test.YtfidemmgofcnmaaGreatDoorSc19
import Derived.Deep.CutRange
set_option maxHeartbeats 8000000
set_option maxRecDepth 100000
set_option linter.unusedVariables false
namespace Go.Proofs.YtfidemmgofcnmaaGreatDoor
open Go.RowKit Go.Proofs.Tryz
def J2q (bh:Bool) (no:Int) (br bc bk full:Bool) (er:Int):Prop:=(bh=false/\er=2)∨(bh=true/\no=8/\er=8)∨(bh=true/\no=0/\br=false/\er=1)∨(bh=true/\no=0/\br=true/\(bc==bk)=true/\er=1)∨(bh=true/\no=0/\br=true/\(bc==bk)=false/\full=true/\er=7)
theorem Q9y {bc:Bool} {k:Int} (h:(bc==(k==8))=true):(bc=true/\k=8)∨(bc=false/\(k==8)=false/\decide (k=8)=false):=by
 by_cases hk:k=8
 ·subst hk;left;simpa using h
 ·right;cases bc <;> simp_all
theorem Q3l {bc:Bool} {k:Int} (h:(bc==(k==8))=false):(bc=true/\(k==8)=false/\decide (k=8)=false)∨(bc=false/\k=8):=by
 by_cases hk:k=8
 ·subst hk;right;cases bc <;> simp_all
 ·left;cases bc <;> simp_all
theorem Q7w {w:World} {Z:SP} {fr:List Nat} {N K:Nat} {M:Int} (hs:Sep w Z.hl) (ok:Z.Ok fr N K M) {x h:Nat} (hx:x<4294967296) (hh:h<4294967296) {p:Pl} (hp:pget Z.S.l 1 x=some p) (hk:p.kind=2) (z r:Int) {Q:Int->World->Prop}
  {k0 a0 f0 no:Int} (hOf:∀W,Below w.heap.size w W->Calls prog 49 #[.pointer (some ⟨Z.S.c,0,none⟩),.int .u32 h,.int .i64 0] W (Told W (.tuple #[.agg #[.int .i64 k0,.int .i64 a0,.int .i64 f0],.int .i64 no])))
  (As:(∃er,J2q (decide (0<=z/\z<256)) no (decide (0<r/\r<=15)) (decide (z<128)) (k0==8) ((Z.tb (x%256)).at' z).isSome er/\∀W,Below w.heap.size w W->Q er W) ∨
   (decide (0<=z/\z<256)=true/\no=0/\decide (0<r/\r<=15)=true/\(decide (z<128)==(k0==8))=false/\((Z.tb (x%256)).at' z).isSome=false /\
    ∀W g,Below w.heap.size w W->TblZ Z p g W->Calls prog 98 #[.pointer (some ⟨Z.s,0,none⟩),.agg #[.pointer (some ⟨g,0,none⟩),.int .u32 x,.int .i64 (p.fac:Int)],.int .i64 z,.agg #[.int .u32 h,.int .i64 r]] W fun rv w5=>∃er:Int,rv=.returned (.int .i64 er) /\
     ((er≠0/\Q er w5)∨(er=0/\w5.cell? ⟨Z.s,1,none⟩=some (.pointer (some ⟨Z.F.f,0,none⟩))/\Calls prog 105 #[.pointer (some ⟨Z.F.f,0,none⟩),.int .i64 0,.int .i64 x,.int .i64 z] w5 fun rv w'=>(∃a b:Value,rv=.returned (.tuple #[a,b]))/\Q 0 w')))) :
  Calls prog 41 #[.pointer (some ⟨Z.s,0,none⟩),.int .u32 x,.int .i64 z,.agg #[.int .u32 h,.int .i64 r]] w fun rv w'=>∃er:Int,rv=.returned (.int .i64 er)/\Q er w':=by
 have b1:Below w.heap.size w (w.alloc (.cells #[.int .u32 h,.int .i64 r] 72)):=(Below.refl _ _).alloc (J2y _) _;have s1:=(hs.grown b1).sep;have ks:=Q0V s1 ok.core hx hp hk;have hi:=(pget_some.1 hp).1;have Ao:=(pget_some.1 hp).2.2;obtain⟨ca,cb,Ca⟩:=Q3K ((Z.tb (x%256)).at' z);have AA:(Z.tb (x%256)).at' z=if 0<=z/\z<256 then Q0f Z.S.l Z.tb x z.toNat else none:=by
  unfold TB.at';split
  ·rename_i h;rw [Q0g hp hk (by omega)]
  ·rfl
 have DX:Hid (∀W g,Below w.heap.size w W->TblZ Z p g W->Calls prog 93 #[.agg #[.pointer (some ⟨g,0,none⟩),.int .u32 x,.int .i64 (p.fac:Int)],.int .i64 z] W (Told W (.tuple #[.agg #[.int .u32 ca,.int .i64 cb],.bool ((Z.tb (x%256)).at' z).isSome]))):=fun W g hb hg=>by
  have T:=(ok.tpi.x (p.fac:Int)).tt ok.core hi Ao hk (SP.sS (hs.grown hb).sep) hg.c;have:=Q1t T (x:Int) (p.fac:Int) z fun e AM=>by
   rw [AA] at AM;split at AM
   ·exact ok.fpi.low ok.core.inv.lok AM
   ·cases AM
  rwa [Ca] at this
 -- the worlds,one behind the other
 have Mp:Hid (∀(w2:World) (g:Nat),Below (w.alloc (.cells #[.int .u32 h,.int .i64 r] 72)).heap.size (w.alloc (.cells #[.int .u32 h,.int .i64 r] 72)) w2->TblZ Z p g w2->∀W,Below (w2.alloc (.cells #[.pointer (some ⟨g,0,none⟩),.int .u32 x,.int .i64 (p.fac:Int)] 191)).heap.size (w2.alloc (.cells #[.pointer (some ⟨g,0,none⟩),.int .u32 x,.int .i64 (p.fac:Int)] 191)) W ->
   Below w.heap.size w W/\TblZ Z p g W/\W.cell? ⟨Z.s,0,none⟩=some (.pointer (some ⟨Z.S.c,0,none⟩))/\W.cell? ⟨w.heap.size,0,none⟩=some (.int .u32 h)/\W.cell? ⟨w.heap.size,1,none⟩=some (.int .i64 r)/\W.cell? ⟨w2.heap.size,0,none⟩=some (.pointer (some ⟨g,0,none⟩))/\W.cell? ⟨w2.heap.size,1,none⟩=some (.int .u32 x)/\W.cell? ⟨w2.heap.size,2,none⟩=some (.int .i64 (p.fac:Int))):=fun w2 g Ag hg W FH=>by
  have Db:Below w.heap.size w w2:=Q0e Ag;have s2:=(hs.grown Db).sep;have Ar:Below w2.heap.size w2 W:=Q0e FH;have DA:Below w.heap.size w W:=Db.trans (Ar.mono Db.size);have h7:=((Cells.new w 72 [.int .u32 h,.int .i64 r]).same (Ag.block w.heap.size (by simp))).same (Ar.block w.heap.size (by have:=Ag.size;simp at this;omega));have h9:=(Cells.new w2 191 [.pointer (some ⟨g,0,none⟩),.int .u32 x,.int .i64 (p.fac:Int)]).same (FH.block w2.heap.size (by simp));exact⟨DA,hg.grown s2 Ar,SP.c0 (hs.grown DA).sep,h7.cell 0 _ rfl,h7.cell 1 _ rfl,h9.cell 0 _ rfl,h9.cell 1 _ rfl,h9.cell 2 _ rfl⟩
 have J9:=Q0a hOf;have BZ:=Q0a As;have AW:Hid (∀W,Calls prog 92 #[.int .i64 z] W fun r w'=>r=.returned (.bool (decide (0<=z/\z<256)))/\W=w'):=fun W=>Q2Q W z
 have Bf:Hid (∀W,Calls prog 106 #[.int .i64 r] W fun r' w'=>r'=.returned (.bool (decide (0<r/\r<=15)))/\W=w'):=fun W=>Q3J W r
 have Dl:Hid (∀W,Calls prog 96 #[.int .i64 z] W fun r w'=>r=.returned (.bool (decide (z<128)))/\W=w'):=fun W=>Q2E W z
 have Cl:(0:Int)<=(x:Int):=by omega
 have Du:(x:Int)<4294967296:=by omega
 have LT:IntKind.i64.wrap (x:Int)=(x:Int):=Go.IntWalk.i64_in _ (by omega);generalize ((Z.tb (x%256)).at' z).isSome=full at *
 generalize decide (0<=z/\z<256)=bh at *
 generalize decide (0<r/\r<=15)=br at *
 generalize decide (z<128)=bc at *
 clear hs ok hx hh hp hk hi Ao Ca AA hOf As b1 s1;go_enter func41,ntmps41;go_wp2_with fail;refine ks.mono ?_;rintro rv w2 ⟨g,rfl,Ag,hg⟩;have HW:=Q0a (Mp.out w2 g Ag hg);have HS:Hid (∀W,Below (w2.alloc (.cells #[.pointer (some ⟨g,0,none⟩),.int .u32 x,.int .i64 (p.fac:Int)] 191)).heap.size (w2.alloc (.cells #[.pointer (some ⟨g,0,none⟩),.int .u32 x,.int .i64 (p.fac:Int)] 191)) W->W.cell? ⟨Z.s,0,none⟩=some (.pointer (some ⟨Z.S.c,0,none⟩))/\W.cell? ⟨w.heap.size,0,none⟩=some (.int .u32 h)):=fun W hb=>⟨(HW.out W hb).2.2.1,(HW.out W hb).2.2.2.1⟩
 have HK:Hid (∀W,Below (w2.alloc (.cells #[.pointer (some ⟨g,0,none⟩),.int .u32 x,.int .i64 (p.fac:Int)] 191)).heap.size (w2.alloc (.cells #[.pointer (some ⟨g,0,none⟩),.int .u32 x,.int .i64 (p.fac:Int)] 191)) W->Calls prog 49 #[.pointer (some ⟨Z.S.c,0,none⟩),.int .u32 h,.int .i64 0] W fun r w4=>r=.returned (.tuple #[.agg #[.int .i64 k0,.int .i64 a0,.int .i64 f0],.int .i64 no])/\Below (w2.alloc (.cells #[.pointer (some ⟨g,0,none⟩),.int .u32 x,.int .i64 (p.fac:Int)] 191)).heap.size (w2.alloc (.cells #[.pointer (some ⟨g,0,none⟩),.int .u32 x,.int .i64 (p.fac:Int)] 191)) w4):=fun W hb=>(J9.out W (HW.out W hb).1).mono fun r w4 h=>⟨h.1,hb.trans (h.2.mono hb.size)⟩
 have Er:Hid (∀W,Below (w2.alloc (.cells #[.pointer (some ⟨g,0,none⟩),.int .u32 x,.int .i64 (p.fac:Int)] 191)).heap.size (w2.alloc (.cells #[.pointer (some ⟨g,0,none⟩),.int .u32 x,.int .i64 (p.fac:Int)] 191)) W->∀o,Below (w2.alloc (.cells #[.pointer (some ⟨g,0,none⟩),.int .u32 x,.int .i64 (p.fac:Int)] 191)).heap.size (w2.alloc (.cells #[.pointer (some ⟨g,0,none⟩),.int .u32 x,.int .i64 (p.fac:Int)] 191)) (W.alloc o)):=fun W hb o=>hb.alloc hb.size o
 obtain⟨-,-,c0,q0,-,-,-,-⟩:=HW.out _ (Below.refl _ _);have Qd:Hid (∀W,Below (w2.alloc (.cells #[.pointer (some ⟨g,0,none⟩),.int .u32 x,.int .i64 (p.fac:Int)] 191)).heap.size (w2.alloc (.cells #[.pointer (some ⟨g,0,none⟩),.int .u32 x,.int .i64 (p.fac:Int)] 191)) W->Calls prog 49 #[.pointer (some ⟨Z.S.c,0,none⟩),.int .u32 h,.int .i64 0] W (Told W (.tuple #[.agg #[.int .i64 k0,.int .i64 a0,.int .i64 f0],.int .i64 no]))):=fun W hb=>J9.out W (HW.out W hb).1
 clear Ag hg Mp ks J9;go_upto_region 4 with fail
 go_cut [11,12] from 16 to 34 (fun o nn wc=>∃b:Nat,o=.pointer (some ⟨b,0,none⟩)/\nn=.int .i64 no/\Below (w2.alloc (.cells #[.pointer (some ⟨g,0,none⟩),.int .u32 x,.int .i64 (p.fac:Int)] 191)).heap.size (w2.alloc (.cells #[.pointer (some ⟨g,0,none⟩),.int .u32 x,.int .i64 (p.fac:Int)] 191)) wc/\b<wc.heap.size/\wc.cell? ⟨b,0,none⟩=some (.int .i64 k0))
 case first =>
  generalize (w2.alloc (.cells #[.pointer (some ⟨g,0,none⟩),.int .u32 x,.int .i64 (p.fac:Int)] 191))=W3 at *
  clear HW DX BZ AW Bf Dl;have cD:W3.drew.cell? ⟨Z.s,0,none⟩=some (.pointer (some ⟨Z.S.c,0,none⟩)):=c0;have qD:W3.drew.cell? ⟨w.heap.size,0,none⟩=some (.int .u32 h):=q0;have OI:Hid (Calls prog 49 #[.pointer (some ⟨Z.S.c,0,none⟩),.int .u32 h,.int .i64 0] (W3.alloc (.cells #[.int .i64 0,.int .i64 0,.int .i64 0] 54)).drew fun r w4=>r=.returned (.tuple #[.agg #[.int .i64 k0,.int .i64 a0,.int .i64 f0],.int .i64 no])/\Below W3.heap.size W3 w4/\Cells w4 W3.heap.size 54 [.int .i64 0,.int .i64 0,.int .i64 0]):=
   (Qd.out _ (Er.out _ (Below.refl _ _).drew _)).mono fun r w4 h=>⟨h.1,((Er.out _ (Below.refl _ _).drew _)).trans (h.2.mono (by simp)),(Cells.new W3 54 [.int .i64 0,.int .i64 0,.int .i64 0]).same (h.2.block _ (by simp))⟩
  have HD:Hid (Below W3.heap.size W3 W3.drew):=(Below.refl _ _).drew
  go_region_held3 (fun w'=>w'.cell? ⟨Z.s,0,none⟩=some (.pointer (some ⟨Z.S.c,0,none⟩))/\w'.cell? ⟨w.heap.size,0,none⟩=some (.int .u32 h))
   (first|exact⟨c0,q0⟩|exact⟨cD,qD⟩|exact HS.out _ (Er.out _ HD.out _)|exact HS.out _ Ay.out|exact HS.out _ (Er.out _ Ay.out _)|exact HS.out _ (Ay.out.setCell (by simp) _)|exact HS.out _ ((Ay.out.setCell (by simp) _).setCell (by simp) _)|exact HS.out _ (((Ay.out.setCell (by simp) _).setCell (by simp) _).setCell (by simp) _))
   (first|(go_at_call 49;refine OI.out.mono ?_;rintro rv w4 ⟨rfl,AC,C0⟩;have Ay:=Q0a AC;have z0:=C0.cell 0 _ rfl;have z1:=C0.cell 1 _ rfl;have z2:=C0.cell 2 _ rfl;have y0:=C0.free 0;have y1:=C0.free 1;have y2:=C0.free 2;have OU:=Q0a C0;clear AC C0)|(go_at_call 49;refine (HK.out _ (by first|exact HD.out|exact Er.out _ HD.out _)).mono ?_;rintro rv w4 ⟨rfl,AC⟩;have Ay:=Q0a AC;clear AC))
  ·go_wp2_with fail;go_meet;exact⟨_,rfl,rfl,Er.out _ Ay.out _,by simp,(Cells.new w4 54 [.int .i64 k0,.int .i64 a0,.int .i64 f0]).cell 0 _ rfl⟩
  ·go_wp2_with fail;go_meet;exact⟨_,rfl,rfl,((Ay.out.setCell (by simp) _).setCell (by simp) _).setCell (by simp) _,by simpa using OU.out.lt,(((OU.out.set 0 (.int .i64 k0)).set 1 (.int .i64 a0)).set 2 (.int .i64 f0)).cell 0 _ rfl⟩
 obtain⟨bo,rfl,rfl,AC,Ab,Bs⟩:=hcut;have h5:=HW.out wc AC;obtain⟨AL,Rs,-,-,-,u0,u1,u2⟩:=h5;have kc:=DX.out _ g AL Rs;have Qx:=Q0a Bs;have Ay:=Q0a AC;have QQ:Hid (∀W,Below wc.heap.size wc W->(Below w.heap.size w W/\TblZ Z p g W/\W.cell? ⟨Z.s,0,none⟩=some (.pointer (some ⟨Z.S.c,0,none⟩))/\W.cell? ⟨w.heap.size,0,none⟩=some (.int .u32 h)/\W.cell? ⟨w.heap.size,1,none⟩=some (.int .i64 r)/\W.cell? ⟨w2.heap.size,0,none⟩=some (.pointer (some ⟨g,0,none⟩))/\W.cell? ⟨w2.heap.size,1,none⟩=some (.int .u32 x)/\W.cell? ⟨w2.heap.size,2,none⟩=some (.int .i64 (p.fac:Int)))/\W.cell? ⟨bo,0,none⟩=some (.int .i64 k0)):=fun W hb=>⟨HW.out W (Ay.out.trans (hb.mono Ay.out.size)),(hb.cell (p:=⟨bo,0,none⟩) Ab).trans Qx.out⟩
 clear AC AL Rs Ab Bs DX HW HS HK Er Qd c0 q0;go_wp2_with fail;refine kc.mono ?_;rintro rv w6 ⟨rfl,CV⟩;go_wp2_with fail;generalize hW7:(w6.alloc (.cells #[.int .u32 ca,.int .i64 cb] 72))=w7;have F5:Below wc.heap.size wc w7:=by rw [<- hW7];exact CV.alloc CV.size _
 have CE:Hid (∀n,(Below w.heap.size w (w7.drewN n)/\TblZ Z p g (w7.drewN n)/\(w7.drewN n).cell? ⟨Z.s,0,none⟩=some (.pointer (some ⟨Z.S.c,0,none⟩))/\(w7.drewN n).cell? ⟨w.heap.size,0,none⟩=some (.int .u32 h)/\(w7.drewN n).cell? ⟨w.heap.size,1,none⟩=some (.int .i64 r)/\(w7.drewN n).cell? ⟨w2.heap.size,0,none⟩=some (.pointer (some ⟨g,0,none⟩))/\(w7.drewN n).cell? ⟨w2.heap.size,1,none⟩=some (.int .u32 x)/\(w7.drewN n).cell? ⟨w2.heap.size,2,none⟩=some (.int .i64 (p.fac:Int)))/\(w7.drewN n).cell? ⟨bo,0,none⟩=some (.int .i64 k0)):=fun n=>QQ.out _ (Q0Q F5 n)
 have FV:Hid (Below w.heap.size w w7):=(CE.out 0).1.1;have q1:w7.cell? ⟨w.heap.size,1,none⟩=some (.int .i64 r):=(CE.out 0).1.2.2.2.2.1;have k8:w7.cell? ⟨bo,0,none⟩=some (.int .i64 k0):=(CE.out 0).2;have CJ:Hid (∀n,Calls prog 106 #[.int .i64 r] (w7.drewN n) fun e w''=>e=.returned (.bool br)/\∃m,w''=w7.drewN m):=fun n=>(Bf.out _).mono fun e w' h=>⟨h.1,n,h.2.symm⟩
 have KR:Hid (∀n,Calls prog 96 #[.int .i64 z] (w7.drewN n) fun e w''=>e=.returned (.bool bc)/\∃m,w''=w7.drewN m):=fun n=>(Dl.out _).mono fun e w' h=>⟨h.1,n,h.2.symm⟩
 have kh:=AW.out w7;clear hW7 F5 CV kc u0 u1 u2 QQ Bf Dl AW Ay Qx;rcases BZ.out with ⟨er,hT,hQ⟩|⟨rfl,rfl,rfl,A9,rfl,hl⟩
 ·have HQ:=Q0a hQ;clear hQ BZ;rcases hT with ⟨rfl,rfl⟩|⟨rfl,rfl,rfl⟩|⟨rfl,rfl,rfl,rfl⟩|⟨rfl,rfl,rfl,A9,rfl⟩|⟨rfl,rfl,rfl,A9,rfl,rfl⟩
  ·refine kh.mono ?_;rintro rv w' ⟨rfl,rfl⟩;go_wp2_with fail
   first|exact⟨_,rfl,HQ.out _ FV.out⟩|(go_ret;exact⟨_,rfl,HQ.out _ FV.out⟩)
  ·refine kh.mono ?_;rintro rv w' ⟨rfl,rfl⟩;go_wp2_with fail
   first|exact⟨_,rfl,HQ.out _ FV.out⟩|(go_ret;exact⟨_,rfl,HQ.out _ FV.out⟩)
  ·refine kh.mono ?_;rintro rv w' ⟨rfl,rfl⟩;go_wp2_with fail
   go_quiet ((go_at_call 106;exact CJ.out _))
   go_wp2_with fail
   first|exact⟨_,rfl,HQ.out _ (CE.out _).1.1⟩|(go_ret;exact⟨_,rfl,HQ.out _ (CE.out _).1.1⟩)
  ·have hc:=Q9y A9;clear A9;rcases hc with ⟨rfl,rfl⟩|⟨rfl,LK,LN⟩
   ·refine kh.mono ?_;rintro rv w' ⟨rfl,rfl⟩;go_wp2_with fail
    go_quiet (first|(go_at_call 106;exact CJ.out _)|(go_at_call 96;exact KR.out _))
    go_wp2_with fail
    first|exact⟨_,rfl,HQ.out _ (CE.out _).1.1⟩|(go_ret;exact⟨_,rfl,HQ.out _ (CE.out _).1.1⟩)
   ·refine kh.mono ?_;rintro rv w' ⟨rfl,rfl⟩;go_wp2_with fail
    go_quiet (first|(go_at_call 106;exact CJ.out _)|(go_at_call 96;exact KR.out _))
    go_wp2_with fail
    first|exact⟨_,rfl,HQ.out _ (CE.out _).1.1⟩|(go_ret;exact⟨_,rfl,HQ.out _ (CE.out _).1.1⟩)
  ·have hc:=Q3l A9;clear A9;rcases hc with ⟨rfl,LK,LN⟩|⟨rfl,rfl⟩
   ·refine kh.mono ?_;rintro rv w' ⟨rfl,rfl⟩;go_wp2_with fail
    go_quiet (first|(go_at_call 106;exact CJ.out _)|(go_at_call 96;exact KR.out _))
    go_wp2_with fail
    first|exact⟨_,rfl,HQ.out _ (CE.out _).1.1⟩|(go_ret;exact⟨_,rfl,HQ.out _ (CE.out _).1.1⟩)
   ·refine kh.mono ?_;rintro rv w' ⟨rfl,rfl⟩;go_wp2_with fail
    go_quiet (first|(go_at_call 106;exact CJ.out _)|(go_at_call 96;exact KR.out _))
    go_wp2_with fail
    first|exact⟨_,rfl,HQ.out _ (CE.out _).1.1⟩|(go_ret;exact⟨_,rfl,HQ.out _ (CE.out _).1.1⟩)
 ·have EE:=Q0a (fun n=>hl (w7.drewN n) g (CE.out n).1.1 (CE.out n).1.2.1);obtain⟨⟨-,-,-,q0,-,v0,v1,v2⟩,-⟩:=CE.out 0;have q0:w7.cell? ⟨w.heap.size,0,none⟩=some (.int .u32 h):=q0;have v0:w7.cell? ⟨w2.heap.size,0,none⟩=some (.pointer (some ⟨g,0,none⟩)):=v0;have v1:w7.cell? ⟨w2.heap.size,1,none⟩=some (.int .u32 x):=v1;have v2:w7.cell? ⟨w2.heap.size,2,none⟩=some (.int .i64 (p.fac:Int)):=v2;clear hl BZ;have hc:=Q3l A9;clear A9;rcases hc with ⟨rfl,LK,LN⟩|⟨rfl,rfl⟩
  ·refine kh.mono ?_;rintro rv w' ⟨rfl,rfl⟩;go_wp2_with fail
   go_quiet (first|(go_at_call 106;exact CJ.out _)|(go_at_call 96;exact KR.out _))
   go_wp2_with fail;refine (EE.out _).mono ?_;rintro rv w5 ⟨er,rfl,⟨Aa,hq⟩|⟨rfl,Ui,Bz⟩⟩
   ·have Br:(er != 0)=true:=by simp [Aa]
    have HQ:=Q0a hq;clear hq;go_wp2_with fail
    first|exact⟨_,rfl,HQ.out⟩|(go_ret;exact⟨_,rfl,HQ.out⟩)
   ·have Dh:=Q0a Bz;clear Bz;go_wp2_with fail;refine Dh.out.mono ?_;rintro rv w8 ⟨⟨ra,rb,rfl⟩,hq⟩;have HQ:=Q0a hq;clear hq;go_wp2_with fail
    first|exact⟨_,rfl,HQ.out⟩|(go_ret;exact⟨_,rfl,HQ.out⟩)
  ·refine kh.mono ?_;rintro rv w' ⟨rfl,rfl⟩;go_wp2_with fail
   go_quiet (first|(go_at_call 106;exact CJ.out _)|(go_at_call 96;exact KR.out _))
   go_wp2_with fail;refine (EE.out _).mono ?_;rintro rv w5 ⟨er,rfl,⟨Aa,hq⟩|⟨rfl,Ui,Bz⟩⟩
   ·have Br:(er != 0)=true:=by simp [Aa]
    have HQ:=Q0a hq;clear hq;go_wp2_with fail
    first|exact⟨_,rfl,HQ.out⟩|(go_ret;exact⟨_,rfl,HQ.out⟩)
   ·have Dh:=Q0a Bz;clear Bz;go_wp2_with fail;refine Dh.out.mono ?_;rintro rv w8 ⟨⟨ra,rb,rfl⟩,hq⟩;have HQ:=Q0a hq;clear hq;go_wp2_with fail
    first|exact⟨_,rfl,HQ.out⟩|(go_ret;exact⟨_,rfl,HQ.out⟩)
theorem Q9z {l:List Pl} (lok:LOk l) {s h:Nat} {q:Pl} (hq:pget l s h=some q):h<4294967295:=by
 have h1:=pget_some.1 hq;have h2:=lok.2 q (Q0A hq);have:nm (h%256) q=h:=h1.2.1;unfold nm at this;omega
theorem Q7x {w:World} {s x h:Nat} {z r e:Int} (he:e≠0) (hS:Calls prog 90 #[.pointer (some ⟨s,0,none⟩),.int .u32 x] (w.alloc (.cells #[.int .u32 h,.int .i64 r] 72)) (Told (w.alloc (.cells #[.int .u32 h,.int .i64 r] 72)) (.tuple #[.agg #[.pointer none,.int .u32 0,.int .i64 0],.int .i64 e]))) :
  Calls prog 41 #[.pointer (some ⟨s,0,none⟩),.int .u32 x,.int .i64 z,.agg #[.int .u32 h,.int .i64 r]] w (Told w (.int .i64 e)):=by
 have FI:(e != 0)=true:=by simpa using he
 have HB:Hid (∀w1,Below (w.alloc (.cells #[.int .u32 h,.int .i64 r] 72)).heap.size (w.alloc (.cells #[.int .u32 h,.int .i64 r] 72)) w1->∀o,Below w.heap.size w (w1.alloc o)):=fun w1 hb o=>(Q0e hb).alloc (Q0e hb).size o
 go_enter func41,ntmps41;go_wp2_with fail;refine hS.mono ?_;rintro rv w1 ⟨rfl,hb⟩;have HW:=Q0a (HB.out w1 hb);clear hb HB hS;go_wp2_with fail
 first|exact⟨rfl,HW.out _⟩|(go_ret;exact⟨rfl,HW.out _⟩)
theorem Q9A {w:World} {Z:SP} {fr:List Nat} {N K:Nat} {M:Int} (hs:Sep w Z.hl) (ok:Z.Ok fr N K M) (hM:M+1<1099511627776) {x h:Nat} (hx:x<4294967296) (hh:h<4294967296) (z r:Int) :
  Calls prog 41 #[.pointer (some ⟨Z.s,0,none⟩),.int .u32 x,.int .i64 z,.agg #[.int .u32 h,.int .i64 r]] w fun rv w'=>∃er:Int,rv=.returned (.int .i64 er)/\RootR Z fr N K M x z h r w er w':=by
 have s1:=(hs.grown ((Below.refl w.heap.size w).alloc (J2y _) (.cells #[.int .u32 h,.int .i64 r] 72))).sep;cases hp:pget Z.S.l 1 x with
 | none =>
  refine (Q7x (e:=8) (by decide) (Q0I s1 ok.core hx 8 (.inl ⟨hp,rfl⟩))).mono ?_;rintro rv w' ⟨rfl,hb⟩;exact⟨_,rfl,.inl ⟨by decide,.inl ⟨hp,rfl⟩,hb⟩⟩
 | some p =>
  by_cases hk:p.kind=2
  case neg =>
   refine (Q7x (e:=10) (by decide) (Q0I s1 ok.core hx 10 (.inr ⟨p,hp,hk,rfl⟩))).mono ?_;rintro rv w' ⟨rfl,hb⟩;exact⟨_,rfl,.inl ⟨by decide,.inr ⟨p,hp,.inl ⟨hk,rfl⟩⟩,hb⟩⟩
  clear s1;cases hq:pget Z.S.l 1 h with
  | none =>
   refine Q7w hs ok hx hh hp hk z r (k0:=0) (a0:=0) (f0:=0) (no:=8) (fun W hb=>Q4J (SP.sS (hs.grown hb).sep) ok.core.inv.lok hh 0 hq) (.inl ?_);by_cases hz:0<=z/\z<256
   ·exact⟨8,.inr (.inl ⟨by simpa using hz,rfl,rfl⟩),fun W hb=>.inl ⟨by decide,.inr ⟨p,hp,.inr ⟨hk,.inr ⟨hz,.inl ⟨hq,rfl⟩⟩⟩⟩,hb⟩⟩
   ·exact⟨2,.inl ⟨decide_eq_false hz,rfl⟩,fun W hb=>.inl ⟨by decide,.inr ⟨p,hp,.inr ⟨hk,.inl ⟨hz,rfl⟩⟩⟩,hb⟩⟩
  | some q =>
   refine Q7w hs ok hx hh hp hk z r (k0:=(q.kind:Int)) (a0:=(q.at_:Int)) (f0:=(q.fac:Int)) (no:=0) (fun W hb=>Q3I (SP.sS (hs.grown hb).sep) ok.core.inv.lok hh 0 hq (.inl rfl)) ?_;by_cases hz:0<=z/\z<256
   case neg=>exact .inl ⟨2,.inl ⟨decide_eq_false hz,rfl⟩,fun W hb=>.inl ⟨by decide,.inr ⟨p,hp,.inr ⟨hk,.inl ⟨hz,rfl⟩⟩⟩,hb⟩⟩
   have Ho:decide (0<=z/\z<256)=true:=decide_eq_true hz;by_cases hr:0<r/\r<=15
   case neg=>exact .inl ⟨1,.inr (.inr (.inl ⟨Ho,rfl,decide_eq_false hr,rfl⟩)),fun W hb=>.inl ⟨by decide,.inr ⟨p,hp,.inr ⟨hk,.inr ⟨hz,.inr ⟨q,hq,.inl ⟨fun hc=>hr hc.1,rfl⟩⟩⟩⟩⟩,hb⟩⟩
   have Fq:decide (0<r/\r<=15)=true:=decide_eq_true hr;by_cases hm:(q.kind=8↔128<=z)
   case neg =>
    refine .inl ⟨1,.inr (.inr (.inr (.inl ⟨Ho,rfl,Fq,?_,rfl⟩))),fun W hb=>.inl ⟨by decide,.inr ⟨p,hp,.inr ⟨hk,.inr ⟨hz,.inr ⟨q,hq,.inl ⟨fun hc=>hm hc.2,rfl⟩⟩⟩⟩⟩,hb⟩⟩;by_cases h8:q.kind=8
    ·have h9:z<128:=by have:¬128<=z:=fun h=>hm ⟨fun _=>h,fun _=>h8⟩;omega
     simp [h8,h9]
    ·have h9:¬z<128:=by intro h;exact hm ⟨fun h'=>absurd h' h8,fun h'=>by omega⟩
     have Nx:¬(q.kind:Int)=8:=by omega
     simp [h9,Nx]
   have EQ:(decide (z<128)==((q.kind:Int)==8))=false:=by
    by_cases h8:q.kind=8
    ·have h9:¬z<128:=by have:=hm.1 h8;omega
     simp [h8,h9]
    ·have h9:z<128:=by have:¬128<=z:=fun h=>h8 (hm.2 h);omega
     have Nx:¬(q.kind:Int)=8:=by omega
     simp [h9,Nx]
   obtain⟨s,rfl⟩:∃s:Nat,z=(s:Int):=⟨z.toNat,by omega⟩
   obtain⟨rn,rfl⟩:∃rn:Nat,r=(rn:Int):=⟨r.toNat,by omega⟩
   have A7:s<256:=by omega
   have AA:(Z.tb (x%256)).at' (s:Int)=Q0f Z.S.l Z.tb x s:=by
    unfold TB.at';rw [if_pos hz,Q0g hp hk (by omega)];rfl
   cases h0:Q0f Z.S.l Z.tb x s with
   | some e0 =>
    refine .inl ⟨7,.inr (.inr (.inr (.inr ⟨Ho,rfl,Fq,EQ,by rw [AA,h0];rfl,rfl⟩))),fun W hb=>.inl ⟨by decide,.inr ⟨p,hp,.inr ⟨hk,.inr ⟨hz,.inr ⟨q,hq,.inr ⟨⟨hr,hm⟩,?_,rfl⟩⟩⟩⟩⟩,hb⟩⟩;rw [J3F,h0];exact Option.some_ne_none _
   | none =>
    refine .inr ⟨Ho,rfl,Fq,EQ,by rw [AA,h0];rfl,fun W g hb hg=>?_⟩;have hi:=(pget_some.1 hp).1;have Ao:=(pget_some.1 hp).2.2;have Df:(Z.tb (x%256)).en s=none:=by rw [<- Q0g hp hk A7];exact h0
    have Cd:(q.kind=8↔128<=s):=by rw [hm];omega
    have A5:h<4294967295:=Q9z ok.core.inv.lok hq;refine (Q8f (hs.grown hb).sep ok.core ok.tpi (x:=x) hi Ao hk A7 Df A5 (by omega:rn<16) hg).mono ?_;rintro rv w5 ⟨er,rfl,⟨rfl,nd,S',t',T,st⟩|⟨he,F1,P',tr,st⟩⟩
    ·have AE:Q6O Z.S.l s ⟨h,rn,nd⟩:=⟨⟨q,hq,Cd⟩,by dsimp only;omega⟩
     obtain⟨c1,k⟩:=Z8H ok hM hx hp hk A7 h0 AE T ((hs.grown hb).trans st) (par:=0) (.inl rfl) (Below.refl _ _);refine⟨0,rfl,.inr ⟨rfl,c1,k.mono ?_⟩⟩;rintro rv w' ⟨rfl,PZ⟩;exact⟨⟨_,_,rfl⟩,.inr ⟨s,rn,p,q,rfl,rfl,A7,by omega,by omega,hp,hk,hq,Cd,h0,.inl ⟨rfl,PZ⟩⟩⟩
    ·exact⟨er,rfl,.inl ⟨by omega,.inr ⟨s,rn,p,q,rfl,rfl,A7,by omega,by omega,hp,hk,hq,Cd,h0,.inr ⟨he,F1,P',tr,(hs.grown hb).trans st⟩⟩⟩⟩
theorem Z6r (w:World) (k:Int):Calls prog 101 #[.int .i64 k] w fun r w'=>r=.returned (.bool (decide (k=8∨1<=k/\k<=5)))/\w=w':=by
 by_cases h8:k=8
 ·subst h8;go_enter func101,ntmps101;go_wp2_with fail
  first|exact⟨rfl,rfl⟩|(go_ret;exact⟨rfl,rfl⟩)
 ·have b8:(k==8)=false:=by simpa using h8
  have d8:decide (k=8)=false:=decide_eq_false h8;by_cases h1:1<=k
  ·have d1:decide (1<=k)=true:=decide_eq_true h1;by_cases h5:k<=5
   ·have d5:decide (k<=5)=true:=decide_eq_true h5;have hv:decide (k=8∨1<=k/\k<=5)=true:=decide_eq_true (.inr ⟨h1,h5⟩);rw [hv];clear hv;go_enter func101,ntmps101;go_wp2_with fail
    first|exact⟨rfl,rfl⟩|(go_ret;exact⟨rfl,rfl⟩)
   ·have d5:decide (k<=5)=false:=decide_eq_false h5;have hv:decide (k=8∨1<=k/\k<=5)=false:=decide_eq_false (by omega);rw [hv];clear hv;go_enter func101,ntmps101;go_wp2_with fail
    first|exact⟨rfl,rfl⟩|(go_ret;exact⟨rfl,rfl⟩)
  ·have d1:decide (1<=k)=false:=decide_eq_false h1;have hv:decide (k=8∨1<=k/\k<=5)=false:=decide_eq_false (by omega);rw [hv];clear hv;go_enter func101,ntmps101;go_wp2_with fail
   first|exact⟨rfl,rfl⟩|(go_ret;exact⟨rfl,rfl⟩)
theorem Q7y {w:World} {s x y:Nat} {z k lim e:Int} (he:e≠0) (hS:Calls prog 90 #[.pointer (some ⟨s,0,none⟩),.int .u32 x] w (Told w (.tuple #[.agg #[.pointer none,.int .u32 0,.int .i64 0],.int .i64 e]))) :
  Calls prog 40 #[.pointer (some ⟨s,0,none⟩),.int .u32 x,.int .i64 z,.int .u32 y,.int .i64 k,.int .i64 lim] w (Told w (.tuple #[.int .u32 0,.int .i64 e])):=by
 have FI:(e != 0)=true:=by simpa using he
 have HB:Hid (∀w1,Below w.heap.size w w1->∀o,Below w.heap.size w (w1.alloc o)):=fun w1 hb o=>hb.alloc hb.size o
 go_enter func40,ntmps40;go_wp2_with fail;refine hS.mono ?_;rintro rv w1 ⟨rfl,hb⟩;have HW:=Q0a (HB.out w1 hb);clear hb HB hS;go_wp2_with fail
 first|exact⟨rfl,HW.out _⟩|(go_ret2;exact⟨rfl,HW.out _⟩)
def J2r (bh bm bc bk full:Bool) (er:Int):Prop:=(bh=false/\er=2)∨(bh=true/\bm=false/\er=1)∨(bh=true/\bm=true/\(bc==bk)=true/\er=1)∨(bh=true/\bm=true/\(bc==bk)=false/\full=true/\er=7)
def Z6s (Z:SP) (g x f B:Nat) (w':World):Prop:=w'.cell? ⟨Z.s,0,none⟩=some (.pointer (some ⟨Z.S.c,0,none⟩))/\w'.cell? ⟨Z.s,1,none⟩=some (.pointer (some ⟨Z.F.f,0,none⟩))/\w'.cell? ⟨B,0,none⟩=some (.pointer (some ⟨g,0,none⟩))/\w'.cell? ⟨B,1,none⟩=some (.int .u32 x)/\w'.cell? ⟨B,2,none⟩=some (.int .i64 f)
def Z1T (Z:SP) (g x f B y:Nat) (z k lim:Int) (Q:Nat->Int->World->Prop) (w5:World):Prop:=
 Calls prog 79 #[.pointer (some ⟨Z.S.c,0,none⟩),.int .u32 y,.int .i64 k,.int .i64 lim] w5 fun rv w6=>∃(hh:Nat) (er:Int),rv=.returned (.tuple #[.int .u32 hh,.int .i64 er])/\Z6s Z g x f B w6 /\
  ((er≠0/\Calls prog 99 #[.pointer (some ⟨Z.s,0,none⟩),.agg #[.pointer (some ⟨g,0,none⟩),.int .u32 x,.int .i64 f],.int .i64 z] w6 fun rv w7=>rv=.returned (.tuple #[])/\Q 0 er w7) ∨
   (er=0/\∃a b c:Nat,Calls prog 102 #[.pointer (some ⟨g,0,none⟩),.int .i64 z] w6 (fun rv w7=>rv=.returned (.tuple #[.int .u64 a,.int .u64 b])/\w6=w7) /\
   (∀w8,Below w6.heap.size w6 w8->Z6s Z g x f B w8/\Calls prog 104 #[.agg #[.int .u32 hh,.int .i64 15]] w8 (Told w8 (.int .u64 c)) /\
    Calls prog 103 #[.pointer (some ⟨g,0,none⟩),.int .i64 z,.int .u64 c,.int .u64 b] w8 fun rv w9=>(∃v,rv=.returned (.int .i64 v))/\Z6s Z g x f B w9/\∀n,
    Calls prog 105 #[.pointer (some ⟨Z.F.f,0,none⟩),.int .i64 0,.int .i64 x,.int .i64 z] (w9.drewN n) fun rv w'=>(∃a b:Value,rv=.returned (.tuple #[a,b]))/\Q hh 0 w')))
theorem Z3l {w:World} {Z:SP} {fr:List Nat} {N K:Nat} {M:Int} (hs:Sep w Z.hl) (ok:Z.Ok fr N K M) {x y:Nat} (hx:x<4294967296) {p:Pl} (hp:pget Z.S.l 1 x=some p) (hk:p.kind=2) (z k lim:Int) {Q:Nat->Int->World->Prop}
  (As:(∃er,J2r (decide (0<=z/\z<256)) (decide (k=8∨1<=k/\k<=5)) (decide (z<128)) (k==8) ((Z.tb (x%256)).at' z).isSome er/\∀W,Below w.heap.size w W->Q 0 er W) ∨
   (decide (0<=z/\z<256)=true/\decide (k=8∨1<=k/\k<=5)=true/\(decide (z<128)==(k==8))=false/\((Z.tb (x%256)).at' z).isSome=false /\
    ∀W g B,Below w.heap.size w W->TblZ Z p g W->AsideV Z.hl [.pointer (some ⟨g,0,none⟩),.int .u32 x,.int .i64 (p.fac:Int)] (some ⟨B,0,none⟩) W->Calls prog 98 #[.pointer (some ⟨Z.s,0,none⟩),.agg #[.pointer (some ⟨g,0,none⟩),.int .u32 x,.int .i64 (p.fac:Int)],.int .i64 z,.agg #[.int .u32 0,.int .i64 15]] W fun rv w5=>∃er:Int,rv=.returned (.int .i64 er) /\
     ((er≠0/\Q 0 er w5)∨(er=0/\Z6s Z g x p.fac B w5/\Z1T Z g x p.fac B y z k lim Q w5)))) :
  Calls prog 40 #[.pointer (some ⟨Z.s,0,none⟩),.int .u32 x,.int .i64 z,.int .u32 y,.int .i64 k,.int .i64 lim] w fun rv w'=>∃(hh:Nat) (er:Int),rv=.returned (.tuple #[.int .u32 hh,.int .i64 er])/\Q hh er w':=by
 have ks:=Q0V hs ok.core hx hp hk;have hi:=(pget_some.1 hp).1;have Ao:=(pget_some.1 hp).2.2;obtain⟨ca,cb,Ca⟩:=Q3K ((Z.tb (x%256)).at' z);have AA:(Z.tb (x%256)).at' z=if 0<=z/\z<256 then Q0f Z.S.l Z.tb x z.toNat else none:=by
  unfold TB.at';split
  ·rename_i h;rw [Q0g hp hk (by omega)]
  ·rfl
 have DX:Hid (∀W g,Below w.heap.size w W->TblZ Z p g W->Calls prog 93 #[.agg #[.pointer (some ⟨g,0,none⟩),.int .u32 x,.int .i64 (p.fac:Int)],.int .i64 z] W (Told W (.tuple #[.agg #[.int .u32 ca,.int .i64 cb],.bool ((Z.tb (x%256)).at' z).isSome]))):=fun W g hb hg=>by
  have T:=(ok.tpi.x (p.fac:Int)).tt ok.core hi Ao hk (SP.sS (hs.grown hb).sep) hg.c;have:=Q1t T (x:Int) (p.fac:Int) z fun e AM=>by
   rw [AA] at AM;split at AM
   ·exact ok.fpi.low ok.core.inv.lok AM
   ·cases AM
  rwa [Ca] at this
 have Mp:Hid (∀(w2:World) (g:Nat),Below w.heap.size w w2->TblZ Z p g w2->∀W,Below (w2.alloc (.cells #[.pointer (some ⟨g,0,none⟩),.int .u32 x,.int .i64 (p.fac:Int)] 191)).heap.size (w2.alloc (.cells #[.pointer (some ⟨g,0,none⟩),.int .u32 x,.int .i64 (p.fac:Int)] 191)) W ->
   Below w.heap.size w W/\TblZ Z p g W/\AsideV Z.hl [.pointer (some ⟨g,0,none⟩),.int .u32 x,.int .i64 (p.fac:Int)] (some ⟨w2.heap.size,0,none⟩) W):=fun w2 g Ag hg W FH=>by
  have s2:=(hs.grown Ag).sep;have Ar:Below w2.heap.size w2 W:=Q0e FH;have h9:=(Cells.new w2 191 [.pointer (some ⟨g,0,none⟩),.int .u32 x,.int .i64 (p.fac:Int)]).same (FH.block w2.heap.size (by simp));refine⟨Ag.trans (Ar.mono Ag.size),hg.grown s2 Ar,fun j v hj=>⟨w2.heap.size,rfl,fun hk=>?_,h9.lt,h9.cell j v hj⟩⟩;exact absurd (s2.lt hk) (Nat.lt_irrefl _)
 have BZ:=Q0a As;have AW:Hid (∀W,Calls prog 92 #[.int .i64 z] W fun r w'=>r=.returned (.bool (decide (0<=z/\z<256)))/\W=w'):=fun W=>Q2Q W z
 have Js:Hid (∀W,Calls prog 101 #[.int .i64 k] W fun r' w'=>r'=.returned (.bool (decide (k=8∨1<=k/\k<=5)))/\W=w'):=fun W=>Z6r W k
 have Dl:Hid (∀W,Calls prog 96 #[.int .i64 z] W fun r w'=>r=.returned (.bool (decide (z<128)))/\W=w'):=fun W=>Q2E W z
 have Cl:(0:Int)<=(x:Int):=by omega
 have Du:(x:Int)<4294967296:=by omega
 have LT:IntKind.i64.wrap (x:Int)=(x:Int):=Go.IntWalk.i64_in _ (by omega);generalize ((Z.tb (x%256)).at' z).isSome=full at *
 generalize decide (0<=z/\z<256)=bh at *
 generalize decide (k=8∨1<=k/\k<=5)=bm at *
 generalize decide (z<128)=bc at *
 clear hs ok hx hp hk hi Ao Ca AA As;go_enter func40,ntmps40;go_wp2_with fail;refine ks.mono ?_;rintro rv w2 ⟨g,rfl,Ag,hg⟩;have HW:=Q0a (Mp.out w2 g Ag hg);obtain⟨Ar,JE,N2⟩:=HW.out _ (Below.refl _ _);have kc:=DX.out _ g Ar JE;have v0:=N2.at 0 _ rfl;have v1:=N2.at 1 _ rfl;have v2:=N2.at 2 _ rfl;clear Ag hg Mp ks DX Ar JE N2;go_wp2_with fail;refine kc.mono ?_;rintro rv w6 ⟨rfl,CV⟩;go_wp2_with fail;generalize hW7:(w6.alloc (.cells #[.int .u32 ca,.int .i64 cb] 72))=w7;have CE:=Q0a (HW.out w7 (by rw [<- hW7];exact CV.alloc CV.size _));have kh:=AW.out w7;have km:=Js.out w7
 have kp:=Dl.out w7;clear hW7 CV kc v0 v1 v2 HW Js Dl AW;rcases BZ.out with ⟨er,hT,hQ⟩|⟨rfl,rfl,A9,rfl,hl⟩
 ·have HQ:=Q0a (hQ _ CE.out.1);clear hQ BZ;rcases hT with ⟨rfl,rfl⟩|⟨rfl,rfl,rfl⟩|⟨rfl,rfl,A9,rfl⟩|⟨rfl,rfl,A9,rfl,rfl⟩
  ·refine kh.mono ?_;rintro rv w' ⟨rfl,rfl⟩;go_wp2_with fail
   first|exact⟨0,_,rfl,HQ.out⟩|(go_ret2;exact⟨0,_,rfl,HQ.out⟩)
  ·refine kh.mono ?_;rintro rv w' ⟨rfl,rfl⟩;go_wp2_with fail;refine km.mono ?_;rintro rv w' ⟨rfl,rfl⟩;go_wp2_with fail
   first|exact⟨0,_,rfl,HQ.out⟩|(go_ret2;exact⟨0,_,rfl,HQ.out⟩)
  ·have hc:=Q9y A9;clear A9;rcases hc with ⟨rfl,rfl⟩|⟨rfl,LK,LN⟩
   ·refine kh.mono ?_;rintro rv w' ⟨rfl,rfl⟩;go_wp2_with fail;refine km.mono ?_;rintro rv w' ⟨rfl,rfl⟩;go_wp2_with fail;refine kp.mono ?_;rintro rv w' ⟨rfl,rfl⟩;go_wp2_with fail
    first|exact⟨0,_,rfl,HQ.out⟩|(go_ret2;exact⟨0,_,rfl,HQ.out⟩)
   ·refine kh.mono ?_;rintro rv w' ⟨rfl,rfl⟩;go_wp2_with fail;refine km.mono ?_;rintro rv w' ⟨rfl,rfl⟩;go_wp2_with fail;refine kp.mono ?_;rintro rv w' ⟨rfl,rfl⟩;go_wp2_with fail
    first|exact⟨0,_,rfl,HQ.out⟩|(go_ret2;exact⟨0,_,rfl,HQ.out⟩)
  ·have hc:=Q3l A9;clear A9;rcases hc with ⟨rfl,LK,LN⟩|⟨rfl,rfl⟩
   ·refine kh.mono ?_;rintro rv w' ⟨rfl,rfl⟩;go_wp2_with fail;refine km.mono ?_;rintro rv w' ⟨rfl,rfl⟩;go_wp2_with fail;refine kp.mono ?_;rintro rv w' ⟨rfl,rfl⟩;go_wp2_with fail
    first|exact⟨0,_,rfl,HQ.out⟩|(go_ret2;exact⟨0,_,rfl,HQ.out⟩)
   ·refine kh.mono ?_;rintro rv w' ⟨rfl,rfl⟩;go_wp2_with fail;refine km.mono ?_;rintro rv w' ⟨rfl,rfl⟩;go_wp2_with fail;refine kp.mono ?_;rintro rv w' ⟨rfl,rfl⟩;go_wp2_with fail
    first|exact⟨0,_,rfl,HQ.out⟩|(go_ret2;exact⟨0,_,rfl,HQ.out⟩)
 ·have HL:=Q0a (hl w7 g w2.heap.size CE.out.1 CE.out.2.1 CE.out.2.2);have v0:=CE.out.2.2.at 0 _ rfl;have v1:=CE.out.2.2.at 1 _ rfl;have v2:=CE.out.2.2.at 2 _ rfl;clear hl BZ;have hc:=Q3l A9;clear A9;rcases hc with ⟨rfl,LK,LN⟩|⟨rfl,rfl⟩
  ·refine kh.mono ?_;rintro rv w' ⟨rfl,rfl⟩;go_wp2_with fail;refine km.mono ?_;rintro rv w' ⟨rfl,rfl⟩;go_wp2_with fail;refine kp.mono ?_;rintro rv w' ⟨rfl,rfl⟩;go_wp2_with fail;refine HL.out.mono ?_;rintro rv w5 ⟨er,rfl,⟨Aa,hq⟩|⟨rfl,⟨c0,c1,v0,v1,v2⟩,DU⟩⟩
   ·have Br:(er != 0)=true:=by simp [Aa]
    have HQ:=Q0a hq;clear hq;go_wp2_with fail
    first|exact⟨0,_,rfl,HQ.out⟩|(go_ret2;exact⟨0,_,rfl,HQ.out⟩)
   ·have HT:=Q0a DU;clear DU kh km kp HL;go_wp2_with fail;refine HT.out.mono ?_;clear v0 v1 v2 c0 c1;rintro rv w6 ⟨hh,er,rfl,⟨c0,c1,v0,v1,v2⟩,⟨Aa,hb⟩|⟨rfl,a,b,c,CS,h8⟩⟩
    ·have Br:(er != 0)=true:=by simp [Aa]
     have Fd:=Q0a hb;clear hb HT;go_wp2_with fail;refine Fd.out.mono ?_;rintro rv w8 ⟨rfl,hq⟩;have HQ:=Q0a hq;clear hq;go_wp2_with fail
     first|exact⟨0,_,rfl,HQ.out⟩|(go_ret2;exact⟨0,_,rfl,HQ.out⟩)
    ·have H8:=Q0a h8;clear h8 HT;go_wp2_with fail;refine CS.mono ?_;rintro rv w' ⟨rfl,rfl⟩;clear CS;have NY:=(H8.out w6.drew (Below.refl _ _).drew).2.1;have d0:w6.drew.cell? ⟨w2.heap.size,0,none⟩=some (.pointer (some ⟨g,0,none⟩)):=v0;go_wp2_with fail
     go_region_held3 (fun w'=>w'.cell? ⟨w2.heap.size,0,none⟩=some (.pointer (some ⟨g,0,none⟩))) (first|exact v0|exact d0|exact e0|exact m0)
      (first|(go_at_call 104;refine NY.mono ?_;rintro rv w8 ⟨rfl,FL⟩;have h9:=H8.out w8 ((Below.refl w6.heap.size w6).drew.trans (FL.mono (J2y _)));have e0:=h9.1.2.2.1;have C9:=Q0a h9.2.2;clear h9 FL)|(go_at_call 103;refine C9.out.mono ?_;rintro rv w9 ⟨⟨sv,rfl⟩,⟨-,m1,m0,-,-⟩,Bz⟩;have Dh:=Q0a Bz;clear Bz))
     go_wp2_with fail;refine (Dh.out 0).mono ?_;rintro rv w10 ⟨⟨ra,rb,rfl⟩,hq⟩;have HQ:=Q0a hq;clear hq;go_wp2_with fail
     first|exact⟨hh,_,rfl,HQ.out⟩|(go_ret2;exact⟨hh,_,rfl,HQ.out⟩)
  ·refine kh.mono ?_;rintro rv w' ⟨rfl,rfl⟩;go_wp2_with fail;refine km.mono ?_;rintro rv w' ⟨rfl,rfl⟩;go_wp2_with fail;refine kp.mono ?_;rintro rv w' ⟨rfl,rfl⟩;go_wp2_with fail;refine HL.out.mono ?_;rintro rv w5 ⟨er,rfl,⟨Aa,hq⟩|⟨rfl,⟨c0,c1,v0,v1,v2⟩,DU⟩⟩
   ·have Br:(er != 0)=true:=by simp [Aa]
    have HQ:=Q0a hq;clear hq;go_wp2_with fail
    first|exact⟨0,_,rfl,HQ.out⟩|(go_ret2;exact⟨0,_,rfl,HQ.out⟩)
   ·have HT:=Q0a DU;clear DU kh km kp HL;go_wp2_with fail;refine HT.out.mono ?_;clear v0 v1 v2 c0 c1;rintro rv w6 ⟨hh,er,rfl,⟨c0,c1,v0,v1,v2⟩,⟨Aa,hb⟩|⟨rfl,a,b,c,CS,h8⟩⟩
    ·have Br:(er != 0)=true:=by simp [Aa]
     have Fd:=Q0a hb;clear hb HT;go_wp2_with fail;refine Fd.out.mono ?_;rintro rv w8 ⟨rfl,hq⟩;have HQ:=Q0a hq;clear hq;go_wp2_with fail
     first|exact⟨0,_,rfl,HQ.out⟩|(go_ret2;exact⟨0,_,rfl,HQ.out⟩)
    ·have H8:=Q0a h8;clear h8 HT;go_wp2_with fail;refine CS.mono ?_;rintro rv w' ⟨rfl,rfl⟩;clear CS;have NY:=(H8.out w6.drew (Below.refl _ _).drew).2.1;have d0:w6.drew.cell? ⟨w2.heap.size,0,none⟩=some (.pointer (some ⟨g,0,none⟩)):=v0;go_wp2_with fail
     go_region_held3 (fun w'=>w'.cell? ⟨w2.heap.size,0,none⟩=some (.pointer (some ⟨g,0,none⟩))) (first|exact v0|exact d0|exact e0|exact m0)
      (first|(go_at_call 104;refine NY.mono ?_;rintro rv w8 ⟨rfl,FL⟩;have h9:=H8.out w8 ((Below.refl w6.heap.size w6).drew.trans (FL.mono (J2y _)));have e0:=h9.1.2.2.1;have C9:=Q0a h9.2.2;clear h9 FL)|(go_at_call 103;refine C9.out.mono ?_;rintro rv w9 ⟨⟨sv,rfl⟩,⟨-,m1,m0,-,-⟩,Bz⟩;have Dh:=Q0a Bz;clear Bz))
     go_wp2_with fail;refine (Dh.out 0).mono ?_;rintro rv w10 ⟨⟨ra,rb,rfl⟩,hq⟩;have HQ:=Q0a hq;clear hq;go_wp2_with fail
     first|exact⟨hh,_,rfl,HQ.out⟩|(go_ret2;exact⟨hh,_,rfl,HQ.out⟩)
theorem Q9B {l:List Pl} {i:Nat} {p q:Pl} (hi:l[i]?=some p) (hp:p.st=0) {x:Nat} {r:Pl} (hr:pget l 1 x=some r):pget (l.set i q) 1 x=some r:=by
 obtain⟨a,b,c⟩:=pget_some.1 hr;rw [Q0B q hi,if_neg]
 ·exact hr
 ·intro e;rw [e,hi] at a;cases a;omega
theorem Q7z {l:List Pl} {tb:Nat->TB} {i:Nat} {p q:Pl} (hi:l[i]?=some p) (hn:(tb i).Nil) (h s:Nat):Q0f (l.set i q) tb h s=Q0f l tb h s:=by
 by_cases e:h%256=i
 ·have z:∀l',Q0f l' tb h s=none:=fun l'=>by
   unfold Q0f;split
   ·split
    ·rename_i hc;rw [e];exact hn.2 s hc.2
    ·rfl
   ·rfl
  rw [z,z]
 ·unfold Q0f;rw [Q0B q hi,if_neg e]
section
variable {Z:SP} {fr fr':List Nat} {N K:Nat} {M:Int}
theorem SP.Ok.made_added (ok:Z.Ok fr N K M) {x s:Nat} {p:Pl} (hp:pget Z.S.l 1 x=some p) (hk:p.kind=2) (hs:s<256) (h0:Q0f Z.S.l Z.tb x s=none) {S1:CO} {t1:TB} {e1:Ent} (T1:TurnP Z.S fr N K Z.tb (p.fac:Int) (x%256) s (some e1) S1 t1)
  {f q:Pl} {ef:En Fa} {n a y i:Nat} {lim:Int} {P':PL} (m:MadeOk S1 fr f ef n a lim y i q P' fr') (hi:S1.l[i]?=some q) (hq:q.st=0) {e2:Ent} (hc:Q6O (S1.made f n a y i q P').l s e2)
  {S3:CO} {t3:TB} (T3:TurnP (S1.made f n a y i q P') fr' (N+1) K (updT Z.tb (x%256) t1) (p.fac:Int) (x%256) s (some e2) S3 t3) {F':FO} (A:Z1N Z.F 0 (x:Int) (s:Int) F') :
  ((Z.setF F').setS S3 (updT Z.tb (x%256) t3)).Ok fr' (N+1) K (M+1)/\((Z.setF F').setS S3 (updT Z.tb (x%256) t3)).av.en=setA Z.av.en x s (some (e2.h,e2.r))/\∃b,((Z.setF F').setS S3 (updT Z.tb (x%256) t3)).av.N=addN Z.F.N 0 (Z.F.next+1) b (x:Int) (s:Int):=by
 have Dq:S1.l=Z.S.l:=T1.alt.l;have Fi:(S1.made f n a y i q P').l=Z.S.l.set i ⟨n,a,f.own,1,q.age,y⟩:=by
  show S1.l.set i _=_;rw [Dq]
 have Ld:S3.l=Z.S.l.set i ⟨n,a,f.own,1,q.age,y⟩:=T3.alt.l.trans Fi;have B5:Z.S.l[i]?=some q:=by rw [<- Dq];exact hi
 have BK:(Z.tb i).Nil:=ok.tpi.nil i q B5 (by omega);obtain⟨b,hN⟩:=A.N;have A4:pget (Z.S.l.set i ⟨n,a,f.own,1,q.age,y⟩) 1 x=some p:=Q9B B5 hq hp;have Tn:Q0f (Z.S.l.set i ⟨n,a,f.own,1,q.age,y⟩) Z.tb x s=none:=by rw [Q7z B5 BK];exact h0
 have AX:∀z,t3.en z=if z=s then some e2 else (Z.tb (x%256)).en z:=fun z=>by
  rw [T3.en z,updT_same,T1.en z];split <;> rfl
 have DP:=Q6q Z.F.N F'.N A4 hk hs AX;have Gg:((Z.setF F').setS S3 (updT Z.tb (x%256) t3)).av=⟨setA Z.av.en x s ((some e2).map Ent.c),F'.N⟩:=by
  show avOf S3.l (updT Z.tb (x%256) t3) F'.N=_;rw [Ld,DP];congr 2;unfold SP.av avOf;funext h' s';simp only;rw [Q7z B5 BK]
 have Kj:=T3.tpi;rw [Q1c] at Kj;refine⟨⟨T3.ok,Kj,?_,A.ok,by show F'.next<=M+1;rw [A.next];have:=ok.next;omega⟩,by rw [Gg];rfl,b,by rw [Gg];exact hN⟩;show FPI S3.l _ F'.N;rw [Ld,hN];rw [Fi] at hc;exact (ok.fpi.made (q:=⟨n,a,f.own,1,q.age,y⟩) B5 hq BK).add ok.fo.n A4 hk hs Tn AX hc b (.inl rfl)
end
end Go.Proofs.YtfidemmgofcnmaaGreatDoor

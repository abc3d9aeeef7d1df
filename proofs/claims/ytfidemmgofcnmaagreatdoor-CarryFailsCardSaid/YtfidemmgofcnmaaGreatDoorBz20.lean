/- What the laws of spaces share is proved. No condition. Part of a proof. -/
import Derived.Test.YtfidemmgofcnmaaGreatDoorBz19
import Derived.Deep.CutRange
import Derived.ProofKit
import Derived.Deep.Slices
import Derived.OpenShut
set_option maxHeartbeats 8000000
set_option maxRecDepth 100000
set_option linter.unusedVariables false
namespace Go.Proofs.YtfidemmgofcnmaaGreatDoor
open Go.RowKit Go.Proofs.Tryz
def J2Z(bh:Bool)(no:Int)(br bc bk full:Bool)(er:Int):Prop:=(bh=false/\er=2)∨(bh=true/\no=8/\er=8)∨(bh=true/\no=0/\br=false/\er=1)∨(bh=true/\no=0/\br=true/\(bc==bk)=true/\er=1)∨(bh=true/\no=0/\br=true/\(bc==bk)=false/\full=true/\er=7)
theorem Q9y{bc:Bool}{k:Int}(h:(bc==(k==8))=true):(bc=true/\k=8)∨(bc=false/\(k==8)=false/\decide (k=8)=false):=by
 by_cases hk:k=8
 ·subst hk;left;simpa using h
 ·right;cases bc <;> simp_all
theorem Q3c{bc:Bool}{k:Int}(h:(bc==(k==8))=false):(bc=true/\(k==8)=false/\decide (k=8)=false)∨(bc=false/\k=8):=by
 by_cases hk:k=8
 ·subst hk;right;cases bc <;> simp_all
 ·left;cases bc <;> simp_all
theorem Q7r{w:World}{Z:SP}{fr:List Nat}{N K:Nat}{M:Int}(hs:Sep w Z.hl)(ok:Z.Ok fr N K M){x h:Nat}(hx:x<4294967296)(hh:h<4294967296){p:Pl}(hp:pget Z.S.l 1 x=some p)(hk:p.kind=2)(z r:Int){Q:Int->World->Prop}
  {k0 a0 f0 no:Int} (hOf:∀W,Below w.heap.size w W->Calls prog 49 #[.pointer (some ⟨Z.S.c,0,none⟩),.int .u32 h,.int .i64 0] W (Told W (.tuple #[.agg #[.int .i64 k0,.int .i64 a0,.int .i64 f0],.int .i64 no])))
  (Ay:(∃er,J2Z (decide (0<=z/\z<256)) no (decide (0<r/\r<=15)) (decide (z<128)) (k0==8) ((Z.tb (x%256)).at' z).isSome er/\∀W,Below w.heap.size w W->Q er W) ∨
   (decide (0<=z/\z<256)=true/\no=0/\decide (0<r/\r<=15)=true/\(decide (z<128)==(k0==8))=false/\((Z.tb (x%256)).at' z).isSome=false /\
    ∀W g,Below w.heap.size w W->TblZ Z p g W->Calls prog 98 #[.pointer (some ⟨Z.s,0,none⟩),.agg #[.pointer (some ⟨g,0,none⟩),.int .u32 x,.int .i64 (p.fac:Int)],.int .i64 z,.agg #[.int .u32 h,.int .i64 r]] W fun rv w5=>∃er:Int,rv=.returned (.int .i64 er) /\
     ((er≠0/\Q er w5)∨(er=0/\w5.cell? ⟨Z.s,1,none⟩=some (.pointer (some ⟨Z.F.f,0,none⟩))/\Calls prog 105 #[.pointer (some ⟨Z.F.f,0,none⟩),.int .i64 0,.int .i64 x,.int .i64 z] w5 fun rv w'=>(∃a b:Value,rv=.returned (.tuple #[a,b]))/\Q 0 w')))) :
  Calls prog 41 #[.pointer (some ⟨Z.s,0,none⟩),.int .u32 x,.int .i64 z,.agg #[.int .u32 h,.int .i64 r]] w fun rv w'=>∃er:Int,rv=.returned (.int .i64 er)/\Q er w':=by
 have b1:Below w.heap.size w (w.alloc (.cells #[.int .u32 h,.int .i64 r] 72)):=(Below.refl _ _).alloc (J3h _) _;have s1:=(hs.grown b1).sep;have ks:=Q0Y s1 ok.core hx hp hk;have hi:=(pget_some.1 hp).1;have Ao:=(pget_some.1 hp).2.2;obtain⟨ca,cb,Bx⟩:=Q3t ((Z.tb (x%256)).at' z);have Bb:(Z.tb (x%256)).at' z=if 0<=z/\z<256 then Q0f Z.S.l Z.tb x z.toNat else none:=by
  unfold TB.at';split
  ·rename_i h;rw[Q0h hp hk (by omega)]
  ·rfl
 have Gl:Hid (∀W g,Below w.heap.size w W->TblZ Z p g W->Calls prog 93 #[.agg #[.pointer (some ⟨g,0,none⟩),.int .u32 x,.int .i64 (p.fac:Int)],.int .i64 z] W (Told W (.tuple #[.agg #[.int .u32 ca,.int .i64 cb],.bool ((Z.tb (x%256)).at' z).isSome]))):=fun W g hb hg=>by
  have T:=(ok.tpi.x (p.fac:Int)).tt ok.core hi Ao hk (SP.sS (hs.grown hb).sep) hg.c;have:=Q1y T (x:Int) (p.fac:Int) z fun e AD=>by
   rw[Bb] at AD;split at AD
   ·exact ok.fpi.low ok.core.inv.lok AD
   ·cases AD
  rwa [Bx] at this
 -- the worlds,one behind the other
 have My:Hid (∀(w2:World) (g:Nat),Below (w.alloc (.cells #[.int .u32 h,.int .i64 r] 72)).heap.size (w.alloc (.cells #[.int .u32 h,.int .i64 r] 72)) w2->TblZ Z p g w2->∀W,Below (w2.alloc (.cells #[.pointer (some ⟨g,0,none⟩),.int .u32 x,.int .i64 (p.fac:Int)] 191)).heap.size (w2.alloc (.cells #[.pointer (some ⟨g,0,none⟩),.int .u32 x,.int .i64 (p.fac:Int)] 191)) W ->
   Below w.heap.size w W/\TblZ Z p g W/\W.cell? ⟨Z.s,0,none⟩=some (.pointer (some ⟨Z.S.c,0,none⟩))/\W.cell? ⟨w.heap.size,0,none⟩=some (.int .u32 h)/\W.cell? ⟨w.heap.size,1,none⟩=some (.int .i64 r)/\W.cell? ⟨w2.heap.size,0,none⟩=some (.pointer (some ⟨g,0,none⟩))/\W.cell? ⟨w2.heap.size,1,none⟩=some (.int .u32 x)/\W.cell? ⟨w2.heap.size,2,none⟩=some (.int .i64 (p.fac:Int))):=fun w2 g Ae hg W Gw=>by
  have Dy:Below w.heap.size w w2:=Q0b Ae;have s2:=(hs.grown Dy).sep;have Am:Below w2.heap.size w2 W:=Q0b Gw;have DP:Below w.heap.size w W:=Dy.trans (Am.mono Dy.size);have h7:=((Cells.new w 72 [.int .u32 h,.int .i64 r]).same (Ae.block w.heap.size (by simp))).same (Am.block w.heap.size (by have:=Ae.size;simp at this;omega));have h9:=(Cells.new w2 191 [.pointer (some ⟨g,0,none⟩),.int .u32 x,.int .i64 (p.fac:Int)]).same (Gw.block w2.heap.size (by simp));exact⟨DP,hg.grown s2 Am,SP.c0 (hs.grown DP).sep,h7.cell 0 _ rfl,h7.cell 1 _ rfl,h9.cell 0 _ rfl,h9.cell 1 _ rfl,h9.cell 2 _ rfl⟩
 have Qz:=Q0a hOf;have BX:=Q0a Ay;have Ba:Hid (∀W,Calls prog 92 #[.int .i64 z] W fun r w'=>r=.returned (.bool (decide (0<=z/\z<256)))/\W=w'):=fun W=>Q2F W z
 have Bh:Hid (∀W,Calls prog 106 #[.int .i64 r] W fun r' w'=>r'=.returned (.bool (decide (0<r/\r<=15)))/\W=w'):=fun W=>Q3s W r
 have DI:Hid (∀W,Calls prog 96 #[.int .i64 z] W fun r w'=>r=.returned (.bool (decide (z<128)))/\W=w'):=fun W=>Q2s W z
 have Df:(0:Int)<=(x:Int):=by omega
 have Gg:(x:Int)<4294967296:=by omega
 have Ng:IntKind.i64.wrap (x:Int)=(x:Int):=Go.IntWalk.i64_in _ (by omega);generalize ((Z.tb (x%256)).at' z).isSome=full at *
 generalize decide (0<=z/\z<256)=bh at *
 generalize decide (0<r/\r<=15)=br at *
 generalize decide (z<128)=bc at *
 clear hs ok hx hh hp hk hi Ao Bx Bb hOf Ay b1 s1;go_enter func41,ntmps41;go_wp2_with fail;refine ks.mono ?_;rintro rv w2⟨g,rfl,Ae,hg⟩;have HW:=Q0a (My.out w2 g Ae hg);have HS:Hid (∀W,Below (w2.alloc (.cells #[.pointer (some ⟨g,0,none⟩),.int .u32 x,.int .i64 (p.fac:Int)] 191)).heap.size (w2.alloc (.cells #[.pointer (some ⟨g,0,none⟩),.int .u32 x,.int .i64 (p.fac:Int)] 191)) W->W.cell? ⟨Z.s,0,none⟩=some (.pointer (some ⟨Z.S.c,0,none⟩))/\W.cell? ⟨w.heap.size,0,none⟩=some (.int .u32 h)):=fun W hb=>⟨(HW.out W hb).2.2.1,(HW.out W hb).2.2.2.1⟩
 have HK:Hid (∀W,Below (w2.alloc (.cells #[.pointer (some ⟨g,0,none⟩),.int .u32 x,.int .i64 (p.fac:Int)] 191)).heap.size (w2.alloc (.cells #[.pointer (some ⟨g,0,none⟩),.int .u32 x,.int .i64 (p.fac:Int)] 191)) W->Calls prog 49 #[.pointer (some ⟨Z.S.c,0,none⟩),.int .u32 h,.int .i64 0] W fun r w4=>r=.returned (.tuple #[.agg #[.int .i64 k0,.int .i64 a0,.int .i64 f0],.int .i64 no])/\Below (w2.alloc (.cells #[.pointer (some ⟨g,0,none⟩),.int .u32 x,.int .i64 (p.fac:Int)] 191)).heap.size (w2.alloc (.cells #[.pointer (some ⟨g,0,none⟩),.int .u32 x,.int .i64 (p.fac:Int)] 191)) w4):=fun W hb=>(Qz.out W (HW.out W hb).1).mono fun r w4 h=>⟨h.1,hb.trans (h.2.mono hb.size)⟩
 have Bg:Hid (∀W,Below (w2.alloc (.cells #[.pointer (some ⟨g,0,none⟩),.int .u32 x,.int .i64 (p.fac:Int)] 191)).heap.size (w2.alloc (.cells #[.pointer (some ⟨g,0,none⟩),.int .u32 x,.int .i64 (p.fac:Int)] 191)) W->∀o,Below (w2.alloc (.cells #[.pointer (some ⟨g,0,none⟩),.int .u32 x,.int .i64 (p.fac:Int)] 191)).heap.size (w2.alloc (.cells #[.pointer (some ⟨g,0,none⟩),.int .u32 x,.int .i64 (p.fac:Int)] 191)) (W.alloc o)):=fun W hb o=>hb.alloc hb.size o
 obtain⟨-,-,c0,q0,-,-,-,-⟩:=HW.out _ (Below.refl _ _);have SE:Hid (∀W,Below (w2.alloc (.cells #[.pointer (some ⟨g,0,none⟩),.int .u32 x,.int .i64 (p.fac:Int)] 191)).heap.size (w2.alloc (.cells #[.pointer (some ⟨g,0,none⟩),.int .u32 x,.int .i64 (p.fac:Int)] 191)) W->Calls prog 49 #[.pointer (some ⟨Z.S.c,0,none⟩),.int .u32 h,.int .i64 0] W (Told W (.tuple #[.agg #[.int .i64 k0,.int .i64 a0,.int .i64 f0],.int .i64 no]))):=fun W hb=>Qz.out W (HW.out W hb).1
 clear Ae hg My ks Qz;go_upto_region 4 with fail
 go_cut [11,12] from 16 to 34 (fun o nn wc=>∃b:Nat,o=.pointer (some ⟨b,0,none⟩)/\nn=.int .i64 no/\Below (w2.alloc (.cells #[.pointer (some ⟨g,0,none⟩),.int .u32 x,.int .i64 (p.fac:Int)] 191)).heap.size (w2.alloc (.cells #[.pointer (some ⟨g,0,none⟩),.int .u32 x,.int .i64 (p.fac:Int)] 191)) wc/\b<wc.heap.size/\wc.cell? ⟨b,0,none⟩=some (.int .i64 k0))
 case first =>
  generalize (w2.alloc (.cells #[.pointer (some ⟨g,0,none⟩),.int .u32 x,.int .i64 (p.fac:Int)] 191))=W3 at *
  clear HW Gl BX Ba Bh DI;have cD:W3.drew.cell? ⟨Z.s,0,none⟩=some (.pointer (some ⟨Z.S.c,0,none⟩)):=c0;have qD:W3.drew.cell? ⟨w.heap.size,0,none⟩=some (.int .u32 h):=q0;have K2:Hid (Calls prog 49 #[.pointer (some ⟨Z.S.c,0,none⟩),.int .u32 h,.int .i64 0] (W3.alloc (.cells #[.int .i64 0,.int .i64 0,.int .i64 0] 54)).drew fun r w4=>r=.returned (.tuple #[.agg #[.int .i64 k0,.int .i64 a0,.int .i64 f0],.int .i64 no])/\Below W3.heap.size W3 w4/\Cells w4 W3.heap.size 54 [.int .i64 0,.int .i64 0,.int .i64 0]):=
   (SE.out _ (Bg.out _ (Below.refl _ _).drew _)).mono fun r w4 h=>⟨h.1,((Bg.out _ (Below.refl _ _).drew _)).trans (h.2.mono (by simp)),(Cells.new W3 54 [.int .i64 0,.int .i64 0,.int .i64 0]).same (h.2.block _ (by simp))⟩
  have HD:Hid (Below W3.heap.size W3 W3.drew):=(Below.refl _ _).drew
  go_region_held3 (fun w'=>w'.cell? ⟨Z.s,0,none⟩=some (.pointer (some ⟨Z.S.c,0,none⟩))/\w'.cell? ⟨w.heap.size,0,none⟩=some (.int .u32 h))
   (first|exact⟨c0,q0⟩|exact⟨cD,qD⟩|exact HS.out _ (Bg.out _ HD.out _)|exact HS.out _ Ag.out|exact HS.out _ (Bg.out _ Ag.out _)|exact HS.out _ (Ag.out.setCell (by simp) _)|exact HS.out _ ((Ag.out.setCell (by simp) _).setCell (by simp) _)|exact HS.out _ (((Ag.out.setCell (by simp) _).setCell (by simp) _).setCell (by simp) _))
   (first|(go_at_call 49;refine K2.out.mono ?_;rintro rv w4⟨rfl,Av,Bf⟩;have Ag:=Q0a Av;have z0:=Bf.cell 0 _ rfl;have z1:=Bf.cell 1 _ rfl;have z2:=Bf.cell 2 _ rfl;have y0:=Bf.free 0;have y1:=Bf.free 1;have y2:=Bf.free 2;have F3:=Q0a Bf;clear Av Bf)|(go_at_call 49;refine(HK.out _ (by first|exact HD.out|exact Bg.out _ HD.out _)).mono ?_;rintro rv w4⟨rfl,Av⟩;have Ag:=Q0a Av;clear Av))
  ·go_wp2_with fail;go_meet;exact⟨_,rfl,rfl,Bg.out _ Ag.out _,by simp,(Cells.new w4 54 [.int .i64 k0,.int .i64 a0,.int .i64 f0]).cell 0 _ rfl⟩
  ·go_wp2_with fail;go_meet;exact⟨_,rfl,rfl,((Ag.out.setCell (by simp) _).setCell (by simp) _).setCell (by simp) _,by simpa using F3.out.lt,(((F3.out.set 0 (.int .i64 k0)).set 1 (.int .i64 a0)).set 2 (.int .i64 f0)).cell 0 _ rfl⟩
 obtain⟨bo,rfl,rfl,Av,Aa,BE⟩:=hcut;have h5:=HW.out wc Av;obtain⟨As,Ud,-,-,-,u0,u1,u2⟩:=h5;have kc:=Gl.out _ g As Ud;have Ex:=Q0a BE;have Ag:=Q0a Av;have Lg:Hid (∀W,Below wc.heap.size wc W->(Below w.heap.size w W/\TblZ Z p g W/\W.cell? ⟨Z.s,0,none⟩=some (.pointer (some ⟨Z.S.c,0,none⟩))/\W.cell? ⟨w.heap.size,0,none⟩=some (.int .u32 h)/\W.cell? ⟨w.heap.size,1,none⟩=some (.int .i64 r)/\W.cell? ⟨w2.heap.size,0,none⟩=some (.pointer (some ⟨g,0,none⟩))/\W.cell? ⟨w2.heap.size,1,none⟩=some (.int .u32 x)/\W.cell? ⟨w2.heap.size,2,none⟩=some (.int .i64 (p.fac:Int)))/\W.cell? ⟨bo,0,none⟩=some (.int .i64 k0)):=fun W hb=>⟨HW.out W (Ag.out.trans (hb.mono Ag.out.size)),(hb.cell (p:=⟨bo,0,none⟩) Aa).trans Ex.out⟩
 clear Av As Ud Aa BE Gl HW HS HK Bg SE c0 q0;go_wp2_with fail;refine kc.mono ?_;rintro rv w6⟨rfl,BW⟩;go_wp2_with fail;generalize hW7:(w6.alloc (.cells #[.int .u32 ca,.int .i64 cb] 72))=w7;have Ge:Below wc.heap.size wc w7:=by rw[<- hW7];exact BW.alloc BW.size _
 have CS:Hid (∀n,(Below w.heap.size w (w7.drewN n)/\TblZ Z p g (w7.drewN n)/\(w7.drewN n).cell? ⟨Z.s,0,none⟩=some (.pointer (some ⟨Z.S.c,0,none⟩))/\(w7.drewN n).cell? ⟨w.heap.size,0,none⟩=some (.int .u32 h)/\(w7.drewN n).cell? ⟨w.heap.size,1,none⟩=some (.int .i64 r)/\(w7.drewN n).cell? ⟨w2.heap.size,0,none⟩=some (.pointer (some ⟨g,0,none⟩))/\(w7.drewN n).cell? ⟨w2.heap.size,1,none⟩=some (.int .u32 x)/\(w7.drewN n).cell? ⟨w2.heap.size,2,none⟩=some (.int .i64 (p.fac:Int)))/\(w7.drewN n).cell? ⟨bo,0,none⟩=some (.int .i64 k0)):=fun n=>Lg.out _ (Q0D Ge n)
 have Jd:Hid (Below w.heap.size w w7):=(CS.out 0).1.1;have q1:w7.cell? ⟨w.heap.size,1,none⟩=some (.int .i64 r):=(CS.out 0).1.2.2.2.2.1;have k8:w7.cell? ⟨bo,0,none⟩=some (.int .i64 k0):=(CS.out 0).2;have De:Hid (∀n,Calls prog 106 #[.int .i64 r] (w7.drewN n) fun e w''=>e=.returned (.bool br)/\∃m,w''=w7.drewN m):=fun n=>(Bh.out _).mono fun e w' h=>⟨h.1,n,h.2.symm⟩
 have LU:Hid (∀n,Calls prog 96 #[.int .i64 z] (w7.drewN n) fun e w''=>e=.returned (.bool bc)/\∃m,w''=w7.drewN m):=fun n=>(DI.out _).mono fun e w' h=>⟨h.1,n,h.2.symm⟩
 have kh:=Ba.out w7;clear hW7 Ge BW kc u0 u1 u2 Lg Bh DI Ba Ag Ex;rcases BX.out with ⟨er,hT,hQ⟩|⟨rfl,rfl,rfl,AJ,rfl,hl⟩
 ·have HQ:=Q0a hQ;clear hQ BX;rcases hT with ⟨rfl,rfl⟩|⟨rfl,rfl,rfl⟩|⟨rfl,rfl,rfl,rfl⟩|⟨rfl,rfl,rfl,AJ,rfl⟩|⟨rfl,rfl,rfl,AJ,rfl,rfl⟩
  ·refine kh.mono ?_;rintro rv w'⟨rfl,rfl⟩;go_wp2_with fail
   (try go_ret);exact⟨_,rfl,HQ.out _ Jd.out⟩
  ·refine kh.mono ?_;rintro rv w'⟨rfl,rfl⟩;go_wp2_with fail
   (try go_ret);exact⟨_,rfl,HQ.out _ Jd.out⟩
  ·refine kh.mono ?_;rintro rv w'⟨rfl,rfl⟩;go_wp2_with fail
   go_quiet ((go_at_call 106;exact De.out _))
   go_wp2_with fail
   (try go_ret);exact⟨_,rfl,HQ.out _ (CS.out _).1.1⟩
  ·have hc:=Q9y AJ;clear AJ;rcases hc with ⟨rfl,rfl⟩|⟨rfl,Om,NH⟩
   ·refine kh.mono ?_;rintro rv w'⟨rfl,rfl⟩;go_wp2_with fail
    go_quiet (first|(go_at_call 106;exact De.out _)|(go_at_call 96;exact LU.out _))
    go_wp2_with fail
    (try go_ret);exact⟨_,rfl,HQ.out _ (CS.out _).1.1⟩
   ·refine kh.mono ?_;rintro rv w'⟨rfl,rfl⟩;go_wp2_with fail
    go_quiet (first|(go_at_call 106;exact De.out _)|(go_at_call 96;exact LU.out _))
    go_wp2_with fail
    (try go_ret);exact⟨_,rfl,HQ.out _ (CS.out _).1.1⟩
  ·have hc:=Q3c AJ;clear AJ;rcases hc with ⟨rfl,Om,NH⟩|⟨rfl,rfl⟩
   ·refine kh.mono ?_;rintro rv w'⟨rfl,rfl⟩;go_wp2_with fail
    go_quiet (first|(go_at_call 106;exact De.out _)|(go_at_call 96;exact LU.out _))
    go_wp2_with fail
    (try go_ret);exact⟨_,rfl,HQ.out _ (CS.out _).1.1⟩
   ·refine kh.mono ?_;rintro rv w'⟨rfl,rfl⟩;go_wp2_with fail
    go_quiet (first|(go_at_call 106;exact De.out _)|(go_at_call 96;exact LU.out _))
    go_wp2_with fail
    (try go_ret);exact⟨_,rfl,HQ.out _ (CS.out _).1.1⟩
 ·have Fm:=Q0a (fun n=>hl (w7.drewN n) g (CS.out n).1.1 (CS.out n).1.2.1);obtain⟨⟨-,-,-,q0,-,v0,v1,v2⟩,-⟩:=CS.out 0;have q0:w7.cell? ⟨w.heap.size,0,none⟩=some (.int .u32 h):=q0;have v0:w7.cell? ⟨w2.heap.size,0,none⟩=some (.pointer (some ⟨g,0,none⟩)):=v0;have v1:w7.cell? ⟨w2.heap.size,1,none⟩=some (.int .u32 x):=v1;have v2:w7.cell? ⟨w2.heap.size,2,none⟩=some (.int .i64 (p.fac:Int)):=v2;clear hl BX;have hc:=Q3c AJ;clear AJ;rcases hc with ⟨rfl,Om,NH⟩|⟨rfl,rfl⟩
  ·refine kh.mono ?_;rintro rv w'⟨rfl,rfl⟩;go_wp2_with fail
   go_quiet (first|(go_at_call 106;exact De.out _)|(go_at_call 96;exact LU.out _))
   go_wp2_with fail;refine(Fm.out _).mono ?_;rintro rv w5⟨er,rfl,⟨Ac,hq⟩|⟨rfl,Xi,AZ⟩⟩
   ·have Bp:(er != 0)=true:=by simp[Ac]
    have HQ:=Q0a hq;clear hq;go_wp2_with fail
    (try go_ret);exact⟨_,rfl,HQ.out⟩
   ·have D4:=Q0a AZ;clear AZ;go_wp2_with fail;refine D4.out.mono ?_;rintro rv w8⟨⟨ra,rb,rfl⟩,hq⟩;have HQ:=Q0a hq;clear hq;go_wp2_with fail
    (try go_ret);exact⟨_,rfl,HQ.out⟩
  ·refine kh.mono ?_;rintro rv w'⟨rfl,rfl⟩;go_wp2_with fail
   go_quiet (first|(go_at_call 106;exact De.out _)|(go_at_call 96;exact LU.out _))
   go_wp2_with fail;refine(Fm.out _).mono ?_;rintro rv w5⟨er,rfl,⟨Ac,hq⟩|⟨rfl,Xi,AZ⟩⟩
   ·have Bp:(er != 0)=true:=by simp[Ac]
    have HQ:=Q0a hq;clear hq;go_wp2_with fail
    (try go_ret);exact⟨_,rfl,HQ.out⟩
   ·have D4:=Q0a AZ;clear AZ;go_wp2_with fail;refine D4.out.mono ?_;rintro rv w8⟨⟨ra,rb,rfl⟩,hq⟩;have HQ:=Q0a hq;clear hq;go_wp2_with fail
    (try go_ret);exact⟨_,rfl,HQ.out⟩
theorem Q9z{l:List Pl}(lok:LOk l){s h:Nat}{q:Pl}(hq:pget l s h=some q):h<4294967295:=by
 have h1:=pget_some.1 hq;have h2:=lok.2 q (Q1l hq);have:nm (h%256) q=h:=h1.2.1;unfold nm at this;omega
theorem Q7s{w:World}{s x h:Nat}{z r e:Int}(he:e≠0)(hS:Calls prog 90 #[.pointer (some ⟨s,0,none⟩),.int .u32 x] (w.alloc (.cells #[.int .u32 h,.int .i64 r] 72)) (Told (w.alloc (.cells #[.int .u32 h,.int .i64 r] 72)) (.tuple #[.agg #[.pointer none,.int .u32 0,.int .i64 0],.int .i64 e]))) :
  Calls prog 41 #[.pointer (some ⟨s,0,none⟩),.int .u32 x,.int .i64 z,.agg #[.int .u32 h,.int .i64 r]] w (Told w (.int .i64 e)):=by
 have Ib:(e != 0)=true:=by simpa using he
 have HB:Hid (∀w1,Below (w.alloc (.cells #[.int .u32 h,.int .i64 r] 72)).heap.size (w.alloc (.cells #[.int .u32 h,.int .i64 r] 72)) w1->∀o,Below w.heap.size w (w1.alloc o)):=fun w1 hb o=>(Q0b hb).alloc (Q0b hb).size o
 go_enter func41,ntmps41;go_wp2_with fail;refine hS.mono ?_;rintro rv w1⟨rfl,hb⟩;have HW:=Q0a (HB.out w1 hb);clear hb HB hS;go_wp2_with fail
 (try go_ret);exact⟨rfl,HW.out _⟩
theorem Q9A{w:World}{Z:SP}{fr:List Nat}{N K:Nat}{M:Int}(hs:Sep w Z.hl)(ok:Z.Ok fr N K M)(hM:M+1<1099511627776){x h:Nat}(hx:x<4294967296)(hh:h<4294967296)(z r:Int) :
  Calls prog 41 #[.pointer (some ⟨Z.s,0,none⟩),.int .u32 x,.int .i64 z,.agg #[.int .u32 h,.int .i64 r]] w fun rv w'=>∃er:Int,rv=.returned (.int .i64 er)/\RootR Z fr N K M x z h r w er w':=by
 have s1:=(hs.grown ((Below.refl w.heap.size w).alloc (J3h _) (.cells #[.int .u32 h,.int .i64 r] 72))).sep;cases hp:pget Z.S.l 1 x with
 | none =>
  refine(Q7s (e:=8) (by decide) (Q0K s1 ok.core hx 8 (.inl ⟨hp,rfl⟩))).mono ?_;rintro rv w'⟨rfl,hb⟩;exact⟨_,rfl,.inl ⟨by decide,.inl ⟨hp,rfl⟩,hb⟩⟩
 | some p =>
  by_cases hk:p.kind=2
  case neg =>
   refine(Q7s (e:=10) (by decide) (Q0K s1 ok.core hx 10 (.inr ⟨p,hp,hk,rfl⟩))).mono ?_;rintro rv w'⟨rfl,hb⟩;exact⟨_,rfl,.inl ⟨by decide,.inr ⟨p,hp,.inl ⟨hk,rfl⟩⟩,hb⟩⟩
  clear s1;cases hq:pget Z.S.l 1 h with
  | none =>
   refine Q7r hs ok hx hh hp hk z r (k0:=0) (a0:=0) (f0:=0) (no:=8) (fun W hb=>Q4h (SP.sS (hs.grown hb).sep) ok.core.inv.lok hh 0 hq) (.inl ?_);by_cases hz:0<=z/\z<256
   ·exact⟨8,.inr (.inl ⟨by simpa using hz,rfl,rfl⟩),fun W hb=>.inl ⟨by decide,.inr ⟨p,hp,.inr ⟨hk,.inr ⟨hz,.inl ⟨hq,rfl⟩⟩⟩⟩,hb⟩⟩
   ·exact⟨2,.inl ⟨decide_eq_false hz,rfl⟩,fun W hb=>.inl ⟨by decide,.inr ⟨p,hp,.inr ⟨hk,.inl ⟨hz,rfl⟩⟩⟩,hb⟩⟩
  | some q =>
   refine Q7r hs ok hx hh hp hk z r (k0:=(q.kind:Int)) (a0:=(q.at_:Int)) (f0:=(q.fac:Int)) (no:=0) (fun W hb=>Q3m (SP.sS (hs.grown hb).sep) ok.core.inv.lok hh 0 hq (.inl rfl)) ?_;by_cases hz:0<=z/\z<256
   case neg=>exact .inl ⟨2,.inl ⟨decide_eq_false hz,rfl⟩,fun W hb=>.inl ⟨by decide,.inr ⟨p,hp,.inr ⟨hk,.inl ⟨hz,rfl⟩⟩⟩,hb⟩⟩
   have IP:decide (0<=z/\z<256)=true:=decide_eq_true hz;by_cases hr:0<r/\r<=15
   case neg=>exact .inl ⟨1,.inr (.inr (.inl ⟨IP,rfl,decide_eq_false hr,rfl⟩)),fun W hb=>.inl ⟨by decide,.inr ⟨p,hp,.inr ⟨hk,.inr ⟨hz,.inr ⟨q,hq,.inl ⟨fun hc=>hr hc.1,rfl⟩⟩⟩⟩⟩,hb⟩⟩
   have N9:decide (0<r/\r<=15)=true:=decide_eq_true hr;by_cases hm:(q.kind=8↔128<=z)
   case neg =>
    refine .inl ⟨1,.inr (.inr (.inr (.inl ⟨IP,rfl,N9,?_,rfl⟩))),fun W hb=>.inl ⟨by decide,.inr ⟨p,hp,.inr ⟨hk,.inr ⟨hz,.inr ⟨q,hq,.inl ⟨fun hc=>hm hc.2,rfl⟩⟩⟩⟩⟩,hb⟩⟩;by_cases h8:q.kind=8
    ·have h9:z<128:=by have:¬128<=z:=fun h=>hm ⟨fun _=>h,fun _=>h8⟩;omega
     simp[h8,h9]
    ·have h9:¬z<128:=by intro h;exact hm ⟨fun h'=>absurd h' h8,fun h'=>by omega⟩
     have OD:¬(q.kind:Int)=8:=by omega
     simp[h9,OD]
   have FU:(decide (z<128)==((q.kind:Int)==8))=false:=by
    by_cases h8:q.kind=8
    ·have h9:¬z<128:=by have:=hm.1 h8;omega
     simp[h8,h9]
    ·have h9:z<128:=by have:¬128<=z:=fun h=>h8 (hm.2 h);omega
     have OD:¬(q.kind:Int)=8:=by omega
     simp[h9,OD]
   obtain⟨s,rfl⟩:∃s:Nat,z=(s:Int):=⟨z.toNat,by omega⟩
   obtain⟨rn,rfl⟩:∃rn:Nat,r=(rn:Int):=⟨r.toNat,by omega⟩
   have AC:s<256:=by omega
   have Bb:(Z.tb (x%256)).at' (s:Int)=Q0f Z.S.l Z.tb x s:=by
    unfold TB.at';rw[if_pos hz,Q0h hp hk (by omega)];rfl
   cases h0:Q0f Z.S.l Z.tb x s with
   | some e0 =>
    refine .inl ⟨7,.inr (.inr (.inr (.inr ⟨IP,rfl,N9,FU,by rw[Bb,h0];rfl,rfl⟩))),fun W hb=>.inl ⟨by decide,.inr ⟨p,hp,.inr ⟨hk,.inr ⟨hz,.inr ⟨q,hq,.inr ⟨⟨hr,hm⟩,?_,rfl⟩⟩⟩⟩⟩,hb⟩⟩;rw[J4g,h0];exact Option.some_ne_none _
   | none =>
    refine .inr ⟨IP,rfl,N9,FU,by rw[Bb,h0];rfl,fun W g hb hg=>?_⟩;have hi:=(pget_some.1 hp).1;have Ao:=(pget_some.1 hp).2.2;have D1:(Z.tb (x%256)).en s=none:=by rw[<- Q0h hp hk AC];exact h0
    have By:(q.kind=8↔128<=s):=by rw[hm];omega
    have Au:h<4294967295:=Q9z ok.core.inv.lok hq;refine(Q8h (hs.grown hb).sep ok.core ok.tpi (x:=x) hi Ao hk AC D1 Au (by omega:rn<16) hg).mono ?_;rintro rv w5⟨er,rfl,⟨rfl,nd,S',t',T,st⟩|⟨he,FZ,P',tr,st⟩⟩
    ·have AW:Q6D Z.S.l s ⟨h,rn,nd⟩:=⟨⟨q,hq,By⟩,by dsimp only;omega⟩
     obtain⟨c1,k⟩:=Z9l ok hM hx hp hk AC h0 AW T ((hs.grown hb).trans st) (par:=0) (.inl rfl) (Below.refl _ _);refine⟨0,rfl,.inr ⟨rfl,c1,k.mono ?_⟩⟩;rintro rv w'⟨rfl,PZ⟩;exact⟨⟨_,_,rfl⟩,.inr ⟨s,rn,p,q,rfl,rfl,AC,by omega,by omega,hp,hk,hq,By,h0,.inl ⟨rfl,PZ⟩⟩⟩
    ·exact⟨er,rfl,.inl ⟨by omega,.inr ⟨s,rn,p,q,rfl,rfl,AC,by omega,by omega,hp,hk,hq,By,h0,.inr ⟨he,FZ,P',tr,(hs.grown hb).trans st⟩⟩⟩⟩
theorem Z6F(w:World)(k:Int):Calls prog 101 #[.int .i64 k] w fun r w'=>r=.returned (.bool (decide (k=8∨1<=k/\k<=5)))/\w=w':=by
 by_cases h8:k=8
 ·subst h8;go_enter func101,ntmps101;go_wp2_with fail
  (try go_ret);exact⟨rfl,rfl⟩
 ·have b8:(k==8)=false:=by simpa using h8
  have d8:decide (k=8)=false:=decide_eq_false h8;by_cases h1:1<=k
  ·have d1:decide (1<=k)=true:=decide_eq_true h1;by_cases h5:k<=5
   ·have d5:decide (k<=5)=true:=decide_eq_true h5;have hv:decide (k=8∨1<=k/\k<=5)=true:=decide_eq_true (.inr ⟨h1,h5⟩);rw[hv];clear hv;go_enter func101,ntmps101;go_wp2_with fail
    (try go_ret);exact⟨rfl,rfl⟩
   ·have d5:decide (k<=5)=false:=decide_eq_false h5;have hv:decide (k=8∨1<=k/\k<=5)=false:=decide_eq_false (by omega);rw[hv];clear hv;go_enter func101,ntmps101;go_wp2_with fail
    (try go_ret);exact⟨rfl,rfl⟩
  ·have d1:decide (1<=k)=false:=decide_eq_false h1;have hv:decide (k=8∨1<=k/\k<=5)=false:=decide_eq_false (by omega);rw[hv];clear hv;go_enter func101,ntmps101;go_wp2_with fail
   (try go_ret);exact⟨rfl,rfl⟩
theorem Q7t{w:World}{s x y:Nat}{z k lim e:Int}(he:e≠0)(hS:Calls prog 90 #[.pointer (some ⟨s,0,none⟩),.int .u32 x] w (Told w (.tuple #[.agg #[.pointer none,.int .u32 0,.int .i64 0],.int .i64 e]))) :
  Calls prog 40 #[.pointer (some ⟨s,0,none⟩),.int .u32 x,.int .i64 z,.int .u32 y,.int .i64 k,.int .i64 lim] w (Told w (.tuple #[.int .u32 0,.int .i64 e])):=by
 have Ib:(e != 0)=true:=by simpa using he
 have HB:Hid (∀w1,Below w.heap.size w w1->∀o,Below w.heap.size w (w1.alloc o)):=fun w1 hb o=>hb.alloc hb.size o
 go_enter func40,ntmps40;go_wp2_with fail;refine hS.mono ?_;rintro rv w1⟨rfl,hb⟩;have HW:=Q0a (HB.out w1 hb);clear hb HB hS;go_wp2_with fail
 (try go_ret2);exact⟨rfl,HW.out _⟩
def J3a(bh bm bc bk full:Bool)(er:Int):Prop:=(bh=false/\er=2)∨(bh=true/\bm=false/\er=1)∨(bh=true/\bm=true/\(bc==bk)=true/\er=1)∨(bh=true/\bm=true/\(bc==bk)=false/\full=true/\er=7)
def Z6G(Z:SP)(g x f B:Nat)(w':World):Prop:=w'.cell? ⟨Z.s,0,none⟩=some (.pointer (some ⟨Z.S.c,0,none⟩))/\w'.cell? ⟨Z.s,1,none⟩=some (.pointer (some ⟨Z.F.f,0,none⟩))/\w'.cell? ⟨B,0,none⟩=some (.pointer (some ⟨g,0,none⟩))/\w'.cell? ⟨B,1,none⟩=some (.int .u32 x)/\w'.cell? ⟨B,2,none⟩=some (.int .i64 f)
def Z1Z(Z:SP)(g x f B y:Nat)(z k lim:Int)(Q:Nat->Int->World->Prop)(w5:World):Prop:=
 Calls prog 79 #[.pointer (some ⟨Z.S.c,0,none⟩),.int .u32 y,.int .i64 k,.int .i64 lim] w5 fun rv w6=>∃(hh:Nat) (er:Int),rv=.returned (.tuple #[.int .u32 hh,.int .i64 er])/\Z6G Z g x f B w6 /\
  ((er≠0/\Calls prog 99 #[.pointer (some ⟨Z.s,0,none⟩),.agg #[.pointer (some ⟨g,0,none⟩),.int .u32 x,.int .i64 f],.int .i64 z] w6 fun rv w7=>rv=.returned (.tuple #[])/\Q 0 er w7) ∨
   (er=0/\∃a b c:Nat,Calls prog 102 #[.pointer (some ⟨g,0,none⟩),.int .i64 z] w6 (fun rv w7=>rv=.returned (.tuple #[.int .u64 a,.int .u64 b])/\w6=w7) /\
   (∀w8,Below w6.heap.size w6 w8->Z6G Z g x f B w8/\Calls prog 104 #[.agg #[.int .u32 hh,.int .i64 15]] w8 (Told w8 (.int .u64 c)) /\
    Calls prog 103 #[.pointer (some ⟨g,0,none⟩),.int .i64 z,.int .u64 c,.int .u64 b] w8 fun rv w9=>(∃v,rv=.returned (.int .i64 v))/\Z6G Z g x f B w9/\∀n,
    Calls prog 105 #[.pointer (some ⟨Z.F.f,0,none⟩),.int .i64 0,.int .i64 x,.int .i64 z] (w9.drewN n) fun rv w'=>(∃a b:Value,rv=.returned (.tuple #[a,b]))/\Q hh 0 w')))
theorem Z3A{w:World}{Z:SP}{fr:List Nat}{N K:Nat}{M:Int}(hs:Sep w Z.hl)(ok:Z.Ok fr N K M){x y:Nat}(hx:x<4294967296){p:Pl}(hp:pget Z.S.l 1 x=some p)(hk:p.kind=2)(z k lim:Int){Q:Nat->Int->World->Prop}
  (Ay:(∃er,J3a (decide (0<=z/\z<256)) (decide (k=8∨1<=k/\k<=5)) (decide (z<128)) (k==8) ((Z.tb (x%256)).at' z).isSome er/\∀W,Below w.heap.size w W->Q 0 er W) ∨
   (decide (0<=z/\z<256)=true/\decide (k=8∨1<=k/\k<=5)=true/\(decide (z<128)==(k==8))=false/\((Z.tb (x%256)).at' z).isSome=false /\
    ∀W g B,Below w.heap.size w W->TblZ Z p g W->AsideV Z.hl [.pointer (some ⟨g,0,none⟩),.int .u32 x,.int .i64 (p.fac:Int)] (some ⟨B,0,none⟩) W->Calls prog 98 #[.pointer (some ⟨Z.s,0,none⟩),.agg #[.pointer (some ⟨g,0,none⟩),.int .u32 x,.int .i64 (p.fac:Int)],.int .i64 z,.agg #[.int .u32 0,.int .i64 15]] W fun rv w5=>∃er:Int,rv=.returned (.int .i64 er) /\
     ((er≠0/\Q 0 er w5)∨(er=0/\Z6G Z g x p.fac B w5/\Z1Z Z g x p.fac B y z k lim Q w5)))) :
  Calls prog 40 #[.pointer (some ⟨Z.s,0,none⟩),.int .u32 x,.int .i64 z,.int .u32 y,.int .i64 k,.int .i64 lim] w fun rv w'=>∃(hh:Nat) (er:Int),rv=.returned (.tuple #[.int .u32 hh,.int .i64 er])/\Q hh er w':=by
 have ks:=Q0Y hs ok.core hx hp hk;have hi:=(pget_some.1 hp).1;have Ao:=(pget_some.1 hp).2.2;obtain⟨ca,cb,Bx⟩:=Q3t ((Z.tb (x%256)).at' z);have Bb:(Z.tb (x%256)).at' z=if 0<=z/\z<256 then Q0f Z.S.l Z.tb x z.toNat else none:=by
  unfold TB.at';split
  ·rename_i h;rw[Q0h hp hk (by omega)]
  ·rfl
 have Gl:Hid (∀W g,Below w.heap.size w W->TblZ Z p g W->Calls prog 93 #[.agg #[.pointer (some ⟨g,0,none⟩),.int .u32 x,.int .i64 (p.fac:Int)],.int .i64 z] W (Told W (.tuple #[.agg #[.int .u32 ca,.int .i64 cb],.bool ((Z.tb (x%256)).at' z).isSome]))):=fun W g hb hg=>by
  have T:=(ok.tpi.x (p.fac:Int)).tt ok.core hi Ao hk (SP.sS (hs.grown hb).sep) hg.c;have:=Q1y T (x:Int) (p.fac:Int) z fun e AD=>by
   rw[Bb] at AD;split at AD
   ·exact ok.fpi.low ok.core.inv.lok AD
   ·cases AD
  rwa [Bx] at this
 have My:Hid (∀(w2:World) (g:Nat),Below w.heap.size w w2->TblZ Z p g w2->∀W,Below (w2.alloc (.cells #[.pointer (some ⟨g,0,none⟩),.int .u32 x,.int .i64 (p.fac:Int)] 191)).heap.size (w2.alloc (.cells #[.pointer (some ⟨g,0,none⟩),.int .u32 x,.int .i64 (p.fac:Int)] 191)) W ->
   Below w.heap.size w W/\TblZ Z p g W/\AsideV Z.hl [.pointer (some ⟨g,0,none⟩),.int .u32 x,.int .i64 (p.fac:Int)] (some ⟨w2.heap.size,0,none⟩) W):=fun w2 g Ae hg W Gw=>by
  have s2:=(hs.grown Ae).sep;have Am:Below w2.heap.size w2 W:=Q0b Gw;have h9:=(Cells.new w2 191 [.pointer (some ⟨g,0,none⟩),.int .u32 x,.int .i64 (p.fac:Int)]).same (Gw.block w2.heap.size (by simp));refine⟨Ae.trans (Am.mono Ae.size),hg.grown s2 Am,fun j v hj=>⟨w2.heap.size,rfl,fun hk=>?_,h9.lt,h9.cell j v hj⟩⟩;exact absurd (s2.lt hk) (Nat.lt_irrefl _)
 have BX:=Q0a Ay;have Ba:Hid (∀W,Calls prog 92 #[.int .i64 z] W fun r w'=>r=.returned (.bool (decide (0<=z/\z<256)))/\W=w'):=fun W=>Q2F W z
 have J6:Hid (∀W,Calls prog 101 #[.int .i64 k] W fun r' w'=>r'=.returned (.bool (decide (k=8∨1<=k/\k<=5)))/\W=w'):=fun W=>Z6F W k
 have DI:Hid (∀W,Calls prog 96 #[.int .i64 z] W fun r w'=>r=.returned (.bool (decide (z<128)))/\W=w'):=fun W=>Q2s W z
 have Df:(0:Int)<=(x:Int):=by omega
 have Gg:(x:Int)<4294967296:=by omega
 have Ng:IntKind.i64.wrap (x:Int)=(x:Int):=Go.IntWalk.i64_in _ (by omega);generalize ((Z.tb (x%256)).at' z).isSome=full at *
 generalize decide (0<=z/\z<256)=bh at *
 generalize decide (k=8∨1<=k/\k<=5)=bm at *
 generalize decide (z<128)=bc at *
 clear hs ok hx hp hk hi Ao Bx Bb Ay;go_enter func40,ntmps40;go_wp2_with fail;refine ks.mono ?_;rintro rv w2⟨g,rfl,Ae,hg⟩;have HW:=Q0a (My.out w2 g Ae hg);obtain⟨Am,K1,OR⟩:=HW.out _ (Below.refl _ _);have kc:=Gl.out _ g Am K1;have v0:=OR.at 0 _ rfl;have v1:=OR.at 1 _ rfl;have v2:=OR.at 2 _ rfl;clear Ae hg My ks Gl Am K1 OR;go_wp2_with fail;refine kc.mono ?_;rintro rv w6⟨rfl,BW⟩;go_wp2_with fail;generalize hW7:(w6.alloc (.cells #[.int .u32 ca,.int .i64 cb] 72))=w7;have CS:=Q0a (HW.out w7 (by rw[<- hW7];exact BW.alloc BW.size _));have kh:=Ba.out w7;have km:=J6.out w7
 have kp:=DI.out w7;clear hW7 BW kc v0 v1 v2 HW J6 DI Ba;rcases BX.out with ⟨er,hT,hQ⟩|⟨rfl,rfl,AJ,rfl,hl⟩
 ·have HQ:=Q0a (hQ _ CS.out.1);clear hQ BX;rcases hT with ⟨rfl,rfl⟩|⟨rfl,rfl,rfl⟩|⟨rfl,rfl,AJ,rfl⟩|⟨rfl,rfl,AJ,rfl,rfl⟩
  ·refine kh.mono ?_;rintro rv w'⟨rfl,rfl⟩;go_wp2_with fail
   (try go_ret2);exact⟨0,_,rfl,HQ.out⟩
  ·refine kh.mono ?_;rintro rv w'⟨rfl,rfl⟩;go_wp2_with fail;refine km.mono ?_;rintro rv w'⟨rfl,rfl⟩;go_wp2_with fail
   (try go_ret2);exact⟨0,_,rfl,HQ.out⟩
  ·have hc:=Q9y AJ;clear AJ;rcases hc with ⟨rfl,rfl⟩|⟨rfl,Om,NH⟩
   ·refine kh.mono ?_;rintro rv w'⟨rfl,rfl⟩;go_wp2_with fail;refine km.mono ?_;rintro rv w'⟨rfl,rfl⟩;go_wp2_with fail;refine kp.mono ?_;rintro rv w'⟨rfl,rfl⟩;go_wp2_with fail
    (try go_ret2);exact⟨0,_,rfl,HQ.out⟩
   ·refine kh.mono ?_;rintro rv w'⟨rfl,rfl⟩;go_wp2_with fail;refine km.mono ?_;rintro rv w'⟨rfl,rfl⟩;go_wp2_with fail;refine kp.mono ?_;rintro rv w'⟨rfl,rfl⟩;go_wp2_with fail
    (try go_ret2);exact⟨0,_,rfl,HQ.out⟩
  ·have hc:=Q3c AJ;clear AJ;rcases hc with ⟨rfl,Om,NH⟩|⟨rfl,rfl⟩
   ·refine kh.mono ?_;rintro rv w'⟨rfl,rfl⟩;go_wp2_with fail;refine km.mono ?_;rintro rv w'⟨rfl,rfl⟩;go_wp2_with fail;refine kp.mono ?_;rintro rv w'⟨rfl,rfl⟩;go_wp2_with fail
    (try go_ret2);exact⟨0,_,rfl,HQ.out⟩
   ·refine kh.mono ?_;rintro rv w'⟨rfl,rfl⟩;go_wp2_with fail;refine km.mono ?_;rintro rv w'⟨rfl,rfl⟩;go_wp2_with fail;refine kp.mono ?_;rintro rv w'⟨rfl,rfl⟩;go_wp2_with fail
    (try go_ret2);exact⟨0,_,rfl,HQ.out⟩
 ·have HL:=Q0a (hl w7 g w2.heap.size CS.out.1 CS.out.2.1 CS.out.2.2);have v0:=CS.out.2.2.at 0 _ rfl;have v1:=CS.out.2.2.at 1 _ rfl;have v2:=CS.out.2.2.at 2 _ rfl;clear hl BX;have hc:=Q3c AJ;clear AJ;rcases hc with ⟨rfl,Om,NH⟩|⟨rfl,rfl⟩
  ·refine kh.mono ?_;rintro rv w'⟨rfl,rfl⟩;go_wp2_with fail;refine km.mono ?_;rintro rv w'⟨rfl,rfl⟩;go_wp2_with fail;refine kp.mono ?_;rintro rv w'⟨rfl,rfl⟩;go_wp2_with fail;refine HL.out.mono ?_;rintro rv w5⟨er,rfl,⟨Ac,hq⟩|⟨rfl,⟨c0,c1,v0,v1,v2⟩,EG⟩⟩
   ·have Bp:(er != 0)=true:=by simp[Ac]
    have HQ:=Q0a hq;clear hq;go_wp2_with fail
    (try go_ret2);exact⟨0,_,rfl,HQ.out⟩
   ·have HT:=Q0a EG;clear EG kh km kp HL;go_wp2_with fail;refine HT.out.mono ?_;clear v0 v1 v2 c0 c1;rintro rv w6⟨hh,er,rfl,⟨c0,c1,v0,v1,v2⟩,⟨Ac,hb⟩|⟨rfl,a,b,c,Di,h8⟩⟩
    ·have Bp:(er != 0)=true:=by simp[Ac]
     have Dl:=Q0a hb;clear hb HT;go_wp2_with fail;refine Dl.out.mono ?_;rintro rv w8⟨rfl,hq⟩;have HQ:=Q0a hq;clear hq;go_wp2_with fail
     (try go_ret2);exact⟨0,_,rfl,HQ.out⟩
    ·have H8:=Q0a h8;clear h8 HT;go_wp2_with fail;refine Di.mono ?_;rintro rv w'⟨rfl,rfl⟩;clear Di;have Rf:=(H8.out w6.drew (Below.refl _ _).drew).2.1;have d0:w6.drew.cell? ⟨w2.heap.size,0,none⟩=some (.pointer (some ⟨g,0,none⟩)):=v0;go_wp2_with fail
     go_region_held3 (fun w'=>w'.cell? ⟨w2.heap.size,0,none⟩=some (.pointer (some ⟨g,0,none⟩))) (first|exact v0|exact d0|exact e0|exact m0)
      (first|(go_at_call 104;refine Rf.mono ?_;rintro rv w8⟨rfl,FS⟩;have h9:=H8.out w8 ((Below.refl w6.heap.size w6).drew.trans (FS.mono (J3h _)));have e0:=h9.1.2.2.1;have CQ:=Q0a h9.2.2;clear h9 FS)|(go_at_call 103;refine CQ.out.mono ?_;rintro rv w9⟨⟨sv,rfl⟩,⟨-,m1,m0,-,-⟩,AZ⟩;have D4:=Q0a AZ;clear AZ))
     go_wp2_with fail;refine(D4.out 0).mono ?_;rintro rv w10⟨⟨ra,rb,rfl⟩,hq⟩;have HQ:=Q0a hq;clear hq;go_wp2_with fail
     (try go_ret2);exact⟨hh,_,rfl,HQ.out⟩
  ·refine kh.mono ?_;rintro rv w'⟨rfl,rfl⟩;go_wp2_with fail;refine km.mono ?_;rintro rv w'⟨rfl,rfl⟩;go_wp2_with fail;refine kp.mono ?_;rintro rv w'⟨rfl,rfl⟩;go_wp2_with fail;refine HL.out.mono ?_;rintro rv w5⟨er,rfl,⟨Ac,hq⟩|⟨rfl,⟨c0,c1,v0,v1,v2⟩,EG⟩⟩
   ·have Bp:(er != 0)=true:=by simp[Ac]
    have HQ:=Q0a hq;clear hq;go_wp2_with fail
    (try go_ret2);exact⟨0,_,rfl,HQ.out⟩
   ·have HT:=Q0a EG;clear EG kh km kp HL;go_wp2_with fail;refine HT.out.mono ?_;clear v0 v1 v2 c0 c1;rintro rv w6⟨hh,er,rfl,⟨c0,c1,v0,v1,v2⟩,⟨Ac,hb⟩|⟨rfl,a,b,c,Di,h8⟩⟩
    ·have Bp:(er != 0)=true:=by simp[Ac]
     have Dl:=Q0a hb;clear hb HT;go_wp2_with fail;refine Dl.out.mono ?_;rintro rv w8⟨rfl,hq⟩;have HQ:=Q0a hq;clear hq;go_wp2_with fail
     (try go_ret2);exact⟨0,_,rfl,HQ.out⟩
    ·have H8:=Q0a h8;clear h8 HT;go_wp2_with fail;refine Di.mono ?_;rintro rv w'⟨rfl,rfl⟩;clear Di;have Rf:=(H8.out w6.drew (Below.refl _ _).drew).2.1;have d0:w6.drew.cell? ⟨w2.heap.size,0,none⟩=some (.pointer (some ⟨g,0,none⟩)):=v0;go_wp2_with fail
     go_region_held3 (fun w'=>w'.cell? ⟨w2.heap.size,0,none⟩=some (.pointer (some ⟨g,0,none⟩))) (first|exact v0|exact d0|exact e0|exact m0)
      (first|(go_at_call 104;refine Rf.mono ?_;rintro rv w8⟨rfl,FS⟩;have h9:=H8.out w8 ((Below.refl w6.heap.size w6).drew.trans (FS.mono (J3h _)));have e0:=h9.1.2.2.1;have CQ:=Q0a h9.2.2;clear h9 FS)|(go_at_call 103;refine CQ.out.mono ?_;rintro rv w9⟨⟨sv,rfl⟩,⟨-,m1,m0,-,-⟩,AZ⟩;have D4:=Q0a AZ;clear AZ))
     go_wp2_with fail;refine(D4.out 0).mono ?_;rintro rv w10⟨⟨ra,rb,rfl⟩,hq⟩;have HQ:=Q0a hq;clear hq;go_wp2_with fail
     (try go_ret2);exact⟨hh,_,rfl,HQ.out⟩
theorem Q9B{l:List Pl}{i:Nat}{p q:Pl}(hi:l[i]?=some p)(hp:p.st=0){x:Nat}{r:Pl}(hr:pget l 1 x=some r):pget (l.set i q) 1 x=some r:=by
 obtain⟨a,b,c⟩:=pget_some.1 hr;rw[Q2B q hi,if_neg]
 ·exact hr
 ·intro e;rw[e,hi] at a;cases a;omega
theorem Q7u{l:List Pl}{tb:Nat->TB}{i:Nat}{p q:Pl}(hi:l[i]?=some p)(hn:(tb i).Nil)(h s:Nat):Q0f (l.set i q) tb h s=Q0f l tb h s:=by
 by_cases e:h%256=i
 ·have z:∀l',Q0f l' tb h s=none:=fun l'=>by
   unfold Q0f;split
   ·split
    ·rename_i hc;rw[e];exact hn.2 s hc.2
    ·rfl
   ·rfl
  rw[z,z]
 ·unfold Q0f;rw[Q2B q hi,if_neg e]
section
variable {Z:SP} {fr fr':List Nat} {N K:Nat} {M:Int}
theorem SP.Ok.made_added(ok:Z.Ok fr N K M){x s:Nat}{p:Pl}(hp:pget Z.S.l 1 x=some p)(hk:p.kind=2)(hs:s<256)(h0:Q0f Z.S.l Z.tb x s=none){S1:CO}{t1:TB}{e1:Ent}(T1:TurnP Z.S fr N K Z.tb (p.fac:Int) (x%256) s (some e1) S1 t1)
  {f q:Pl} {ef:En Fa} {n a y i:Nat} {lim:Int} {P':PL} (m:MadeOk S1 fr f ef n a lim y i q P' fr') (hi:S1.l[i]?=some q) (hq:q.st=0) {e2:Ent} (hc:Q6D (S1.made f n a y i q P').l s e2)
  {S3:CO} {t3:TB} (T3:TurnP (S1.made f n a y i q P') fr' (N+1) K (updT Z.tb (x%256) t1) (p.fac:Int) (x%256) s (some e2) S3 t3) {F':FO} (A:Z1T Z.F 0 (x:Int) (s:Int) F') :
  ((Z.setF F').setS S3 (updT Z.tb (x%256) t3)).Ok fr' (N+1) K (M+1)/\((Z.setF F').setS S3 (updT Z.tb (x%256) t3)).av.en=setA Z.av.en x s (some (e2.h,e2.r))/\∃b,((Z.setF F').setS S3 (updT Z.tb (x%256) t3)).av.N=addN Z.F.N 0 (Z.F.next+1) b (x:Int) (s:Int):=by
 have D7:S1.l=Z.S.l:=T1.alt.l;have D3:(S1.made f n a y i q P').l=Z.S.l.set i ⟨n,a,f.own,1,q.age,y⟩:=by
  show S1.l.set i _=_;rw[D7]
 have M6:S3.l=Z.S.l.set i ⟨n,a,f.own,1,q.age,y⟩:=T3.alt.l.trans D3;have BH:Z.S.l[i]?=some q:=by rw[<- D7];exact hi
 have Et:(Z.tb i).Nil:=ok.tpi.nil i q BH (by omega);obtain⟨b,hN⟩:=A.N;have Az:pget (Z.S.l.set i ⟨n,a,f.own,1,q.age,y⟩) 1 x=some p:=Q9B BH hq hp;have Xc:Q0f (Z.S.l.set i ⟨n,a,f.own,1,q.age,y⟩) Z.tb x s=none:=by rw[Q7u BH Et];exact h0
 have BF:∀z,t3.en z=if z=s then some e2 else(Z.tb (x%256)).en z:=fun z=>by
  rw[T3.en z,updT_same,T1.en z];split <;> rfl
 have Dd:=Q6c Z.F.N F'.N Az hk hs BF;have GY:((Z.setF F').setS S3 (updT Z.tb (x%256) t3)).av=⟨setA Z.av.en x s ((some e2).map Ent.c),F'.N⟩:=by
  show avOf S3.l (updT Z.tb (x%256) t3) F'.N=_;rw[M6,Dd];congr 2;unfold SP.av avOf;funext h' s';simp only;rw[Q7u BH Et]
 have Kd:=T3.tpi;rw[Q0V] at Kd;refine⟨⟨T3.ok,Kd,?_,A.ok,by show F'.next<=M+1;rw[A.next];have:=ok.next;omega⟩,by rw[GY];rfl,b,by rw[GY];exact hN⟩;show FPI S3.l _ F'.N;rw[M6,hN];rw[D3] at hc;exact(ok.fpi.made (q:=⟨n,a,f.own,1,q.age,y⟩) BH hq Et).add ok.fo.n Az hk hs Xc BF hc b (.inl rfl)
end
end Go.Proofs.YtfidemmgofcnmaaGreatDoor
namespace Go.Proofs.YtfidemmgofcnmaaGreatDoor
open Go.ChangeShapes Go.WideShapes Go.ChangeAt Go.RowKit Go.Deep Go.Proofs.Tryz
theorem Q2H{w:World}{x:Addr}{v:Value}(h:w.cell? x=some v):x=⟨x.block,x.off,none⟩:=by
 obtain⟨b,o,s⟩:=x;cases s with
 | none=>rfl
 | some s =>
  exfalso;unfold World.cell? at h;split at h <;> simp at h
theorem add_plain5(b o j:Nat):(⟨b,o,none⟩:Addr).add j=⟨b,o+j,none⟩:=by
 unfold Addr.add;split
 ·rename_i h;simp
 ·rfl
abbrev I64(x:Int):Prop:=-9223372036854775808<=x/\x<=9223372036854775807
structure Mv where
 src:Int
 dst:Int
 r:Int
 g:Bool
def Mv.cells(x:Mv):List Value:=[.int .i64 x.src,.int .i64 x.dst,.int .i64 x.r,.bool x.g]
structure Mv.Wf(x:Mv):Prop where
 src:I64 x.src
 dst:I64 x.dst
 r:I64 x.r
structure It where
 base:Int
 order:Int
 r:Int
 off:Int
 g:Bool
def It.cells(x:It):List Value:=[.int .i64 x.base,.int .i64 x.order,.int .i64 x.r,.int .i64 x.off,.bool x.g]
structure It.Wf(x:It):Prop where
 base:I64 x.base
 order:I64 x.order
 r:I64 x.r
 off:I64 x.off
structure Wi where
 base:Int
 order:Int
def Wi.cells(x:Wi):List Value:=[.int .i64 x.base,.int .i64 x.order]
structure Wi.Wf(x:Wi):Prop where
 base:I64 x.base
 order:I64 x.order
def IsMv(w:World)(a0:Option Addr)(len:Nat)(A:Nat->Mv):Prop:=∀j,j<len->∃g off,a0=some ⟨g,off,none⟩/\g<w.heap.size/\(∀(i:Nat) (v:Value),(A j).cells[i]?=some v->w.cell? ⟨g,off+j*4+i,none⟩=some v)/\(A j).Wf
theorem IsMv.below{w w':World}{a0:Option Addr}{len:Nat}{A:Nat->Mv}(h:IsMv w a0 len A)(hb:Below w.heap.size w w'):IsMv w' a0 len A:=by
 intro j hj;obtain⟨g,off,h1,h2,h3,h4⟩:=h j hj;have e:=hb.block g h2;exact⟨g,off,h1,J3j h2 hb.size,fun i v hv=>(World.cell?_of_block (w:=w) e).trans (h3 i v hv),h4⟩
structure A17 where
 kind:Int
 n:Int
 k:Int
 m:Int
 t:Int
 u:Int
 s:Int
 r:Int
 self:Bool
 la:Option Addr
 ll:Nat
 lc:Nat
 L:Nat->Mv
 i:It
 w:Wi
def A17.cells(x:A17):List Value:=[.int .i64 x.kind,.int .i64 x.n,.int .i64 x.k,.int .i64 x.m,.int .i64 x.t,.int .i64 x.u,.int .i64 x.s,.int .i64 x.r,.bool x.self,.slice x.la x.ll x.lc]++x.i.cells++x.w.cells
structure A17.Wf(x:A17):Prop where
 n:I64 x.n
 k:I64 x.k
 m:I64 x.m
 t:I64 x.t
 u:I64 x.u
 s:I64 x.s
 r:I64 x.r
 len:x.ll<=x.lc/\x.lc<=maxLen
 i:x.i.Wf
 w:x.w.Wf
theorem Z6H:prog.cellsOf 67=17:=by kernel_rfl
theorem Q9C:prog.cellsOf 90=4:=by kernel_rfl
theorem Q6i:prog.cellsOf 63=5:=by kernel_rfl
theorem Q6j:prog.cellsOf 65=2:=by kernel_rfl
theorem Q2u:prog.cellsOf 3=1:=by kernel_rfl
theorem Q3P:prog.cellsOf 4=1:=by kernel_rfl
theorem Z3B:prog.cellsOf 61=1:=by kernel_rfl
theorem Z0N{H:Type}{enc:TypeId×Value->H}{w:World}{n:Nat}{cs:List Value}{y:DataW H×List MemPlace}
  (h:DataW.trod enc prog w 0 (fun _=>true) true n 90 cs=some y):∃x:Mv,cs=x.cells/\x.Wf:=by
 obtain⟨xs,n',_,_,Ab,CW,hf⟩:=DataW.trod_struct underlying90 h;rw[Q9C] at Ab
 match cs,Ab with
 | [v0,v1,v2,v3],_ =>
  match xs,CW with
  | [y0,y1,y2,y3],_ =>
   have g0:DataW.trod enc prog w 0 (fun _=>true) true n' 3 (List.take (prog.cellsOf 3) (List.drop 0 [v0,v1,v2,v3]))=some y0:=hf 0 _ rfl;have g1:DataW.trod enc prog w 0 (fun _=>true) true n' 3 (List.take (prog.cellsOf 3) (List.drop 1 [v0,v1,v2,v3]))=some y1:=hf 1 _ rfl;have g2:DataW.trod enc prog w 0 (fun _=>true) true n' 3 (List.take (prog.cellsOf 3) (List.drop 2 [v0,v1,v2,v3]))=some y2:=hf 2 _ rfl;have g3:DataW.trod enc prog w 0 (fun _=>true) true n' 4 (List.take (prog.cellsOf 4) (List.drop 3 [v0,v1,v2,v3]))=some y3:=hf 3 _ rfl;rw[Q2u] at g0 g1 g2;rw[Q3P] at g3;simp only[J6T,J7u,J6C,J7v] at g0 g1 g2 g3
   obtain⟨a0,e0,_,Ji⟩:=DataW.trod_int underlying3 g0;have Bv:=bounds_i64 (n:=a0) (by simp_all);obtain⟨a1,e1,_,CU⟩:=DataW.trod_int underlying3 g1;have Aq:=bounds_i64 (n:=a1) (by simp_all);obtain⟨a2,e2,_,E3⟩:=DataW.trod_int underlying3 g2;have Ae:=bounds_i64 (n:=a2) (by simp_all);obtain⟨a3,e3,_⟩:=DataW.trod_bool underlying4 g3;simp only[J3l,and_true] at e0 e1 e2 e3;subst e0;subst e1;subst e2;subst e3;exact⟨⟨a0,a1,a2,a3⟩,rfl,⟨by simpa using Bv,by simpa using Aq,by simpa using Ae⟩⟩
theorem Q6k{H:Type}{enc:TypeId×Value->H}{w:World}{n:Nat}{cs:List Value}{y:DataW H×List MemPlace}
  (h:DataW.trod enc prog w 0 (fun _=>true) true n 63 cs=some y):∃x:It,cs=x.cells/\x.Wf:=by
 obtain⟨xs,n',_,_,Ab,CW,hf⟩:=DataW.trod_struct underlying63 h;rw[Q6i] at Ab
 match cs,Ab with
 | [v0,v1,v2,v3,v4],_ =>
  match xs,CW with
  | [y0,y1,y2,y3,y4],_ =>
   have g0:DataW.trod enc prog w 0 (fun _=>true) true n' 3 (List.take (prog.cellsOf 3) (List.drop 0 [v0,v1,v2,v3,v4]))=some y0:=hf 0 _ rfl;have g1:DataW.trod enc prog w 0 (fun _=>true) true n' 3 (List.take (prog.cellsOf 3) (List.drop 1 [v0,v1,v2,v3,v4]))=some y1:=hf 1 _ rfl;have g2:DataW.trod enc prog w 0 (fun _=>true) true n' 3 (List.take (prog.cellsOf 3) (List.drop 2 [v0,v1,v2,v3,v4]))=some y2:=hf 2 _ rfl;have g3:DataW.trod enc prog w 0 (fun _=>true) true n' 3 (List.take (prog.cellsOf 3) (List.drop 3 [v0,v1,v2,v3,v4]))=some y3:=hf 3 _ rfl;have g4:DataW.trod enc prog w 0 (fun _=>true) true n' 4 (List.take (prog.cellsOf 4) (List.drop 4 [v0,v1,v2,v3,v4]))=some y4:=hf 4 _ rfl
   rw[Q2u] at g0 g1 g2 g3;rw[Q3P] at g4;simp only[J6T,J7u,J6C,J7v] at g0 g1 g2 g3 g4;obtain⟨a0,e0,_,Ji⟩:=DataW.trod_int underlying3 g0;have Bv:=bounds_i64 (n:=a0) (by simp_all);obtain⟨a1,e1,_,CU⟩:=DataW.trod_int underlying3 g1;have Aq:=bounds_i64 (n:=a1) (by simp_all);obtain⟨a2,e2,_,E3⟩:=DataW.trod_int underlying3 g2;have Ae:=bounds_i64 (n:=a2) (by simp_all);obtain⟨a3,e3,_,FY⟩:=DataW.trod_int underlying3 g3;have Am:=bounds_i64 (n:=a3) (by simp_all);obtain⟨a4,e4,_⟩:=DataW.trod_bool underlying4 g4;simp only[J3l,and_true] at e0 e1 e2 e3 e4;subst e0;subst e1;subst e2;subst e3;subst e4;exact⟨⟨a0,a1,a2,a3,a4⟩,rfl,⟨by simpa using Bv,by simpa using Aq,by simpa using Ae,by simpa using Am⟩⟩
theorem Q7v{H:Type}{enc:TypeId×Value->H}{w:World}{n:Nat}{cs:List Value}{y:DataW H×List MemPlace}
  (h:DataW.trod enc prog w 0 (fun _=>true) true n 65 cs=some y):∃x:Wi,cs=x.cells/\x.Wf:=by
 obtain⟨xs,n',_,_,Ab,CW,hf⟩:=DataW.trod_struct underlying65 h;rw[Q6j] at Ab
 match cs,Ab with
 | [v0,v1],_ =>
  match xs,CW with
  | [y0,y1],_ =>
   have g0:DataW.trod enc prog w 0 (fun _=>true) true n' 3 (List.take (prog.cellsOf 3) (List.drop 0 [v0,v1]))=some y0:=hf 0 _ rfl;have g1:DataW.trod enc prog w 0 (fun _=>true) true n' 3 (List.take (prog.cellsOf 3) (List.drop 1 [v0,v1]))=some y1:=hf 1 _ rfl;rw[Q2u] at g0 g1;simp only[J6T,J7u,J6C,J7v] at g0 g1;obtain⟨a0,e0,_,Ji⟩:=DataW.trod_int underlying3 g0;have Bv:=bounds_i64 (n:=a0) (by simp_all);obtain⟨a1,e1,_,CU⟩:=DataW.trod_int underlying3 g1;have Aq:=bounds_i64 (n:=a1) (by simp_all);simp only[J3l,and_true] at e0 e1;subst e0;subst e1;exact⟨⟨a0,a1⟩,rfl,⟨by simpa using Bv,by simpa using Aq⟩⟩
theorem Q9D{H:Type}{enc:TypeId×Value->H}{w:World}{fuel:Nat}{cs:List Value}{x:DataW H×List MemPlace}
  (h:DataW.trod enc prog w 0 (fun _=>true) true fuel 61 cs=some x):∃(a0:Option Addr) (len cap:Nat),cs=[.slice a0 len cap]/\(len<=cap/\cap<=maxLen)/\∃A,IsMv w a0 len A:=by
 rcases open_slice underlying61 h with ⟨AO,_⟩|⟨a,len,cap,m,n,D,Pl,AO,_,hl,Cp,Il,_,hi⟩
 ·exact⟨none,0,0,AO,⟨J3h _,by unfold maxLen;omega⟩,fun _=>⟨0,0,0,false⟩,fun j hj=>absurd hj (J6D _)⟩
 ·refine⟨some a,len,cap,AO,⟨hl,Cp⟩,?_⟩;have hm:len<=m:=by rw[Il];simp;exact hl
  have each:∀j,j<len->∃x:Mv,(∀(i:Nat) (v:Value),x.cells[i]?=some v->w.cell? ((a.add (j*4)).add i)=some v)/\x.Wf:=by
   intro j hj;obtain⟨RW,hc,ht⟩:=hi j (by omega);rw[Q9C] at hc;obtain⟨x,rfl,hx⟩:=Z0N ht;obtain⟨_,_,Bb⟩:=World.cells?_some hc;refine⟨x,fun i v hv=>?_,hx⟩;have M8:i<4:=by simpa[Mv.cells] using (J3y.1 hv).1
   exact(Bb i M8).trans hv
  by_cases h0:len=0
  ·exact⟨fun _=>⟨0,0,0,false⟩,fun j hj=>by omega⟩
  ·obtain⟨x0,c0,_⟩:=each 0 (by omega);have hp:=Q2H (x:=a) (by simpa[Addr.add] using c0 0 _ rfl);refine⟨fun j=>if hj:j<len then(each j hj).choose else⟨0,0,0,false⟩,fun j hj=>?_⟩;obtain⟨h1,h2⟩:=(each j hj).choose_spec;simp only[hj,dif_pos];generalize (each j hj).choose=y at h1 h2;have h3:∀(i:Nat) (v:Value),y.cells[i]?=some v->w.cell? ⟨a.block,a.off+j*4+i,none⟩=some v:=fun i v hv=>by
    have:=h1 i v hv;rw[hp,add_plain5,add_plain5] at this;exact this
   exact⟨a.block,a.off,congrArg some hp,World.block_lt_of_cell? w ⟨a.block,a.off+j*4+0,none⟩ (h3 0 _ rfl),h3,h2⟩
theorem Z3C{H:Type}{enc:TypeId×Value->H}{w:World}{n:Nat}{cs:List Value}{y:DataW H×List MemPlace}
  (h:DataW.trod enc prog w 0 (fun _=>true) true n 67 cs=some y):∃x:A17,cs=x.cells/\x.Wf/\IsMv w x.la x.ll x.L:=by
 obtain⟨xs,n',_,_,Ab,CW,hf⟩:=DataW.trod_struct underlying67 h;rw[Z6H] at Ab
 match cs,Ab with
 | [v0,v1,v2,v3,v4,v5,v6,v7,v8,v9,v10,v11,v12,v13,v14,v15,v16],_ =>
  match xs,CW with
  | [y0,y1,y2,y3,y4,y5,y6,y7,y8,y9,y10,y11],_ =>
   have g0:DataW.trod enc prog w 0 (fun _=>true) true n' 3 (List.take (prog.cellsOf 3) (List.drop 0 [v0,v1,v2,v3,v4,v5,v6,v7,v8,v9,v10,v11,v12,v13,v14,v15,v16]))=some y0:=hf 0 _ rfl;have g1:DataW.trod enc prog w 0 (fun _=>true) true n' 3 (List.take (prog.cellsOf 3) (List.drop 1 [v0,v1,v2,v3,v4,v5,v6,v7,v8,v9,v10,v11,v12,v13,v14,v15,v16]))=some y1:=hf 1 _ rfl;have g2:DataW.trod enc prog w 0 (fun _=>true) true n' 3 (List.take (prog.cellsOf 3) (List.drop 2 [v0,v1,v2,v3,v4,v5,v6,v7,v8,v9,v10,v11,v12,v13,v14,v15,v16]))=some y2:=hf 2 _ rfl;have g3:DataW.trod enc prog w 0 (fun _=>true) true n' 3 (List.take (prog.cellsOf 3) (List.drop 3 [v0,v1,v2,v3,v4,v5,v6,v7,v8,v9,v10,v11,v12,v13,v14,v15,v16]))=some y3:=hf 3 _ rfl
   have g4:DataW.trod enc prog w 0 (fun _=>true) true n' 3 (List.take (prog.cellsOf 3) (List.drop 4 [v0,v1,v2,v3,v4,v5,v6,v7,v8,v9,v10,v11,v12,v13,v14,v15,v16]))=some y4:=hf 4 _ rfl;have g5:DataW.trod enc prog w 0 (fun _=>true) true n' 3 (List.take (prog.cellsOf 3) (List.drop 5 [v0,v1,v2,v3,v4,v5,v6,v7,v8,v9,v10,v11,v12,v13,v14,v15,v16]))=some y5:=hf 5 _ rfl;have g6:DataW.trod enc prog w 0 (fun _=>true) true n' 3 (List.take (prog.cellsOf 3) (List.drop 6 [v0,v1,v2,v3,v4,v5,v6,v7,v8,v9,v10,v11,v12,v13,v14,v15,v16]))=some y6:=hf 6 _ rfl;have g7:DataW.trod enc prog w 0 (fun _=>true) true n' 3 (List.take (prog.cellsOf 3) (List.drop 7 [v0,v1,v2,v3,v4,v5,v6,v7,v8,v9,v10,v11,v12,v13,v14,v15,v16]))=some y7:=hf 7 _ rfl
   have g8:DataW.trod enc prog w 0 (fun _=>true) true n' 4 (List.take (prog.cellsOf 4) (List.drop 8 [v0,v1,v2,v3,v4,v5,v6,v7,v8,v9,v10,v11,v12,v13,v14,v15,v16]))=some y8:=hf 8 _ rfl;have g9:DataW.trod enc prog w 0 (fun _=>true) true n' 61 (List.take (prog.cellsOf 61) (List.drop 9 [v0,v1,v2,v3,v4,v5,v6,v7,v8,v9,v10,v11,v12,v13,v14,v15,v16]))=some y9:=hf 9 _ rfl;have g10:DataW.trod enc prog w 0 (fun _=>true) true n' 63 (List.take (prog.cellsOf 63) (List.drop 10 [v0,v1,v2,v3,v4,v5,v6,v7,v8,v9,v10,v11,v12,v13,v14,v15,v16]))=some y10:=hf 10 _ rfl;have g11:DataW.trod enc prog w 0 (fun _=>true) true n' 65 (List.take (prog.cellsOf 65) (List.drop 15 [v0,v1,v2,v3,v4,v5,v6,v7,v8,v9,v10,v11,v12,v13,v14,v15,v16]))=some y11:=hf 11 _ rfl
   rw[Q2u] at g0 g1 g2 g3 g4 g5 g6 g7;rw[Q3P] at g8;rw[Z3B] at g9;rw[Q6i] at g10;rw[Q6j] at g11;simp only[J6T,J7u,J6C,J7v] at g0 g1 g2 g3 g4 g5 g6 g7 g8 g9 g10 g11;obtain⟨a0,e0,_,Ji⟩:=DataW.trod_int underlying3 g0;have Bv:=bounds_i64 (n:=a0) (by simp_all);obtain⟨a1,e1,_,CU⟩:=DataW.trod_int underlying3 g1;have Aq:=bounds_i64 (n:=a1) (by simp_all);obtain⟨a2,e2,_,E3⟩:=DataW.trod_int underlying3 g2;have Ae:=bounds_i64 (n:=a2) (by simp_all);obtain⟨a3,e3,_,FY⟩:=DataW.trod_int underlying3 g3;have Am:=bounds_i64 (n:=a3) (by simp_all);obtain⟨a4,e4,_,WQ⟩:=DataW.trod_int underlying3 g4;have Av:=bounds_i64 (n:=a4) (by simp_all)
   obtain⟨a5,e5,_,WX⟩:=DataW.trod_int underlying3 g5;have As:=bounds_i64 (n:=a5) (by simp_all);obtain⟨a6,e6,_,XP⟩:=DataW.trod_int underlying3 g6;have BW:=bounds_i64 (n:=a6) (by simp_all);obtain⟨a7,e7,_,X9⟩:=DataW.trod_int underlying3 g7;have Ge:=bounds_i64 (n:=a7) (by simp_all);obtain⟨a8,e8,_⟩:=DataW.trod_bool underlying4 g8;obtain⟨aa,al,ac,e9,AQ,BI⟩:=Q9D g9;obtain⟨it,e10,LL⟩:=Q6k g10;obtain⟨wi,e11,MQ⟩:=Q7v g11;simp only[J3l,and_true] at e0 e1 e2 e3 e4 e5 e6 e7 e8 e9;subst e0;subst e1;subst e2;subst e3;subst e4;subst e5;subst e6;subst e7;subst e8;subst e9;obtain⟨mvs,BI⟩:=BI;refine⟨⟨a0,a1,a2,a3,a4,a5,a6,a7,a8,aa,al,ac,mvs,it,wi⟩,?_,⟨by simpa using Aq,by simpa using Ae,by simpa using Am,by simpa using Av,by simpa using As,by simpa using BW,by simpa using Ge,AQ,LL,MQ⟩,BI⟩
   unfold A17.cells;rw[<- e10,<- e11];rfl
end Go.Proofs.YtfidemmgofcnmaaGreatDoor

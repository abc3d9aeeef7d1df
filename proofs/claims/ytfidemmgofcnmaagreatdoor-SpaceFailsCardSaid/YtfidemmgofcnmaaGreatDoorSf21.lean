/- SpaceFails returns true at every input. No condition. Part of its proof. -/
import Derived.Test.YtfidemmgofcnmaaGreatDoorSf20
set_option maxHeartbeats 8000000
set_option maxRecDepth 100000
set_option linter.unusedVariables false
namespace Go.Proofs.YtfidemmgofcnmaaGreatDoor
open Go.RowKit Go.Proofs.Tryz
def J2l(h1 h2 br c1 c2 s1 z1 z2 s2 cl:Bool)(er:Int):Prop:=(h1=false/\er=2)∨(h1=true/\h2=false/\er=2)∨(h1=true/\h2=true/\br=false/\er=1)∨(h1=true/\h2=true/\br=true/\c1=!c2/\er=1)∨(h1=true/\h2=true/\br=true/\c1=c2/\s1=false/\er=6)∨(h1=true/\h2=true/\br=true/\c1=c2/\s1=true/\z1=true/\er=9)∨(h1=true/\h2=true/\br=true/\c1=c2/\s1=true/\z1=false/\z2=true/\er=9)∨(h1=true/\h2=true/\br=true/\c1=c2/\s1=true/\z1=false/\z2=false/\s2=true/\er=7)∨(h1=true/\h2=true/\br=true/\c1=c2/\s1=true/\z1=false/\z2=false/\s2=false/\cl=true/\er=7)∨(h1=true/\h2=true/\br=true/\c1=c2/\s1=true/\z1=false/\z2=false/\s2=false/\cl=false/\er=0)
theorem Z3M{w:World}{g1 x1 g2 x2:Nat}{f1 f2:Int}{m:Mv}{a0:Option Addr}{n cap:Nat}{ca1 cb1 ca2 cb2 er:Int}{s1 s2 cl:Bool}
  (EK:∀W,Below w.heap.size w W->Calls prog 93 #[.agg #[.pointer (some ⟨g1,0,none⟩),.int .u32 x1,.int .i64 f1],.int .i64 m.src] W (Told W (.tuple #[.agg #[.int .u32 ca1,.int .i64 cb1],.bool s1])))
  (FJ:∀W,Below w.heap.size w W->Calls prog 93 #[.agg #[.pointer (some ⟨g2,0,none⟩),.int .u32 x2,.int .i64 f2],.int .i64 m.dst] W (Told W (.tuple #[.agg #[.int .u32 ca2,.int .i64 cb2],.bool s2])))
  (hCl:∀W b,Below w.heap.size w W->b<W.heap.size->W.cell? ⟨b,0,none⟩=some (.int .i64 m.src)->W.cell? ⟨b,1,none⟩=some (.int .i64 m.dst)->W.cell? ⟨b,3,none⟩=some (.bool m.g)->Calls prog 171 #[.slice a0 n cap,Z3K b] W (Told W (.bool cl)))
  (hT:J2l (decide (0<=m.src/\m.src<256)) (decide (0<=m.dst/\m.dst<256)) (decide (0<m.r/\m.r<=15)) (decide (m.src<128)) (decide (m.dst<128)) s1 (bits .and .i64 cb1 4==0) (bits .and .i64 cb1 m.r==0) s2 cl er) :
  Calls prog 97 #[.agg #[.pointer (some ⟨g1,0,none⟩),.int .u32 x1,.int .i64 f1],.agg #[.pointer (some ⟨g2,0,none⟩),.int .u32 x2,.int .i64 f2],.agg #[.int .i64 m.src,.int .i64 m.dst,.int .i64 m.r,.bool m.g],.slice a0 n cap] w (Told w (.int .i64 er)):=by
 have Sh:Hid (∀W,Calls prog 92 #[.int .i64 m.src] W fun r w'=>r=.returned (.bool (decide (0<=m.src/\m.src<256)))/\W=w'):=fun W=>Q2Z W m.src
 have Rq:Hid (∀W,Calls prog 92 #[.int .i64 m.dst] W fun r w'=>r=.returned (.bool (decide (0<=m.dst/\m.dst<256)))/\W=w'):=fun W=>Q2Z W m.dst
 have RI:Hid (∀W,Calls prog 106 #[.int .i64 m.r] W fun r' w'=>r'=.returned (.bool (decide (0<m.r/\m.r<=15)))/\W=w'):=fun W=>Q3S W m.r
 have Gm:Hid (∀W,Calls prog 96 #[.int .i64 m.src] W fun r w'=>r=.returned (.bool (decide (m.src<128)))/\W=w'):=fun W=>Q2M W m.src
 have Hq:Hid (∀W,Calls prog 96 #[.int .i64 m.dst] W fun r w'=>r=.returned (.bool (decide (m.dst<128)))/\W=w'):=fun W=>Q2M W m.dst
 obtain⟨ms,md,mr,mg⟩:=m;dsimp only at *
 have HW:Hid (∀W,Below (((w.alloc (.cells #[.pointer (some ⟨g1,0,none⟩),.int .u32 x1,.int .i64 f1] 191)).alloc (.cells #[.pointer (some ⟨g2,0,none⟩),.int .u32 x2,.int .i64 f2] 191)).alloc (.cells #[.int .i64 ms,.int .i64 md,.int .i64 mr,.bool mg] 90)).heap.size (((w.alloc (.cells #[.pointer (some ⟨g1,0,none⟩),.int .u32 x1,.int .i64 f1] 191)).alloc (.cells #[.pointer (some ⟨g2,0,none⟩),.int .u32 x2,.int .i64 f2] 191)).alloc (.cells #[.int .i64 ms,.int .i64 md,.int .i64 mr,.bool mg] 90)) W ->
   Below w.heap.size w W/\w.heap.size+2<W.heap.size/\(W.cell? ⟨w.heap.size+1,0,none⟩=some (.pointer (some ⟨g2,0,none⟩))/\W.cell? ⟨w.heap.size+1,1,none⟩=some (.int .u32 x2)/\W.cell? ⟨w.heap.size+1,2,none⟩=some (.int .i64 f2)) /\
   W.cell? ⟨w.heap.size+2,0,none⟩=some (.int .i64 ms)/\W.cell? ⟨w.heap.size+2,1,none⟩=some (.int .i64 md)/\W.cell? ⟨w.heap.size+2,2,none⟩=some (.int .i64 mr)/\W.cell? ⟨w.heap.size+2,3,none⟩=some (.bool mg)):=fun W hb=>by
  have h5:=((Cells.new (w.alloc (.cells #[.pointer (some ⟨g1,0,none⟩),.int .u32 x1,.int .i64 f1] 191)) 191 [.pointer (some ⟨g2,0,none⟩),.int .u32 x2,.int .i64 f2]).alloc (.cells #[.int .i64 ms,.int .i64 md,.int .i64 mr,.bool mg] 90)).same (hb.block _ (by simp));have h6:=(Cells.new ((w.alloc (.cells #[.pointer (some ⟨g1,0,none⟩),.int .u32 x1,.int .i64 f1] 191)).alloc (.cells #[.pointer (some ⟨g2,0,none⟩),.int .u32 x2,.int .i64 f2] 191)) 90 [.int .i64 ms,.int .i64 md,.int .i64 mr,.bool mg]).same (hb.block _ (by simp));have e1:(w.alloc (.cells #[.pointer (some ⟨g1,0,none⟩),.int .u32 x1,.int .i64 f1] 191)).heap.size=w.heap.size+1:=by simp
  have e2:((w.alloc (.cells #[.pointer (some ⟨g1,0,none⟩),.int .u32 x1,.int .i64 f1] 191)).alloc (.cells #[.pointer (some ⟨g2,0,none⟩),.int .u32 x2,.int .i64 f2] 191)).heap.size=w.heap.size+2:=by simp
  rw[e1] at h5;rw[e2] at h6;exact⟨Q0e (Q0e (Q0e hb)),h6.lt,⟨h5.cell 0 _ rfl,h5.cell 1 _ rfl,h5.cell 2 _ rfl⟩,h6.cell 0 _ rfl,h6.cell 1 _ rfl,h6.cell 2 _ rfl,h6.cell 3 _ rfl⟩
 have k1:=EK _ (HW.out _ (Below.refl _ _)).1;have I5:=Q0a FJ;have D5:=Q0a hCl;have HT:=Q0a hT;clear EK FJ hCl hT;go_enter func97,ntmps97;go_wp2_with fail;refine k1.mono ?_;rintro rv w1⟨rfl,Aw⟩;have Bp:Hid (∀o,Below (((w.alloc (.cells #[.pointer (some ⟨g1,0,none⟩),.int .u32 x1,.int .i64 f1] 191)).alloc (.cells #[.pointer (some ⟨g2,0,none⟩),.int .u32 x2,.int .i64 f2] 191)).alloc (.cells #[.int .i64 ms,.int .i64 md,.int .i64 mr,.bool mg] 90)).heap.size (((w.alloc (.cells #[.pointer (some ⟨g1,0,none⟩),.int .u32 x1,.int .i64 f1] 191)).alloc (.cells #[.pointer (some ⟨g2,0,none⟩),.int .u32 x2,.int .i64 f2] 191)).alloc (.cells #[.int .i64 ms,.int .i64 md,.int .i64 mr,.bool mg] 90)) (w1.alloc o)):=fun o=>Aw.alloc Aw.size o
 have h2:=HW.out _ (Bp.out (.cells #[.int .u32 ca1,.int .i64 cb1] 72));obtain⟨EV,-,⟨p0,p1,p2⟩,m0,m1,m2,m3⟩:=h2;have k2:=I5.out _ EV;clear Aw k1 EV I5;go_wp2_with fail;refine k2.mono ?_;rintro rv w2⟨rfl,Ai⟩;have Ar:=((Bp.out (.cells #[.int .u32 ca1,.int .i64 cb1] 72)).trans (Ai.mono (Bp.out (.cells #[.int .u32 ca1,.int .i64 cb1] 72)).size)).alloc ((Bp.out (.cells #[.int .u32 ca1,.int .i64 cb1] 72)).trans (Ai.mono (Bp.out (.cells #[.int .u32 ca1,.int .i64 cb1] 72)).size)).size (.cells #[.int .u32 ca2,.int .i64 cb2] 72);have MY:=(((Cells.new w1 72 [.int .u32 ca1,.int .i64 cb1]).same (Ai.block _ (by simp))).alloc (.cells #[.int .u32 ca2,.int .i64 cb2] 72))
 clear p0 p1 p2 m0 m1 m2 m3 k2;go_wp2_with fail;generalize hW3:(w2.alloc (.cells #[.int .u32 ca2,.int .i64 cb2] 72))=w3 at *
 obtain⟨IF,Ld,-,m0,m1,m2,m3⟩:=HW.out _ Ar;have kc:=D5.out w3 (w.heap.size+2) IF Ld m0 m1 m3;clear hW3 m0 m1 m2 m3 D5 Ai IF Ld Bp;unfold Z3K at kc;refine kc.mono ?_;rintro rv w4⟨rfl,A9⟩;have Av:Hid (∀n,Below w.heap.size w (w4.drewN n)):=fun n=>(HW.out _ (Q0Y (Ar.trans (A9.mono Ar.size)) n)).1
 obtain⟨-,-,-,m0,m1,m2,m3⟩:=HW.out _ (Ar.trans (A9.mono Ar.size));have r1:=(MY.same (A9.block _ MY.lt)).cell 1 _ rfl;have Eo:=Sh.out w4;have ED:=Rq.out w4;have CY:Hid (∀n,Calls prog 106 #[.int .i64 mr] (w4.drewN n) fun e w''=>e=.returned (.bool (decide (0<mr/\mr<=15)))/\∃m,w''=w4.drewN m):=fun n=>(RI.out _).mono fun e w' h=>⟨h.1,n,h.2.symm⟩
 have Cq:Hid (∀n,Calls prog 96 #[.int .i64 ms] (w4.drewN n) fun e w''=>e=.returned (.bool (decide (ms<128)))/\∃m,w''=w4.drewN m):=fun n=>(Gm.out _).mono fun e w' h=>⟨h.1,n,h.2.symm⟩
 have Cr:Hid (∀n,Calls prog 96 #[.int .i64 md] (w4.drewN n) fun e w''=>e=.returned (.bool (decide (md<128)))/\∃m,w''=w4.drewN m):=fun n=>(Hq.out _).mono fun e w' h=>⟨h.1,n,h.2.symm⟩
 clear Ar A9 MY HW kc Sh Rq RI Gm Hq;generalize decide (0<=ms/\ms<256)=h1 at *
 generalize decide (0<=md/\md<256)=h2 at *
 generalize decide (0<mr/\mr<=15)=br at *
 generalize decide (ms<128)=c1 at *
 generalize decide (md<128)=c2 at *
 have hT:=HT.out;clear HT;go_wp2_with fail;rcases hT with ⟨rfl,rfl⟩|⟨rfl,rfl,rfl⟩|⟨rfl,rfl,rfl,rfl⟩|⟨rfl,rfl,rfl,rfl,rfl⟩|⟨rfl,rfl,rfl,rfl,rfl,rfl⟩|⟨rfl,rfl,rfl,rfl,rfl,AX,rfl⟩|⟨rfl,rfl,rfl,rfl,rfl,AX,AU,rfl⟩|⟨rfl,rfl,rfl,rfl,rfl,AX,AU,rfl,rfl⟩|⟨rfl,rfl,rfl,rfl,rfl,AX,AU,rfl,rfl,rfl⟩|⟨rfl,rfl,rfl,rfl,rfl,AX,AU,rfl,rfl,rfl⟩
 ·refine Eo.mono ?_;rintro rv w'⟨rfl,rfl⟩;go_wp2_with fail
  first|exact⟨rfl,Av.out _⟩|exact⟨rfl,Av.out 0⟩|(go_ret;first|exact⟨rfl,Av.out _⟩|exact⟨rfl,Av.out 0⟩)
 ·refine Eo.mono ?_;rintro rv w'⟨rfl,rfl⟩;go_wp2_with fail;refine ED.mono ?_;rintro rv w'⟨rfl,rfl⟩;go_wp2_with fail
  first|exact⟨rfl,Av.out _⟩|exact⟨rfl,Av.out 0⟩|(go_ret;first|exact⟨rfl,Av.out _⟩|exact⟨rfl,Av.out 0⟩)
 ·refine Eo.mono ?_;rintro rv w'⟨rfl,rfl⟩;go_wp2_with fail;refine ED.mono ?_;rintro rv w'⟨rfl,rfl⟩;go_wp2_with fail
  go_quiet (first|(go_at_call 106;exact CY.out _)|(go_at_call 96;exact Cq.out _)|(go_at_call 96;exact Cr.out _))
  go_wp2_with fail
  first|exact⟨rfl,Av.out _⟩|exact⟨rfl,Av.out 0⟩|(go_ret;first|exact⟨rfl,Av.out _⟩|exact⟨rfl,Av.out 0⟩)
 ·cases c2
  ·refine Eo.mono ?_;rintro rv w'⟨rfl,rfl⟩;go_wp2_with fail;refine ED.mono ?_;rintro rv w'⟨rfl,rfl⟩;go_wp2_with fail
   go_quiet (first|(go_at_call 106;exact CY.out _)|(go_at_call 96;exact Cq.out _)|(go_at_call 96;exact Cr.out _))
   go_wp2_with fail
   first|exact⟨rfl,Av.out _⟩|exact⟨rfl,Av.out 0⟩|(go_ret;first|exact⟨rfl,Av.out _⟩|exact⟨rfl,Av.out 0⟩)
  ·refine Eo.mono ?_;rintro rv w'⟨rfl,rfl⟩;go_wp2_with fail;refine ED.mono ?_;rintro rv w'⟨rfl,rfl⟩;go_wp2_with fail
   go_quiet (first|(go_at_call 106;exact CY.out _)|(go_at_call 96;exact Cq.out _)|(go_at_call 96;exact Cr.out _))
   go_wp2_with fail
   first|exact⟨rfl,Av.out _⟩|exact⟨rfl,Av.out 0⟩|(go_ret;first|exact⟨rfl,Av.out _⟩|exact⟨rfl,Av.out 0⟩)
 ·cases c1
  ·refine Eo.mono ?_;rintro rv w'⟨rfl,rfl⟩;go_wp2_with fail;refine ED.mono ?_;rintro rv w'⟨rfl,rfl⟩;go_wp2_with fail
   go_quiet (first|(go_at_call 106;exact CY.out _)|(go_at_call 96;exact Cq.out _)|(go_at_call 96;exact Cr.out _))
   go_wp2_with fail
   first|exact⟨rfl,Av.out _⟩|exact⟨rfl,Av.out 0⟩|(go_ret;first|exact⟨rfl,Av.out _⟩|exact⟨rfl,Av.out 0⟩)
  ·refine Eo.mono ?_;rintro rv w'⟨rfl,rfl⟩;go_wp2_with fail;refine ED.mono ?_;rintro rv w'⟨rfl,rfl⟩;go_wp2_with fail
   go_quiet (first|(go_at_call 106;exact CY.out _)|(go_at_call 96;exact Cq.out _)|(go_at_call 96;exact Cr.out _))
   go_wp2_with fail
   first|exact⟨rfl,Av.out _⟩|exact⟨rfl,Av.out 0⟩|(go_ret;first|exact⟨rfl,Av.out _⟩|exact⟨rfl,Av.out 0⟩)
 ·cases c1
  ·refine Eo.mono ?_;rintro rv w'⟨rfl,rfl⟩;go_wp2_with fail;refine ED.mono ?_;rintro rv w'⟨rfl,rfl⟩;go_wp2_with fail
   go_quiet (first|(go_at_call 106;exact CY.out _)|(go_at_call 96;exact Cq.out _)|(go_at_call 96;exact Cr.out _))
   go_wp2_with fail
   first|exact⟨rfl,Av.out _⟩|exact⟨rfl,Av.out 0⟩|(go_ret;first|exact⟨rfl,Av.out _⟩|exact⟨rfl,Av.out 0⟩)
  ·refine Eo.mono ?_;rintro rv w'⟨rfl,rfl⟩;go_wp2_with fail;refine ED.mono ?_;rintro rv w'⟨rfl,rfl⟩;go_wp2_with fail
   go_quiet (first|(go_at_call 106;exact CY.out _)|(go_at_call 96;exact Cq.out _)|(go_at_call 96;exact Cr.out _))
   go_wp2_with fail
   first|exact⟨rfl,Av.out _⟩|exact⟨rfl,Av.out 0⟩|(go_ret;first|exact⟨rfl,Av.out _⟩|exact⟨rfl,Av.out 0⟩)
 ·cases c1
  ·refine Eo.mono ?_;rintro rv w'⟨rfl,rfl⟩;go_wp2_with fail;refine ED.mono ?_;rintro rv w'⟨rfl,rfl⟩;go_wp2_with fail
   go_quiet (first|(go_at_call 106;exact CY.out _)|(go_at_call 96;exact Cq.out _)|(go_at_call 96;exact Cr.out _))
   go_wp2_with fail
   first|exact⟨rfl,Av.out _⟩|exact⟨rfl,Av.out 0⟩|(go_ret;first|exact⟨rfl,Av.out _⟩|exact⟨rfl,Av.out 0⟩)
  ·refine Eo.mono ?_;rintro rv w'⟨rfl,rfl⟩;go_wp2_with fail;refine ED.mono ?_;rintro rv w'⟨rfl,rfl⟩;go_wp2_with fail
   go_quiet (first|(go_at_call 106;exact CY.out _)|(go_at_call 96;exact Cq.out _)|(go_at_call 96;exact Cr.out _))
   go_wp2_with fail
   first|exact⟨rfl,Av.out _⟩|exact⟨rfl,Av.out 0⟩|(go_ret;first|exact⟨rfl,Av.out _⟩|exact⟨rfl,Av.out 0⟩)
 ·cases c1
  ·refine Eo.mono ?_;rintro rv w'⟨rfl,rfl⟩;go_wp2_with fail;refine ED.mono ?_;rintro rv w'⟨rfl,rfl⟩;go_wp2_with fail
   go_quiet (first|(go_at_call 106;exact CY.out _)|(go_at_call 96;exact Cq.out _)|(go_at_call 96;exact Cr.out _))
   go_wp2_with fail
   first|exact⟨rfl,Av.out _⟩|exact⟨rfl,Av.out 0⟩|(go_ret;first|exact⟨rfl,Av.out _⟩|exact⟨rfl,Av.out 0⟩)
  ·refine Eo.mono ?_;rintro rv w'⟨rfl,rfl⟩;go_wp2_with fail;refine ED.mono ?_;rintro rv w'⟨rfl,rfl⟩;go_wp2_with fail
   go_quiet (first|(go_at_call 106;exact CY.out _)|(go_at_call 96;exact Cq.out _)|(go_at_call 96;exact Cr.out _))
   go_wp2_with fail
   first|exact⟨rfl,Av.out _⟩|exact⟨rfl,Av.out 0⟩|(go_ret;first|exact⟨rfl,Av.out _⟩|exact⟨rfl,Av.out 0⟩)
 ·cases c1
  ·refine Eo.mono ?_;rintro rv w'⟨rfl,rfl⟩;go_wp2_with fail;refine ED.mono ?_;rintro rv w'⟨rfl,rfl⟩;go_wp2_with fail
   go_quiet (first|(go_at_call 106;exact CY.out _)|(go_at_call 96;exact Cq.out _)|(go_at_call 96;exact Cr.out _))
   go_wp2_with fail
   first|exact⟨rfl,Av.out _⟩|exact⟨rfl,Av.out 0⟩|(go_ret;first|exact⟨rfl,Av.out _⟩|exact⟨rfl,Av.out 0⟩)
  ·refine Eo.mono ?_;rintro rv w'⟨rfl,rfl⟩;go_wp2_with fail;refine ED.mono ?_;rintro rv w'⟨rfl,rfl⟩;go_wp2_with fail
   go_quiet (first|(go_at_call 106;exact CY.out _)|(go_at_call 96;exact Cq.out _)|(go_at_call 96;exact Cr.out _))
   go_wp2_with fail
   first|exact⟨rfl,Av.out _⟩|exact⟨rfl,Av.out 0⟩|(go_ret;first|exact⟨rfl,Av.out _⟩|exact⟨rfl,Av.out 0⟩)
 ·cases c1
  ·refine Eo.mono ?_;rintro rv w'⟨rfl,rfl⟩;go_wp2_with fail;refine ED.mono ?_;rintro rv w'⟨rfl,rfl⟩;go_wp2_with fail
   go_quiet (first|(go_at_call 106;exact CY.out _)|(go_at_call 96;exact Cq.out _)|(go_at_call 96;exact Cr.out _))
   go_wp2_with fail
   first|exact⟨rfl,Av.out _⟩|exact⟨rfl,Av.out 0⟩|(go_ret;first|exact⟨rfl,Av.out _⟩|exact⟨rfl,Av.out 0⟩)
  ·refine Eo.mono ?_;rintro rv w'⟨rfl,rfl⟩;go_wp2_with fail;refine ED.mono ?_;rintro rv w'⟨rfl,rfl⟩;go_wp2_with fail
   go_quiet (first|(go_at_call 106;exact CY.out _)|(go_at_call 96;exact Cq.out _)|(go_at_call 96;exact Cr.out _))
   go_wp2_with fail
   first|exact⟨rfl,Av.out _⟩|exact⟨rfl,Av.out 0⟩|(go_ret;first|exact⟨rfl,Av.out _⟩|exact⟨rfl,Av.out 0⟩)
def Z3N(o1 o2:Option Ent)(m:Mv)(cl:Bool):Int:=
 if ¬((0<=m.src/\m.src<256)/\(0<=m.dst/\m.dst<256)) then 2 else
 if ¬((0<m.r/\m.r<=15)/\decide (m.src<128)=decide (m.dst<128)) then 1 else
 match o1 with
 | none=>6
 | some e=>if e.r&&&4=0∨e.r&&&m.r.toNat=0 then 9 else if o2.isSome=true∨cl=true then 7 else 0
theorem Z9l(o1 o2:Option Ent)(m:Mv)(cl:Bool)(cb1:Int)(h:∀e,o1=some e->cb1=(e.r:Int)/\e.r<16) :
  J2l (decide (0<=m.src/\m.src<256)) (decide (0<=m.dst/\m.dst<256)) (decide (0<m.r/\m.r<=15)) (decide (m.src<128)) (decide (m.dst<128)) o1.isSome (bits .and .i64 cb1 4==0) (bits .and .i64 cb1 m.r==0) o2.isSome cl (Z3N o1 o2 m cl):=by
 unfold Z3N;by_cases a:0<=m.src/\m.src<256
 case neg=>rw[if_pos (fun h=>a h.1)];exact .inl ⟨decide_eq_false a,rfl⟩
 by_cases b:0<=m.dst/\m.dst<256
 case neg=>rw[if_pos (fun h=>b h.2)];exact .inr (.inl ⟨decide_eq_true a,decide_eq_false b,rfl⟩)
 rw[if_neg (fun h=>h ⟨a,b⟩)];by_cases c:0<m.r/\m.r<=15
 case neg=>rw[if_pos (fun h=>c h.1)];exact .inr (.inr (.inl ⟨decide_eq_true a,decide_eq_true b,decide_eq_false c,rfl⟩))
 by_cases d:decide (m.src<128)=decide (m.dst<128)
 case neg =>
  rw[if_pos (fun h=>d h.2)];refine .inr (.inr (.inr (.inl ⟨decide_eq_true a,decide_eq_true b,decide_eq_true c,?_,rfl⟩)));cases h1:decide (m.src<128) <;> cases h2:decide (m.dst<128) <;> simp_all
 rw[if_neg (fun h=>h ⟨c,d⟩)];have ha:=decide_eq_true a;have hb:=decide_eq_true b;have hc:=decide_eq_true c;cases ho:o1 with
 | none=>exact .inr (.inr (.inr (.inr (.inl ⟨ha,hb,hc,d,rfl,rfl⟩))))
 | some e =>
  obtain⟨rfl,hr⟩:=h e ho;obtain⟨k,hk⟩:∃k:Nat,m.r=(k:Int):=⟨m.r.toNat,by omega⟩
  have CL:k<16:=by omega
  have e1:bits .and .i64 (e.r:Int) 4=((e.r&&&4:Nat):Int):=Q6E e.r 4 hr (by omega);have e2:bits .and .i64 (e.r:Int) m.r=((e.r&&&k:Nat):Int):=by rw[hk];exact Q6E e.r k hr CL
  have e3:m.r.toNat=k:=by rw[hk];rfl
  rw[e1,e2,e3];dsimp only;by_cases z1:e.r&&&4=0
  ·rw[if_pos (.inl z1)];exact .inr (.inr (.inr (.inr (.inr (.inl ⟨ha,hb,hc,d,rfl,by simp[z1],rfl⟩)))))
  have q1:(((e.r&&&4:Nat):Int)==0)=false:=by simpa using z1
  by_cases z2:e.r&&&k=0
  ·rw[if_pos (.inr z2)];exact .inr (.inr (.inr (.inr (.inr (.inr (.inl ⟨ha,hb,hc,d,rfl,q1,by simp[z2],rfl⟩))))))
  have q2:(((e.r&&&k:Nat):Int)==0)=false:=by simpa using z2
  rw[if_neg (by rintro(h|h);exact z1 h;exact z2 h)];cases h2:o2.isSome with
  | true=>rw[if_pos (.inl rfl)];exact .inr (.inr (.inr (.inr (.inr (.inr (.inr (.inl ⟨ha,hb,hc,d,rfl,q1,q2,rfl,rfl⟩)))))))
  | false =>
   cases cl with
   | true=>rw[if_pos (.inr rfl)];exact .inr (.inr (.inr (.inr (.inr (.inr (.inr (.inr (.inl ⟨ha,hb,hc,d,rfl,q1,q2,rfl,rfl,rfl⟩))))))))
   | false=>rw[if_neg (by simp)];exact .inr (.inr (.inr (.inr (.inr (.inr (.inr (.inr (.inr ⟨ha,hb,hc,d,rfl,q1,q2,rfl,rfl,rfl⟩))))))))
theorem J0h(o:Option Ent):∃a b:Int,capV o=.tuple #[.agg #[.int .u32 a,.int .i64 b],.bool o.isSome]/\∀e,o=some e->b=(e.r:Int):=by
 cases o with
 | none=>exact⟨0,0,rfl,by intro e h;cases h⟩
 | some e=>exact⟨_,_,rfl,by intro e' h;cases h;rfl⟩
theorem Z6X{w:World}{S:CO}{t1 t2:TB}{p1 p2:Pl}{g1 g2:Nat}(T1:TT S t1 p1 g1 w)(T2:TT S t2 p2 g2 w){m:Mv}(l1:∀e,t1.at' m.src=some e->e.Low)(l2:∀e,t2.at' m.dst=some e->e.Low)(x1 x2:Nat)(f1 f2:Int){a0:Option Addr}{len:Nat}{A:Nat->Mv}(hA:IsMv w a0 len A){n:Nat}(cap:Nat)(hn:n<=len)(hm:n<=4611686018427387904) :
  Calls prog 97 #[.agg #[.pointer (some ⟨g1,0,none⟩),.int .u32 x1,.int .i64 f1],.agg #[.pointer (some ⟨g2,0,none⟩),.int .u32 x2,.int .i64 f2],.agg #[.int .i64 m.src,.int .i64 m.dst,.int .i64 m.r,.bool m.g],.slice a0 n cap] w (Told w (.int .i64 (Z3N (t1.at' m.src) (t2.at' m.dst) m (Q1z A n m)))):=by
 obtain⟨ca1,cb1,v1,hr⟩:=J0h (t1.at' m.src);obtain⟨ca2,cb2,v2,_⟩:=J0h (t2.at' m.dst);refine Z3M (s1:=(t1.at' m.src).isSome) (s2:=(t2.at' m.dst).isSome) (cl:=Q1z A n m) (ca1:=ca1) (cb1:=cb1) (ca2:=ca2) (cb2:=cb2) (fun W hb=>?_) (fun W hb=>?_) (fun W b hb Ab h0 h1 h3=>Q8v (hA.below hb) cap hn hm m b Ab h0 h1 h3) (Z9l _ _ m _ cb1 fun e he=>⟨hr e he,(l1 e he).2⟩)
 ·have:=Q1m (T1.grown hb) (x1:Int) f1 m.src l1
  rwa [v1] at this
 ·have:=Q1m (T2.grown hb) (x2:Int) f2 m.dst l2
  rwa [v2] at this
def AsideM(H:HL)(n:Nat)(A:Nat->Mv)(a0:Option Addr)(w:World):Prop:=IsMv w a0 n A/\∀a:Addr,n≠0->a0=some a->a.block∉keys H
theorem AsideM.step{H H':HL}{n:Nat}{A:Nat->Mv}{a0:Option Addr}{w w':World}(h:AsideM H n A a0 w)(st:Step H H' w w'):AsideM H' n A a0 w':=by
 obtain⟨h1,h2⟩:=h;refine⟨fun j hj=>?_,fun a hn ha hk=>?_⟩
 ·obtain⟨g,off,rfl,hg,hc,hw⟩:=h1 j hj;have e:=st.chg.block g hg (h2 ⟨g,off,none⟩ (by omega) rfl);exact⟨g,off,rfl,J3d hg st.chg.size,fun i v hv=>(World.cell?_of_block (w:=w) e).trans (hc i v hv),hw⟩
 ·obtain⟨g,off,he,hg,_,_⟩:=h1 0 (by omega);rw[ha] at he;cases he;rcases st.new _ hk with h'|h'
  ·exact h2 _ hn ha h'
  ·simp at h';omega
theorem FPI.same2{l l':List Pl}{tb tb':Nat->TB}{N:List (En Nd)}(f:FPI l tb N)(he:∀h s,Q0f l' tb' h s=Q0f l tb h s)(hl:∀h s e,Q0f l tb h s=some e->∀q,pget l 1 e.h=some q->∃q',pget l' 1 e.h=some q'/\q'.kind=q.kind):FPI l' tb' N:=by
 have ho:∀n,Q0O l' tb' n=Q0O l tb n:=fun n=>he _ _
 refine⟨fun h s e x=>?_,fun h s e x=>?_,fun n hn=>?_,fun n hn m hm e e' x y=>?_⟩
 ·rw[he] at x;exact Q7D (f.cap h s e x) (hl h s e x)
 ·rw[he] at x;exact f.has h s e x
 ·rw[ho];exact f.is n hn
 ·rw[ho] at x y;exact f.up n hn m hm e e' x y
structure FitM(en:Nat->Nat->Option (Nat×Nat))(x y:Nat)(m:Mv):Prop where
 src:0<=m.src/\m.src<256
 dst:0<=m.dst/\m.dst<256
 r:0<m.r/\m.r<=15
 side:decide (m.src<128)=decide (m.dst<128)
 full:∃c,en x m.src.toNat=some c/\c.2&&&4≠0/\c.2&&&m.r.toNat≠0
 free:en y m.dst.toNat=none
theorem J2m{l:List Pl}{tb:Nat->TB}{N:List (En Nd)}{x:Nat}{p:Pl}(hp:pget l 1 x=some p)(hk:p.kind=2){z:Int}(hz:0<=z/\z<256):((tb (x%256)).at' z).map Ent.c=(avOf l tb N).en x z.toNat:=by
 unfold TB.at' avOf;rw[if_pos hz];show _=(Q0f l tb x z.toNat).map Ent.c;rw[Q0g hp hk (by omega)]
theorem Z2t{l:List Pl}{tb:Nat->TB}{N:List (En Nd)}{x y:Nat}{p1 p2:Pl}(Bh:pget l 1 x=some p1)(A0:p1.kind=2)(A5:pget l 1 y=some p2)(A2:p2.kind=2){m:Mv}{cl:Bool} :
  Z3N ((tb (x%256)).at' m.src) ((tb (y%256)).at' m.dst) m cl=0↔FitM (avOf l tb N).en x y m/\cl=false:=by
 unfold Z3N;by_cases h1:(0<=m.src/\m.src<256)/\(0<=m.dst/\m.dst<256)
 ·rw[if_neg (fun h=>h h1)];have e1:=J2m (tb:=tb) (N:=N) Bh A0 h1.1;have e2:=J2m (tb:=tb) (N:=N) A5 A2 h1.2;by_cases h2:(0<m.r/\m.r<=15)/\decide (m.src<128)=decide (m.dst<128)
  ·rw[if_neg (fun h=>h h2)];cases ho:(tb (x%256)).at' m.src with
   | none =>
    rw[ho] at e1;refine⟨fun h=>by simp at h,fun h=>?_⟩;obtain⟨c,hc,_⟩:=h.1.full;rw[<- e1] at hc;cases hc
   | some e =>
    rw[ho] at e1;simp only;by_cases h3:e.r&&&4=0∨e.r&&&m.r.toNat=0
    ·rw[if_pos h3];refine⟨fun h=>by simp at h,fun h=>?_⟩;obtain⟨c,hc,h4,h5⟩:=h.1.full;rw[<- e1] at hc;cases hc;exact absurd h3 (by simp only[Ent.c] at h4 h5;omega)
    ·rw[if_neg h3];cases Hl:(tb (y%256)).at' m.dst with
     | some e' =>
      rw[Hl] at e2;refine⟨fun h=>by simp at h,fun h=>?_⟩;rw[h.1.free] at e2;cases e2
     | none =>
      rw[Hl] at e2;cases cl with
      | true=>exact⟨fun h=>by simp at h,fun h=>absurd h.2 (by simp)⟩
      | false=>exact⟨fun _=>⟨⟨h1.1,h1.2,h2.1,h2.2,⟨_,e1.symm,by simp only[Ent.c];omega,by simp only[Ent.c];omega⟩,e2.symm⟩,rfl⟩,fun _=>by simp⟩
  ·rw[if_pos h2];exact⟨fun h=>by simp at h,fun h=>absurd ⟨h.1.r,h.1.side⟩ h2⟩
 ·rw[if_pos h1];exact⟨fun h=>by simp at h,fun h=>absurd ⟨h.1.src,h.1.dst⟩ h1⟩
def AllFit(en:Nat->Nat->Option (Nat×Nat))(x y n:Nat)(A:Nat->Mv):Prop:=∀i,i<n->FitM en x y (A i)/\Q1z A i (A i)=false
theorem AllFit.dst{en:Nat->Nat->Option (Nat×Nat)}{x y n:Nat}{A:Nat->Mv}(h:AllFit en x y n A){i j:Nat}(hi:i<n)(hj:j<n)(Aa:i≠j):(A i).dst.toNat≠(A j).dst.toNat:=by
 have key:∀{a b:Nat},b<n->a<b->(A a).dst≠(A b).dst:=fun {a b} hb Cp=>by
  have hc:=(h b hb).2;unfold Q1z at hc;have:=J7G.1 hc a (J3s.2 Cp);unfold Mv.clash at this;intro e;simp[e] at this
 have Ny:=(h i hi).1.dst;have AY:=(h j hj).1.dst;intro e;have e':(A i).dst=(A j).dst:=by omega
 rcases Nat.lt_or_gt_of_ne Aa with hl|hl
 ·exact key hj hl e'
 ·exact key hi hl e'.symm
theorem AllFit.srcs{en:Nat->Nat->Option (Nat×Nat)}{x y n:Nat}{A:Nat->Mv}(h:AllFit en x y n A){i j:Nat}(hi:i<n)(hj:j<n)(Aa:i≠j)(hg:(A i).g=true):(A i).src.toNat≠(A j).src.toNat:=by
 have key:∀{a b:Nat},b<n->a<b->((A a).g=true∨(A b).g=true)->(A a).src≠(A b).src:=fun {a b} hb Cp hor=>by
  have hc:=(h b hb).2;unfold Q1z at hc;have:=J7G.1 hc a (J3s.2 Cp);unfold Mv.clash at this;intro e;rcases hor with h1|h1 <;> simp[e,h1] at this
 have Ny:=(h i hi).1.src;have AY:=(h j hj).1.src;intro e;have e':(A i).src=(A j).src:=by omega
 rcases Nat.lt_or_gt_of_ne Aa with hl|hl
 ·exact key hj hl (.inl hg) e'
 ·exact key hi hl (.inr hg) e'.symm
structure LaidP(Z:SP)(fr:List Nat)(N K:Nat)(x y:Nat)(own:Int)(A:Nat->Mv)(j k:Nat)(S':CO)(t':TB):Prop where
 ok:S'.Ok fr N K
 tpi:TPI S' (updT Z.tb (y%256) t')
 alt:Alt Z.S S' own
 lf:∀q,q<16->(Z.tb (y%256)).lf q≠0->t'.lf q=(Z.tb (y%256)).lf q
 new:∀i,j<=i->i<k->∃c nd,Z.av.en x (A i).src.toNat=some c/\t'.en (A i).dst.toNat=some ⟨c.1,c.2&&&(A i).r.toNat,nd⟩
 old:∀s,(∀i,j<=i->i<k->s≠(A i).dst.toNat)->t'.en s=(Z.tb (y%256)).en s
theorem Q1d(tb:Nat->TB)(i:Nat):updT tb i (tb i)=tb:=by
 funext j;unfold updT;split
 ·rename_i h;rw[h]
 ·rfl
section
variable {Z:SP} {fr:List Nat} {N K:Nat} {M:Int} {x y n:Nat} {p1 p2:Pl} {A:Nat->Mv}
theorem LaidP.start(ok:Z.Ok fr N K M)(own:Int):LaidP Z fr N K x y own A 0 0 Z.S (Z.tb (y%256)):=
 ⟨ok.core,by rw[Q1d];exact ok.tpi,Alt.refl _ _,fun _ _ _=>rfl,fun i _ h=>by omega,fun _ _=>rfl⟩
theorem LaidP.lf_keep(hy:y%256<256)(hf:(Z.tb (y%256)).Full)(A5:Z.S.l[y%256]?=some p2)(h1:p2.st=1)(h2:p2.kind=2){S1 S2:CO}{t1 t2:TB}{own:Int}(tp:TPI S2 (updT (updT Z.tb (y%256) t1) (y%256) t2))(hl:S2.l=Z.S.l)
  (Cc:∀s,(Z.tb (y%256)).en s≠none->t2.en s≠none) (hlf1:∀q,q<16->(Z.tb (y%256)).lf q≠0->t1.lf q=(Z.tb (y%256)).lf q) (Fu:∀k,(updT Z.tb (y%256) t1 (y%256)).lf k=0∨t2.lf k=0∨t2.lf k=(updT Z.tb (y%256) t1 (y%256)).lf k):∀q,q<16->(Z.tb (y%256)).lf q≠0->t2.lf q=(Z.tb (y%256)).lf q:=by
 intro q hq h0;have e1:=hlf1 q hq h0;have h3:=Fu q;rw[updT_same,e1] at h3;rcases h3 with h|h|h
 ·exact absurd h h0
 ·exfalso;obtain⟨s,hs,Qp,GH⟩:=hf q hq h0;have Cm:=tp.tin (y%256) p2 (by rw[hl];exact A5) h1 h2;rw[updT_same] at Cm;exact Cc s GH (Cm.hole s hs (by rw[Qp];exact h))
 ·exact h
theorem LaidP.lay(ok:Z.Ok fr N K M)(A5:pget Z.S.l 1 y=some p2)(A2:p2.kind=2)(An:AllFit Z.av.en x y n A){k:Nat}(Dm:k<n){S1 S2:CO}{t1 t2:TB}(L:LaidP Z fr N K x y (p2.fac:Int) A 0 k S1 t1){c:Nat×Nat}(hc:Z.av.en x (A k).src.toNat=some c){nd:Nat}
  (T:TurnP S1 fr N K (updT Z.tb (y%256) t1) (p2.fac:Int) (y%256) (A k).dst.toNat (some ⟨c.1,c.2&&&(A k).r.toNat,nd⟩) S2 t2):LaidP Z fr N K x y (p2.fac:Int) A 0 (k+1) S2 t2:=by
 have Bf:∀z,t2.en z=if z=(A k).dst.toNat then some ⟨c.1,c.2&&&(A k).r.toNat,nd⟩ else t1.en z:=fun z=>by rw[T.en z,updT_same]
 have Ax:∀i,i<n->(Z.tb (y%256)).en (A i).dst.toNat=none:=fun i hi=>by
  have h:=(An i hi).1;have:=av_none.1 h.free
  rwa [Q0g A5 A2 (by have:=h.dst;omega)] at this
 have Cc:∀s,(Z.tb (y%256)).en s≠none->t2.en s≠none:=fun s hs=>by
  have MM:∀i,i<n->s≠(A i).dst.toNat:=fun i hi e=>hs (by rw[e];exact Ax i hi)
  rw[Bf s,if_neg (MM k Dm),L.old s fun i _ hi=>MM i (by omega)];exact hs
 have al:=L.alt.trans T.alt;refine⟨T.ok,by have:=T.tpi;rwa [Q1c] at this,al,?_,fun i _ hi=>?_,fun s hs=>?_⟩
 ·exact LaidP.lf_keep (own:=(p2.fac:Int)) (S1:=S1) (J6i _ (by omega)) (ok.tpi.full _ (J6i _ (by omega))) (pget_some.1 A5).1 (pget_some.1 A5).2.2 A2 T.tpi (by rw[al.l]) Cc L.lf T.lf
 ·by_cases e:i=k
  ·subst e;exact⟨c,nd,hc,by rw[Bf,if_pos rfl]⟩
  ·obtain⟨c',nd',h1,h2⟩:=L.new i (by omega) (by omega);exact⟨c',nd',h1,by rw[Bf,if_neg (An.dst (by omega) Dm e)];exact h2⟩
 ·rw[Bf,if_neg (hs k (by omega) (by omega))];exact L.old s fun i h1 h2=>hs i h1 (by omega)
theorem LaidP.bare(ok:Z.Ok fr N K M)(A5:pget Z.S.l 1 y=some p2)(A2:p2.kind=2)(An:AllFit Z.av.en x y n A){j k:Nat}(Dm:k<=n)(hj:j<k){S1 S2:CO}{t1 t2:TB}(L:LaidP Z fr N K x y (p2.fac:Int) A j k S1 t1)
  (T:TurnP S1 fr N K (updT Z.tb (y%256) t1) (p2.fac:Int) (y%256) (A j).dst.toNat none S2 t2):LaidP Z fr N K x y (p2.fac:Int) A (j+1) k S2 t2:=by
 have Bf:∀z,t2.en z=if z=(A j).dst.toNat then none else t1.en z:=fun z=>by rw[T.en z,updT_same]
 have Ax:∀i,i<n->(Z.tb (y%256)).en (A i).dst.toNat=none:=fun i hi=>by
  have h:=(An i hi).1;have:=av_none.1 h.free
  rwa [Q0g A5 A2 (by have:=h.dst;omega)] at this
 have Cc:∀s,(Z.tb (y%256)).en s≠none->t2.en s≠none:=fun s hs=>by
  have MM:∀i,i<n->s≠(A i).dst.toNat:=fun i hi e=>hs (by rw[e];exact Ax i hi)
  rw[Bf s,if_neg (MM j (by omega)),L.old s fun i _ hi=>MM i (by omega)];exact hs
 have al:=L.alt.trans T.alt;refine⟨T.ok,by have:=T.tpi;rwa [Q1c] at this,al,?_,fun i h1 h2=>?_,fun s hs=>?_⟩
 ·exact LaidP.lf_keep (own:=(p2.fac:Int)) (S1:=S1) (J6i _ (by omega)) (ok.tpi.full _ (J6i _ (by omega))) (pget_some.1 A5).1 (pget_some.1 A5).2.2 A2 T.tpi (by rw[al.l]) Cc L.lf T.lf
 ·obtain⟨c',nd',h3,h4⟩:=L.new i (by omega) h2;exact⟨c',nd',h3,by rw[Bf,if_neg (An.dst (by omega) (by omega) (by omega))];exact h4⟩
 ·rw[Bf];by_cases e:s=(A j).dst.toNat
  ·rw[if_pos e,e];exact(Ax j (by omega)).symm
  ·rw[if_neg e];refine L.old s fun i h1 h2=>?_
   by_cases e2:i=j
   ·rw[e2];exact e
   ·exact hs i (by omega) h2
theorem LaidP.tried{j k:Nat}{own:Int}{S1:CO}{t1:TB}(L:LaidP Z fr N K x y own A j k S1 t1){P':PL}(h:Tried S1.P fr S1.l P'):LaidP Z fr N K x y own A j k (S1.setP P') t1:=by
 refine⟨L.ok.tried h,L.tpi.tried L.ok h,L.alt.trans ?_,L.lf,L.new,L.old⟩;exact⟨rfl,rfl,rfl,rfl,rfl,rfl,rfl,rfl,h.same,by show P'.q.next=_;rw[h.q],fun id e he=>⟨e,by show find P'.q.E id=_;rw[h.q];exact he,rfl,fun _=>rfl⟩,by show P'.q.E.map En.id=_;rw[h.q],fun r hr As _=>h.mem r hr As⟩
def BackZ(Z:SP)(fr:List Nat)(N K:Nat)(y:Nat)(own:Int)(w w':World):Prop:=∃S' t',S'.Ok fr N K/\TPI S' (updT Z.tb (y%256) t')/\Alt Z.S S' own/\(∀q,q<16->t'.lf q=(Z.tb (y%256)).lf q)/\(∀s,t'.en s=(Z.tb (y%256)).en s)/\Step Z.hl (Z.setS S' (updT Z.tb (y%256) t')).hl w w'
theorem LaidP.back(ok:Z.Ok fr N K M)(A5:pget Z.S.l 1 y=some p2)(A2:p2.kind=2){k:Nat}{own:Int}{S1:CO}{t1:TB}(L:LaidP Z fr N K x y own A k k S1 t1){w w':World}(st:Step Z.hl (Z.setS S1 (updT Z.tb (y%256) t1)).hl w w'):BackZ Z fr N K y own w w':=by
 have Bf:∀s,t1.en s=(Z.tb (y%256)).en s:=fun s=>L.old s fun i h1 h2=>by omega
 have hi:=(pget_some.1 A5).1;have h1:=(pget_some.1 A5).2.2;refine⟨S1,t1,L.ok,L.tpi,L.alt,fun q hq=>?_,Bf,st⟩;by_cases h0:(Z.tb (y%256)).lf q=0
 ·rw[h0];refine Classical.byContradiction fun Aa=>?_
  have Bm:=L.tpi.full (y%256) (J6i _ (by omega));rw[updT_same] at Bm;obtain⟨s,hs,Qp,GH⟩:=Bm q hq Aa;rw[Bf s] at GH;exact GH ((ok.tpi.tin (y%256) p2 hi h1 A2).hole s hs (by rw[Qp];exact h0))
 ·exact L.lf q hq h0
theorem BackZ.ok(ok:Z.Ok fr N K M){own:Int}{w w':World}(h:BackZ Z fr N K y own w w'):∃Z',Z'.Ok fr N K M/\Z'.av=Z.av/\SameZ Z Z'/\Step Z.hl Z'.hl w w':=by
 obtain⟨S',t',h1,h2,h3,h4,h5,h6⟩:=h;have Dh:∀h s,Q0f S'.l (updT Z.tb (y%256) t') h s=Q0f Z.S.l Z.tb h s:=fun h s=>by
  unfold Q0f;rw[h3.l];split
  ·split
   ·by_cases e:h%256=y%256
    ·rw[e,updT_same,h5]
    ·rw[Q0K e]
   ·rfl
  ·rfl
 refine⟨Z.setS S' (updT Z.tb (y%256) t'),⟨h1,h2,?_,ok.fo,ok.next⟩,?_,⟨⟨rfl,h3.alt0,rfl⟩,rfl⟩,h6⟩
 ·refine ok.fpi.same2 Dh fun h s e he q hq=>⟨q,?_,rfl⟩
  show pget S'.l 1 e.h=some q;rw[h3.l];exact hq
 ·show(⟨fun h s=>(Q0f S'.l (updT Z.tb (y%256) t') h s).map Ent.c,Z.F.N⟩:AV)=_;unfold SP.av avOf;congr 1;funext h s;rw[Dh]
end
def J2n(N:List (En Nd))(sp sl:Int):Option (Int×Int):=match find N (ownN N sp sl) with
 | none=>none
 | some n=>(find N n.q.par).map fun m=>(m.q.sp,m.q.sl)
theorem Q3U(N:List (En Nd))(sp sl:Int):(∃n∈N,n.q.sp=sp/\n.q.sl=sl)∨∀e∈N,(e.q.sp,e.q.sl)≠(sp,sl):=by
 by_cases h:∃n∈N,n.q.sp=sp/\n.q.sl=sl
 ·exact .inl h
 ·exact .inr fun e he hx=>h ⟨e,he,by simpa using hx⟩
section
variable {N:List (En Nd)} {next:Int}
end
def Q8w(m:Nat):Option (Nat×Nat)->Option (Nat×Nat)
 | none=>none
 | some c=>if less c.2 m=0 then none else some (c.1,less c.2 m)
def EnIs(a:AV):Prop:=∀n∈a.N,∃c,a.en n.q.sp.toNat n.q.sl.toNat=some c
theorem FPI.enIs{l:List Pl}{tb:Nat->TB}{N:List (En Nd)}(f:FPI l tb N):EnIs (avOf l tb N):=fun n hn=>by
 obtain⟨e,he⟩:=f.is n hn;exact⟨(e.h,e.r),Q9y he⟩
theorem Q5N{N:List (En Nd)}{next:Int}(ok:NOk N next){n:En Nd}(hn:n∈N)(h s:Nat):ownN N (h:Int) (s:Int)=n.id↔n.q.sp=(h:Int)/\n.q.sl=(s:Int):=by
 constructor
 ·intro e;rcases Q3U N (h:Int) (s:Int) with ⟨c,hc,h1,h2⟩|Aq
  ·have:=Q1R ok hc;rw[h1,h2,e] at this;have P9:c=n:=by
    have a1:=Q0k ok.ids hc;have a2:=Q0k ok.ids hn;rw[<- this,a2] at a1;exact(J3Z a1).symm
   subst P9;exact⟨h1,h2⟩
  ·have:=(Q1y ok).2 Aq;rw[this] at e;have:=ok.rng n hn;omega
 ·rintro⟨h1,h2⟩;have:=Q1R ok hn;rw[h1,h2] at this;exact this
section
variable {m:Nat} {a:AV} {next:Int}
structure J2V(m:Nat)(a:AV)(next:Int)(id:Int):Prop where
 ok:NOk (weak1 m a id).1.N next
 is:EnIs (weak1 m a id).1
 en:∀h s:Nat,(weak1 m a id).1.en h s=if ownN a.N (h:Int) (s:Int)=id then Q8w m (a.en h s) else a.en h s
 old:∀x n,x≠id->find a.N x=some n->∃n',find (weak1 m a id).1.N x=some n'/\n'.q.sp=n.q.sp/\n'.q.sl=n.q.sl/\n'.id=n.id
 new:∀x n',find (weak1 m a id).1.N x=some n'->∃n,find a.N x=some n/\n'.q.sp=n.q.sp/\n'.q.sl=n.q.sl
 own:∀h s:Nat,ownN (weak1 m a id).1.N (h:Int) (s:Int)=if (weak1 m a id).2=true/\ownN a.N (h:Int) (s:Int)=id then 0 else ownN a.N (h:Int) (s:Int)
 gone:(weak1 m a id).2=true↔∃n c,find a.N id=some n/\a.en n.q.sp.toNat n.q.sl.toNat=some c/\less c.2 m=0
theorem Q9R(ok:NOk a.N next)(is:EnIs a){id:Int}{n:En Nd}(hf:find a.N id=some n):J2V m a next id:=by
 obtain⟨hn,hid⟩:=Q0b hf;obtain⟨c,hc⟩:=is n hn;have J7:=ok.sm n hn;have JO:((n.q.sp.toNat:Nat):Int)=n.q.sp:=by omega
 have E7:((n.q.sl.toNat:Nat):Int)=n.q.sl:=by omega
 have hw:=Q2L (m:=m) (a:=a) hf JO.symm E7.symm hc;have Af:∀h s:Nat,ownN a.N (h:Int) (s:Int)=id↔(h=n.q.sp.toNat/\s=n.q.sl.toNat):=fun h s=>by
  have:=Q5N ok hn h s;rw[hid] at this;rw[this];omega
 by_cases h0:less c.2 m=0
 ·rw[if_pos h0] at hw;have Fn:find a.N n.id=some n:=by rw[hid];exact hf
  have hN:(weak1 m a id).1.N=Q0B a.N n n.q.ks.length:=by rw[hw]
  have Bg:NOk (Q0B a.N n n.q.ks.length) next:=ok.lift Fn;have Az:∀{x},x∈Q0B a.N n n.q.ks.length->∃c∈a.N,c.id≠n.id/\x={c with q:=Q0t n n.q.ks.length c}:=fun {x} hx=>by
   obtain⟨c,hc,rfl⟩:=Q1w hx;obtain⟨h1,h2⟩:=(Q2K ok.ids n.id c).1 hc;exact⟨c,h1,h2,rfl⟩
  have Bf:∀h s:Nat,(weak1 m a id).1.en h s=if ownN a.N (h:Int) (s:Int)=id then Q8w m (a.en h s) else a.en h s:=fun h s=>by
   rw[hw];show setA a.en n.q.sp.toNat n.q.sl.toNat none h s=_;unfold setA;by_cases e:h=n.q.sp.toNat/\s=n.q.sl.toNat
   ·rw[if_pos e,if_pos ((Af h s).2 e),e.1,e.2,hc];unfold Q8w;simp only;rw[if_pos h0]
   ·rw[if_neg e,if_neg (fun x=>e ((Af h s).1 x))]
  refine⟨by rw[hN];exact Bg,?_,Bf,?_,?_,?_,?_⟩
  ·rw[hw];intro x hx;obtain⟨d,hd,Aa,rfl⟩:=Az hx;obtain⟨cd,Ep⟩:=is d hd;refine⟨cd,?_⟩;simp only[Q1K];rw[Q5j (Z0I ok hd hn Aa)];exact Ep
  ·intro x d hx hd;refine⟨{d with q:=Q0t n n.q.ks.length d},by rw[hN,Q3P ok,if_neg (by rw[hid];exact hx),hd];rfl,?_,?_,rfl⟩ <;> simp only[Q1K]
  ·intro x d' E6;rw[hN,Q3P ok] at E6;split at E6
   ·cases E6
   ·cases hd:find a.N x with
    | none=>rw[hd] at E6;cases E6
    | some d =>
     rw[hd] at E6;simp only[J4Q,J3q] at E6;subst E6;exact⟨d,rfl,by simp only[Q1K],by simp only[Q1K]⟩
  ·intro h s;rw[hw];simp only[true_and];by_cases e:ownN a.N (h:Int) (s:Int)=id
   ·rw[if_pos e];obtain⟨e1,e2⟩:=(Af h s).1 e;refine(Q1y Bg).2 fun d hd hx=>?_
    obtain⟨c',Bj,Aa,rfl⟩:=Az hd;simp only[Q1K,Prod.mk.injEq] at hx;exact Aa (by rw[Q4i ok Bj hn (by rw[hx.1];omega) (by rw[hx.2];omega)])
   ·rw[if_neg e];rcases Q3U a.N (h:Int) (s:Int) with ⟨d,hd,e1,e2⟩|Aq
    ·have Aa:d.id≠n.id:=fun x=>e (by
      have:=Q1R ok hd;rw[e1,e2] at this;rw[this,x,hid])
     have hm:({d with q:=Q0t n n.q.ks.length d}:En Nd)∈Q0B a.N n n.q.ks.length:=by
      unfold Q0B mapE;exact J3h.2 ⟨d,(Q2K ok.ids n.id d).2 ⟨hd,Aa⟩,rfl⟩
     have q1:=Q1R Bg hm;have q2:=Q1R ok hd;simp only[Q1K] at q1;rw[e1,e2] at q1 q2;rw[q1,q2]
    ·rw[(Q1y ok).2 Aq];refine(Q1y Bg).2 fun d hd hx=>?_
     obtain⟨c',Bj,_,rfl⟩:=Az hd;simp only[Q1K] at hx;exact Aq c' Bj hx
  ·rw[hw];simp only[true_iff];exact⟨n,c,hf,hc,h0⟩
 ·rw[if_neg h0] at hw;have hN:(weak1 m a id).1.N=a.N:=by rw[hw]
  have Bf:∀h s:Nat,(weak1 m a id).1.en h s=if ownN a.N (h:Int) (s:Int)=id then Q8w m (a.en h s) else a.en h s:=fun h s=>by
   rw[hw];show setA a.en n.q.sp.toNat n.q.sl.toNat _ h s=_;unfold setA;by_cases e:h=n.q.sp.toNat/\s=n.q.sl.toNat
   ·rw[if_pos e,if_pos ((Af h s).2 e),e.1,e.2,hc];unfold Q8w;simp only;rw[if_neg h0]
   ·rw[if_neg e,if_neg (fun x=>e ((Af h s).1 x))]
  refine⟨by rw[hN];exact ok,?_,Bf,?_,?_,?_,?_⟩
  ·rw[hw];intro x hx;show ∃c',setA a.en n.q.sp.toNat n.q.sl.toNat _ x.q.sp.toNat x.q.sl.toNat=some c';unfold setA;split
   ·exact⟨_,rfl⟩
   ·exact is x hx
  ·intro x d hx hd;exact⟨d,by rw[hN];exact hd,rfl,rfl,rfl⟩
  ·intro x d' E6;rw[hN] at E6;exact⟨d',E6,rfl,rfl⟩
  ·intro h s;rw[hw];simp
  ·rw[hw]
   constructor
   ·intro h;simp at h
   ·rintro⟨n2,c2,h1,h2,h3⟩;rw[hf] at h1;cases h1;rw[hc] at h2;cases h2;exact absurd h3 h0
end
inductive AddsM (x y:Nat) (A:Nat->Mv) (a0:AV) (nx:Int):Nat->AV->Prop
 | zero:AddsM x y A a0 nx 0 a0
 | succ (k:Nat) (a:AV) (c:Nat×Nat) (b:Nat):AddsM x y A a0 nx k a->a.en x (A k).src.toNat=some c->a.en y (A k).dst.toNat=none ->
   AddsM x y A a0 nx (k+1) ⟨setA a.en y (A k).dst.toNat (some (c.1,c.2&&&(A k).r.toNat)),addN a.N (ownN a.N (x:Int) (A k).src) (nx+k+1) b (y:Int) (A k).dst⟩
inductive Q4o (x:Nat) (A:Nat->Mv) (a0:AV):Nat->AV->Prop
 | zero:Q4o x A a0 0 a0
 | skip (k:Nat) (a:AV):Q4o x A a0 k a->(A k).g=false->Q4o x A a0 (k+1) a
 | lift (k:Nat) (a a':AV):Q4o x A a0 k a->(A k).g=true->weak1 15 a (ownN a.N (x:Int) (A k).src)=(a',true)->Q4o x A a0 (k+1) a'
def MovedZ(Z:SP)(fr:List Nat)(N K:Nat)(M:Int)(x y n:Nat)(A:Nat->Mv)(w w':World):Prop:=∃a Z',AddsM x y A Z.av Z.F.next n a/\Q4o x A a n Z'.av/\Z'.Ok fr N K (M+n)/\SameN Z Z'/\Z'.F.next=Z.F.next+n/\Step Z.hl Z'.hl w w'
structure MvB(Z:SP)(p1 p2:Pl)(g1 x g2 y B1 B2 n:Nat)(A:Nat->Mv)(a0:Option Addr)(W:World):Prop where
 t1:TblZ Z p1 g1 W
 t2:TblZ Z p2 g2 W
 b1:AsideV Z.hl [.pointer (some ⟨g1,0,none⟩),.int .u32 x,.int .i64 (p1.fac:Int)] (some ⟨B1,0,none⟩) W
 b2:AsideV Z.hl [.pointer (some ⟨g2,0,none⟩),.int .u32 y,.int .i64 (p2.fac:Int)] (some ⟨B2,0,none⟩) W
 mv:AsideM Z.hl n A a0 W
theorem MvB.step{Z Z':SP}{p1 p2:Pl}{g1 x g2 y B1 B2 n:Nat}{A:Nat->Mv}{a0:Option Addr}{W W':World}(h:MvB Z p1 p2 g1 x g2 y B1 B2 n A a0 W)(st:Step Z.hl Z'.hl W W')(hp:Z'.S.P.p=Z.S.P.p):MvB Z' p1 p2 g1 x g2 y B1 B2 n A a0 W':=
 ⟨h.t1.step st hp,h.t2.step st hp,h.b1.step st,h.b2.step st,h.mv.step st⟩
def Box3(B g x:Nat)(f:Int)(W:World):Prop:=W.cell? ⟨B,0,none⟩=some (.pointer (some ⟨g,0,none⟩))/\W.cell? ⟨B,1,none⟩=some (.int .u32 x)/\W.cell? ⟨B,2,none⟩=some (.int .i64 f)
def Q2m(g x:Nat)(f:Int):Value:=.agg #[.pointer (some ⟨g,0,none⟩),.int .u32 x,.int .i64 f]
theorem MvB.box{Z:SP}{p1 p2:Pl}{g1 x g2 y B1 B2 n:Nat}{A:Nat->Mv}{a0:Option Addr}{W:World}(h:MvB Z p1 p2 g1 x g2 y B1 B2 n A a0 W):Box3 B1 g1 x (p1.fac:Int) W/\Box3 B2 g2 y (p2.fac:Int) W/\IsMv W a0 n A:=
 ⟨⟨h.b1.at 0 _ rfl,h.b1.at 1 _ rfl,h.b1.at 2 _ rfl⟩,⟨h.b2.at 0 _ rfl,h.b2.at 1 _ rfl,h.b2.at 2 _ rfl⟩,h.mv.1⟩
theorem Q2O{w:World}{H:HL}(hs:Sep w H)(T:TypeId)(cs:List Value):AsideV H cs (some ⟨w.heap.size,0,none⟩) (w.alloc (.cells cs.toArray T)):=fun j v hj =>
 ⟨w.heap.size,rfl,fun hk=>by have:=hs.lt hk;omega,by simp,(Cells.new w T cs).cell j v hj⟩
def mixT(t0 t1:TB)(A:Nat->Mv)(k:Nat):TB:={t1 with en:=fun s=>if (List.range k).any (fun i=>decide (s=(A i).dst.toNat))=true then t1.en s else t0.en s}
theorem Q3x(t0 t1:TB)(A:Nat->Mv)(k s:Nat):((mixT t0 t1 A k).en s=t1.en s/\∃i,i<k/\s=(A i).dst.toNat)∨((mixT t0 t1 A k).en s=t0.en s/\∀i,i<k->s≠(A i).dst.toNat):=by
 unfold mixT;simp only;cases h:(List.range k).any (fun i=>decide (s=(A i).dst.toNat)) with
 | true =>
  obtain⟨i,hi,he⟩:=List.any_eq_true.1 h;exact .inl ⟨by simp,i,J3s.1 hi,by simpa using he⟩
 | false =>
  refine .inr ⟨by simp,fun i hi he=>?_⟩;have:=J7G.1 h i (J3s.2 hi);simp[he] at this
section
variable {Z:SP} {fr:List Nat} {N K:Nat} {M:Int} {x y n:Nat} {p1 p2:Pl} {A:Nat->Mv}
structure SetP(Z:SP)(x y:Nat)(A:Nat->Mv)(t1:TB)(k:Nat)(F':FO):Prop where
 ok:F'.Ok
 f:F'.f=Z.F.f
 nx:F'.next=Z.F.next+k
 fpi:FPI Z.S.l (updT Z.tb (y%256) (mixT (Z.tb (y%256)) t1 A k)) F'.N
 av:AddsM x y A Z.av Z.F.next k (avOf Z.S.l (updT Z.tb (y%256) (mixT (Z.tb (y%256)) t1 A k)) F'.N)
theorem SetP.start(ok:Z.Ok fr N K M)(t1:TB):SetP Z x y A t1 0 Z.F:=by
 have Dh:∀h s,Q0f Z.S.l (updT Z.tb (y%256) (mixT (Z.tb (y%256)) t1 A 0)) h s=Q0f Z.S.l Z.tb h s:=fun h s=>by
  unfold Q0f;split
  ·split
   ·by_cases e:h%256=y%256
    ·rw[e,updT_same];rcases Q3x (Z.tb (y%256)) t1 A 0 s with ⟨_,i,hi,_⟩|⟨h1,_⟩
     ·omega
     ·exact h1
    ·rw[Q0K e]
   ·rfl
  ·rfl
 refine⟨ok.fo,rfl,by omega,ok.fpi.same2 Dh fun h s e he q hq=>⟨q,hq,rfl⟩,?_⟩;have:avOf Z.S.l (updT Z.tb (y%256) (mixT (Z.tb (y%256)) t1 A 0)) Z.F.N=Z.av:=by
  unfold SP.av avOf;congr 1;funext h s;rw[Dh]
 rw[this];exact .zero
theorem SetP.src(An:AllFit Z.av.en x y n A){t1:TB}{k:Nat}(Dm:k<n)(Bh:pget Z.S.l 1 x=some p1)(A0:p1.kind=2)(A5:pget Z.S.l 1 y=some p2)(A2:p2.kind=2){F':FO}(P:SetP Z x y A t1 k F') :
  ∃e0 e,Q0f Z.S.l Z.tb x (A k).src.toNat=some e0/\Q0f Z.S.l (updT Z.tb (y%256) (mixT (Z.tb (y%256)) t1 A k)) x (A k).src.toNat=some e/\e=e0/\Q0f Z.S.l (updT Z.tb (y%256) (mixT (Z.tb (y%256)) t1 A k)) y (A k).dst.toNat=none:=by
 have hf:=(An k Dm).1;obtain⟨c,hc,_⟩:=hf.full;obtain⟨e0,E8,rfl⟩:=Q3v hc;have BY:=hf.src;have FP:=hf.dst;refine⟨e0,e0,E8,?_,rfl,?_⟩
 ·rw[Q0g Bh A0 (by omega)] at E8 ⊢;by_cases e:x%256=y%256
  ·rw[e] at E8 ⊢;rw[updT_same];rcases Q3x (Z.tb (y%256)) t1 A k (A k).src.toNat with ⟨_,i,hi,hs⟩|⟨h1,_⟩
   ·exfalso;have D9:=av_none.1 (An i (by omega)).1.free;rw[Q0g A5 A2 (by have:=(An i (by omega)).1.dst;omega),<- hs,E8] at D9;cases D9
   ·rw[h1];exact E8
  ·rw[Q0K e];exact E8
 ·have D9:=av_none.1 hf.free;rw[Q0g A5 A2 (by omega)] at D9 ⊢;rw[updT_same];rcases Q3x (Z.tb (y%256)) t1 A k (A k).dst.toNat with ⟨_,i,hi,hs⟩|⟨h1,_⟩
  ·exact absurd hs (An.dst Dm (by omega) (by omega))
  ·rw[h1];exact D9
theorem Q7e:∀r,r<16->∀m,m<16->(r&&&m)&&&r=r&&&m:=by decide
theorem Q6L:∀r,r<16->∀m,m<16->r&&&m<=15:=by decide
theorem SetP.next(ok:Z.Ok fr N K M)(An:AllFit Z.av.en x y n A){S1:CO}{t1:TB}{own:Int}(L:LaidP Z fr N K x y own A 0 n S1 t1){k:Nat}(Dm:k<n)(Bh:pget Z.S.l 1 x=some p1)(A0:p1.kind=2)(A5:pget Z.S.l 1 y=some p2)(A2:p2.kind=2){F' F2:FO}(P:SetP Z x y A t1 k F')
  (Ad:Z2l F' (ownN F'.N (x:Int) (A k).src) (y:Int) (A k).dst F2):SetP Z x y A t1 (k+1) F2:=by
 obtain⟨e0,e,E8,he,rfl,Bb⟩:=SetP.src An Dm Bh A0 A5 A2 P;have hf:=(An k Dm).1;have BY:=hf.src;have FP:=hf.dst;have Kd:=hf.r;obtain⟨c,hc,BS,RU⟩:=hf.full;obtain⟨e',AT,FU⟩:=Q3v hc;rw[E8] at AT;cases AT;subst FU;obtain⟨c2,nd,h1,h2⟩:=L.new k (by omega) Dm;rw[hc] at h1;cases h1;obtain⟨b,hN⟩:=Ad.N;have C1:((A k).src.toNat:Int)=(A k).src:=by omega
 have GN:((A k).dst.toNat:Int)=(A k).dst:=by omega
 have A4:=ok.fpi.cap _ _ _ E8
 -- the table with one more
 have ht:∀s,(mixT (Z.tb (y%256)) t1 A (k+1)).en s=if s=(A k).dst.toNat then some ⟨e.h,e.r&&&(A k).r.toNat,nd⟩ else(updT Z.tb (y%256) (mixT (Z.tb (y%256)) t1 A k) (y%256)).en s:=fun s=>by
  rw[updT_same];by_cases es:s=(A k).dst.toNat
  ·rw[if_pos es,es];rcases Q3x (Z.tb (y%256)) t1 A (k+1) (A k).dst.toNat with ⟨h3,_⟩|⟨_,h3⟩
   ·rw[h3,h2]
   ·exact absurd rfl (h3 k (by omega))
  ·rw[if_neg es];rcases Q3x (Z.tb (y%256)) t1 A (k+1) s with ⟨h3,i,hi,hs⟩|⟨h3,h4⟩
   ·rcases Q3x (Z.tb (y%256)) t1 A k s with ⟨h5,_⟩|⟨_,h6⟩
    ·rw[h3,h5]
    ·have:i=k:=by
      refine Classical.byContradiction fun Aa=>h6 i (by omega) hs
     rw[this] at hs;exact absurd hs es
   ·rcases Q3x (Z.tb (y%256)) t1 A k s with ⟨_,i,hi,hs⟩|⟨h5,_⟩
    ·exact absurd hs (h4 i (by omega))
    ·rw[h3,h5]
 obtain⟨nn,Ec,q1,q2,q3,q4⟩:=P.fpi.own P.ok.n he;rw[C1] at q2 q3;have A8:e.r<16:=by have:=A4.r;omega
 have Se:(A k).r.toNat<16:=by omega
 have U2:=Q6L e.r A8 (A k).r.toNat Se;have LQ:=Q7e e.r A8 (A k).r.toNat Se;have P5:Q7a Z.S.l (A k).dst.toNat ⟨e.h,e.r&&&(A k).r.toNat,nd⟩:=by
  obtain⟨q,hq,Vi⟩:=A4.live;refine⟨⟨q,hq,Vi.trans ?_⟩,by simp only at RU ⊢;omega⟩;have Py:=hf.side;simp only[decide_eq_decide] at Py
  constructor <;> intro h <;> omega
 have Gt:=P.fpi.add (p:=p2) P.ok.n A5 A2 (s:=(A k).dst.toNat) (by omega) Bb (t':=mixT (Z.tb (y%256)) t1 A (k+1)) ht P5 (par:=ownN F'.N (x:Int) (A k).src) b
  (.inr ⟨nn,e,by rw[q3];exact q4,by unfold Q0O;rw[q1,q2,J4h];exact he,rfl,LQ⟩)
 rw[Q1c,GN] at Gt;rw[<- hN] at Gt;have Es:=Q6A F'.N F2.N A5 A2 (by omega:(A k).dst.toNat<256) ht;rw[Q1c] at Es;refine⟨Ad.ok,by rw[Ad.f];exact P.f,by rw[Ad.next,P.nx];omega,Gt,?_⟩;rw[Es,hN,P.nx];exact AddsM.succ k _ (e.h,e.r) b P.av (by show(Q0f _ _ _ _).map Ent.c=_;rw[he];rfl) (by show(Q0f _ _ _ _).map Ent.c=_;rw[Bb];rfl)
theorem SetP.done(ok:Z.Ok fr N K M){S1:CO}{t1:TB}{own:Int}(L:LaidP Z fr N K x y own A 0 n S1 t1){F':FO}(P:SetP Z x y A t1 n F') :
  ((Z.setF F').setS S1 (updT Z.tb (y%256) t1)).Ok fr N K (M+n)/\SameN Z ((Z.setF F').setS S1 (updT Z.tb (y%256) t1))/\AddsM x y A Z.av Z.F.next n ((Z.setF F').setS S1 (updT Z.tb (y%256) t1)).av:=by
 have Dh:∀h s,Q0f S1.l (updT Z.tb (y%256) t1) h s=Q0f Z.S.l (updT Z.tb (y%256) (mixT (Z.tb (y%256)) t1 A n)) h s:=fun h s=>by
  unfold Q0f;rw[L.alt.l];split
  ·split
   ·by_cases e:h%256=y%256
    ·rw[e,updT_same,updT_same];rcases Q3x (Z.tb (y%256)) t1 A n s with ⟨h1,_⟩|⟨h1,h2⟩
     ·rw[h1]
     ·rw[h1,L.old s fun i _ hi=>h2 i hi]
    ·rw[Q0K e,Q0K e]
   ·rfl
  ·rfl
 have Es:((Z.setF F').setS S1 (updT Z.tb (y%256) t1)).av=avOf Z.S.l (updT Z.tb (y%256) (mixT (Z.tb (y%256)) t1 A n)) F'.N:=by
  show(⟨fun h s=>(Q0f S1.l (updT Z.tb (y%256) t1) h s).map Ent.c,F'.N⟩:AV)=_;unfold avOf;congr 1;funext h s;rw[Dh]
 refine⟨⟨L.ok,L.tpi,?_,P.ok,by show F'.next<=_;rw[P.nx];have:=ok.next;omega⟩,⟨rfl,L.alt.alt0,P.f⟩,by rw[Es];exact P.av⟩;exact P.fpi.same2 Dh fun h s e he q hq=>⟨q,by show pget S1.l 1 e.h=_;rw[L.alt.l];exact hq,rfl⟩
theorem LaidP.src(Bh:pget Z.S.l 1 x=some p1)(A0:p1.kind=2)(A5:pget Z.S.l 1 y=some p2)(A2:p2.kind=2)(An:AllFit Z.av.en x y n A){j k:Nat}(Dm:k<=n){own:Int}{S1:CO}{t1:TB}(L:LaidP Z fr N K x y own A j k S1 t1){i:Nat}(hi:i<n) :
  ∃e,Q0f Z.S.l Z.tb x (A i).src.toNat=some e/\(updT Z.tb (y%256) t1 (x%256)).en (A i).src.toNat=some e/\(updT Z.tb (y%256) t1 (x%256)).at' (A i).src=some e/\Z.av.en x (A i).src.toNat=some (e.h,e.r):=by
 have hf:=(An i hi).1;have BY:=hf.src;obtain⟨c,hc,_⟩:=hf.full;obtain⟨e,he,rfl⟩:=Q3v hc;have h2:(updT Z.tb (y%256) t1 (x%256)).en (A i).src.toNat=some e:=by
  have AT:=he;rw[Q0g Bh A0 (by omega)] at AT;by_cases exy:x%256=y%256
  ·rw[exy] at AT ⊢;rw[updT_same,L.old _ fun q h1 h2 e2=>?_]
   ·exact AT
   ·have D9:=av_none.1 (An q (by omega)).1.free;rw[Q0g A5 A2 (by have:=(An q (by omega)).1.dst;omega),<- e2,AT] at D9;cases D9
  ·rw[Q0K exy];exact AT
 refine⟨e,he,h2,?_,hc⟩;unfold TB.at';rw[if_pos BY];exact h2
end
structure J2o(s g1 x g2 y:Nat)(f1 f2:Int)(B1 B2:Nat)(a0:Option Addr)(n cap:Nat)(A:Nat->Mv)(V:Nat->Int)(R:Nat->World->Prop)(B:Int->Nat->Nat->World->Prop)(Q:Int->World->Prop):Prop where
 held:∀k W,R k W->Box3 B1 g1 x f1 W/\Box3 B2 g2 y f2 W/\IsMv W a0 n A
 heldB:∀er k j W,B er k j W->Box3 B1 g1 x f1 W/\Box3 B2 g2 y f2 W/\IsMv W a0 n A
 rel:∀k W W',R k W->Below W.heap.size W W'->R k W'
 relB:∀er k j W W',B er k j W->Below W.heap.size W W'->B er k j W'
 fits:∀i W,i<n->R 0 W->Calls prog 97 #[Q2m g1 x f1,Q2m g2 y f2,(A i).agg,.slice a0 i cap] W (Told W (.int .i64 (V i)))
 bad:∀i W,i<n->R 0 W->V i≠0->(∀j,j<i->V j=0)->Q (V i) W
 capK:∀k W,(∀j,j<n->V j=0)->k<n->R k W->∃a b:Int,∃c:Bool,Calls prog 93 #[Q2m g1 x f1,.int .i64 (A k).src] W (Told W (.tuple #[.agg #[.int .u32 a,.int .i64 b],.bool c])) /\
  ∀W',R k W'->Calls prog 98 #[.pointer (some ⟨s,0,none⟩),Q2m g2 y f2,.int .i64 (A k).dst,.agg #[.int .u32 a,.int .i64 (bits .and .i64 b (A k).r)]] W' fun rv w5=>∃er:Int,rv=.returned (.int .i64 er)/\((er=0/\R (k+1) w5)∨(er≠0/\B er k 0 w5))
 bare:∀er k j W,j<k->B er k j W->Calls prog 99 #[.pointer (some ⟨s,0,none⟩),Q2m g2 y f2,.int .i64 (A j).dst] W fun rv w'=>rv=.returned (.tuple #[])/\B er k (j+1) w'
 back:∀er k W,B er k k W->Q er W
 settle:∀W,(∀j,j<n->V j=0)->R n W->Calls prog 100 #[.pointer (some ⟨s,0,none⟩),Q2m g1 x f1,Q2m g2 y f2,.slice a0 n cap] W fun rv w'=>rv=.returned (.tuple #[])/\Q 0 w'
theorem Q6M{w:World}{s x y:Nat}{v:Value}{e:Int}(he:e≠0)(hS:Calls prog 90 #[.pointer (some ⟨s,0,none⟩),.int .u32 x] w (Told w (.tuple #[.agg #[.pointer none,.int .u32 0,.int .i64 0],.int .i64 e]))) :
  Calls prog 39 #[.pointer (some ⟨s,0,none⟩),.int .u32 x,.int .u32 y,v] w (Told w (.int .i64 e)):=by
 have FV:(e != 0)=true:=by simpa using he
 have HB:Hid (∀w1,Below w.heap.size w w1->∀o,Below w.heap.size w (w1.alloc o)):=fun w1 hb o=>hb.alloc hb.size o
 go_enter func39,ntmps39;go_wp2_with fail;refine hS.mono ?_;rintro rv w1⟨rfl,hb⟩;have HW:=Q0a (HB.out w1 hb);clear hb HB hS;go_wp2_with fail
 (try go_ret);exact⟨rfl,HW.out _⟩
theorem Q6N{w:World}{s x y g:Nat}{v:Value}{e f:Int}(he:e≠0)(hS:Calls prog 90 #[.pointer (some ⟨s,0,none⟩),.int .u32 x] w fun r w'=>∃g:Nat,r=.returned (.tuple #[.agg #[.pointer (some ⟨g,0,none⟩),.int .u32 x,.int .i64 f],.int .i64 0])/\Below w.heap.size w w')
  (hT:∀W,Below w.heap.size w W->Calls prog 90 #[.pointer (some ⟨s,0,none⟩),.int .u32 y] W (Told W (.tuple #[.agg #[.pointer none,.int .u32 0,.int .i64 0],.int .i64 e]))) :
  Calls prog 39 #[.pointer (some ⟨s,0,none⟩),.int .u32 x,.int .u32 y,v] w (Told w (.int .i64 e)):=by
 have FV:(e != 0)=true:=by simpa using he
 have HB:Hid (∀w1,Below w.heap.size w w1->∀o,Below w.heap.size w (w1.alloc o)):=fun w1 hb o=>hb.alloc hb.size o
 have HT:=Q0a hT;clear hT;go_enter func39,ntmps39;go_wp2_with fail;refine hS.mono ?_;rintro rv w1⟨g',rfl,hb⟩;have kt:=HT.out _ (HB.out w1 hb (.cells #[.pointer (some ⟨g',0,none⟩),.int .u32 x,.int .i64 f] 191));have NS:=Q0a (HB.out w1 hb (.cells #[.pointer (some ⟨g',0,none⟩),.int .u32 x,.int .i64 f] 191));clear hb hS HT;go_wp2_with fail;refine kt.mono ?_;rintro rv w2⟨rfl,Ai⟩;have HW:=Q0a (HB.out w2 (NS.out.trans (Ai.mono NS.out.size)));clear Ai HB kt;go_wp2_with fail
 (try go_ret);exact⟨rfl,HW.out _⟩
end Go.Proofs.YtfidemmgofcnmaaGreatDoor

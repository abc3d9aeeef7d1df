/- What the laws of spaces share is proved. No condition. Part of a proof. -/
import Derived.Test.YtfidemmgofcnmaaGreatDoorBz20
set_option maxHeartbeats 8000000
set_option maxRecDepth 100000
set_option linter.unusedVariables false
namespace Go.Proofs.YtfidemmgofcnmaaGreatDoor
open Go.RowKit Go.Proofs.Tryz
def Mv.clash(o m:Mv):Bool:=(o.dst==m.dst)||((o.src==m.src)&&(o.g||m.g))
def Mv.agg(m:Mv):Value:=.agg #[.int .i64 m.src,.int .i64 m.dst,.int .i64 m.r,.bool m.g]
theorem Z6I(w:World)(o m:Mv)(b:Nat)(hb:b<w.heap.size)(h0:w.cell? ⟨b,0,none⟩=some (.int .i64 m.src))(h1:w.cell? ⟨b,1,none⟩=some (.int .i64 m.dst))(h3:w.cell? ⟨b,3,none⟩=some (.bool m.g)) :
  Calls prog 172 #[o.agg,.pointer (some ⟨b,0,none⟩)] w (Told w (.bool (o.clash m))):=by
 obtain⟨os,od,orr,og⟩:=o;obtain⟨ms,md,mr,mg⟩:=m;unfold Mv.clash Mv.agg;dsimp only at *
 have Ac:b≠w.heap.size:=by omega
 have HB:Hid (∀o,Below w.heap.size w (w.alloc o)):=fun o=>(Below.refl _ _).alloc (J3h _) o
 have b1:Below w.heap.size w (w.alloc (.cells #[.int .i64 os,.int .i64 od,.int .i64 orr,.bool og] 90)):=HB.out _;have g0:=(b1.cell (p:=⟨b,0,none⟩) hb).trans h0;have g1:=(b1.cell (p:=⟨b,1,none⟩) hb).trans h1;have g3:=(b1.cell (p:=⟨b,3,none⟩) hb).trans h3;clear b1 h0 h1 h3 hb;by_cases e1:od=md
 ·have v1:(od==md)=true:=by simpa using e1
  rw[v1];simp only[Bool.true_or];clear e1;go_enter func172,ntmps172;go_wp2_with fail
  (try go_ret);exact⟨rfl,HB.out _⟩
 ·have v1:(od==md)=false:=by simpa using e1
  have d1:decide (od=md)=false:=decide_eq_false e1;rw[v1];simp only[J6l];by_cases e2:os=ms
  ·have v2:(os==ms)=true:=by simpa using e2
   rw[v2];simp only[J4r];clear e2;cases og
   ·go_enter func172,ntmps172;go_wp2_with fail
    (try go_ret);exact⟨rfl,HB.out _⟩
   ·go_enter func172,ntmps172;go_wp2_with fail
    (try go_ret);exact⟨rfl,HB.out _⟩
  ·have v2:(os==ms)=false:=by simpa using e2
   have d2:decide (os=ms)=false:=decide_eq_false e2;rw[v2];simp only[J7w];go_enter func172,ntmps172;go_wp2_with fail
   (try go_ret);exact⟨rfl,HB.out _⟩
def Z3D(b:Nat):Value:=.func (.func 172) #[] #[.pointer (some ⟨b,0,none⟩)]
def Z2a(w:World)(n:Nat)(A:Nat->Mv)(m:Mv)(e:Ending)(w':World):Prop:=Below w.heap.size w w'/\((∃k:Nat,k<n/\e=.returned (.int .i64 k)/\(A k).clash m=true)∨(e=.returned (.int .i64 (-1))/\∀j,j<n->(A j).clash m=false))
theorem Z3E{w:World}{a0:Option Addr}{len:Nat}{A:Nat->Mv}(h:IsMv w a0 len A){n:Nat}(cap:Nat)(hn:n<=len)(hm:n<=4611686018427387904)(m:Mv)(b:Nat)(hb:b<w.heap.size)(h0:w.cell? ⟨b,0,none⟩=some (.int .i64 m.src))(h1:w.cell? ⟨b,1,none⟩=some (.int .i64 m.dst))(h3:w.cell? ⟨b,3,none⟩=some (.bool m.g)) :
  Calls prog 214 #[.slice a0 n cap,Z3D b] w (Z2a w n A m):=by
 have HP:Hid (∀k wr,k<n->Below w.heap.size w wr->∃g off,a0=some ⟨g,off,none⟩/\wr.cell? ⟨g,off+k*4,none⟩=some (.int .i64 (A k).src)/\wr.cell? ⟨g,off+k*4+1,none⟩=some (.int .i64 (A k).dst)/\wr.cell? ⟨g,off+k*4+2,none⟩=some (.int .i64 (A k).r)/\wr.cell? ⟨g,off+k*4+3,none⟩=some (.bool (A k).g) /\
   Calls prog 172 #[.agg #[.int .i64 (A k).src,.int .i64 (A k).dst,.int .i64 (A k).r,.bool (A k).g],.pointer (some ⟨b,0,none⟩)] wr fun r w'=>r=.returned (.bool ((A k).clash m))/\Below w.heap.size w w'):=fun k wr hk BA=>by
  obtain⟨g,off,e,_,hc,_⟩:=IsMv.below h BA k (by omega);exact⟨g,off,e,hc 0 _ rfl,hc 1 _ rfl,hc 2 _ rfl,hc 3 _ rfl,(Z6I wr (A k) m b (J3j hb BA.size) ((BA.cell (p:=⟨b,0,none⟩) hb).trans h0) ((BA.cell (p:=⟨b,1,none⟩) hb).trans h1) ((BA.cell (p:=⟨b,3,none⟩) hb).trans h3)).mono fun r w' q=>⟨q.1,BA.trans (q.2.mono BA.size)⟩⟩
 have G3:Hid (∀k w',k<n->Below w.heap.size w w'->(A k).clash m=true->Z2a w n A m (.returned (.int .i64 k)) w'):=fun k w' hk Al hc=>⟨Al,.inl ⟨k,hk,rfl,hc⟩⟩
 have Eg:Hid (∀w',Below w.heap.size w w'->(∀j,j<n->(A j).clash m=false)->Z2a w n A m (.returned (.int .i64 (-1))) w'):=fun w' Al hc=>⟨Al,.inr ⟨rfl,hc⟩⟩
 clear h h0 h1 h3 hb hn;generalize Z2a w n A m=Q at *
 unfold Z3D;go_enter func214,ntmps214;go_wp2_with fail
 go_loopw [5,8] (fun _ i wr=>∃k:Nat,k<=n/\i=.int .i64 k/\(∀j,j<k->(A j).clash m=false)/\Below w.heap.size w wr) (fun _ i _=>n-(intOf i).toNat)
 case atStart=>exact⟨0,J5d _,rfl,by intro j hj;omega,Below.refl _ _⟩
 case round =>
  obtain⟨k,hk,rfl,A1,BA⟩:=hrel;have Hp:=Q0a A1;have HB:=Q0a BA;clear A1 BA;by_cases Aa:k<n
  ·obtain⟨g,off,rfl,c0,c1,c2,c3,AI⟩:=HP.out k wr Aa HB.out;have HC:=Q0a AI;clear AI;cases hv:(A k).clash m with
   | true =>
    have HV:=Q0a hv;rw[hv] at HC;clear hv;go_wp2_with (go_at_call 172;refine HC.out.mono ?_;rintro e w'⟨rfl,Al⟩)
    (try go_ret);exact G3.out k _ Aa Al HV.out
   | false =>
    have HV:=Q0a hv;rw[hv] at HC;clear hv;go_wp2_with (go_at_call 172;refine HC.out.mono ?_;rintro e w'⟨rfl,Al⟩);go_roundw
    case rel =>
     refine⟨k+1,by omega,by go_num,fun j hj=>?_,Al⟩;by_cases e:j=k
     ·rw[e];exact HV.out
     ·exact Hp.out j (by omega)
    case measure=>simp[intOf];omega
  ·obtain rfl:k=n:=by omega
   clear HP;go_wp2_with fail
   (try go_ret);exact Eg.out _ HB.out Hp.out
def Q1f(A:Nat->Mv)(n:Nat)(m:Mv):Bool:=(List.range n).any fun k=>(A k).clash m
theorem Q8j{w:World}{a0:Option Addr}{len:Nat}{A:Nat->Mv}(h:IsMv w a0 len A){n:Nat}(cap:Nat)(hn:n<=len)(hm:n<=4611686018427387904)(m:Mv)(b:Nat)(hb:b<w.heap.size)(h0:w.cell? ⟨b,0,none⟩=some (.int .i64 m.src))(h1:w.cell? ⟨b,1,none⟩=some (.int .i64 m.dst))(h3:w.cell? ⟨b,3,none⟩=some (.bool m.g)) :
  Calls prog 171 #[.slice a0 n cap,Z3D b] w (Told w (.bool (Q1f A n m))):=by
 have ki:=Z3E h cap hn hm m b hb h0 h1 h3;clear h h0 h1 h3 hb hn hm;unfold Z3D at *
 go_enter func171,ntmps171;go_wp2_with fail;refine ki.mono ?_;rintro e w'⟨Al,⟨k,hk,rfl,hc⟩|⟨rfl,hc⟩⟩
 ·have hv:Q1f A n m=true:=List.any_eq_true.2 ⟨k,J3x.2 hk,hc⟩;have HR:Hid (Told w (.bool (Q1f A n m)) (.returned (.bool true)) w'):=⟨by rw[hv],Al⟩
  have BE:(0:Int)<=(k:Int):=by omega
  clear hv hc Al;generalize Q1f A n m=v at *
  go_wp2_with fail
  (try go_ret);exact HR.out
 ·have hv:Q1f A n m=false:=J7x.2 fun k hk=>by simp[hc k (List.mem_range.1 hk)]
  have HR:Hid (Told w (.bool (Q1f A n m)) (.returned (.bool false)) w'):=⟨by rw[hv],Al⟩
  clear hv hc Al;generalize Q1f A n m=v at *
  go_wp2_with fail
  (try go_ret);exact HR.out
def J2y(h1 h2 br c1 c2 s1 z1 z2 s2 cl:Bool)(er:Int):Prop:=(h1=false/\er=2)∨(h1=true/\h2=false/\er=2)∨(h1=true/\h2=true/\br=false/\er=1)∨(h1=true/\h2=true/\br=true/\c1=!c2/\er=1)∨(h1=true/\h2=true/\br=true/\c1=c2/\s1=false/\er=6)∨(h1=true/\h2=true/\br=true/\c1=c2/\s1=true/\z1=true/\er=9)∨(h1=true/\h2=true/\br=true/\c1=c2/\s1=true/\z1=false/\z2=true/\er=9)∨(h1=true/\h2=true/\br=true/\c1=c2/\s1=true/\z1=false/\z2=false/\s2=true/\er=7)∨(h1=true/\h2=true/\br=true/\c1=c2/\s1=true/\z1=false/\z2=false/\s2=false/\cl=true/\er=7)∨(h1=true/\h2=true/\br=true/\c1=c2/\s1=true/\z1=false/\z2=false/\s2=false/\cl=false/\er=0)
theorem Z3F{w:World}{g1 x1 g2 x2:Nat}{f1 f2:Int}{m:Mv}{a0:Option Addr}{n cap:Nat}{ca1 cb1 ca2 cb2 er:Int}{s1 s2 cl:Bool}
  (OS:∀W,Below w.heap.size w W->Calls prog 93 #[.agg #[.pointer (some ⟨g1,0,none⟩),.int .u32 x1,.int .i64 f1],.int .i64 m.src] W (Told W (.tuple #[.agg #[.int .u32 ca1,.int .i64 cb1],.bool s1])))
  (Mi:∀W,Below w.heap.size w W->Calls prog 93 #[.agg #[.pointer (some ⟨g2,0,none⟩),.int .u32 x2,.int .i64 f2],.int .i64 m.dst] W (Told W (.tuple #[.agg #[.int .u32 ca2,.int .i64 cb2],.bool s2])))
  (hCl:∀W b,Below w.heap.size w W->b<W.heap.size->W.cell? ⟨b,0,none⟩=some (.int .i64 m.src)->W.cell? ⟨b,1,none⟩=some (.int .i64 m.dst)->W.cell? ⟨b,3,none⟩=some (.bool m.g)->Calls prog 171 #[.slice a0 n cap,Z3D b] W (Told W (.bool cl)))
  (hT:J2y (decide (0<=m.src/\m.src<256)) (decide (0<=m.dst/\m.dst<256)) (decide (0<m.r/\m.r<=15)) (decide (m.src<128)) (decide (m.dst<128)) s1 (bits .and .i64 cb1 4==0) (bits .and .i64 cb1 m.r==0) s2 cl er) :
  Calls prog 97 #[.agg #[.pointer (some ⟨g1,0,none⟩),.int .u32 x1,.int .i64 f1],.agg #[.pointer (some ⟨g2,0,none⟩),.int .u32 x2,.int .i64 f2],.agg #[.int .i64 m.src,.int .i64 m.dst,.int .i64 m.r,.bool m.g],.slice a0 n cap] w (Told w (.int .i64 er)):=by
 have TR:Hid (∀W,Calls prog 92 #[.int .i64 m.src] W fun r w'=>r=.returned (.bool (decide (0<=m.src/\m.src<256)))/\W=w'):=fun W=>Q2F W m.src
 have TD:Hid (∀W,Calls prog 92 #[.int .i64 m.dst] W fun r w'=>r=.returned (.bool (decide (0<=m.dst/\m.dst<256)))/\W=w'):=fun W=>Q2F W m.dst
 have Jk:Hid (∀W,Calls prog 106 #[.int .i64 m.r] W fun r' w'=>r'=.returned (.bool (decide (0<m.r/\m.r<=15)))/\W=w'):=fun W=>Q3s W m.r
 have FJ:Hid (∀W,Calls prog 96 #[.int .i64 m.src] W fun r w'=>r=.returned (.bool (decide (m.src<128)))/\W=w'):=fun W=>Q2s W m.src
 have LD:Hid (∀W,Calls prog 96 #[.int .i64 m.dst] W fun r w'=>r=.returned (.bool (decide (m.dst<128)))/\W=w'):=fun W=>Q2s W m.dst
 obtain⟨ms,md,mr,mg⟩:=m;dsimp only at *
 have HW:Hid (∀W,Below (((w.alloc (.cells #[.pointer (some ⟨g1,0,none⟩),.int .u32 x1,.int .i64 f1] 191)).alloc (.cells #[.pointer (some ⟨g2,0,none⟩),.int .u32 x2,.int .i64 f2] 191)).alloc (.cells #[.int .i64 ms,.int .i64 md,.int .i64 mr,.bool mg] 90)).heap.size (((w.alloc (.cells #[.pointer (some ⟨g1,0,none⟩),.int .u32 x1,.int .i64 f1] 191)).alloc (.cells #[.pointer (some ⟨g2,0,none⟩),.int .u32 x2,.int .i64 f2] 191)).alloc (.cells #[.int .i64 ms,.int .i64 md,.int .i64 mr,.bool mg] 90)) W ->
   Below w.heap.size w W/\w.heap.size+2<W.heap.size/\(W.cell? ⟨w.heap.size+1,0,none⟩=some (.pointer (some ⟨g2,0,none⟩))/\W.cell? ⟨w.heap.size+1,1,none⟩=some (.int .u32 x2)/\W.cell? ⟨w.heap.size+1,2,none⟩=some (.int .i64 f2)) /\
   W.cell? ⟨w.heap.size+2,0,none⟩=some (.int .i64 ms)/\W.cell? ⟨w.heap.size+2,1,none⟩=some (.int .i64 md)/\W.cell? ⟨w.heap.size+2,2,none⟩=some (.int .i64 mr)/\W.cell? ⟨w.heap.size+2,3,none⟩=some (.bool mg)):=fun W hb=>by
  have h5:=((Cells.new (w.alloc (.cells #[.pointer (some ⟨g1,0,none⟩),.int .u32 x1,.int .i64 f1] 191)) 191 [.pointer (some ⟨g2,0,none⟩),.int .u32 x2,.int .i64 f2]).alloc (.cells #[.int .i64 ms,.int .i64 md,.int .i64 mr,.bool mg] 90)).same (hb.block _ (by simp));have h6:=(Cells.new ((w.alloc (.cells #[.pointer (some ⟨g1,0,none⟩),.int .u32 x1,.int .i64 f1] 191)).alloc (.cells #[.pointer (some ⟨g2,0,none⟩),.int .u32 x2,.int .i64 f2] 191)) 90 [.int .i64 ms,.int .i64 md,.int .i64 mr,.bool mg]).same (hb.block _ (by simp));have e1:(w.alloc (.cells #[.pointer (some ⟨g1,0,none⟩),.int .u32 x1,.int .i64 f1] 191)).heap.size=w.heap.size+1:=by simp
  have e2:((w.alloc (.cells #[.pointer (some ⟨g1,0,none⟩),.int .u32 x1,.int .i64 f1] 191)).alloc (.cells #[.pointer (some ⟨g2,0,none⟩),.int .u32 x2,.int .i64 f2] 191)).heap.size=w.heap.size+2:=by simp
  rw[e1] at h5;rw[e2] at h6;exact⟨Q0b (Q0b (Q0b hb)),h6.lt,⟨h5.cell 0 _ rfl,h5.cell 1 _ rfl,h5.cell 2 _ rfl⟩,h6.cell 0 _ rfl,h6.cell 1 _ rfl,h6.cell 2 _ rfl,h6.cell 3 _ rfl⟩
 have k1:=OS _ (HW.out _ (Below.refl _ _)).1;have DA:=Q0a Mi;have LW:=Q0a hCl;have HT:=Q0a hT;clear OS Mi hCl hT;go_enter func97,ntmps97;go_wp2_with fail;refine k1.mono ?_;rintro rv w1⟨rfl,Aq⟩;have BN:Hid (∀o,Below (((w.alloc (.cells #[.pointer (some ⟨g1,0,none⟩),.int .u32 x1,.int .i64 f1] 191)).alloc (.cells #[.pointer (some ⟨g2,0,none⟩),.int .u32 x2,.int .i64 f2] 191)).alloc (.cells #[.int .i64 ms,.int .i64 md,.int .i64 mr,.bool mg] 90)).heap.size (((w.alloc (.cells #[.pointer (some ⟨g1,0,none⟩),.int .u32 x1,.int .i64 f1] 191)).alloc (.cells #[.pointer (some ⟨g2,0,none⟩),.int .u32 x2,.int .i64 f2] 191)).alloc (.cells #[.int .i64 ms,.int .i64 md,.int .i64 mr,.bool mg] 90)) (w1.alloc o)):=fun o=>Aq.alloc Aq.size o
 have h2:=HW.out _ (BN.out (.cells #[.int .u32 ca1,.int .i64 cb1] 72));obtain⟨E3,-,⟨p0,p1,p2⟩,m0,m1,m2,m3⟩:=h2;have k2:=DA.out _ E3;clear Aq k1 E3 DA;go_wp2_with fail;refine k2.mono ?_;rintro rv w2⟨rfl,Ae⟩;have Am:=((BN.out (.cells #[.int .u32 ca1,.int .i64 cb1] 72)).trans (Ae.mono (BN.out (.cells #[.int .u32 ca1,.int .i64 cb1] 72)).size)).alloc ((BN.out (.cells #[.int .u32 ca1,.int .i64 cb1] 72)).trans (Ae.mono (BN.out (.cells #[.int .u32 ca1,.int .i64 cb1] 72)).size)).size (.cells #[.int .u32 ca2,.int .i64 cb2] 72);have JF:=(((Cells.new w1 72 [.int .u32 ca1,.int .i64 cb1]).same (Ae.block _ (by simp))).alloc (.cells #[.int .u32 ca2,.int .i64 cb2] 72))
 clear p0 p1 p2 m0 m1 m2 m3 k2;go_wp2_with fail;generalize MI:(w2.alloc (.cells #[.int .u32 ca2,.int .i64 cb2] 72))=w3 at *
 obtain⟨FY,M6,-,m0,m1,m2,m3⟩:=HW.out _ Am;have kc:=LW.out w3 (w.heap.size+2) FY M6 m0 m1 m3;clear MI m0 m1 m2 m3 LW Ae FY M6 BN;unfold Z3D at kc;refine kc.mono ?_;rintro rv w4⟨rfl,Av⟩;have Ag:Hid (∀n,Below w.heap.size w (w4.drewN n)):=fun n=>(HW.out _ (Q0D (Am.trans (Av.mono Am.size)) n)).1
 obtain⟨-,-,-,m0,m1,m2,m3⟩:=HW.out _ (Am.trans (Av.mono Am.size));have r1:=(JF.same (Av.block _ JF.lt)).cell 1 _ rfl;have Ew:=TR.out w4;have EQ:=TD.out w4;have De:Hid (∀n,Calls prog 106 #[.int .i64 mr] (w4.drewN n) fun e w''=>e=.returned (.bool (decide (0<mr/\mr<=15)))/\∃m,w''=w4.drewN m):=fun n=>(Jk.out _).mono fun e w' h=>⟨h.1,n,h.2.symm⟩
 have Ce:Hid (∀n,Calls prog 96 #[.int .i64 ms] (w4.drewN n) fun e w''=>e=.returned (.bool (decide (ms<128)))/\∃m,w''=w4.drewN m):=fun n=>(FJ.out _).mono fun e w' h=>⟨h.1,n,h.2.symm⟩
 have Cb:Hid (∀n,Calls prog 96 #[.int .i64 md] (w4.drewN n) fun e w''=>e=.returned (.bool (decide (md<128)))/\∃m,w''=w4.drewN m):=fun n=>(LD.out _).mono fun e w' h=>⟨h.1,n,h.2.symm⟩
 clear Am Av JF HW kc TR TD Jk FJ LD;generalize decide (0<=ms/\ms<256)=h1 at *
 generalize decide (0<=md/\md<256)=h2 at *
 generalize decide (0<mr/\mr<=15)=br at *
 generalize decide (ms<128)=c1 at *
 generalize decide (md<128)=c2 at *
 have hT:=HT.out;clear HT;go_wp2_with fail;rcases hT with ⟨rfl,rfl⟩|⟨rfl,rfl,rfl⟩|⟨rfl,rfl,rfl,rfl⟩|⟨rfl,rfl,rfl,rfl,rfl⟩|⟨rfl,rfl,rfl,rfl,rfl,rfl⟩|⟨rfl,rfl,rfl,rfl,rfl,AT,rfl⟩|⟨rfl,rfl,rfl,rfl,rfl,AT,Bk,rfl⟩|⟨rfl,rfl,rfl,rfl,rfl,AT,Bk,rfl,rfl⟩|⟨rfl,rfl,rfl,rfl,rfl,AT,Bk,rfl,rfl,rfl⟩|⟨rfl,rfl,rfl,rfl,rfl,AT,Bk,rfl,rfl,rfl⟩
 ·refine Ew.mono ?_;rintro rv w'⟨rfl,rfl⟩;go_wp2_with fail
  first|exact⟨rfl,Ag.out _⟩|exact⟨rfl,Ag.out 0⟩|(go_ret;first|exact⟨rfl,Ag.out _⟩|exact⟨rfl,Ag.out 0⟩)
 ·refine Ew.mono ?_;rintro rv w'⟨rfl,rfl⟩;go_wp2_with fail;refine EQ.mono ?_;rintro rv w'⟨rfl,rfl⟩;go_wp2_with fail
  first|exact⟨rfl,Ag.out _⟩|exact⟨rfl,Ag.out 0⟩|(go_ret;first|exact⟨rfl,Ag.out _⟩|exact⟨rfl,Ag.out 0⟩)
 ·refine Ew.mono ?_;rintro rv w'⟨rfl,rfl⟩;go_wp2_with fail;refine EQ.mono ?_;rintro rv w'⟨rfl,rfl⟩;go_wp2_with fail
  go_quiet (first|(go_at_call 106;exact De.out _)|(go_at_call 96;exact Ce.out _)|(go_at_call 96;exact Cb.out _))
  go_wp2_with fail
  first|exact⟨rfl,Ag.out _⟩|exact⟨rfl,Ag.out 0⟩|(go_ret;first|exact⟨rfl,Ag.out _⟩|exact⟨rfl,Ag.out 0⟩)
 ·cases c2
  ·refine Ew.mono ?_;rintro rv w'⟨rfl,rfl⟩;go_wp2_with fail;refine EQ.mono ?_;rintro rv w'⟨rfl,rfl⟩;go_wp2_with fail
   go_quiet (first|(go_at_call 106;exact De.out _)|(go_at_call 96;exact Ce.out _)|(go_at_call 96;exact Cb.out _))
   go_wp2_with fail
   first|exact⟨rfl,Ag.out _⟩|exact⟨rfl,Ag.out 0⟩|(go_ret;first|exact⟨rfl,Ag.out _⟩|exact⟨rfl,Ag.out 0⟩)
  ·refine Ew.mono ?_;rintro rv w'⟨rfl,rfl⟩;go_wp2_with fail;refine EQ.mono ?_;rintro rv w'⟨rfl,rfl⟩;go_wp2_with fail
   go_quiet (first|(go_at_call 106;exact De.out _)|(go_at_call 96;exact Ce.out _)|(go_at_call 96;exact Cb.out _))
   go_wp2_with fail
   first|exact⟨rfl,Ag.out _⟩|exact⟨rfl,Ag.out 0⟩|(go_ret;first|exact⟨rfl,Ag.out _⟩|exact⟨rfl,Ag.out 0⟩)
 ·cases c1
  ·refine Ew.mono ?_;rintro rv w'⟨rfl,rfl⟩;go_wp2_with fail;refine EQ.mono ?_;rintro rv w'⟨rfl,rfl⟩;go_wp2_with fail
   go_quiet (first|(go_at_call 106;exact De.out _)|(go_at_call 96;exact Ce.out _)|(go_at_call 96;exact Cb.out _))
   go_wp2_with fail
   first|exact⟨rfl,Ag.out _⟩|exact⟨rfl,Ag.out 0⟩|(go_ret;first|exact⟨rfl,Ag.out _⟩|exact⟨rfl,Ag.out 0⟩)
  ·refine Ew.mono ?_;rintro rv w'⟨rfl,rfl⟩;go_wp2_with fail;refine EQ.mono ?_;rintro rv w'⟨rfl,rfl⟩;go_wp2_with fail
   go_quiet (first|(go_at_call 106;exact De.out _)|(go_at_call 96;exact Ce.out _)|(go_at_call 96;exact Cb.out _))
   go_wp2_with fail
   first|exact⟨rfl,Ag.out _⟩|exact⟨rfl,Ag.out 0⟩|(go_ret;first|exact⟨rfl,Ag.out _⟩|exact⟨rfl,Ag.out 0⟩)
 ·cases c1
  ·refine Ew.mono ?_;rintro rv w'⟨rfl,rfl⟩;go_wp2_with fail;refine EQ.mono ?_;rintro rv w'⟨rfl,rfl⟩;go_wp2_with fail
   go_quiet (first|(go_at_call 106;exact De.out _)|(go_at_call 96;exact Ce.out _)|(go_at_call 96;exact Cb.out _))
   go_wp2_with fail
   first|exact⟨rfl,Ag.out _⟩|exact⟨rfl,Ag.out 0⟩|(go_ret;first|exact⟨rfl,Ag.out _⟩|exact⟨rfl,Ag.out 0⟩)
  ·refine Ew.mono ?_;rintro rv w'⟨rfl,rfl⟩;go_wp2_with fail;refine EQ.mono ?_;rintro rv w'⟨rfl,rfl⟩;go_wp2_with fail
   go_quiet (first|(go_at_call 106;exact De.out _)|(go_at_call 96;exact Ce.out _)|(go_at_call 96;exact Cb.out _))
   go_wp2_with fail
   first|exact⟨rfl,Ag.out _⟩|exact⟨rfl,Ag.out 0⟩|(go_ret;first|exact⟨rfl,Ag.out _⟩|exact⟨rfl,Ag.out 0⟩)
 ·cases c1
  ·refine Ew.mono ?_;rintro rv w'⟨rfl,rfl⟩;go_wp2_with fail;refine EQ.mono ?_;rintro rv w'⟨rfl,rfl⟩;go_wp2_with fail
   go_quiet (first|(go_at_call 106;exact De.out _)|(go_at_call 96;exact Ce.out _)|(go_at_call 96;exact Cb.out _))
   go_wp2_with fail
   first|exact⟨rfl,Ag.out _⟩|exact⟨rfl,Ag.out 0⟩|(go_ret;first|exact⟨rfl,Ag.out _⟩|exact⟨rfl,Ag.out 0⟩)
  ·refine Ew.mono ?_;rintro rv w'⟨rfl,rfl⟩;go_wp2_with fail;refine EQ.mono ?_;rintro rv w'⟨rfl,rfl⟩;go_wp2_with fail
   go_quiet (first|(go_at_call 106;exact De.out _)|(go_at_call 96;exact Ce.out _)|(go_at_call 96;exact Cb.out _))
   go_wp2_with fail
   first|exact⟨rfl,Ag.out _⟩|exact⟨rfl,Ag.out 0⟩|(go_ret;first|exact⟨rfl,Ag.out _⟩|exact⟨rfl,Ag.out 0⟩)
 ·cases c1
  ·refine Ew.mono ?_;rintro rv w'⟨rfl,rfl⟩;go_wp2_with fail;refine EQ.mono ?_;rintro rv w'⟨rfl,rfl⟩;go_wp2_with fail
   go_quiet (first|(go_at_call 106;exact De.out _)|(go_at_call 96;exact Ce.out _)|(go_at_call 96;exact Cb.out _))
   go_wp2_with fail
   first|exact⟨rfl,Ag.out _⟩|exact⟨rfl,Ag.out 0⟩|(go_ret;first|exact⟨rfl,Ag.out _⟩|exact⟨rfl,Ag.out 0⟩)
  ·refine Ew.mono ?_;rintro rv w'⟨rfl,rfl⟩;go_wp2_with fail;refine EQ.mono ?_;rintro rv w'⟨rfl,rfl⟩;go_wp2_with fail
   go_quiet (first|(go_at_call 106;exact De.out _)|(go_at_call 96;exact Ce.out _)|(go_at_call 96;exact Cb.out _))
   go_wp2_with fail
   first|exact⟨rfl,Ag.out _⟩|exact⟨rfl,Ag.out 0⟩|(go_ret;first|exact⟨rfl,Ag.out _⟩|exact⟨rfl,Ag.out 0⟩)
 ·cases c1
  ·refine Ew.mono ?_;rintro rv w'⟨rfl,rfl⟩;go_wp2_with fail;refine EQ.mono ?_;rintro rv w'⟨rfl,rfl⟩;go_wp2_with fail
   go_quiet (first|(go_at_call 106;exact De.out _)|(go_at_call 96;exact Ce.out _)|(go_at_call 96;exact Cb.out _))
   go_wp2_with fail
   first|exact⟨rfl,Ag.out _⟩|exact⟨rfl,Ag.out 0⟩|(go_ret;first|exact⟨rfl,Ag.out _⟩|exact⟨rfl,Ag.out 0⟩)
  ·refine Ew.mono ?_;rintro rv w'⟨rfl,rfl⟩;go_wp2_with fail;refine EQ.mono ?_;rintro rv w'⟨rfl,rfl⟩;go_wp2_with fail
   go_quiet (first|(go_at_call 106;exact De.out _)|(go_at_call 96;exact Ce.out _)|(go_at_call 96;exact Cb.out _))
   go_wp2_with fail
   first|exact⟨rfl,Ag.out _⟩|exact⟨rfl,Ag.out 0⟩|(go_ret;first|exact⟨rfl,Ag.out _⟩|exact⟨rfl,Ag.out 0⟩)
 ·cases c1
  ·refine Ew.mono ?_;rintro rv w'⟨rfl,rfl⟩;go_wp2_with fail;refine EQ.mono ?_;rintro rv w'⟨rfl,rfl⟩;go_wp2_with fail
   go_quiet (first|(go_at_call 106;exact De.out _)|(go_at_call 96;exact Ce.out _)|(go_at_call 96;exact Cb.out _))
   go_wp2_with fail
   first|exact⟨rfl,Ag.out _⟩|exact⟨rfl,Ag.out 0⟩|(go_ret;first|exact⟨rfl,Ag.out _⟩|exact⟨rfl,Ag.out 0⟩)
  ·refine Ew.mono ?_;rintro rv w'⟨rfl,rfl⟩;go_wp2_with fail;refine EQ.mono ?_;rintro rv w'⟨rfl,rfl⟩;go_wp2_with fail
   go_quiet (first|(go_at_call 106;exact De.out _)|(go_at_call 96;exact Ce.out _)|(go_at_call 96;exact Cb.out _))
   go_wp2_with fail
   first|exact⟨rfl,Ag.out _⟩|exact⟨rfl,Ag.out 0⟩|(go_ret;first|exact⟨rfl,Ag.out _⟩|exact⟨rfl,Ag.out 0⟩)
def Z0O(o1 o2:Option Ent)(m:Mv)(cl:Bool):Int:=
 if ¬((0<=m.src/\m.src<256)/\(0<=m.dst/\m.dst<256)) then 2 else
 if ¬((0<m.r/\m.r<=15)/\decide (m.src<128)=decide (m.dst<128)) then 1 else
 match o1 with
 | none=>6
 | some e=>if e.r&&&4=0∨e.r&&&m.r.toNat=0 then 9 else if o2.isSome=true∨cl=true then 7 else 0
theorem Z9m(o1 o2:Option Ent)(m:Mv)(cl:Bool)(cb1:Int)(h:∀e,o1=some e->cb1=(e.r:Int)/\e.r<16) :
  J2y (decide (0<=m.src/\m.src<256)) (decide (0<=m.dst/\m.dst<256)) (decide (0<m.r/\m.r<=15)) (decide (m.src<128)) (decide (m.dst<128)) o1.isSome (bits .and .i64 cb1 4==0) (bits .and .i64 cb1 m.r==0) o2.isSome cl (Z0O o1 o2 m cl):=by
 unfold Z0O;by_cases a:0<=m.src/\m.src<256
 case neg=>rw[if_pos (fun h=>a h.1)];exact .inl ⟨decide_eq_false a,rfl⟩
 by_cases b:0<=m.dst/\m.dst<256
 case neg=>rw[if_pos (fun h=>b h.2)];exact .inr (.inl ⟨decide_eq_true a,decide_eq_false b,rfl⟩)
 rw[if_neg (fun h=>h ⟨a,b⟩)];by_cases c:0<m.r/\m.r<=15
 case neg=>rw[if_pos (fun h=>c h.1)];exact .inr (.inr (.inl ⟨decide_eq_true a,decide_eq_true b,decide_eq_false c,rfl⟩))
 by_cases d:decide (m.src<128)=decide (m.dst<128)
 case neg =>
  rw[if_pos (fun h=>d h.2)];refine .inr (.inr (.inr (.inl ⟨decide_eq_true a,decide_eq_true b,decide_eq_true c,?_,rfl⟩)));cases h1:decide (m.src<128) <;> cases h2:decide (m.dst<128) <;> simp_all
 rw[if_neg (fun h=>h ⟨c,d⟩)];have ha:=decide_eq_true a;have hb:=decide_eq_true b;have hc:=decide_eq_true c;cases ho:o1 with
 | none=>exact .inr (.inr (.inr (.inr (.inl ⟨ha,hb,hc,d,rfl,rfl⟩))))
 | some e =>
  obtain⟨rfl,hr⟩:=h e ho;obtain⟨k,hk⟩:∃k:Nat,m.r=(k:Int):=⟨m.r.toNat,by omega⟩
  have CP:k<16:=by omega
  have e1:bits .and .i64 (e.r:Int) 4=((e.r&&&4:Nat):Int):=Q2t e.r 4 hr (by omega);have e2:bits .and .i64 (e.r:Int) m.r=((e.r&&&k:Nat):Int):=by rw[hk];exact Q2t e.r k hr CP
  have e3:m.r.toNat=k:=by rw[hk];rfl
  rw[e1,e2,e3];dsimp only;by_cases z1:e.r&&&4=0
  ·rw[if_pos (.inl z1)];exact .inr (.inr (.inr (.inr (.inr (.inl ⟨ha,hb,hc,d,rfl,by simp[z1],rfl⟩)))))
  have q1:(((e.r&&&4:Nat):Int)==0)=false:=by simpa using z1
  by_cases z2:e.r&&&k=0
  ·rw[if_pos (.inr z2)];exact .inr (.inr (.inr (.inr (.inr (.inr (.inl ⟨ha,hb,hc,d,rfl,q1,by simp[z2],rfl⟩))))))
  have q2:(((e.r&&&k:Nat):Int)==0)=false:=by simpa using z2
  rw[if_neg (by rintro(h|h);exact z1 h;exact z2 h)];cases h2:o2.isSome with
  | true=>rw[if_pos (.inl rfl)];exact .inr (.inr (.inr (.inr (.inr (.inr (.inr (.inl ⟨ha,hb,hc,d,rfl,q1,q2,rfl,rfl⟩)))))))
  | false =>
   cases cl with
   | true=>rw[if_pos (.inr rfl)];exact .inr (.inr (.inr (.inr (.inr (.inr (.inr (.inr (.inl ⟨ha,hb,hc,d,rfl,q1,q2,rfl,rfl,rfl⟩))))))))
   | false=>rw[if_neg (by simp)];exact .inr (.inr (.inr (.inr (.inr (.inr (.inr (.inr (.inr ⟨ha,hb,hc,d,rfl,q1,q2,rfl,rfl,rfl⟩))))))))
theorem J0j(o:Option Ent):∃a b:Int,capV o=.tuple #[.agg #[.int .u32 a,.int .i64 b],.bool o.isSome]/\∀e,o=some e->b=(e.r:Int):=by
 cases o with
 | none=>exact⟨0,0,rfl,by intro e h;cases h⟩
 | some e=>exact⟨_,_,rfl,by intro e' h;cases h;rfl⟩
theorem Z6J{w:World}{S:CO}{t1 t2:TB}{p1 p2:Pl}{g1 g2:Nat}(T1:TT S t1 p1 g1 w)(T2:TT S t2 p2 g2 w){m:Mv}(l1:∀e,t1.at' m.src=some e->e.Low)(l2:∀e,t2.at' m.dst=some e->e.Low)(x1 x2:Nat)(f1 f2:Int){a0:Option Addr}{len:Nat}{A:Nat->Mv}(hA:IsMv w a0 len A){n:Nat}(cap:Nat)(hn:n<=len)(hm:n<=4611686018427387904) :
  Calls prog 97 #[.agg #[.pointer (some ⟨g1,0,none⟩),.int .u32 x1,.int .i64 f1],.agg #[.pointer (some ⟨g2,0,none⟩),.int .u32 x2,.int .i64 f2],.agg #[.int .i64 m.src,.int .i64 m.dst,.int .i64 m.r,.bool m.g],.slice a0 n cap] w (Told w (.int .i64 (Z0O (t1.at' m.src) (t2.at' m.dst) m (Q1f A n m)))):=by
 obtain⟨ca1,cb1,v1,hr⟩:=J0j (t1.at' m.src);obtain⟨ca2,cb2,v2,_⟩:=J0j (t2.at' m.dst);refine Z3F (s1:=(t1.at' m.src).isSome) (s2:=(t2.at' m.dst).isSome) (cl:=Q1f A n m) (ca1:=ca1) (cb1:=cb1) (ca2:=ca2) (cb2:=cb2) (fun W hb=>?_) (fun W hb=>?_) (fun W b hb Aa h0 h1 h3=>Q8j (hA.below hb) cap hn hm m b Aa h0 h1 h3) (Z9m _ _ m _ cb1 fun e he=>⟨hr e he,(l1 e he).2⟩)
 ·have:=Q1y (T1.grown hb) (x1:Int) f1 m.src l1
  rwa [v1] at this
 ·have:=Q1y (T2.grown hb) (x2:Int) f2 m.dst l2
  rwa [v2] at this
def AsideM(H:HL)(n:Nat)(A:Nat->Mv)(a0:Option Addr)(w:World):Prop:=IsMv w a0 n A/\∀a:Addr,n≠0->a0=some a->a.block∉keys H
theorem AsideM.step{H H':HL}{n:Nat}{A:Nat->Mv}{a0:Option Addr}{w w':World}(h:AsideM H n A a0 w)(st:Step H H' w w'):AsideM H' n A a0 w':=by
 obtain⟨h1,h2⟩:=h;refine⟨fun j hj=>?_,fun a hn ha hk=>?_⟩
 ·obtain⟨g,off,rfl,hg,hc,hw⟩:=h1 j hj;have e:=st.chg.block g hg (h2 ⟨g,off,none⟩ (by omega) rfl);exact⟨g,off,rfl,J3j hg st.chg.size,fun i v hv=>(World.cell?_of_block (w:=w) e).trans (hc i v hv),hw⟩
 ·obtain⟨g,off,he,hg,_,_⟩:=h1 0 (by omega);rw[ha] at he;cases he;rcases st.new _ hk with h'|h'
  ·exact h2 _ hn ha h'
  ·simp at h';omega
theorem FPI.same2{l l':List Pl}{tb tb':Nat->TB}{N:List (En Nd)}(f:FPI l tb N)(he:∀h s,Q0f l' tb' h s=Q0f l tb h s)(hl:∀h s e,Q0f l tb h s=some e->∀q,pget l 1 e.h=some q->∃q',pget l' 1 e.h=some q'/\q'.kind=q.kind):FPI l' tb' N:=by
 have ho:∀n,Q0G l' tb' n=Q0G l tb n:=fun n=>he _ _
 refine⟨fun h s e x=>?_,fun h s e x=>?_,fun n hn=>?_,fun n hn m hm e e' x y=>?_⟩
 ·rw[he] at x;exact Q7k (f.cap h s e x) (hl h s e x)
 ·rw[he] at x;exact f.has h s e x
 ·rw[ho];exact f.is n hn
 ·rw[ho] at x y;exact f.up n hn m hm e e' x y
structure FitM(en:Nat->Nat->Option (Nat×Nat))(x y:Nat)(m:Mv):Prop where
 src:0<=m.src/\m.src<256
 dst:0<=m.dst/\m.dst<256
 r:0<m.r/\m.r<=15
 side:decide (m.src<128)=decide (m.dst<128)
 full:∃c,en x m.src.toNat=some c/\c.2&&&4≠0/\c.2&&&m.r.toNat≠0
 free:en y m.dst.toNat=none
theorem Z9n{l:List Pl}{tb:Nat->TB}{N:List (En Nd)}{x:Nat}{p:Pl}(hp:pget l 1 x=some p)(hk:p.kind=2){z:Int}(hz:0<=z/\z<256):((tb (x%256)).at' z).map Ent.c=(avOf l tb N).en x z.toNat:=by
 unfold TB.at' avOf;rw[if_pos hz];show _=(Q0f l tb x z.toNat).map Ent.c;rw[Q0h hp hk (by omega)]
theorem Z2b{l:List Pl}{tb:Nat->TB}{N:List (En Nd)}{x y:Nat}{p1 p2:Pl}(A3:pget l 1 x=some p1)(A5:p1.kind=2)(Az:pget l 1 y=some p2)(Ax:p2.kind=2){m:Mv}{cl:Bool} :
  Z0O ((tb (x%256)).at' m.src) ((tb (y%256)).at' m.dst) m cl=0↔FitM (avOf l tb N).en x y m/\cl=false:=by
 unfold Z0O;by_cases h1:(0<=m.src/\m.src<256)/\(0<=m.dst/\m.dst<256)
 ·rw[if_neg (fun h=>h h1)];have e1:=Z9n (tb:=tb) (N:=N) A3 A5 h1.1;have e2:=Z9n (tb:=tb) (N:=N) Az Ax h1.2;by_cases h2:(0<m.r/\m.r<=15)/\decide (m.src<128)=decide (m.dst<128)
  ·rw[if_neg (fun h=>h h2)];cases ho:(tb (x%256)).at' m.src with
   | none =>
    rw[ho] at e1;refine⟨fun h=>by simp at h,fun h=>?_⟩;obtain⟨c,hc,_⟩:=h.1.full;rw[<- e1] at hc;cases hc
   | some e =>
    rw[ho] at e1;simp only;by_cases h3:e.r&&&4=0∨e.r&&&m.r.toNat=0
    ·rw[if_pos h3];refine⟨fun h=>by simp at h,fun h=>?_⟩;obtain⟨c,hc,h4,h5⟩:=h.1.full;rw[<- e1] at hc;cases hc;exact absurd h3 (by simp only[Ent.c] at h4 h5;omega)
    ·rw[if_neg h3];cases FW:(tb (y%256)).at' m.dst with
     | some e' =>
      rw[FW] at e2;refine⟨fun h=>by simp at h,fun h=>?_⟩;rw[h.1.free] at e2;cases e2
     | none =>
      rw[FW] at e2;cases cl with
      | true=>exact⟨fun h=>by simp at h,fun h=>absurd h.2 (by simp)⟩
      | false=>exact⟨fun _=>⟨⟨h1.1,h1.2,h2.1,h2.2,⟨_,e1.symm,by simp only[Ent.c];omega,by simp only[Ent.c];omega⟩,e2.symm⟩,rfl⟩,fun _=>by simp⟩
  ·rw[if_pos h2];exact⟨fun h=>by simp at h,fun h=>absurd ⟨h.1.r,h.1.side⟩ h2⟩
 ·rw[if_pos h1];exact⟨fun h=>by simp at h,fun h=>absurd ⟨h.1.src,h.1.dst⟩ h1⟩
def AllFit(en:Nat->Nat->Option (Nat×Nat))(x y n:Nat)(A:Nat->Mv):Prop:=∀i,i<n->FitM en x y (A i)/\Q1f A i (A i)=false
theorem AllFit.dst{en:Nat->Nat->Option (Nat×Nat)}{x y n:Nat}{A:Nat->Mv}(h:AllFit en x y n A){i j:Nat}(hi:i<n)(hj:j<n)(Ac:i≠j):(A i).dst.toNat≠(A j).dst.toNat:=by
 have key:∀{a b:Nat},b<n->a<b->(A a).dst≠(A b).dst:=fun {a b} hb Dx=>by
  have hc:=(h b hb).2;unfold Q1f at hc;have:=J7x.1 hc a (J3x.2 Dx);unfold Mv.clash at this;intro e;simp[e] at this
 have Kr:=(h i hi).1.dst;have Bn:=(h j hj).1.dst;intro e;have e':(A i).dst=(A j).dst:=by omega
 rcases Nat.lt_or_gt_of_ne Ac with hl|hl
 ·exact key hj hl e'
 ·exact key hi hl e'.symm
theorem AllFit.srcs{en:Nat->Nat->Option (Nat×Nat)}{x y n:Nat}{A:Nat->Mv}(h:AllFit en x y n A){i j:Nat}(hi:i<n)(hj:j<n)(Ac:i≠j)(hg:(A i).g=true):(A i).src.toNat≠(A j).src.toNat:=by
 have key:∀{a b:Nat},b<n->a<b->((A a).g=true∨(A b).g=true)->(A a).src≠(A b).src:=fun {a b} hb Dx hor=>by
  have hc:=(h b hb).2;unfold Q1f at hc;have:=J7x.1 hc a (J3x.2 Dx);unfold Mv.clash at this;intro e;rcases hor with h1|h1 <;> simp[e,h1] at this
 have Kr:=(h i hi).1.src;have Bn:=(h j hj).1.src;intro e;have e':(A i).src=(A j).src:=by omega
 rcases Nat.lt_or_gt_of_ne Ac with hl|hl
 ·exact key hj hl (.inl hg) e'
 ·exact key hi hl (.inr hg) e'.symm
structure LaidP(Z:SP)(fr:List Nat)(N K:Nat)(x y:Nat)(own:Int)(A:Nat->Mv)(j k:Nat)(S':CO)(t':TB):Prop where
 ok:S'.Ok fr N K
 tpi:TPI S' (updT Z.tb (y%256) t')
 alt:Alt Z.S S' own
 lf:∀q,q<16->(Z.tb (y%256)).lf q≠0->t'.lf q=(Z.tb (y%256)).lf q
 new:∀i,j<=i->i<k->∃c nd,Z.av.en x (A i).src.toNat=some c/\t'.en (A i).dst.toNat=some ⟨c.1,c.2&&&(A i).r.toNat,nd⟩
 old:∀s,(∀i,j<=i->i<k->s≠(A i).dst.toNat)->t'.en s=(Z.tb (y%256)).en s
theorem Q1c(tb:Nat->TB)(i:Nat):updT tb i (tb i)=tb:=by
 funext j;unfold updT;split
 ·rename_i h;rw[h]
 ·rfl
section
variable {Z:SP} {fr:List Nat} {N K:Nat} {M:Int} {x y n:Nat} {p1 p2:Pl} {A:Nat->Mv}
theorem LaidP.start(ok:Z.Ok fr N K M)(own:Int):LaidP Z fr N K x y own A 0 0 Z.S (Z.tb (y%256)):=
 ⟨ok.core,by rw[Q1c];exact ok.tpi,Alt.refl _ _,fun _ _ _=>rfl,fun i _ h=>by omega,fun _ _=>rfl⟩
theorem LaidP.lf_keep(hy:y%256<256)(hf:(Z.tb (y%256)).Full)(Az:Z.S.l[y%256]?=some p2)(h1:p2.st=1)(h2:p2.kind=2){S1 S2:CO}{t1 t2:TB}{own:Int}(tp:TPI S2 (updT (updT Z.tb (y%256) t1) (y%256) t2))(hl:S2.l=Z.S.l)
  (Ch:∀s,(Z.tb (y%256)).en s≠none->t2.en s≠none) (hlf1:∀q,q<16->(Z.tb (y%256)).lf q≠0->t1.lf q=(Z.tb (y%256)).lf q) (EW:∀k,(updT Z.tb (y%256) t1 (y%256)).lf k=0∨t2.lf k=0∨t2.lf k=(updT Z.tb (y%256) t1 (y%256)).lf k):∀q,q<16->(Z.tb (y%256)).lf q≠0->t2.lf q=(Z.tb (y%256)).lf q:=by
 intro q hq h0;have e1:=hlf1 q hq h0;have h3:=EW q;rw[updT_same,e1] at h3;rcases h3 with h|h|h
 ·exact absurd h h0
 ·exfalso;obtain⟨s,hs,Qn,Ii⟩:=hf q hq h0;have Bj:=tp.tin (y%256) p2 (by rw[hl];exact Az) h1 h2;rw[updT_same] at Bj;exact Ch s Ii (Bj.hole s hs (by rw[Qn];exact h))
 ·exact h
theorem LaidP.lay(ok:Z.Ok fr N K M)(Az:pget Z.S.l 1 y=some p2)(Ax:p2.kind=2)(Af:AllFit Z.av.en x y n A){k:Nat}(Do:k<n){S1 S2:CO}{t1 t2:TB}(L:LaidP Z fr N K x y (p2.fac:Int) A 0 k S1 t1){c:Nat×Nat}(hc:Z.av.en x (A k).src.toNat=some c){nd:Nat}
  (T:TurnP S1 fr N K (updT Z.tb (y%256) t1) (p2.fac:Int) (y%256) (A k).dst.toNat (some ⟨c.1,c.2&&&(A k).r.toNat,nd⟩) S2 t2):LaidP Z fr N K x y (p2.fac:Int) A 0 (k+1) S2 t2:=by
 have BF:∀z,t2.en z=if z=(A k).dst.toNat then some ⟨c.1,c.2&&&(A k).r.toNat,nd⟩ else t1.en z:=fun z=>by rw[T.en z,updT_same]
 have A8:∀i,i<n->(Z.tb (y%256)).en (A i).dst.toNat=none:=fun i hi=>by
  have h:=(Af i hi).1;have:=av_none.1 h.free
  rwa [Q0h Az Ax (by have:=h.dst;omega)] at this
 have Ch:∀s,(Z.tb (y%256)).en s≠none->t2.en s≠none:=fun s hs=>by
  have Nn:∀i,i<n->s≠(A i).dst.toNat:=fun i hi e=>hs (by rw[e];exact A8 i hi)
  rw[BF s,if_neg (Nn k Do),L.old s fun i _ hi=>Nn i (by omega)];exact hs
 have al:=L.alt.trans T.alt;refine⟨T.ok,by have:=T.tpi;rwa [Q0V] at this,al,?_,fun i _ hi=>?_,fun s hs=>?_⟩
 ·exact LaidP.lf_keep (own:=(p2.fac:Int)) (S1:=S1) (J6h _ (by omega)) (ok.tpi.full _ (J6h _ (by omega))) (pget_some.1 Az).1 (pget_some.1 Az).2.2 Ax T.tpi (by rw[al.l]) Ch L.lf T.lf
 ·by_cases e:i=k
  ·subst e;exact⟨c,nd,hc,by rw[BF,if_pos rfl]⟩
  ·obtain⟨c',nd',h1,h2⟩:=L.new i (by omega) (by omega);exact⟨c',nd',h1,by rw[BF,if_neg (Af.dst (by omega) Do e)];exact h2⟩
 ·rw[BF,if_neg (hs k (by omega) (by omega))];exact L.old s fun i h1 h2=>hs i h1 (by omega)
theorem LaidP.bare(ok:Z.Ok fr N K M)(Az:pget Z.S.l 1 y=some p2)(Ax:p2.kind=2)(Af:AllFit Z.av.en x y n A){j k:Nat}(Do:k<=n)(hj:j<k){S1 S2:CO}{t1 t2:TB}(L:LaidP Z fr N K x y (p2.fac:Int) A j k S1 t1)
  (T:TurnP S1 fr N K (updT Z.tb (y%256) t1) (p2.fac:Int) (y%256) (A j).dst.toNat none S2 t2):LaidP Z fr N K x y (p2.fac:Int) A (j+1) k S2 t2:=by
 have BF:∀z,t2.en z=if z=(A j).dst.toNat then none else t1.en z:=fun z=>by rw[T.en z,updT_same]
 have A8:∀i,i<n->(Z.tb (y%256)).en (A i).dst.toNat=none:=fun i hi=>by
  have h:=(Af i hi).1;have:=av_none.1 h.free
  rwa [Q0h Az Ax (by have:=h.dst;omega)] at this
 have Ch:∀s,(Z.tb (y%256)).en s≠none->t2.en s≠none:=fun s hs=>by
  have Nn:∀i,i<n->s≠(A i).dst.toNat:=fun i hi e=>hs (by rw[e];exact A8 i hi)
  rw[BF s,if_neg (Nn j (by omega)),L.old s fun i _ hi=>Nn i (by omega)];exact hs
 have al:=L.alt.trans T.alt;refine⟨T.ok,by have:=T.tpi;rwa [Q0V] at this,al,?_,fun i h1 h2=>?_,fun s hs=>?_⟩
 ·exact LaidP.lf_keep (own:=(p2.fac:Int)) (S1:=S1) (J6h _ (by omega)) (ok.tpi.full _ (J6h _ (by omega))) (pget_some.1 Az).1 (pget_some.1 Az).2.2 Ax T.tpi (by rw[al.l]) Ch L.lf T.lf
 ·obtain⟨c',nd',h3,h4⟩:=L.new i (by omega) h2;exact⟨c',nd',h3,by rw[BF,if_neg (Af.dst (by omega) (by omega) (by omega))];exact h4⟩
 ·rw[BF];by_cases e:s=(A j).dst.toNat
  ·rw[if_pos e,e];exact(A8 j (by omega)).symm
  ·rw[if_neg e];refine L.old s fun i h1 h2=>?_
   by_cases e2:i=j
   ·rw[e2];exact e
   ·exact hs i (by omega) h2
theorem LaidP.tried{j k:Nat}{own:Int}{S1:CO}{t1:TB}(L:LaidP Z fr N K x y own A j k S1 t1){P':PL}(h:Tried S1.P fr S1.l P'):LaidP Z fr N K x y own A j k (S1.setP P') t1:=by
 refine⟨L.ok.tried h,L.tpi.tried L.ok h,L.alt.trans ?_,L.lf,L.new,L.old⟩;exact⟨rfl,rfl,rfl,rfl,rfl,rfl,rfl,rfl,h.same,by show P'.q.next=_;rw[h.q],fun id e he=>⟨e,by show find P'.q.E id=_;rw[h.q];exact he,rfl,fun _=>rfl⟩,by show P'.q.E.map En.id=_;rw[h.q],fun r hr A4 _=>h.mem r hr A4⟩
def BackZ(Z:SP)(fr:List Nat)(N K:Nat)(y:Nat)(own:Int)(w w':World):Prop:=∃S' t',S'.Ok fr N K/\TPI S' (updT Z.tb (y%256) t')/\Alt Z.S S' own/\(∀q,q<16->t'.lf q=(Z.tb (y%256)).lf q)/\(∀s,t'.en s=(Z.tb (y%256)).en s)/\Step Z.hl (Z.setS S' (updT Z.tb (y%256) t')).hl w w'
theorem LaidP.back(ok:Z.Ok fr N K M)(Az:pget Z.S.l 1 y=some p2)(Ax:p2.kind=2){k:Nat}{own:Int}{S1:CO}{t1:TB}(L:LaidP Z fr N K x y own A k k S1 t1){w w':World}(st:Step Z.hl (Z.setS S1 (updT Z.tb (y%256) t1)).hl w w'):BackZ Z fr N K y own w w':=by
 have BF:∀s,t1.en s=(Z.tb (y%256)).en s:=fun s=>L.old s fun i h1 h2=>by omega
 have hi:=(pget_some.1 Az).1;have h1:=(pget_some.1 Az).2.2;refine⟨S1,t1,L.ok,L.tpi,L.alt,fun q hq=>?_,BF,st⟩;by_cases h0:(Z.tb (y%256)).lf q=0
 ·rw[h0];refine Classical.byContradiction fun Ac=>?_
  have FC:=L.tpi.full (y%256) (J6h _ (by omega));rw[updT_same] at FC;obtain⟨s,hs,Qn,Ii⟩:=FC q hq Ac;rw[BF s] at Ii;exact Ii ((ok.tpi.tin (y%256) p2 hi h1 Ax).hole s hs (by rw[Qn];exact h0))
 ·exact L.lf q hq h0
theorem BackZ.ok(ok:Z.Ok fr N K M){own:Int}{w w':World}(h:BackZ Z fr N K y own w w'):∃Z',Z'.Ok fr N K M/\Z'.av=Z.av/\SameZ Z Z'/\Step Z.hl Z'.hl w w':=by
 obtain⟨S',t',h1,h2,h3,h4,h5,h6⟩:=h;have Dh:∀h s,Q0f S'.l (updT Z.tb (y%256) t') h s=Q0f Z.S.l Z.tb h s:=fun h s=>by
  unfold Q0f;rw[h3.l];split
  ·split
   ·by_cases e:h%256=y%256
    ·rw[e,updT_same,h5]
    ·rw[Q0x e]
   ·rfl
  ·rfl
 refine⟨Z.setS S' (updT Z.tb (y%256) t'),⟨h1,h2,?_,ok.fo,ok.next⟩,?_,⟨⟨rfl,h3.alt0,rfl⟩,rfl⟩,h6⟩
 ·refine ok.fpi.same2 Dh fun h s e he q hq=>⟨q,?_,rfl⟩
  show pget S'.l 1 e.h=some q;rw[h3.l];exact hq
 ·show(⟨fun h s=>(Q0f S'.l (updT Z.tb (y%256) t') h s).map Ent.c,Z.F.N⟩:AV)=_;unfold SP.av avOf;congr 1;funext h s;rw[Dh]
end
inductive AddsM (x y:Nat) (A:Nat->Mv) (a0:AV) (nx:Int):Nat->AV->Prop
 | zero:AddsM x y A a0 nx 0 a0
 | succ (k:Nat) (a:AV) (c:Nat×Nat) (b:Nat):AddsM x y A a0 nx k a->a.en x (A k).src.toNat=some c->a.en y (A k).dst.toNat=none ->
   AddsM x y A a0 nx (k+1) ⟨setA a.en y (A k).dst.toNat (some (c.1,c.2&&&(A k).r.toNat)),addN a.N (ownN a.N (x:Int) (A k).src) (nx+k+1) b (y:Int) (A k).dst⟩
inductive Q2j (x:Nat) (A:Nat->Mv) (a0:AV):Nat->AV->Prop
 | zero:Q2j x A a0 0 a0
 | skip (k:Nat) (a:AV):Q2j x A a0 k a->(A k).g=false->Q2j x A a0 (k+1) a
 | lift (k:Nat) (a a':AV):Q2j x A a0 k a->(A k).g=true->Q1H 15 a (ownN a.N (x:Int) (A k).src)=(a',true)->Q2j x A a0 (k+1) a'
def Q9E(Z:SP)(fr:List Nat)(N K:Nat)(M:Int)(x y n:Nat)(A:Nat->Mv)(w w':World):Prop:=∃a Z',AddsM x y A Z.av Z.F.next n a/\Q2j x A a n Z'.av/\Z'.Ok fr N K (M+n)/\SameN Z Z'/\Z'.F.next=Z.F.next+n/\Step Z.hl Z'.hl w w'
structure MvB(Z:SP)(p1 p2:Pl)(g1 x g2 y B1 B2 n:Nat)(A:Nat->Mv)(a0:Option Addr)(W:World):Prop where
 t1:TblZ Z p1 g1 W
 t2:TblZ Z p2 g2 W
 b1:AsideV Z.hl [.pointer (some ⟨g1,0,none⟩),.int .u32 x,.int .i64 (p1.fac:Int)] (some ⟨B1,0,none⟩) W
 b2:AsideV Z.hl [.pointer (some ⟨g2,0,none⟩),.int .u32 y,.int .i64 (p2.fac:Int)] (some ⟨B2,0,none⟩) W
 mv:AsideM Z.hl n A a0 W
theorem MvB.step{Z Z':SP}{p1 p2:Pl}{g1 x g2 y B1 B2 n:Nat}{A:Nat->Mv}{a0:Option Addr}{W W':World}(h:MvB Z p1 p2 g1 x g2 y B1 B2 n A a0 W)(st:Step Z.hl Z'.hl W W')(hp:Z'.S.P.p=Z.S.P.p):MvB Z' p1 p2 g1 x g2 y B1 B2 n A a0 W':=
 ⟨h.t1.step st hp,h.t2.step st hp,h.b1.step st,h.b2.step st,h.mv.step st⟩
def Box3(B g x:Nat)(f:Int)(W:World):Prop:=W.cell? ⟨B,0,none⟩=some (.pointer (some ⟨g,0,none⟩))/\W.cell? ⟨B,1,none⟩=some (.int .u32 x)/\W.cell? ⟨B,2,none⟩=some (.int .i64 f)
def Q1U(g x:Nat)(f:Int):Value:=.agg #[.pointer (some ⟨g,0,none⟩),.int .u32 x,.int .i64 f]
theorem MvB.box{Z:SP}{p1 p2:Pl}{g1 x g2 y B1 B2 n:Nat}{A:Nat->Mv}{a0:Option Addr}{W:World}(h:MvB Z p1 p2 g1 x g2 y B1 B2 n A a0 W):Box3 B1 g1 x (p1.fac:Int) W/\Box3 B2 g2 y (p2.fac:Int) W/\IsMv W a0 n A:=
 ⟨⟨h.b1.at 0 _ rfl,h.b1.at 1 _ rfl,h.b1.at 2 _ rfl⟩,⟨h.b2.at 0 _ rfl,h.b2.at 1 _ rfl,h.b2.at 2 _ rfl⟩,h.mv.1⟩
theorem Q3u{w:World}{H:HL}(hs:Sep w H)(T:TypeId)(cs:List Value):AsideV H cs (some ⟨w.heap.size,0,none⟩) (w.alloc (.cells cs.toArray T)):=fun j v hj =>
 ⟨w.heap.size,rfl,fun hk=>by have:=hs.lt hk;omega,by simp,(Cells.new w T cs).cell j v hj⟩
def mixT(t0 t1:TB)(A:Nat->Mv)(k:Nat):TB:={t1 with en:=fun s=>if (List.range k).any (fun i=>decide (s=(A i).dst.toNat))=true then t1.en s else t0.en s}
theorem Q3d(t0 t1:TB)(A:Nat->Mv)(k s:Nat):((mixT t0 t1 A k).en s=t1.en s/\∃i,i<k/\s=(A i).dst.toNat)∨((mixT t0 t1 A k).en s=t0.en s/\∀i,i<k->s≠(A i).dst.toNat):=by
 unfold mixT;simp only;cases h:(List.range k).any (fun i=>decide (s=(A i).dst.toNat)) with
 | true =>
  obtain⟨i,hi,he⟩:=List.any_eq_true.1 h;exact .inl ⟨by simp,i,J3x.1 hi,by simpa using he⟩
 | false =>
  refine .inr ⟨by simp,fun i hi he=>?_⟩;have:=J7x.1 h i (J3x.2 hi);simp[he] at this
section
variable {Z:SP} {fr:List Nat} {N K:Nat} {M:Int} {x y n:Nat} {p1 p2:Pl} {A:Nat->Mv}
structure SetP(Z:SP)(x y:Nat)(A:Nat->Mv)(t1:TB)(k:Nat)(F':FO):Prop where
 ok:F'.Ok
 f:F'.f=Z.F.f
 nx:F'.next=Z.F.next+k
 fpi:FPI Z.S.l (updT Z.tb (y%256) (mixT (Z.tb (y%256)) t1 A k)) F'.N
 av:AddsM x y A Z.av Z.F.next k (avOf Z.S.l (updT Z.tb (y%256) (mixT (Z.tb (y%256)) t1 A k)) F'.N)
theorem SetP.start(ok:Z.Ok fr N K M)(t1:TB):SetP Z x y A t1 0 Z.F:=by
 have Dh:∀h s,Q0f Z.S.l (updT Z.tb (y%256) (mixT (Z.tb (y%256)) t1 A 0)) h s=Q0f Z.S.l Z.tb h s:=fun h s=>by
  unfold Q0f;split
  ·split
   ·by_cases e:h%256=y%256
    ·rw[e,updT_same];rcases Q3d (Z.tb (y%256)) t1 A 0 s with ⟨_,i,hi,_⟩|⟨h1,_⟩
     ·omega
     ·exact h1
    ·rw[Q0x e]
   ·rfl
  ·rfl
 refine⟨ok.fo,rfl,by omega,ok.fpi.same2 Dh fun h s e he q hq=>⟨q,hq,rfl⟩,?_⟩;have:avOf Z.S.l (updT Z.tb (y%256) (mixT (Z.tb (y%256)) t1 A 0)) Z.F.N=Z.av:=by
  unfold SP.av avOf;congr 1;funext h s;rw[Dh]
 rw[this];exact .zero
theorem SetP.src(Af:AllFit Z.av.en x y n A){t1:TB}{k:Nat}(Do:k<n)(A3:pget Z.S.l 1 x=some p1)(A5:p1.kind=2)(Az:pget Z.S.l 1 y=some p2)(Ax:p2.kind=2){F':FO}(P:SetP Z x y A t1 k F') :
  ∃e0 e,Q0f Z.S.l Z.tb x (A k).src.toNat=some e0/\Q0f Z.S.l (updT Z.tb (y%256) (mixT (Z.tb (y%256)) t1 A k)) x (A k).src.toNat=some e/\e=e0/\Q0f Z.S.l (updT Z.tb (y%256) (mixT (Z.tb (y%256)) t1 A k)) y (A k).dst.toNat=none:=by
 have hf:=(Af k Do).1;obtain⟨c,hc,_⟩:=hf.full;obtain⟨e0,Cu,rfl⟩:=Q8g hc;have BJ:=hf.src;have I1:=hf.dst;refine⟨e0,e0,Cu,?_,rfl,?_⟩
 ·rw[Q0h A3 A5 (by omega)] at Cu ⊢;by_cases e:x%256=y%256
  ·rw[e] at Cu ⊢;rw[updT_same];rcases Q3d (Z.tb (y%256)) t1 A k (A k).src.toNat with ⟨_,i,hi,hs⟩|⟨h1,_⟩
   ·exfalso;have Cw:=av_none.1 (Af i (by omega)).1.free;rw[Q0h Az Ax (by have:=(Af i (by omega)).1.dst;omega),<- hs,Cu] at Cw;cases Cw
   ·rw[h1];exact Cu
  ·rw[Q0x e];exact Cu
 ·have Cw:=av_none.1 hf.free;rw[Q0h Az Ax (by omega)] at Cw ⊢;rw[updT_same];rcases Q3d (Z.tb (y%256)) t1 A k (A k).dst.toNat with ⟨_,i,hi,hs⟩|⟨h1,_⟩
  ·exact absurd hs (Af.dst Do (by omega) (by omega))
  ·rw[h1];exact Cw
theorem Q6H:∀r,r<16->∀m,m<16->(r&&&m)&&&r=r&&&m:=by decide
theorem Q6l:∀r,r<16->∀m,m<16->r&&&m<=15:=by decide
theorem SetP.next(ok:Z.Ok fr N K M)(Af:AllFit Z.av.en x y n A){S1:CO}{t1:TB}{own:Int}(L:LaidP Z fr N K x y own A 0 n S1 t1){k:Nat}(Do:k<n)(A3:pget Z.S.l 1 x=some p1)(A5:p1.kind=2)(Az:pget Z.S.l 1 y=some p2)(Ax:p2.kind=2){F' F2:FO}(P:SetP Z x y A t1 k F')
  (Ad:Z1T F' (ownN F'.N (x:Int) (A k).src) (y:Int) (A k).dst F2):SetP Z x y A t1 (k+1) F2:=by
 obtain⟨e0,e,Cu,he,rfl,Bq⟩:=SetP.src Af Do A3 A5 Az Ax P;have hf:=(Af k Do).1;have BJ:=hf.src;have I1:=hf.dst;have PS:=hf.r;obtain⟨c,hc,Bf,L6⟩:=hf.full;obtain⟨e',AD,Gp⟩:=Q8g hc;rw[Cu] at AD;cases AD;subst Gp;obtain⟨c2,nd,h1,h2⟩:=L.new k (by omega) Do;rw[hc] at h1;cases h1;obtain⟨b,hN⟩:=Ad.N;have Ci:((A k).src.toNat:Int)=(A k).src:=by omega
 have Hc:((A k).dst.toNat:Int)=(A k).dst:=by omega
 have AW:=ok.fpi.cap _ _ _ Cu
 -- the table with one more
 have ht:∀s,(mixT (Z.tb (y%256)) t1 A (k+1)).en s=if s=(A k).dst.toNat then some ⟨e.h,e.r&&&(A k).r.toNat,nd⟩ else(updT Z.tb (y%256) (mixT (Z.tb (y%256)) t1 A k) (y%256)).en s:=fun s=>by
  rw[updT_same];by_cases es:s=(A k).dst.toNat
  ·rw[if_pos es,es];rcases Q3d (Z.tb (y%256)) t1 A (k+1) (A k).dst.toNat with ⟨h3,_⟩|⟨_,h3⟩
   ·rw[h3,h2]
   ·exact absurd rfl (h3 k (by omega))
  ·rw[if_neg es];rcases Q3d (Z.tb (y%256)) t1 A (k+1) s with ⟨h3,i,hi,hs⟩|⟨h3,h4⟩
   ·rcases Q3d (Z.tb (y%256)) t1 A k s with ⟨h5,_⟩|⟨_,h6⟩
    ·rw[h3,h5]
    ·have:i=k:=by
      refine Classical.byContradiction fun Ac=>h6 i (by omega) hs
     rw[this] at hs;exact absurd hs es
   ·rcases Q3d (Z.tb (y%256)) t1 A k s with ⟨_,i,hi,hs⟩|⟨h5,_⟩
    ·exact absurd hs (h4 i (by omega))
    ·rw[h3,h5]
 obtain⟨nn,G0,q1,q2,q3,q4⟩:=P.fpi.own P.ok.n he;rw[Ci] at q2 q3;have Au:e.r<16:=by have:=AW.r;omega
 have Sl:(A k).r.toNat<16:=by omega
 have WD:=Q6l e.r Au (A k).r.toNat Sl;have MZ:=Q6H e.r Au (A k).r.toNat Sl;have Rk:Q6D Z.S.l (A k).dst.toNat ⟨e.h,e.r&&&(A k).r.toNat,nd⟩:=by
  obtain⟨q,hq,M7⟩:=AW.live;refine⟨⟨q,hq,M7.trans ?_⟩,by simp only at L6 ⊢;omega⟩;have Rs:=hf.side;simp only[decide_eq_decide] at Rs
  constructor <;> intro h <;> omega
 have G9:=P.fpi.add (p:=p2) P.ok.n Az Ax (s:=(A k).dst.toNat) (by omega) Bq (t':=mixT (Z.tb (y%256)) t1 A (k+1)) ht Rk (par:=ownN F'.N (x:Int) (A k).src) b
  (.inr ⟨nn,e,by rw[q3];exact q4,by unfold Q0G;rw[q1,q2,J4g];exact he,rfl,MZ⟩)
 rw[Q0V,Hc] at G9;rw[<- hN] at G9;have Dd:=Q6c F'.N F2.N Az Ax (by omega:(A k).dst.toNat<256) ht;rw[Q0V] at Dd;refine⟨Ad.ok,by rw[Ad.f];exact P.f,by rw[Ad.next,P.nx];omega,G9,?_⟩;rw[Dd,hN,P.nx];exact AddsM.succ k _ (e.h,e.r) b P.av (by show(Q0f _ _ _ _).map Ent.c=_;rw[he];rfl) (by show(Q0f _ _ _ _).map Ent.c=_;rw[Bq];rfl)
theorem SetP.done(ok:Z.Ok fr N K M){S1:CO}{t1:TB}{own:Int}(L:LaidP Z fr N K x y own A 0 n S1 t1){F':FO}(P:SetP Z x y A t1 n F') :
  ((Z.setF F').setS S1 (updT Z.tb (y%256) t1)).Ok fr N K (M+n)/\SameN Z ((Z.setF F').setS S1 (updT Z.tb (y%256) t1))/\AddsM x y A Z.av Z.F.next n ((Z.setF F').setS S1 (updT Z.tb (y%256) t1)).av:=by
 have Dh:∀h s,Q0f S1.l (updT Z.tb (y%256) t1) h s=Q0f Z.S.l (updT Z.tb (y%256) (mixT (Z.tb (y%256)) t1 A n)) h s:=fun h s=>by
  unfold Q0f;rw[L.alt.l];split
  ·split
   ·by_cases e:h%256=y%256
    ·rw[e,updT_same,updT_same];rcases Q3d (Z.tb (y%256)) t1 A n s with ⟨h1,_⟩|⟨h1,h2⟩
     ·rw[h1]
     ·rw[h1,L.old s fun i _ hi=>h2 i hi]
    ·rw[Q0x e,Q0x e]
   ·rfl
  ·rfl
 have Dd:((Z.setF F').setS S1 (updT Z.tb (y%256) t1)).av=avOf Z.S.l (updT Z.tb (y%256) (mixT (Z.tb (y%256)) t1 A n)) F'.N:=by
  show(⟨fun h s=>(Q0f S1.l (updT Z.tb (y%256) t1) h s).map Ent.c,F'.N⟩:AV)=_;unfold avOf;congr 1;funext h s;rw[Dh]
 refine⟨⟨L.ok,L.tpi,?_,P.ok,by show F'.next<=_;rw[P.nx];have:=ok.next;omega⟩,⟨rfl,L.alt.alt0,P.f⟩,by rw[Dd];exact P.av⟩;exact P.fpi.same2 Dh fun h s e he q hq=>⟨q,by show pget S1.l 1 e.h=_;rw[L.alt.l];exact hq,rfl⟩
theorem LaidP.src(A3:pget Z.S.l 1 x=some p1)(A5:p1.kind=2)(Az:pget Z.S.l 1 y=some p2)(Ax:p2.kind=2)(Af:AllFit Z.av.en x y n A){j k:Nat}(Do:k<=n){own:Int}{S1:CO}{t1:TB}(L:LaidP Z fr N K x y own A j k S1 t1){i:Nat}(hi:i<n) :
  ∃e,Q0f Z.S.l Z.tb x (A i).src.toNat=some e/\(updT Z.tb (y%256) t1 (x%256)).en (A i).src.toNat=some e/\(updT Z.tb (y%256) t1 (x%256)).at' (A i).src=some e/\Z.av.en x (A i).src.toNat=some (e.h,e.r):=by
 have hf:=(Af i hi).1;have BJ:=hf.src;obtain⟨c,hc,_⟩:=hf.full;obtain⟨e,he,rfl⟩:=Q8g hc;have h2:(updT Z.tb (y%256) t1 (x%256)).en (A i).src.toNat=some e:=by
  have AD:=he;rw[Q0h A3 A5 (by omega)] at AD;by_cases exy:x%256=y%256
  ·rw[exy] at AD ⊢;rw[updT_same,L.old _ fun q h1 h2 e2=>?_]
   ·exact AD
   ·have Cw:=av_none.1 (Af q (by omega)).1.free;rw[Q0h Az Ax (by have:=(Af q (by omega)).1.dst;omega),<- e2,AD] at Cw;cases Cw
  ·rw[Q0x exy];exact AD
 refine⟨e,he,h2,?_,hc⟩;unfold TB.at';rw[if_pos BJ];exact h2
end
structure J2z(s g1 x g2 y:Nat)(f1 f2:Int)(B1 B2:Nat)(a0:Option Addr)(n cap:Nat)(A:Nat->Mv)(V:Nat->Int)(R:Nat->World->Prop)(B:Int->Nat->Nat->World->Prop)(Q:Int->World->Prop):Prop where
 held:∀k W,R k W->Box3 B1 g1 x f1 W/\Box3 B2 g2 y f2 W/\IsMv W a0 n A
 heldB:∀er k j W,B er k j W->Box3 B1 g1 x f1 W/\Box3 B2 g2 y f2 W/\IsMv W a0 n A
 rel:∀k W W',R k W->Below W.heap.size W W'->R k W'
 relB:∀er k j W W',B er k j W->Below W.heap.size W W'->B er k j W'
 fits:∀i W,i<n->R 0 W->Calls prog 97 #[Q1U g1 x f1,Q1U g2 y f2,(A i).agg,.slice a0 i cap] W (Told W (.int .i64 (V i)))
 bad:∀i W,i<n->R 0 W->V i≠0->(∀j,j<i->V j=0)->Q (V i) W
 capK:∀k W,(∀j,j<n->V j=0)->k<n->R k W->∃a b:Int,∃c:Bool,Calls prog 93 #[Q1U g1 x f1,.int .i64 (A k).src] W (Told W (.tuple #[.agg #[.int .u32 a,.int .i64 b],.bool c])) /\
  ∀W',R k W'->Calls prog 98 #[.pointer (some ⟨s,0,none⟩),Q1U g2 y f2,.int .i64 (A k).dst,.agg #[.int .u32 a,.int .i64 (bits .and .i64 b (A k).r)]] W' fun rv w5=>∃er:Int,rv=.returned (.int .i64 er)/\((er=0/\R (k+1) w5)∨(er≠0/\B er k 0 w5))
 bare:∀er k j W,j<k->B er k j W->Calls prog 99 #[.pointer (some ⟨s,0,none⟩),Q1U g2 y f2,.int .i64 (A j).dst] W fun rv w'=>rv=.returned (.tuple #[])/\B er k (j+1) w'
 back:∀er k W,B er k k W->Q er W
 settle:∀W,(∀j,j<n->V j=0)->R n W->Calls prog 100 #[.pointer (some ⟨s,0,none⟩),Q1U g1 x f1,Q1U g2 y f2,.slice a0 n cap] W fun rv w'=>rv=.returned (.tuple #[])/\Q 0 w'
theorem Q6m{w:World}{s x y:Nat}{v:Value}{e:Int}(he:e≠0)(hS:Calls prog 90 #[.pointer (some ⟨s,0,none⟩),.int .u32 x] w (Told w (.tuple #[.agg #[.pointer none,.int .u32 0,.int .i64 0],.int .i64 e]))) :
  Calls prog 39 #[.pointer (some ⟨s,0,none⟩),.int .u32 x,.int .u32 y,v] w (Told w (.int .i64 e)):=by
 have Ib:(e != 0)=true:=by simpa using he
 have HB:Hid (∀w1,Below w.heap.size w w1->∀o,Below w.heap.size w (w1.alloc o)):=fun w1 hb o=>hb.alloc hb.size o
 go_enter func39,ntmps39;go_wp2_with fail;refine hS.mono ?_;rintro rv w1⟨rfl,hb⟩;have HW:=Q0a (HB.out w1 hb);clear hb HB hS;go_wp2_with fail
 (try go_ret);exact⟨rfl,HW.out _⟩
theorem Q6n{w:World}{s x y g:Nat}{v:Value}{e f:Int}(he:e≠0)(hS:Calls prog 90 #[.pointer (some ⟨s,0,none⟩),.int .u32 x] w fun r w'=>∃g:Nat,r=.returned (.tuple #[.agg #[.pointer (some ⟨g,0,none⟩),.int .u32 x,.int .i64 f],.int .i64 0])/\Below w.heap.size w w')
  (hT:∀W,Below w.heap.size w W->Calls prog 90 #[.pointer (some ⟨s,0,none⟩),.int .u32 y] W (Told W (.tuple #[.agg #[.pointer none,.int .u32 0,.int .i64 0],.int .i64 e]))) :
  Calls prog 39 #[.pointer (some ⟨s,0,none⟩),.int .u32 x,.int .u32 y,v] w (Told w (.int .i64 e)):=by
 have Ib:(e != 0)=true:=by simpa using he
 have HB:Hid (∀w1,Below w.heap.size w w1->∀o,Below w.heap.size w (w1.alloc o)):=fun w1 hb o=>hb.alloc hb.size o
 have HT:=Q0a hT;clear hT;go_enter func39,ntmps39;go_wp2_with fail;refine hS.mono ?_;rintro rv w1⟨g',rfl,hb⟩;have kt:=HT.out _ (HB.out w1 hb (.cells #[.pointer (some ⟨g',0,none⟩),.int .u32 x,.int .i64 f] 191));have OE:=Q0a (HB.out w1 hb (.cells #[.pointer (some ⟨g',0,none⟩),.int .u32 x,.int .i64 f] 191));clear hb hS HT;go_wp2_with fail;refine kt.mono ?_;rintro rv w2⟨rfl,Ae⟩;have HW:=Q0a (HB.out w2 (OE.out.trans (Ae.mono OE.out.size)));clear Ae HB kt;go_wp2_with fail
 (try go_ret);exact⟨rfl,HW.out _⟩
end Go.Proofs.YtfidemmgofcnmaaGreatDoor

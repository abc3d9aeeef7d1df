/- SpaceFails returns true at every input. No condition. Part of its proof. -/
import Derived.Test.YtfidemmgofcnmaaGreatDoorSf21
set_option maxHeartbeats 8000000
set_option maxRecDepth 100000
set_option linter.unusedVariables false
namespace Go.Proofs.YtfidemmgofcnmaaGreatDoor
open Go.RowKit Go.Proofs.Tryz
theorem Z3O{w:World}{s x y:Nat}{a0:Option Addr}{n cap:Nat}{A:Nat->Mv}{V:Nat->Int}{Q:Int->World->Prop}(hm:n<=4611686018427387904)(A4:n<=cap)
  (h:Calls prog 90 #[.pointer (some ⟨s,0,none⟩),.int .u32 x] w fun rv w1=>∃(g1:Nat) (f1:Int),rv=.returned (.tuple #[.agg #[.pointer (some ⟨g1,0,none⟩),.int .u32 x,.int .i64 f1],.int .i64 0]) /\
   Calls prog 90 #[.pointer (some ⟨s,0,none⟩),.int .u32 y] (w1.alloc (.cells #[.pointer (some ⟨g1,0,none⟩),.int .u32 x,.int .i64 f1] 191)) fun rv w2=>∃(g2:Nat) (f2:Int),rv=.returned (.tuple #[.agg #[.pointer (some ⟨g2,0,none⟩),.int .u32 y,.int .i64 f2],.int .i64 0]) /\
    ∃R B,J2o s g1 x g2 y f1 f2 w1.heap.size w2.heap.size a0 n cap A V R B Q/\R 0 (w2.alloc (.cells #[.pointer (some ⟨g2,0,none⟩),.int .u32 y,.int .i64 f2] 191))) :
  Calls prog 39 #[.pointer (some ⟨s,0,none⟩),.int .u32 x,.int .u32 y,.slice a0 n cap] w fun rv w'=>∃er:Int,rv=.returned (.int .i64 er)/\Q er w':=by
 go_enter func39,ntmps39;go_wp2_with fail;refine h.mono ?_;clear h;rintro rv w1⟨g1,f1,rfl,h⟩;go_wp2_with fail;refine h.mono ?_;clear h;rintro rv w2⟨g2,f2,rfl,R,B,hM,hR⟩;have HM:=Q0a hM;have HR:=Q0a hR;clear hM hR;generalize hB1:w1.heap.size=B1 at *
 generalize Ji:w2.heap.size=B2 at *
 go_wp2_with fail
 go_loopw [42] (fun iv wr=>∃k:Nat,k<=n/\iv=.int .i64 k/\(∀j,j<k->V j=0)/\R 0 wr) (fun iv _=>n-(intOf iv).toNat)
 case atStart=>exact⟨0,J5e _,rfl,by intro j hj;omega,HR.out⟩
 case round =>
  obtain⟨k,hk,rfl,A3,hr⟩:=hrel;have Hp:=Q0a A3;have EB:=Q0a hr;clear A3 hr HR;by_cases Ab:k<n
  ·obtain⟨⟨p0,p1,p2⟩,⟨o0,o1,o2⟩,B5⟩:=HM.out.held 0 _ EB.out;obtain⟨g,off,rfl,_,hc,_⟩:=B5 k Ab;have c0:wr.cell? ⟨g,off+k*4,none⟩=some (.int .i64 (A k).src):=hc 0 _ rfl;have c1:wr.cell? ⟨g,off+k*4+1,none⟩=some (.int .i64 (A k).dst):=hc 1 _ rfl;have c2:wr.cell? ⟨g,off+k*4+2,none⟩=some (.int .i64 (A k).r):=hc 2 _ rfl;have c3:wr.cell? ⟨g,off+k*4+3,none⟩=some (.bool (A k).g):=hc 3 _ rfl;clear hc B5 p0 p1 p2 o0 o1 o2;go_wp2_with fail;have HS:Hid (∀W,Below (wr.alloc (.cells #[.int .i64 (A k).src,.int .i64 (A k).dst,.int .i64 (A k).r,.bool (A k).g] 90)).heap.size (wr.alloc (.cells #[.int .i64 (A k).src,.int .i64 (A k).dst,.int .i64 (A k).r,.bool (A k).g] 90)) W->R 0 W/\(W.cell? ⟨B1,0,none⟩=some (.pointer (some ⟨g1,0,none⟩))/\W.cell? ⟨B1,1,none⟩=some (.int .u32 x)/\W.cell? ⟨B1,2,none⟩=some (.int .i64 f1)/\W.cell? ⟨B2,0,none⟩=some (.pointer (some ⟨g2,0,none⟩))/\W.cell? ⟨B2,1,none⟩=some (.int .u32 y)/\W.cell? ⟨B2,2,none⟩=some (.int .i64 f2)/\W.cell? ⟨wr.heap.size,0,none⟩=some (.int .i64 (A k).src)/\W.cell? ⟨wr.heap.size,1,none⟩=some (.int .i64 (A k).dst)/\W.cell? ⟨wr.heap.size,2,none⟩=some (.int .i64 (A k).r)/\W.cell? ⟨wr.heap.size,3,none⟩=some (.bool (A k).g))):=fun W hb=>by
    have hr:=HM.out.rel 0 _ _ EB.out (Q0e hb);obtain⟨⟨p0,p1,p2⟩,⟨o0,o1,o2⟩,_⟩:=HM.out.held 0 _ hr;have hc:=(Cells.new wr 90 [.int .i64 (A k).src,.int .i64 (A k).dst,.int .i64 (A k).r,.bool (A k).g]).same (hb.block _ (by simp));exact⟨hr,p0,p1,p2,o0,o1,o2,hc.cell 0 _ rfl,hc.cell 1 _ rfl,hc.cell 2 _ rfl,hc.cell 3 _ rfl⟩
   have hD:=HS.out _ (Below.refl _ _).drew;have kf:=HM.out.fits k _ Ab hD.1;have hE:=(HS.out _ (Below.refl _ _)).2;have hF:=hD.2;unfold Q2m Mv.agg at kf;have Bz:(0:Int)<=(k:Int):=by omega
   have A0:(k:Int)<=(cap:Int):=by omega
   have A2:(k:Int)<=(n:Int):=by omega
   clear hD c0 c1 c2 c3
   go_region_held3 (fun W=>W.cell? ⟨B1,0,none⟩=some (.pointer (some ⟨g1,0,none⟩))/\W.cell? ⟨B1,1,none⟩=some (.int .u32 x)/\W.cell? ⟨B1,2,none⟩=some (.int .i64 f1)/\W.cell? ⟨B2,0,none⟩=some (.pointer (some ⟨g2,0,none⟩))/\W.cell? ⟨B2,1,none⟩=some (.int .u32 y)/\W.cell? ⟨B2,2,none⟩=some (.int .i64 f2)/\W.cell? ⟨wr.heap.size,0,none⟩=some (.int .i64 (A k).src)/\W.cell? ⟨wr.heap.size,1,none⟩=some (.int .i64 (A k).dst)/\W.cell? ⟨wr.heap.size,2,none⟩=some (.int .i64 (A k).r)/\W.cell? ⟨wr.heap.size,3,none⟩=some (.bool (A k).g)) (first|exact hE|exact hF|exact hG)
    (first|(go_at_call 97;refine kf.mono ?_;rintro rv w3⟨rfl,Ar⟩;have hH:=HS.out w3 ((Below.refl _ _).drew.trans (Ar.mono (J3b _)));have Rr:=Q0a hH.1;have hG:=hH.2;clear hH Ar))
   clear hE hF hG HS kf;by_cases hv:V k=0
   ·have HV:=Q0a hv;have Iz:(V k != 0)=false:=by simp[hv]
    have VA:Hid (∀j,j<k+1->V j=0):=fun j hj=>by
     by_cases e:j=k
     ·rw[e];exact hv
     ·exact Hp.out j (by omega)
    clear hv;generalize V k=e at *
    obtain rfl:e=0:=HV.out;go_wp2_with fail;go_roundw
    case rel =>
     exact⟨k+1,by omega,by go_num,VA.out,Rr.out⟩
    case measure=>simp[intOf];omega
   ·have Iz:(V k != 0)=true:=by simp[hv]
    have HX:=Q0a (HM.out.bad k _ Ab Rr.out hv Hp.out);generalize V k=e at *
    go_wp2_with fail
    (try go_ret);exact⟨_,rfl,HX.out⟩
  ·obtain rfl:k=n:=by omega
   have HR:=Q0a EB.out;clear EB;go_wp2_with fail
   go_loopw [60] (fun iv wr=>∃i:Nat,i<=k/\iv=.int .i64 i/\R i wr) (fun iv _=>k-(intOf iv).toNat)
   case atStart=>exact⟨0,J5e _,rfl,HR.out⟩
   case round =>
    obtain⟨i,hi,rfl,hr⟩:=hrel;have EB:=Q0a hr;clear hr HR;by_cases Ab:i<k
    ·obtain⟨⟨p0,p1,p2⟩,⟨o0,o1,o2⟩,B5⟩:=HM.out.held i _ EB.out;obtain⟨g,off,rfl,_,hc,_⟩:=B5 i Ab;have c0:wr.cell? ⟨g,off+i*4,none⟩=some (.int .i64 (A i).src):=hc 0 _ rfl;have c1:wr.cell? ⟨g,off+i*4+1,none⟩=some (.int .i64 (A i).dst):=hc 1 _ rfl;have c2:wr.cell? ⟨g,off+i*4+2,none⟩=some (.int .i64 (A i).r):=hc 2 _ rfl;have c3:wr.cell? ⟨g,off+i*4+3,none⟩=some (.bool (A i).g):=hc 3 _ rfl;clear hc B5 p0 p1 p2 o0 o1 o2;have HS:Hid (∀W,Below (wr.alloc (.cells #[.int .i64 (A i).src,.int .i64 (A i).dst,.int .i64 (A i).r,.bool (A i).g] 90)).heap.size (wr.alloc (.cells #[.int .i64 (A i).src,.int .i64 (A i).dst,.int .i64 (A i).r,.bool (A i).g] 90)) W->R i W/\(W.cell? ⟨B1,0,none⟩=some (.pointer (some ⟨g1,0,none⟩))/\W.cell? ⟨B1,1,none⟩=some (.int .u32 x)/\W.cell? ⟨B1,2,none⟩=some (.int .i64 f1)/\W.cell? ⟨B2,0,none⟩=some (.pointer (some ⟨g2,0,none⟩))/\W.cell? ⟨B2,1,none⟩=some (.int .u32 y)/\W.cell? ⟨B2,2,none⟩=some (.int .i64 f2)/\W.cell? ⟨wr.heap.size,0,none⟩=some (.int .i64 (A i).src)/\W.cell? ⟨wr.heap.size,1,none⟩=some (.int .i64 (A i).dst)/\W.cell? ⟨wr.heap.size,2,none⟩=some (.int .i64 (A i).r)/\W.cell? ⟨wr.heap.size,3,none⟩=some (.bool (A i).g))):=fun W hb=>by
      have hr:=HM.out.rel i _ _ EB.out (Q0e hb);obtain⟨⟨p0,p1,p2⟩,⟨o0,o1,o2⟩,_⟩:=HM.out.held i _ hr;have hc:=(Cells.new wr 90 [.int .i64 (A i).src,.int .i64 (A i).dst,.int .i64 (A i).r,.bool (A i).g]).same (hb.block _ (by simp));exact⟨hr,p0,p1,p2,o0,o1,o2,hc.cell 0 _ rfl,hc.cell 1 _ rfl,hc.cell 2 _ rfl,hc.cell 3 _ rfl⟩
     obtain⟨Kb,p0,p1,p2,o0,o1,o2,m0,m1,m2,m3⟩:=HS.out _ (Below.refl _ _);obtain⟨ca,cb,cs,kc,Lw⟩:=HM.out.capK i _ Hp.out Ab Kb;have Lt:=Q0a Lw;clear Lw Kb;unfold Q2m at kc;go_wp2_with fail;refine kc.mono ?_;rintro rv w3⟨rfl,Ar⟩;have FB:=Q0a Ar;clear kc Ar p0 p1 p2 o0 o1 o2 m0 m1 m2 m3;obtain⟨V0,-,-,-,-,-,-,-,-,m2,-⟩:=HS.out (w3.alloc (.cells #[.int .u32 ca,.int .i64 cb] 72)) (FB.out.alloc FB.out.size _);clear V0;obtain⟨Lc,p0,p1,p2,o0,o1,o2,m0,m1,m2',m3⟩:=HS.out (w3.alloc (.cells #[.int .u32 ca,.int .i64 (bits .and .i64 cb (A i).r)] 72)) (FB.out.alloc FB.out.size _);have kl:=Lt.out _ Lc
     unfold Q2m at kl;clear Lc Lt;go_wp2_with fail;refine kl.mono ?_;clear kl p0 p1 p2 o0 o1 o2 m0 m1 m2 m2' m3 HS FB;rintro rv w5⟨er,rfl,⟨rfl,Hb⟩|⟨Aa,AD⟩⟩
     ·have KH:=Q0a Hb;clear Hb;go_wp2_with fail;go_roundw
      case rel=>exact⟨i+1,by omega,by go_num,KH.out⟩
      case measure=>simp[intOf];omega
     ·have B0:(er != 0)=true:=by simp[Aa]
      have FS:=Q0a AD;have BJ:(0:Int)<=(i:Int):=by omega
      have Gq:(i:Int)<=(cap:Int):=by omega
      have D8:(i:Int)<=(k:Int):=by omega
      clear AD c0 c1 c2 c3;go_wp2_with fail
      go_loopg [90] i (fun gk iv wl=>∃j:Nat,iv=.int .i64 j/\j+gk=i/\B er i j wl)
      case atStart=>exact⟨0,rfl,by omega,FS.out⟩
      case round =>
       obtain⟨j,rfl,Iy,QL⟩:=hrel;have SJ:=Q0a Iy;have MP:=Q0a QL;clear Iy QL FS;by_cases Qn:j<i
       ·obtain⟨⟨p0,p1,p2⟩,⟨o0,o1,o2⟩,B5⟩:=HM.out.heldB er i j _ MP.out;obtain⟨g',off',GI,_,hc,_⟩:=B5 j (by omega);cases GI;have c0:wr.cell? ⟨g,off+j*4,none⟩=some (.int .i64 (A j).src):=hc 0 _ rfl;have c1:wr.cell? ⟨g,off+j*4+1,none⟩=some (.int .i64 (A j).dst):=hc 1 _ rfl;have c2:wr.cell? ⟨g,off+j*4+2,none⟩=some (.int .i64 (A j).r):=hc 2 _ rfl;have c3:wr.cell? ⟨g,off+j*4+3,none⟩=some (.bool (A j).g):=hc 3 _ rfl;have CE:=Q0a (HM.out.relB er i j _ _ MP.out ((Below.refl wr.heap.size wr).alloc (J3b _) (.cells #[.int .i64 (A j).src,.int .i64 (A j).dst,.int .i64 (A j).r,.bool (A j).g] 90)));have kb:=HM.out.bare er i j _ Qn CE.out
        unfold Q2m at kb;clear hc B5 p0 p1 p2 o0 o1 o2;obtain⟨-,⟨o0,o1,o2⟩,-⟩:=HM.out.heldB er i j _ CE.out;go_wp2_with fail;refine kb.mono ?_;rintro rv w7⟨rfl,GX⟩;have Lj:=Q0a GX;clear GX kb c0 c1 c2 c3 o0 o1 o2 CE MP;go_wp2_with fail;go_roundg (i-(j+1))
        case measure=>have:=SJ.out;omega
        case rel=>exact⟨j+1,by go_num,by omega,Lj.out⟩
       ·obtain rfl:j=i:=by have:=SJ.out;omega
        have HX:=Q0a (HM.out.back er j _ MP.out);clear MP;go_wp2_with fail
        (try go_ret);exact⟨_,rfl,HX.out⟩
    ·obtain rfl:i=k:=by omega
     obtain⟨⟨p0,p1,p2⟩,⟨o0,o1,o2⟩,B5⟩:=HM.out.held i _ EB.out;have ks:=HM.out.settle _ Hp.out EB.out;unfold Q2m at ks;clear B5;go_wp2_with fail;refine ks.mono ?_;rintro rv w7⟨rfl,hq⟩;have HX:=Q0a hq;clear hq ks p0 p1 p2 o0 o1 o2 EB;go_wp2_with fail
     (try go_ret);exact⟨_,rfl,HX.out⟩
structure SetW(s g1 x g2 y:Nat)(f1 f2:Int)(F B1 B2:Nat)(a0:Option Addr)(n:Nat)(A:Nat->Mv)(R1 R2 RL:Nat->World->Prop)(Q:World->Prop):Prop where
 held1:∀k W,R1 k W->Box3 B1 g1 x f1 W/\Box3 B2 g2 y f2 W/\IsMv W a0 n A/\W.cell? ⟨s,1,none⟩=some (.pointer (some ⟨F,0,none⟩))
 rel1:∀k W W',R1 k W->Below W.heap.size W W'->R1 k W'
 node1:∀k W,k<n->R1 k W->∃id:Int,(∀W',Below W.heap.size W W'->Calls prog 156 #[.pointer (some ⟨s,0,none⟩),Q2m g1 x f1,.int .i64 (A k).src] W' (Told W' (.int .i64 id))) /\
  ∀W',Below W.heap.size W W'->Calls prog 105 #[.pointer (some ⟨F,0,none⟩),.int .i64 id,.int .i64 y,.int .i64 (A k).dst] W' fun rv w5=>(∃a b:Value,rv=.returned (.tuple #[a,b]))/\(∀b,W.heap.size<=b->b<W'.heap.size->w5.heap[b]?=W'.heap[b]?)/\R1 (k+1) w5
 mid:∀W,R1 n W->R2 0 W
 held2:∀k W,R2 k W->Box3 B1 g1 x f1 W/\Box3 B2 g2 y f2 W/\IsMv W a0 n A/\W.cell? ⟨s,1,none⟩=some (.pointer (some ⟨F,0,none⟩))
 rel2:∀k W W',R2 k W->Below W.heap.size W W'->R2 k W'
 skip:∀k W,k<n->(A k).g=false->R2 k W->R2 (k+1) W
 node2:∀k W,k<n->(A k).g=true->R2 k W->∃id:Int,(∀W',Below W.heap.size W W'->Calls prog 156 #[.pointer (some ⟨s,0,none⟩),Q2m g1 x f1,.int .i64 (A k).src] W' (Told W' (.int .i64 id))) /\
  ∀W',Below W.heap.size W W'->Calls prog 174 #[.pointer (some ⟨F,0,none⟩),.int .i64 id] W' fun rv w5=>(∃v,rv=.returned v)/\(∀b,W.heap.size<=b->b<W'.heap.size->w5.heap[b]?=W'.heap[b]?)/\RL k w5
 heldL:∀k W,RL k W->Box3 B1 g1 x f1 W/\Box3 B2 g2 y f2 W/\IsMv W a0 n A/\W.cell? ⟨s,1,none⟩=some (.pointer (some ⟨F,0,none⟩))
 relL:∀k W W',RL k W->Below W.heap.size W W'->RL k W'
 bare:∀k W,k<n->RL k W->Calls prog 99 #[.pointer (some ⟨s,0,none⟩),Q2m g1 x f1,.int .i64 (A k).src] W fun rv w5=>rv=.returned (.tuple #[])/\R2 (k+1) w5
 last:∀W,R2 n W->Q W
theorem Q9S{w:World}{s g1 x g2 y:Nat}{f1 f2:Int}{F:Nat}{a0:Option Addr}{n cap:Nat}{A:Nat->Mv}{R1 R2 RL:Nat->World->Prop}{Q:World->Prop}
  (hW:SetW s g1 x g2 y f1 f2 F w.heap.size (w.heap.size+1) a0 n A R1 R2 RL Q) (hm:n<=4611686018427387904) (hy:y<4294967296)
  (h0:R1 0 ((w.alloc (.cells #[.pointer (some ⟨g1,0,none⟩),.int .u32 x,.int .i64 f1] 191)).alloc (.cells #[.pointer (some ⟨g2,0,none⟩),.int .u32 y,.int .i64 f2] 191))) :
  Calls prog 100 #[.pointer (some ⟨s,0,none⟩),Q2m g1 x f1,Q2m g2 y f2,.slice a0 n cap] w fun rv w'=>rv=.returned (.tuple #[])/\Q w':=by
 have HW:=Q0a hW;have HR:=Q0a h0;clear hW h0;unfold Q2m;go_enter func100,ntmps100;go_wp2_with fail;generalize hB1:w.heap.size=B1 at *
 have M7:IntKind.i64.wrap (y:Int)=(y:Int):=Go.IntWalk.i64_in _ (by omega)
 go_loopg [14] n (fun gk iv wl=>∃k:Nat,iv=.int .i64 k/\k+gk=n/\R1 k wl)
 case atStart=>exact⟨0,rfl,by omega,HR.out⟩
 case round =>
  obtain⟨k,rfl,AC,hr⟩:=hrel;have Cg:=Q0a AC;have EB:=Q0a hr;clear AC hr HR;by_cases Ab:k<n
  ·obtain⟨⟨p0,p1,p2⟩,⟨o0,o1,o2⟩,B5,C5⟩:=HW.out.held1 k _ EB.out;obtain⟨g,off,rfl,_,hc,_⟩:=B5 k Ab;have c0:wr.cell? ⟨g,off+k*4,none⟩=some (.int .i64 (A k).src):=hc 0 _ rfl;have c1:wr.cell? ⟨g,off+k*4+1,none⟩=some (.int .i64 (A k).dst):=hc 1 _ rfl;have c2:wr.cell? ⟨g,off+k*4+2,none⟩=some (.int .i64 (A k).r):=hc 2 _ rfl;have c3:wr.cell? ⟨g,off+k*4+3,none⟩=some (.bool (A k).g):=hc 3 _ rfl;clear hc B5 p0 p1 p2 o0 o1 o2 C5;have TG:(0:Int)<=(y:Int):=by omega
   have U0:(y:Int)<4294967296:=by omega
   go_wp2_with fail;have BU:Hid (∀W5:World,R1 (k+1) W5->Cells W5 wr.heap.size 90 [.int .i64 (A k).src,.int .i64 (A k).dst,.int .i64 (A k).r,.bool (A k).g]->(W5.cell? ⟨s,1,none⟩=some (.pointer (some ⟨F,0,none⟩))/\W5.cell? ⟨B1,0,none⟩=some (.pointer (some ⟨g1,0,none⟩))/\W5.cell? ⟨B1,1,none⟩=some (.int .u32 x)/\W5.cell? ⟨B1,2,none⟩=some (.int .i64 f1)/\W5.cell? ⟨B1+1,1,none⟩=some (.int .u32 y)/\W5.cell? ⟨wr.heap.size,0,none⟩=some (.int .i64 (A k).src)/\W5.cell? ⟨wr.heap.size,1,none⟩=some (.int .i64 (A k).dst))):=fun W5 hr hc=>by
    obtain⟨⟨p0,p1,p2⟩,⟨o0,o1,o2⟩,_,C5⟩:=HW.out.held1 (k+1) _ hr;exact⟨C5,p0,p1,p2,o1,hc.cell 0 _ rfl,hc.cell 1 _ rfl⟩
   have CC:=Q0a (Cells.new wr 90 [.int .i64 (A k).src,.int .i64 (A k).dst,.int .i64 (A k).r,.bool (A k).g]);have Bp:Hid (∀W,Below (wr.alloc (.cells #[.int .i64 (A k).src,.int .i64 (A k).dst,.int .i64 (A k).r,.bool (A k).g] 90)).heap.size (wr.alloc (.cells #[.int .i64 (A k).src,.int .i64 (A k).dst,.int .i64 (A k).r,.bool (A k).g] 90)) W->Below wr.heap.size wr W/\(W.cell? ⟨s,1,none⟩=some (.pointer (some ⟨F,0,none⟩))/\W.cell? ⟨B1,0,none⟩=some (.pointer (some ⟨g1,0,none⟩))/\W.cell? ⟨B1,1,none⟩=some (.int .u32 x)/\W.cell? ⟨B1,2,none⟩=some (.int .i64 f1)/\W.cell? ⟨B1+1,1,none⟩=some (.int .u32 y)/\W.cell? ⟨wr.heap.size,0,none⟩=some (.int .i64 (A k).src)/\W.cell? ⟨wr.heap.size,1,none⟩=some (.int .i64 (A k).dst))):=fun W hb=>by
    have Al:=Q0e hb;have hr:=HW.out.rel1 k _ _ EB.out Al;obtain⟨⟨p0,p1,p2⟩,⟨o0,o1,o2⟩,_,C5⟩:=HW.out.held1 k _ hr;have hc:=(Cells.new wr 90 [.int .i64 (A k).src,.int .i64 (A k).dst,.int .i64 (A k).r,.bool (A k).g]).same (hb.block _ (by simp));exact⟨Al,C5,p0,p1,p2,o1,hc.cell 0 _ rfl,hc.cell 1 _ rfl⟩
   obtain⟨id,Ex,B7⟩:=HW.out.node1 k _ Ab EB.out;have Ej:=Q0a Ex;have Dp:=Q0a B7;have hE:=(Bp.out _ (Below.refl _ _)).2;have hD:=(Bp.out _ (Below.refl _ _).drew)
   have kn:=Ej.out _ hD.1;have hF:=hD.2;unfold Q2m at kn;clear Ex B7 c0 c1 c2 c3 hD
   go_region_held3 (fun W=>W.cell? ⟨s,1,none⟩=some (.pointer (some ⟨F,0,none⟩))/\W.cell? ⟨B1,0,none⟩=some (.pointer (some ⟨g1,0,none⟩))/\W.cell? ⟨B1,1,none⟩=some (.int .u32 x)/\W.cell? ⟨B1,2,none⟩=some (.int .i64 f1)/\W.cell? ⟨B1+1,1,none⟩=some (.int .u32 y)/\W.cell? ⟨wr.heap.size,0,none⟩=some (.int .i64 (A k).src)/\W.cell? ⟨wr.heap.size,1,none⟩=some (.int .i64 (A k).dst)) (first|exact hE|exact hF|exact hG|exact KQ)
    (first|(go_at_call 156;refine kn.mono ?_;rintro rv w3⟨rfl,Ar⟩;have hH:=Bp.out w3 ((Below.refl _ _).drew.trans (Ar.mono (J3b _)));have ka:=Dp.out w3 hH.1;have hG:=hH.2;have K8:=Q0a (CC.out.same (Ar.block _ (by simp)));clear hH Ar)|(go_at_call 105;refine ka.mono ?_;rintro rv w5⟨⟨ra,rb,rfl⟩,MH,Hb⟩;have KQ:=BU.out w5 Hb (K8.out.same (MH _ (J3b _) K8.out.lt));have KH:=Q0a Hb;clear Hb MH))
   clear hE hF hG KQ Bp Ej Dp ka BU CC K8;go_wp2_with fail;go_roundg (n-(k+1))
   case measure=>have:=Cg.out;omega
   case rel=>exact⟨k+1,by go_num,by omega,KH.out⟩
  ·obtain rfl:k=n:=by have:=Cg.out;omega
   have CE:=Q0a (HW.out.mid _ EB.out);clear EB;go_wp2_with fail
   go_loopg [36] k (fun gk iv wl=>∃i:Nat,iv=.int .i64 i/\i+gk=k/\R2 i wl)
   case atStart=>exact⟨0,rfl,by omega,CE.out⟩
   case round =>
    obtain⟨i,rfl,Ls,hr⟩:=hrel;have Q5:=Q0a Ls;have Kc:=Q0a hr;clear Ls hr CE;by_cases Ab:i<k
    ·obtain⟨-,-,B5,-⟩:=HW.out.held2 i _ Kc.out;obtain⟨g,off,rfl,_,hc,_⟩:=B5 i Ab;have c0:wr.cell? ⟨g,off+i*4,none⟩=some (.int .i64 (A i).src):=hc 0 _ rfl;have c1:wr.cell? ⟨g,off+i*4+1,none⟩=some (.int .i64 (A i).dst):=hc 1 _ rfl;have c2:wr.cell? ⟨g,off+i*4+2,none⟩=some (.int .i64 (A i).r):=hc 2 _ rfl;have c3:wr.cell? ⟨g,off+i*4+3,none⟩=some (.bool (A i).g):=hc 3 _ rfl;clear hc B5;have Bw:Below wr.heap.size wr (wr.alloc (.cells #[.int .i64 (A i).src,.int .i64 (A i).dst,.int .i64 (A i).r,.bool (A i).g] 90)):=(Below.refl _ _).alloc (J3b _) _;by_cases hg:(A i).g=true
     ·have Bp:Hid (∀W,Below (wr.alloc (.cells #[.int .i64 (A i).src,.int .i64 (A i).dst,.int .i64 (A i).r,.bool (A i).g] 90)).heap.size (wr.alloc (.cells #[.int .i64 (A i).src,.int .i64 (A i).dst,.int .i64 (A i).r,.bool (A i).g] 90)) W->Below wr.heap.size wr W/\(W.cell? ⟨s,1,none⟩=some (.pointer (some ⟨F,0,none⟩))/\W.cell? ⟨B1,0,none⟩=some (.pointer (some ⟨g1,0,none⟩))/\W.cell? ⟨B1,1,none⟩=some (.int .u32 x)/\W.cell? ⟨B1,2,none⟩=some (.int .i64 f1)/\W.cell? ⟨wr.heap.size,0,none⟩=some (.int .i64 (A i).src))):=fun W hb=>by
       have Al:=Q0e hb;have hr:=HW.out.rel2 i _ _ Kc.out Al;obtain⟨⟨p0,p1,p2⟩,_,_,C5⟩:=HW.out.held2 i _ hr;have hc:=(Cells.new wr 90 [.int .i64 (A i).src,.int .i64 (A i).dst,.int .i64 (A i).r,.bool (A i).g]).same (hb.block _ (by simp));exact⟨Al,C5,p0,p1,p2,hc.cell 0 _ rfl⟩
      obtain⟨id,Ex,Jq⟩:=HW.out.node2 i _ Ab hg Kc.out;have Ej:=Q0a Ex;have Eq:=Q0a Jq;have hE:=(Bp.out _ (Below.refl _ _)).2;have hD:=(Bp.out _ (Below.refl _ _).drew)
      have kn:=Ej.out _ hD.1;have hF:=hD.2;rw[hg] at c3;unfold Q2m at kn;clear Ex Jq hD Bw;have CC:=Q0a (Cells.new wr 90 [.int .i64 (A i).src,.int .i64 (A i).dst,.int .i64 (A i).r,.bool (A i).g]);have BU:Hid (∀W5:World,RL i W5->Cells W5 wr.heap.size 90 [.int .i64 (A i).src,.int .i64 (A i).dst,.int .i64 (A i).r,.bool (A i).g]->(W5.cell? ⟨s,1,none⟩=some (.pointer (some ⟨F,0,none⟩))/\W5.cell? ⟨B1,0,none⟩=some (.pointer (some ⟨g1,0,none⟩))/\W5.cell? ⟨B1,1,none⟩=some (.int .u32 x)/\W5.cell? ⟨B1,2,none⟩=some (.int .i64 f1)/\W5.cell? ⟨wr.heap.size,0,none⟩=some (.int .i64 (A i).src))):=fun W5 hr hc=>by
       obtain⟨⟨p0,p1,p2⟩,_,_,C5⟩:=HW.out.heldL i _ hr;exact⟨C5,p0,p1,p2,hc.cell 0 _ rfl⟩
      have Ek:Hid (∀W,RL i W->_):=fun W=>HW.out.bare i W Ab
      rw[hg] at Bp CC BU kn hE hF;have HG:=Q0a hg;clear hg;go_wp2_with fail
      go_region_held3 (fun W=>W.cell? ⟨s,1,none⟩=some (.pointer (some ⟨F,0,none⟩))/\W.cell? ⟨B1,0,none⟩=some (.pointer (some ⟨g1,0,none⟩))/\W.cell? ⟨B1,1,none⟩=some (.int .u32 x)/\W.cell? ⟨B1,2,none⟩=some (.int .i64 f1)/\W.cell? ⟨wr.heap.size,0,none⟩=some (.int .i64 (A i).src)) (first|exact hE|exact hF|exact hG|exact KQ)
       (first|(go_at_call 156;refine kn.mono ?_;rintro rv w3⟨rfl,Ar⟩;have hH:=Bp.out w3 ((Below.refl _ _).drew.trans (Ar.mono (J3b _)));have ka:=Eq.out w3 hH.1;have hG:=hH.2;have K8:=Q0a (CC.out.same (Ar.block _ (by simp)));clear hH Ar)|(go_at_call 174;refine ka.mono ?_;rintro rv w5⟨⟨v5,rfl⟩,MH,Hb⟩;have KQ:=BU.out w5 Hb (K8.out.same (MH _ (J3b _) K8.out.lt));have KH:=Q0a Hb;clear Hb MH))
      have kb:=Ek.out w5 KH.out;unfold Q2m at kb;clear hE hF hG Bp Ej Eq ka BU CC K8 KH;obtain⟨d0,d1,d2,d3,d4⟩:=KQ;go_wp2_with fail;refine kb.mono ?_;rintro rv w7⟨rfl,Sx⟩;have TU:=Q0a Sx;clear Sx kb d0 d1 d2 d3 d4 Ek;go_wp2_with fail;go_roundg (k-(i+1))
      case measure=>have:=Q5.out;omega
      case rel=>exact⟨i+1,by go_num,by omega,TU.out⟩
     ·have KS:(A i).g=false:=by simpa using hg
      have HX:=Q0a (HW.out.rel2 _ _ _ (HW.out.skip i _ Ab KS Kc.out) Bw);rw[KS] at c3 HX;clear hg KS Bw Kc;go_wp2_with fail;go_roundg (k-(i+1))
      case measure=>have:=Q5.out;omega
      case rel=>exact⟨i+1,by go_num,by omega,HX.out⟩
    ·obtain rfl:i=k:=by have:=Q5.out;omega
     have HX:=Q0a (HW.out.last _ Kc.out);clear Kc;go_wp2_with fail
     first|exact⟨rfl,HX.out⟩|(go_end0;exact⟨rfl,HX.out⟩)
section
variable {Z:SP} {fr:List Nat} {N K:Nat} {M:Int} {x y n:Nat} {p1 p2:Pl} {A:Nat->Mv}
structure GrP(Z:SP)(fr:List Nat)(N K:Nat)(M:Int)(x y n:Nat)(A:Nat->Mv)(k:Nat)(Z2:SP):Prop where
 ok:Z2.Ok fr N K (M+n)
 same:SameN Z Z2
 nx:Z2.F.next=Z.F.next+n
 av:∃a,AddsM x y A Z.av Z.F.next n a/\Q4o x A a k Z2.av
 src:∀i,k<=i->i<n->(A i).g=true->∃c,Z2.av.en x (A i).src.toNat=some c
theorem GrP.start(ok:Z.Ok fr N K M)(Bh:pget Z.S.l 1 x=some p1)(A0:p1.kind=2)(A5:pget Z.S.l 1 y=some p2)(A2:p2.kind=2)(An:AllFit Z.av.en x y n A){S1:CO}{t1:TB}{own:Int}(L:LaidP Z fr N K x y own A 0 n S1 t1){F':FO}(P:SetP Z x y A t1 n F') :
  GrP Z fr N K M x y n A 0 ((Z.setF F').setS S1 (updT Z.tb (y%256) t1)):=by
 obtain⟨h1,h2,h3⟩:=P.done ok L;refine⟨h1,h2,by show F'.next=_;exact P.nx,⟨_,h3,.zero⟩,fun i _ hi _=>?_⟩;obtain⟨e,he,EP,_,_⟩:=L.src Bh A0 A5 A2 An (J3b _) hi;refine⟨(e.h,e.r),Q9y (e:=e) ?_⟩;show Q0f S1.l (updT Z.tb (y%256) t1) x (A i).src.toNat=some e;rw[L.alt.l,Q0g Bh A0 (by have:=(An i hi).1.src;omega)];exact EP
theorem GrP.skip{k:Nat}{Z2:SP}(G:GrP Z fr N K M x y n A k Z2)(hg:(A k).g=false):GrP Z fr N K M x y n A (k+1) Z2:=by
 obtain⟨a,h1,h2⟩:=G.av;exact⟨G.ok,G.same,G.nx,⟨a,h1,.skip k _ h2 hg⟩,fun i h=>G.src i (by omega)⟩
theorem GrP.lift(An:AllFit Z.av.en x y n A){k:Nat}{Z2:SP}(G:GrP Z fr N K M x y n A k Z2)(Dm:k<n)(hg:(A k).g=true)(Bh:pget Z.S.l 1 x=some p1)(A0:p1.kind=2) :
  ∃nd e,find Z2.F.N nd.id=some nd/\ownN Z2.F.N (x:Int) (A k).src=nd.id/\(Z2.tb (x%256)).en (A k).src.toNat=some e/\∀(S':CO) (t':TB) (F':FO),TurnP Z2.S fr N K Z2.tb (p1.fac:Int) (x%256) (A k).src.toNat none S' t'->F'.N=Q0B Z2.F.N nd nd.q.ks.length->F'.Ok->F'.next=Z2.F.next->F'.f=Z2.F.f->GrP Z fr N K M x y n A (k+1) ((Z2.setF F').setS S' (updT Z2.tb (x%256) t')):=by
 have BY:=(An k Dm).1.src;obtain⟨c,hc⟩:=G.src k (J3b _) Dm hg;obtain⟨e,he,rfl⟩:=Q3v hc;have F8:Z2.S.l=Z.S.l:=G.same.alt.l;have MK:pget Z2.S.l 1 x=some p1:=by rw[F8];exact Bh
 obtain⟨nd,AO,q1,q2,q3,q4⟩:=G.ok.fpi.own G.ok.fo.n he;have C1:((A k).src.toNat:Int)=(A k).src:=by omega
 have Bf:(Z2.tb (x%256)).en (A k).src.toNat=some e:=by
  have AT:=he
  rwa [Q0g MK A0 (by omega)] at AT
 refine⟨nd,e,q4,by rw[<- C1];exact q3,Bf,fun S' t' F' T hF Ea I1 FZ=>?_⟩;have hr:=(G.ok.fpi.cap _ _ _ he).r;obtain⟨h1,h2,h3⟩:=G.ok.lifted q4 q1 q2 MK A0 (by omega:(A k).src.toNat<256) he (m:=15) (Q4H e.r (by omega)) T hF Ea I1 FZ;obtain⟨a,a1,a2⟩:=G.av;have hw:=Q2L (m:=15) (a:=Z2.av) (id:=nd.id) q4 q1 q2 hc;rw[h2] at hw;simp only at hw;rw[if_pos (Q4H e.r (by omega))] at hw;have Es:((Z2.setF F').setS S' (updT Z2.tb (x%256) t')).av.en=setA Z2.av.en x (A k).src.toNat none:=by
  have:=(Prod.mk.inj hw).1;rw[this]
 refine⟨h1,G.same.trans h3.toSameN,h3.nx.trans G.nx,⟨a,a1,.lift k _ _ a2 hg ?_⟩,fun i h4 h5 h6=>?_⟩
 ·have:ownN Z2.av.N (x:Int) (A k).src=nd.id:=by rw[<- C1];exact q3
  rw[this];exact h2
 ·obtain⟨c',Bj⟩:=G.src i (by omega) h5 h6;refine⟨c',?_⟩;rw[Es,Q5j]
  ·exact Bj
  ·rintro⟨_,e2⟩;exact An.srcs h5 Dm (by omega) h6 e2
theorem GrP.done{w w':World}{Z2:SP}(G:GrP Z fr N K M x y n A n Z2)(st:Step Z.hl Z2.hl w w'):MovedZ Z fr N K M x y n A w w':=by
 obtain⟨a,a1,a2⟩:=G.av;exact⟨a,Z2,a1,a2,G.ok,G.same,G.nx,st⟩
theorem Z9m{w0:World}(ok:Z.Ok fr N K M)(hM:M+n<1099511627776)(hx:x<4294967296)(hy:y<4294967296)(Bh:pget Z.S.l 1 x=some p1)(A0:p1.kind=2)(A5:pget Z.S.l 1 y=some p2)(A2:p2.kind=2)(An:AllFit Z.av.en x y n A){S1:CO}{t1:TB}(L:LaidP Z fr N K x y (p2.fac:Int) A 0 n S1 t1)(cap g1 g2 B1 B2:Nat)(a0:Option Addr) :
  SetW Z.s g1 x g2 y (p1.fac:Int) (p2.fac:Int) Z.F.f B1 B2 a0 n A
   (fun k W=>∃F',SetP Z x y A t1 k F'/\Step Z.hl ((Z.setF F').setS S1 (updT Z.tb (y%256) t1)).hl w0 W/\MvB ((Z.setF F').setS S1 (updT Z.tb (y%256) t1)) p1 p2 g1 x g2 y B1 B2 n A a0 W)
   (fun k W=>∃Z2,GrP Z fr N K M x y n A k Z2/\Step Z.hl Z2.hl w0 W/\MvB Z2 p1 p2 g1 x g2 y B1 B2 n A a0 W)
   (fun k W=>∃Z2 nd e F',GrP Z fr N K M x y n A k Z2/\find Z2.F.N nd.id=some nd/\ownN Z2.F.N (x:Int) (A k).src=nd.id/\(Z2.tb (x%256)).en (A k).src.toNat=some e/\F'.N=Q0B Z2.F.N nd nd.q.ks.length/\F'.Ok/\F'.next=Z2.F.next/\F'.f=Z2.F.f/\(∀(S':CO) (t':TB),TurnP Z2.S fr N K Z2.tb (p1.fac:Int) (x%256) (A k).src.toNat none S' t'->GrP Z fr N K M x y n A (k+1) ((Z2.setF F').setS S' (updT Z2.tb (x%256) t')))/\Step Z.hl (Z2.setF F').hl w0 W/\MvB (Z2.setF F') p1 p2 g1 x g2 y B1 B2 n A a0 W)
   (fun W=>MovedZ Z fr N K M x y n A w0 W):=by
 have Gq:=(pget_some.1 Bh).1;have GF:=(pget_some.1 Bh).2.2;refine⟨fun k W h=>?_,fun k W W' h hb=>?_,fun k W hk h=>?_,fun W h=>?_,fun k W h=>?_,fun k W W' h hb=>?_,fun k W hk hg h=>?_,fun k W hk hg h=>?_,fun k W h=>?_,fun k W W' h hb=>?_,fun k W hk h=>?_,fun W h=>?_⟩
 ·obtain⟨F',P,st,mb⟩:=h;refine⟨mb.box.1,mb.box.2.1,mb.box.2.2,?_⟩;have:=SP.c1 (Z:=(Z.setF F').setS S1 (updT Z.tb (y%256) t1)) st.sep;rw[show((Z.setF F').setS S1 (updT Z.tb (y%256) t1)).F.f=Z.F.f from P.f] at this;exact this
 ·obtain⟨F',P,st,mb⟩:=h;exact⟨F',P,st.trans (st.sep.grown hb),mb.step (st.sep.grown hb) rfl⟩
 ·obtain⟨F',P,st,mb⟩:=h;have BY:=(An k hk).1.src;have FP:=(An k hk).1.dst;have C1:(((A k).src.toNat:Nat):Int)=(A k).src:=by omega
  have GN:(((A k).dst.toNat:Nat):Int)=(A k).dst:=by omega
  refine⟨ownN F'.N (x:Int) (A k).src,fun W' hb=>?_,fun W' hb=>?_⟩
  ·have kn:=Q6H (Z:=(Z.setF F').setS S1 (updT Z.tb (y%256) t1)) (st.sep.grown hb).sep P.ok hx (z:=(A k).src.toNat) (g:=g1) (f:=p1.fac) (by omega);rw[C1] at kn;exact kn
  ·have st':=st.trans (st.sep.grown hb);have mb':=mb.step (st.sep.grown hb) rfl;obtain⟨e0,e,E8,he,rfl,Bb⟩:=SetP.src An hk Bh A0 A5 A2 P;obtain⟨nn,Ec,q1,q2,q3,q4⟩:=P.fpi.own P.ok.n he;rw[C1] at q3;have Aq:=P.fpi.free P.ok.n Bb;rw[GN] at Aq;have C7:=P.fpi.few P.ok.n A5 (by omega) Bb;have B3:=P.nx;have Bg:=ok.next;have ka:=Q8s (SP.sF (Z:=(Z.setF F').setS S1 (updT Z.tb (y%256) t1)) st'.sep) P.ok (par:=ownN F'.N (x:Int) (A k).src) (sp:=(y:Int)) (sl:=(A k).dst) (.inr ⟨nn,by rw[q3];exact q4⟩) (by omega) (by omega) (by omega) (by omega) Aq (by show F'.next+1<_;omega) C7
   rw[show((Z.setF F').setS S1 (updT Z.tb (y%256) t1)).F.f=Z.F.f from P.f] at ka;refine ka.mono ?_;rintro rv w5⟨rfl,F2,Ad,stf⟩;have P2:=P.next ok An L hk Bh A0 A5 A2 Ad;have stz:=SP.stepF (Z:=(Z.setF F').setS S1 (updT Z.tb (y%256) t1)) st'.sep F2 Ad.f stf;have stz':Step ((Z.setF F').setS S1 (updT Z.tb (y%256) t1)).hl ((Z.setF F2).setS S1 (updT Z.tb (y%256) t1)).hl W' w5:=stz;exact⟨⟨_,_,rfl⟩,stz'.keep st.sep (J3b _),F2,P2,st'.trans stz',mb'.step (Z':=(Z.setF F2).setS S1 (updT Z.tb (y%256) t1)) stz' rfl⟩
 ·obtain⟨F',P,st,mb⟩:=h;exact⟨_,GrP.start ok Bh A0 A5 A2 An L P,st,mb⟩
 ·obtain⟨Z2,G,st,mb⟩:=h;refine⟨mb.box.1,mb.box.2.1,mb.box.2.2,?_⟩;have:=SP.c1 st.sep;rw[G.same.s,G.same.f] at this;exact this
 ·obtain⟨Z2,G,st,mb⟩:=h;exact⟨Z2,G,st.trans (st.sep.grown hb),mb.step (st.sep.grown hb) rfl⟩
 ·obtain⟨Z2,G,st,mb⟩:=h;exact⟨Z2,G.skip hg,st,mb⟩
 ·obtain⟨Z2,G,st,mb⟩:=h;have BY:=(An k hk).1.src;have C1:(((A k).src.toNat:Nat):Int)=(A k).src:=by omega
  refine⟨ownN Z2.F.N (x:Int) (A k).src,fun W' hb=>?_,fun W' hb=>?_⟩
  ·have kn:=Q6H (st.sep.grown hb).sep G.ok.fo hx (z:=(A k).src.toNat) (g:=g1) (f:=p1.fac) (by omega);rw[C1,G.same.s] at kn;exact kn
  ·have st':=st.trans (st.sep.grown hb);have mb':=mb.step (st.sep.grown hb) rfl;obtain⟨nd,e,h1,h2,h3,h4⟩:=G.lift An hk hg Bh A0;have kl:=Q9E (SP.sF st'.sep) G.ok.fo (e:=nd) h1;rw[h2,<- G.same.f];refine kl.mono ?_;rintro rv w5⟨hv,F',FZ,Oi,I1,Ea,stf⟩;have stz:=SP.stepF st'.sep F' FZ stf;exact⟨hv,stz.keep st.sep (J3b _),Z2,nd,e,F',G,h1,h2,h3,Oi,Ea,I1,FZ,fun S' t' T=>h4 S' t' F' T Oi Ea I1 FZ,st'.trans stz,mb'.step (Z':=Z2.setF F') stz rfl⟩
 ·obtain⟨Z2,nd,e,F',G,_,_,_,hF,_,_,FZ,_,st,mb⟩:=h;refine⟨mb.box.1,mb.box.2.1,mb.box.2.2,?_⟩;have:=SP.c1 (Z:=Z2.setF F') st.sep;rw[show(Z2.setF F').F.f=Z2.F.f from FZ,show(Z2.setF F').s=Z.s from G.same.s,G.same.f] at this;exact this
 ·obtain⟨Z2,nd,e,F',h1,h2,h3,h4,h5,h6,h7,h8,h9,st,mb⟩:=h;exact⟨Z2,nd,e,F',h1,h2,h3,h4,h5,h6,h7,h8,h9,st.trans (st.sep.grown hb),mb.step (st.sep.grown hb) rfl⟩
 ·obtain⟨Z2,nd,e,F',G,h2,h3,Bf,h5,h6,h7,h8,h9,st,mb⟩:=h;have BY:=(An k hk).1.src;have kb:=Q4P (Z:=Z2.setF F') st.sep G.ok.core G.ok.tpi (i:=x%256) (s:=(A k).src.toNat) (x:=x) (g:=g1) (p:=p1) (by show Z2.S.l[_]?=_;rw[G.same.alt.l];exact Gq) GF A0 (by omega) Bf mb.t1;rw[show(((A k).src.toNat:Nat):Int)=(A k).src by omega,show(Z2.setF F').s=Z.s from G.same.s] at kb;refine kb.mono ?_;rintro rv w5⟨rfl,S3,t3,T,stt⟩;refine⟨rfl,_,h9 S3 t3 T,st.trans stt,?_⟩;exact mb.step (Z':=(Z2.setF F').setS S3 (updT Z2.tb (x%256) t3)) stt T.alt.same.p
 ·obtain⟨Z2,G,st,mb⟩:=h;exact G.done st
theorem Z1a{w0 w:World}(ok:Z.Ok fr N K M)(hM:M+n<1099511627776)(hx:x<4294967296)(hy:y<4294967296)(Bh:pget Z.S.l 1 x=some p1)(A0:p1.kind=2)(A5:pget Z.S.l 1 y=some p2)(A2:p2.kind=2)(hn:n<=4611686018427387904)(An:AllFit Z.av.en x y n A){S1:CO}{t1:TB}(L:LaidP Z fr N K x y (p2.fac:Int) A 0 n S1 t1)
  {g1 g2:Nat} {a0:Option Addr} (st:Step Z.hl (Z.setS S1 (updT Z.tb (y%256) t1)).hl w0 w) (Oy:TblZ (Z.setS S1 (updT Z.tb (y%256) t1)) p1 g1 w) (J2:TblZ (Z.setS S1 (updT Z.tb (y%256) t1)) p2 g2 w) (B5:AsideM (Z.setS S1 (updT Z.tb (y%256) t1)).hl n A a0 w) (cap:Nat) :
  Calls prog 100 #[.pointer (some ⟨Z.s,0,none⟩),Q2m g1 x (p1.fac:Int),Q2m g2 y (p2.fac:Int),.slice a0 n cap] w fun rv w'=>rv=.returned (.tuple #[])/\MovedZ Z fr N K M x y n A w0 w':=by
 have b1:Below w.heap.size w (w.alloc (.cells #[.pointer (some ⟨g1,0,none⟩),.int .u32 x,.int .i64 (p1.fac:Int)] 191)):=(Below.refl _ _).alloc (J3b _) _;have s1:=st.sep.grown b1;have as1:AsideV (Z.setS S1 (updT Z.tb (y%256) t1)).hl [.pointer (some ⟨g1,0,none⟩),.int .u32 x,.int .i64 (p1.fac:Int)] (some ⟨w.heap.size,0,none⟩) (w.alloc (.cells #[.pointer (some ⟨g1,0,none⟩),.int .u32 x,.int .i64 (p1.fac:Int)] 191)):=Q2O st.sep _ _;have b2:Below (w.alloc (.cells #[.pointer (some ⟨g1,0,none⟩),.int .u32 x,.int .i64 (p1.fac:Int)] 191)).heap.size (w.alloc (.cells #[.pointer (some ⟨g1,0,none⟩),.int .u32 x,.int .i64 (p1.fac:Int)] 191)) ((w.alloc (.cells #[.pointer (some ⟨g1,0,none⟩),.int .u32 x,.int .i64 (p1.fac:Int)] 191)).alloc (.cells #[.pointer (some ⟨g2,0,none⟩),.int .u32 y,.int .i64 (p2.fac:Int)] 191)):=(Below.refl _ _).alloc (J3b _) _
 have s2:=s1.sep.grown b2;have as2:AsideV (Z.setS S1 (updT Z.tb (y%256) t1)).hl [.pointer (some ⟨g2,0,none⟩),.int .u32 y,.int .i64 (p2.fac:Int)] (some ⟨(w.alloc (.cells #[.pointer (some ⟨g1,0,none⟩),.int .u32 x,.int .i64 (p1.fac:Int)] 191)).heap.size,0,none⟩) _:=Q2O s1.sep 191 [.pointer (some ⟨g2,0,none⟩),.int .u32 y,.int .i64 (p2.fac:Int)];have hz:(w.alloc (.cells #[.pointer (some ⟨g1,0,none⟩),.int .u32 x,.int .i64 (p1.fac:Int)] 191)).heap.size=w.heap.size+1:=by simp
 rw[hz] at as2;refine Q9S (Z9m (w0:=w0) ok hM hx hy Bh A0 A5 A2 An L cap g1 g2 w.heap.size (w.heap.size+1) a0) hn hy ?_;exact⟨Z.F,SetP.start ok t1,(st.trans s1).trans s2,(Oy.grown st.sep b1).grown s1.sep b2,(J2.grown st.sep b1).grown s1.sep b2,as1.step s2,as2,(B5.step s1).step s2⟩
end
theorem Q9T{t t':TB}(h:∀s,t'.en s=t.en s)(z:Int):t'.at' z=t.at' z:=by
 unfold TB.at';split
 ·rw[h]
 ·rfl
def fitV(Z:SP)(x y:Nat)(A:Nat->Mv)(i:Nat):Int:=Z3N ((Z.tb (x%256)).at' (A i).src) ((Z.tb (y%256)).at' (A i).dst) (A i) (Q1z A i (A i))
def J2p(Z:SP)(x y n:Nat)(A:Nat->Mv)(er:Int):Prop:=
 (pget Z.S.l 1 x=none/\er=8)∨∃p1,pget Z.S.l 1 x=some p1/\((p1.kind≠2/\er=10)∨(p1.kind=2/\((pget Z.S.l 1 y=none/\er=8)∨∃p2,pget Z.S.l 1 y=some p2/\((p2.kind≠2/\er=10) ∨
  (p2.kind=2/\∃i,i<n/\(∀j,j<i->fitV Z x y A j=0)/\fitV Z x y A i=er)))))
def WhyM(Z:SP)(fr:List Nat)(N K x y n:Nat)(own:Int)(A:Nat->Mv)(er:Int):Prop:=∃k S' t',k<n/\LaidP Z fr N K x y own A 0 k S' t'/\(k=0->S'=Z.S/\t'=Z.tb (y%256))/\WhyL (Z.setS S' (updT Z.tb (y%256) t')) fr own (y%256) (A k).dst.toNat er
def MoveR(Z:SP)(fr:List Nat)(N K:Nat)(M:Int)(x y n:Nat)(A:Nat->Mv)(w:World)(er:Int)(w':World):Prop:=
 (er≠0/\J2p Z x y n A er/\∃own,BackZ Z fr N K y own w w') ∨
 ∃p1 p2,pget Z.S.l 1 x=some p1/\p1.kind=2/\pget Z.S.l 1 y=some p2/\p2.kind=2/\AllFit Z.av.en x y n A /\
  ((er=0/\MovedZ Z fr N K M x y n A w w')∨((er=4∨er=5)/\WhyM Z fr N K x y n p2.fac A er/\BackZ Z fr N K y p2.fac w w'))
theorem BackZ.of{Z:SP}{fr:List Nat}{N K:Nat}{M:Int}{y:Nat}(own:Int){w w':World}(hs:Sep w Z.hl)(ok:Z.Ok fr N K M)(hb:Below w.heap.size w w'):BackZ Z fr N K y own w w':=
 ⟨Z.S,Z.tb (y%256),ok.core,by rw[Q1d];exact ok.tpi,Alt.refl _ _,fun _ _=>rfl,fun _=>rfl,by rw[Q1d];exact hs.grown hb⟩
section
variable {Z:SP} {fr:List Nat} {N K:Nat} {M:Int} {x y n:Nat} {p1 p2:Pl} {A:Nat->Mv}
theorem Z6Y{w:World}(ok:Z.Ok fr N K M)(hM:M+n<1099511627776)(hx:x<4294967296)(hy:y<4294967296)(Bh:pget Z.S.l 1 x=some p1)(A0:p1.kind=2)(A5:pget Z.S.l 1 y=some p2)(A2:p2.kind=2)(hn:n<=4611686018427387904)(cap g1 g2 B1 B2:Nat)(a0:Option Addr) :
  J2o Z.s g1 x g2 y (p1.fac:Int) (p2.fac:Int) B1 B2 a0 n cap A (fitV Z x y A)
   (fun k W=>∃S' t',LaidP Z fr N K x y (p2.fac:Int) A 0 k S' t'/\(k=0->S'=Z.S/\t'=Z.tb (y%256))/\Step Z.hl (Z.setS S' (updT Z.tb (y%256) t')).hl w W/\MvB (Z.setS S' (updT Z.tb (y%256) t')) p1 p2 g1 x g2 y B1 B2 n A a0 W)
   (fun er k j W=>(er=4∨er=5)/\k<n/\AllFit Z.av.en x y n A/\WhyM Z fr N K x y n (p2.fac:Int) A er/\∃S' t',LaidP Z fr N K x y (p2.fac:Int) A j k S' t'/\Step Z.hl (Z.setS S' (updT Z.tb (y%256) t')).hl w W/\MvB (Z.setS S' (updT Z.tb (y%256) t')) p1 p2 g1 x g2 y B1 B2 n A a0 W)
   (fun er W=>MoveR Z fr N K M x y n A w er W):=by
 have Gq:=(pget_some.1 Bh).1;have GF:=(pget_some.1 Bh).2.2;have D8:=(pget_some.1 A5).1;have K5:=(pget_some.1 A5).2.2;have AZ:(∀j,j<n->fitV Z x y A j=0)->AllFit Z.av.en x y n A:=fun h i hi=>(Z2t Bh A0 A5 A2).1 (h i hi)
 have tts:∀{j k:Nat} {S':CO} {t':TB} {W:World},LaidP Z fr N K x y (p2.fac:Int) A j k S' t'->Step Z.hl (Z.setS S' (updT Z.tb (y%256) t')).hl w W->MvB (Z.setS S' (updT Z.tb (y%256) t')) p1 p2 g1 x g2 y B1 B2 n A a0 W->TT S' (updT Z.tb (y%256) t' (x%256)) p1 g1 W/\TT S' (updT Z.tb (y%256) t' (y%256)) p2 g2 W:=fun {j k S' t' W} L st mb=>by
  have hl:=L.alt.l;exact⟨(L.tpi.x (p1.fac:Int)).tt L.ok (by rw[hl];exact Gq) GF A0 (SP.sS (Z:=Z.setS S' (updT Z.tb (y%256) t')) st.sep) mb.t1.c,(L.tpi.x (p2.fac:Int)).tt L.ok (by rw[hl];exact D8) K5 A2 (SP.sS (Z:=Z.setS S' (updT Z.tb (y%256) t')) st.sep) mb.t2.c⟩
 refine⟨fun k W h=>?_,fun er k j W h=>?_,fun k W W' h hb=>?_,fun er k j W W' h hb=>?_,fun i W hi h=>?_,fun i W hi h hv A3=>?_,fun k W hv hk h=>?_,fun er k j W hj h=>?_,fun er k W h=>?_,fun W hv h=>?_⟩
 ·obtain⟨S',t',L,L0,st,mb⟩:=h;exact mb.box
 ·obtain⟨_,_,_,_,S',t',L,st,mb⟩:=h;exact mb.box
 ·obtain⟨S',t',L,L0,st,mb⟩:=h;exact⟨S',t',L,L0,st.trans (st.sep.grown hb),mb.step (st.sep.grown hb) rfl⟩
 ·obtain⟨h1,h2,h3,h4,S',t',L,st,mb⟩:=h;exact⟨h1,h2,h3,h4,S',t',L,st.trans (st.sep.grown hb),mb.step (st.sep.grown hb) rfl⟩
 ·obtain⟨S',t',L,L0,st,mb⟩:=h;obtain⟨T1,T2⟩:=tts L st mb;have Bf:∀s,t'.en s=(Z.tb (y%256)).en s:=fun s=>L.old s fun i h1 h2=>by omega
  have e1:(updT Z.tb (y%256) t' (x%256)).at' (A i).src=(Z.tb (x%256)).at' (A i).src:=by
   by_cases e:x%256=y%256
   ·rw[e,updT_same];exact Q9T Bf _
   ·rw[Q0K e]
  have e2:(updT Z.tb (y%256) t' (y%256)).at' (A i).dst=(Z.tb (y%256)).at' (A i).dst:=by
   rw[updT_same];exact Q9T Bf _
  have low:∀{u:Nat} {p:Pl} {z:Int},pget Z.S.l 1 u=some p->p.kind=2->∀e,(Z.tb (u%256)).at' z=some e->e.Low:=fun {u p z} hu hk e he=>by
   unfold TB.at' at he;split at he
   ·rename_i hz;refine ok.fpi.low ok.core.inv.lok (h:=u) (s:=z.toNat) ?_;rw[Q0g hu hk (by omega)];exact he
   ·cases he
  have k:=Z6X T1 T2 (m:=A i) (by rw[e1];exact low Bh A0) (by rw[e2];exact low A5 A2) x y (p1.fac:Int) (p2.fac:Int) mb.mv.1 (n:=i) cap (by omega) (by omega);rw[e1,e2] at k;exact k
 ·obtain⟨S',t',L,L0,st,mb⟩:=h;exact .inl ⟨hv,.inr ⟨p1,Bh,.inr ⟨A0,.inr ⟨p2,A5,.inr ⟨A2,i,hi,A3,rfl⟩⟩⟩⟩,_,L.back ok A5 A2 st⟩
 ·have An:=AZ hv;obtain⟨S',t',L,L0,st,mb⟩:=h;obtain⟨T1,T2⟩:=tts L st mb;obtain⟨e,he,EP,Kp,hc⟩:=L.src Bh A0 A5 A2 An (by omega) hk;have A8:=ok.fpi.low ok.core.inv.lok he;have FN:=Q1m T1 (x:Int) (p1.fac:Int) (A k).src fun e' AT=>by rw[Kp] at AT;cases AT;exact A8
  rw[Kp] at FN;refine⟨(e.h:Int),(e.r:Int),true,FN,fun W' h'=>?_⟩;obtain⟨S2,t2,L2,L20,st2,mb2⟩:=h';have hf:=(An k hk).1;have Kd:=hf.r;have FP:=hf.dst;have LH:e.r<16:=A8.2;have DI:bits .and .i64 (e.r:Int) (A k).r=((e.r&&&(A k).r.toNat:Nat):Int):=by
   have:=Q6E e.r (A k).r.toNat LH (by omega)
   rwa [show(((A k).r.toNat:Nat):Int)=(A k).r by omega] at this
  have Us:=Q6L e.r LH (A k).r.toNat (by omega);have Ax:(updT Z.tb (y%256) t2 (y%256)).en (A k).dst.toNat=none:=by
   rw[updT_same,L2.old _ fun q h1 h2 e2=>An.dst hk (by omega) (by omega) e2];have:=av_none.1 hf.free
   rwa [Q0g A5 A2 (by omega)] at this
  have kl:=Q8t (Z:=Z.setS S2 (updT Z.tb (y%256) t2)) st2.sep L2.ok L2.tpi (i:=y%256) (s:=(A k).dst.toNat) (x:=y) (g:=g2) (h:=e.h) (r:=e.r&&&(A k).r.toNat) (p:=p2) (by show S2.l[_]?=_;rw[L2.alt.l];exact D8) K5 A2 (by omega) Ax A8.1 (by omega) mb2.t2;rw[DI];rw[show(((A k).dst.toNat:Nat):Int)=(A k).dst by omega] at kl;refine kl.mono ?_;rintro rv w5⟨er,rfl,⟨rfl,nd,S3,t3,T,stt⟩|⟨Co,FC,P',tr,stt⟩⟩
  ·refine⟨0,rfl,.inl ⟨rfl,?_⟩⟩;have L3:=L2.lay ok A5 A2 An hk hc T;have e3:updT (updT Z.tb (y%256) t2) (y%256) t3=updT Z.tb (y%256) t3:=Q1c _ _ _ _;have stt':Step (Z.setS S2 (updT Z.tb (y%256) t2)).hl (Z.setS S3 (updT Z.tb (y%256) t3)).hl W' w5:=stt;exact⟨S3,t3,L3,fun h=>(by omega),st2.trans stt',mb2.step (Z':=Z.setS S3 (updT Z.tb (y%256) t3)) stt' T.alt.same.p⟩
  ·refine⟨er,rfl,.inr ⟨by omega,Co,hk,An,⟨k,S2,t2,hk,L2,L20,FC⟩,S2.setP P',t2,L2.tried tr,st2.trans stt,?_⟩⟩;exact mb2.step (Z':=Z.setS (S2.setP P') (updT Z.tb (y%256) t2)) stt tr.same.p
 ·obtain⟨h1,h2,An,h4,S',t',L,st,mb⟩:=h;obtain⟨c,nd,hc,Bf⟩:=L.new j (J3b _) hj;have FP:=(An j (by omega)).1.dst;have kb:=Q4P (Z:=Z.setS S' (updT Z.tb (y%256) t')) st.sep L.ok L.tpi (i:=y%256) (s:=(A j).dst.toNat) (x:=y) (g:=g2) (p:=p2) (by show S'.l[_]?=_;rw[L.alt.l];exact D8) K5 A2 (by omega) (by show(updT Z.tb (y%256) t' (y%256)).en _=_;rw[updT_same];exact Bf) mb.t2;rw[show(((A j).dst.toNat:Nat):Int)=(A j).dst by omega] at kb;refine kb.mono ?_;rintro rv w5⟨rfl,S3,t3,T,stt⟩;have L3:=L.bare ok A5 A2 An (by omega) hj T;have stt':Step (Z.setS S' (updT Z.tb (y%256) t')).hl (Z.setS S3 (updT Z.tb (y%256) t3)).hl W w5:=stt
  exact⟨rfl,h1,h2,An,h4,S3,t3,L3,st.trans stt',mb.step (Z':=Z.setS S3 (updT Z.tb (y%256) t3)) stt' T.alt.same.p⟩
 ·obtain⟨h1,h2,An,h4,S',t',L,st,mb⟩:=h;exact .inr ⟨p1,p2,Bh,A0,A5,A2,An,.inr ⟨h1,h4,L.back ok A5 A2 st⟩⟩
 ·have An:=AZ hv;obtain⟨S',t',L,L0,st,mb⟩:=h;refine(Z1a ok hM hx hy Bh A0 A5 A2 hn An L st mb.t1 mb.t2 mb.mv cap).mono ?_;rintro rv w'⟨rfl,hq⟩;exact⟨rfl,.inr ⟨p1,p2,Bh,A0,A5,A2,An,.inl ⟨rfl,hq⟩⟩⟩
end
theorem Q2P{w:World}{Z:SP}{fr:List Nat}{N K:Nat}{M:Int}{x y n cap:Nat}{A:Nat->Mv}{a0:Option Addr}(hs:Sep w Z.hl)(ok:Z.Ok fr N K M)(hM:M+n<1099511627776)(hx:x<4294967296)(hy:y<4294967296)(hn:n<=4611686018427387904)(A4:n<=cap)(B5:AsideM Z.hl n A a0 w) :
  Calls prog 39 #[.pointer (some ⟨Z.s,0,none⟩),.int .u32 x,.int .u32 y,.slice a0 n cap] w fun rv w'=>∃er:Int,rv=.returned (.int .i64 er)/\MoveR Z fr N K M x y n A w er w':=by
 have err:∀{e:Int},e≠0->J2p Z x y n A e->Calls prog 39 #[.pointer (some ⟨Z.s,0,none⟩),.int .u32 x,.int .u32 y,.slice a0 n cap] w (Told w (.int .i64 e))->Calls prog 39 #[.pointer (some ⟨Z.s,0,none⟩),.int .u32 x,.int .u32 y,.slice a0 n cap] w fun rv w'=>∃er:Int,rv=.returned (.int .i64 er)/\MoveR Z fr N K M x y n A w er w':=fun {e} he h k=>by
  refine k.mono ?_;rintro rv w'⟨rfl,hb⟩;exact⟨e,rfl,.inl ⟨he,h,0,BackZ.of 0 hs ok hb⟩⟩
 cases Bh:pget Z.S.l 1 x with
 | none=>exact err (by decide) (.inl ⟨Bh,rfl⟩) (Q6M (by decide) (Q0I hs ok.core hx 8 (.inl ⟨Bh,rfl⟩)))
 | some p1 =>
  by_cases A0:p1.kind=2
  ·have Sk:=Q0N hs ok.core hx Bh A0;have MA:Calls prog 90 #[.pointer (some ⟨Z.s,0,none⟩),.int .u32 x] w fun r w'=>∃g:Nat,r=.returned (.tuple #[.agg #[.pointer (some ⟨g,0,none⟩),.int .u32 x,.int .i64 (p1.fac:Int)],.int .i64 0])/\Below w.heap.size w w':=Sk.mono fun r w' ⟨g,h1,h2,_⟩=>⟨g,h1,h2⟩
   cases A5:pget Z.S.l 1 y with
   | none=>exact err (by decide) (.inr ⟨p1,Bh,.inr ⟨A0,.inl ⟨A5,rfl⟩⟩⟩) (Q6N (g:=0) (by decide) MA fun W hb=>Q0I (hs.grown hb).sep ok.core hy 8 (.inl ⟨A5,rfl⟩))
   | some p2 =>
    by_cases A2:p2.kind=2
    ·refine Z3O hn A4 (A:=A) (V:=fitV Z x y A) (Q:=fun er W=>MoveR Z fr N K M x y n A w er W) (Sk.mono ?_);rintro rv w1⟨g1,rfl,Aw,Oy⟩;have st1:=hs.grown Aw;have Dd:Below w1.heap.size w1 (w1.alloc (.cells #[.pointer (some ⟨g1,0,none⟩),.int .u32 x,.int .i64 (p1.fac:Int)] 191)):=(Below.refl _ _).alloc (J3b _) _;have st1b:=st1.sep.grown Dd;have as1:AsideV Z.hl [.pointer (some ⟨g1,0,none⟩),.int .u32 x,.int .i64 (p1.fac:Int)] (some ⟨w1.heap.size,0,none⟩) (w1.alloc (.cells #[.pointer (some ⟨g1,0,none⟩),.int .u32 x,.int .i64 (p1.fac:Int)] 191)):=Q2O st1.sep _ _;refine⟨g1,(p1.fac:Int),rfl,(Q0N st1b.sep ok.core hy A5 A2).mono ?_⟩
     rintro rv w2⟨g2,rfl,Ai,J2⟩;have st2:=st1b.sep.grown Ai;have K6:Below w2.heap.size w2 (w2.alloc (.cells #[.pointer (some ⟨g2,0,none⟩),.int .u32 y,.int .i64 (p2.fac:Int)] 191)):=(Below.refl _ _).alloc (J3b _) _;have st2b:=st2.sep.grown K6;have as2:AsideV Z.hl [.pointer (some ⟨g2,0,none⟩),.int .u32 y,.int .i64 (p2.fac:Int)] (some ⟨w2.heap.size,0,none⟩) (w2.alloc (.cells #[.pointer (some ⟨g2,0,none⟩),.int .u32 y,.int .i64 (p2.fac:Int)] 191)):=Q2O st2.sep _ _;have stall:=((st1.trans st1b).trans st2).trans st2b;refine⟨g2,(p2.fac:Int),rfl,_,_,Z6Y ok hM hx hy Bh A0 A5 A2 hn cap g1 g2 w1.heap.size w2.heap.size a0,Z.S,Z.tb (y%256),LaidP.start ok _,fun _=>⟨rfl,rfl⟩,?_,?_⟩
     ·rw[Q1d];exact stall
     ·rw[Q1d];exact⟨((Oy.grown st1.sep Dd).grown st1b.sep Ai).grown st2.sep K6,J2.grown st2.sep K6,(as1.step st2).step st2b,as2,B5.step stall⟩
    ·exact err (by decide) (.inr ⟨p1,Bh,.inr ⟨A0,.inr ⟨p2,A5,.inl ⟨A2,rfl⟩⟩⟩⟩) (Q6N (g:=0) (by decide) MA fun W hb=>Q0I (hs.grown hb).sep ok.core hy 10 (.inr ⟨p2,A5,A2,rfl⟩))
  ·exact err (by decide) (.inr ⟨p1,Bh,.inl ⟨A0,rfl⟩⟩) (Q6M (by decide) (Q0I hs ok.core hx 10 (.inr ⟨p1,Bh,A0,rfl⟩)))
theorem Z6Z(x:Nat):∀y∈Q0d x,y<256:=by
 intro y hy;unfold Q0d at hy;simp only[J3g,J3y,or_false] at hy;rcases hy with rfl|rfl|rfl|rfl|rfl|rfl|rfl|rfl <;> exact J6i _ (by omega)
def one(e:Int):Ending:=.returned (.int .i64 e)
def at2(a:Nat)(e:Int):Ending:=.returned (.tuple #[.int .i64 a,.int .i64 e])
def GetC(S:CO)(fr:List Nat)(own n:Nat)(e:En Fa)(w:World)(r:Ending)(w':World):Prop:=
 (Q0v e<((costK n:Nat):Int)/\r=at2 0 5/\Step S.hl S.hl w w') ∨
 (((costK n:Nat):Int)<=Q0v e/\NoPage S.P/\r=at2 0 4/\Step S.hl S.hl w w') ∨
 ∃a P' fr',((costK n:Nat):Int)<=Q0v e/\GotM S.P fr own n a P' fr'/\r=at2 a 0/\Step S.hl (S.setP P').hl w w'
theorem J1p{S:CO}{fr:List Nat}{w w':World}{r:Ending}(h:Sep w S.hl)(ok:S.P.Ok fr){own n:Nat}{e:En Fa}(hf:find S.P.q.E own=some e)(h1:1<=n)(h7:n<=7)(hr:GetP S.P fr own n w r w'):GetC S fr own n e w r w':=by
 have hc:Q1j (n:Int)=Q0c n:=by unfold Q1j;rw[if_pos (by omega),J4h]
 have Cn:=costN_pos.2 ⟨h1,h7⟩;have DU:costK n=Q0c n:=Q2a (by omega);rcases hr with ⟨h0,_⟩|⟨_,hn,_⟩|⟨_,⟨e',AT,hq⟩,rfl,st⟩|⟨m,e',hm,_,_,AT,hq,hr⟩
 ·omega
 ·rw[hf] at hn;cases hn
 ·rw[hf] at AT;cases AT;exact .inl ⟨by unfold Q0v;rw[DU,<- hc];exact hq,rfl,CO.stepP h S.P rfl st⟩
 ·have:m=n:=by omega
  subst this;rw[hf] at AT;cases AT;have CV:((costK m:Nat):Int)<=Q0v e:=by unfold Q0v;rw[DU];exact hq
  rcases hr with ⟨a,P',rfl,g,st⟩|⟨hn,rfl,st⟩
  ·exact .inr (.inr ⟨a,P',fr,CV,g.gotM ok,rfl,CO.stepP h P' g.p st⟩)
  ·exact .inr (.inl ⟨CV,hn.page,rfl,CO.stepP h S.P rfl st⟩)
def PutC(S:CO)(fr:List Nat)(own n a:Nat)(w:World)(r:Ending)(w':World):Prop:=
 r=.returned (.tuple #[])/\∃P' fr',BackM S.P fr own n a P' fr'/\Step S.hl (S.setP P').hl w w'
structure Held(P:PL)(fr:List Nat)(own n a:Nat)(e:En Fa):Prop where
 acc:find P.q.E own=some e
 paid:((costK n:Nat):Int)<=e.q.charged
 at':n≠8->a∈P.usedOf n
 frame:n=8->∃g∈fr,a=1024*g
theorem J1q{S:CO}{fr:List Nat}{w w':World}{r:Ending}(h:Sep w S.hl)(ok:S.P.Ok fr){own n a:Nat}(hr:PutR S.P fr own n a w r w'):∃P' fr',BackM S.P fr own n a P' fr'/\Step S.hl (S.setP P').hl w w':=by
 obtain⟨_,P',g,st⟩:=hr;exact⟨P',fr,g.backM ok,CO.stepP h P' g.p st⟩
theorem Z9n{m:List Nat}{a n:Nat}(hn:8<=n)(hl:a+n<=m.length):put_ (put_ m a (List.replicate n 0)) a (Q0d 0)=put_ m a (List.replicate n 0):=by
 have DG:(put_ m a (List.replicate n 0)).length=m.length:=Q2v _ _ _ (by rw[J3l];exact hl);have h8:(Q0d 0).length=8:=rfl
 apply J4K
 intro i;rw[Q5Z _ _ _ (by rw[DG,h8];omega)];by_cases h1:i<a
 ·rw[if_pos h1]
 ·rw[if_neg h1];by_cases h2:i<a+(Q0d 0).length
  ·rw[if_pos h2];have:i=a+(i-a):=by omega
   rw[h8] at h2;rw[this,Q7y (by rw[J3l];exact hl) (by rw[J3l];omega),show a+(i-a)-a=i-a by omega,J5d,if_pos (by omega)];have h3:i-a<8:=by omega
   generalize i-a=j at h3
   match j,h3 with
   | 0,_=>rfl
   | 1,_=>rfl
   | 2,_=>rfl
   | 3,_=>rfl
   | 4,_=>rfl
   | 5,_=>rfl
   | 6,_=>rfl
   | 7,_=>rfl
  ·rw[if_neg h2]
def Q3y(S:CO)(own n a:Nat)(lim:Int)(e:En Fa)(w:World)(r:Ending)(w':World):Prop:=
 ((∀p∈S.l,p.st≠0)/\r=one 11/\Step S.hl S.hl w w') ∨
 ((∃i p,Fst S.l i p)/\n≠1/\r=one 0/\Step S.hl S.hl w w') ∨
 ((∃i p,Fst S.l i p)/\n=1/\(∃er,((er=5/\Q0v e<lim)∨(er=11/\S.P.q.E.length=32))/\r=one er)/\Step S.hl (S.setP (S.P.setA (put_ S.P.a.mem a (Q0d 0)))).hl w w') ∨
 ((∃i p,Fst S.l i p)/\n=1/\lim<=Q0v e/\r=one 0/\∃b,Step S.hl (S.setP ((S.P.setQ (Q4c S.P.q own e b lim)).setA (put_ S.P.a.mem a (Q0d S.P.q.next.toNat)))).hl w w')
theorem GotM.acc{P P':PL}{fr fr':List Nat}{own k a:Nat}{e:En Fa}(g:GotM P fr own k a P' fr')(he:find P.q.E own=some e):find P'.q.E own=some {e with q:={e.q with charged:=e.q.charged+((costK k:Nat):Int)}}/\P'.q.E=upd P.q.E own {e.q with charged:=e.q.charged+((costK k:Nat):Int)}/\P'.q.next=P.q.next/\P'.q.E.length=P.q.E.length:=by
 obtain⟨e',q1,_,q3⟩:=g.q;rw[he] at q1;cases q1;rw[q3];refine⟨Q0h he _,rfl,rfl,?_⟩;show(upd _ _ _).length=_;unfold upd;simp
theorem GotM.held{P P':PL}{fr fr':List Nat}{own k a:Nat}{e:En Fa}(g:GotM P fr own k a P' fr')(ok:P.Ok fr)(he:find P.q.E own=some e):Held P' fr' own k a {e with q:={e.q with charged:=e.q.charged+((costK k:Nat):Int)}}:=by
 have h0:=(ok.q.fa _ e he).1;refine⟨(g.acc he).1,by show _<=e.q.charged+_;omega,fun h=>(g.used h).mem_iff.2 (by simp),fun h=>?_⟩;have hf:=g.frs;rw[if_pos h] at hf;obtain⟨x,rfl,hx⟩:=hf;exact⟨x,by rw[hx];simp,rfl⟩
theorem J2q{S:CO}{fr fr':List Nat}{N K:Nat}(ok:S.Ok fr N K){h n a i:Nat}{f p:Pl}{e:En Fa}{lim:Int}{P':PL}(hf:pget S.l 1 h=some f)(Dx:f.kind=1)(hn:n=8∨2<=n/\n<=5)(he:find S.P.q.E f.own=some e)(g:GotM S.P fr f.own n a P' fr')(hi:Fst S.l i p) :
  MadeOk S fr f e n a lim 0 i p P' fr':=by
 obtain⟨_,hE,B3,_⟩:=g.acc he;refine⟨ok.inv.addN g hi.1 hi.2.1 hn hf Dx,g.same,g.keptL ok.inv.mem,by rw[B3];omega,fun _=>hE,fun h=>by omega,fun _ j h1 h2=>?_,g.few,g.high ok.inv.mem.pool (by omega),g.keptH ok.inv.mem.pool,g.room.1⟩;rw[g.mem];have:j=a+(j-a):=by omega
 rw[this,Q7y (by rw[J3l];exact g.room.1) (by rw[J3l];omega),J5d,if_pos (by omega)]
theorem J2r{S:CO}{fr fr':List Nat}{N K:Nat}(ok:S.Ok fr N K)(hN:N+1<1048576){h a i b:Nat}{f p:Pl}{e:En Fa}{lim:Int}{P':PL}(hf:pget S.l 1 h=some f)(Dx:f.kind=1)(he:find S.P.q.E f.own=some e)(h0:0<=lim)(hl:lim<=Q0v e-64)(g:GotM S.P fr f.own 1 a P' fr')(hi:Fst S.l i p) :
  MadeOk S fr f e 1 a lim S.P.q.next.toNat i p ((P'.setQ (Q4c P'.q f.own {e with q:={e.q with charged:=e.q.charged+64}} b lim)).setA (put_ P'.a.mem a (Q0d S.P.q.next.toNat))) fr':=by
 obtain⟨Hc,hE,B3,_⟩:=g.acc he;have D0:costK 1=64:=rfl;rw[D0] at Hc hE;have hr:=g.room.1;rw[D0] at hr;have Gi:∀x,(Q0d x).length=8:=fun _=>rfl
 have Dk:=ok.inv.mem.pool.q.next0;have Ds:=ok.next;have NT:((S.P.q.next.toNat:Nat):Int)=S.P.q.next:=by omega
 have Ac:=g.same.len;have okq:(Q4c P'.q f.own {e with q:={e.q with charged:=e.q.charged+64}} b lim).Ok:=Z5Y g.ok.q Hc b h0 (by show lim<=e.q.limit-(e.q.charged+64+e.q.given);unfold Q0v at hl;omega) (by rw[B3];omega);have N4:(put_ P'.a.mem a (Q0d S.P.q.next.toNat)).length=P'.a.mem.length:=Q2v _ _ _ (by rw[Gi];omega);have Vc:∀y∈put_ P'.a.mem a (Q0d S.P.q.next.toNat),y<256:=by
  intro y hy;unfold put_ at hy;simp only[J3Q] at hy;rcases hy with (hy|hy)|hy
  ·exact g.ok.bytes y (J6y hy)
  ·exact Z6Z _ y hy
  ·exact g.ok.bytes y (J5F hy)
 have ok2:=PL.ok_setA (PL.ok_setQ g.ok okq) (m:=put_ P'.a.mem a (Q0d S.P.q.next.toNat)) N4 Vc;have hq:(Q4c P'.q f.own {e with q:={e.q with charged:=e.q.charged+64}} b lim).E=upd S.P.q.E f.own {e.q with charged:=e.q.charged+64,given:=e.q.given+lim,kids:=e.q.kids+1}++[⟨(S.P.q.next.toNat:Int),b,⟨lim,0,0,f.own,0⟩⟩]:=by
  unfold Q4c;simp only;rw[hE,upd_upd,B3,NT]
 have Mi:KeptL S.P.a.mem (put_ P'.a.mem a (Q0d S.P.q.next.toNat)) S.l:=KeptL.of_apart ok.inv.mem (n:=64) (a:=a) (fun c j h=>by
  have k1:Kept S.P.a.mem P'.a.mem c j:=by
   rw[g.mem];exact Q1J (by rw[J3l,D0];exact hr) (by rw[J3l,D0];exact h)
  exact k1.trans (Q1J (by rw[Gi];omega) (by rw[Gi];omega))) (g.apart ok.inv.mem.pool)
 refine⟨?_,⟨g.same.p,g.same.qt,g.same.db,g.same.aa,g.same.amb,g.same.top,N4.trans Ac⟩,Mi,?_,fun h=>absurd rfl h,fun _=>⟨NT,?_,b,hq⟩,fun h=>absurd rfl h,g.few,g.high ok.inv.mem.pool (by omega),fun j c hj hc=>?_,by rw[D0];exact hr⟩
 ·exact ok.inv.addF g hi.1 hi.2.1 hf Dx NT he hq rfl (fun j=>rfl) ok2
 ·show P'.q.next+1<=_;rw[B3];omega
 ·show P'.q.next+1=_;rw[B3]
 ·have:=(g.apart ok.inv.mem.pool).1 j c hc;rw[D0] at this;exact(g.keptH ok.inv.mem.pool j c hj hc).trans (Q1J (by rw[Gi];omega) (by rw[Gi];omega))
end Go.Proofs.YtfidemmgofcnmaaGreatDoor

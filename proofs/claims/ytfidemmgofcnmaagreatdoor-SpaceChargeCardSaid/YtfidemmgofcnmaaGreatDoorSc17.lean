/- SpaceCharge returns true at every input. No condition. Part of its proof. -/
import Derived.Test.YtfidemmgofcnmaaGreatDoorSc16
set_option maxHeartbeats 4000000
set_option maxRecDepth 100000
set_option linter.unusedVariables false
namespace Go.Proofs.YtfidemmgofcnmaaGreatDoor
open Go.RowKit Go.Proofs.Tryz
theorem Q6r (w:World) (h r:Nat) (hh:h<4294967295) (hr:r<16):Calls prog 104 #[.agg #[.int .u32 h,.int .i64 r]] w (Told w (.int .u64 ((⟨h,r,0⟩:Ent).a:Nat))):=by
 have hn:=Z8A h r hh hr;have hA:=Cells.new w 72 [.int .u32 h,.int .i64 r];have a0:=hA.cell 0 _ rfl;have a1:=hA.cell 1 _ rfl;have hb:Below w.heap.size w (w.alloc (.cells #[.int .u32 h,.int .i64 r] 72)):=(Below.refl _ _).alloc (J2y _) _;have HB:=Q0a hb;have TM:(0:Int)<=(h:Int)/\(h:Int)<4294967295:=by omega
 have Iz:(0:Int)<=(r:Int)/\(r:Int)<16:=by omega
 obtain⟨q1,q2⟩:=TM;obtain⟨q3,q4⟩:=Iz;generalize ((⟨h,r,0⟩:Ent).a:Nat)=z at *
 clear hA hb hh hr;go_enter func104,ntmps104;go_wp2_with fail
 first|exact⟨rfl,HB.out⟩|(go_ret;exact⟨rfl,HB.out⟩)
theorem Q8f {w:World} {Z:SP} {fr:List Nat} {N K:Nat} (hs:Sep w Z.hl) (ok:Z.S.Ok fr N K) (t:TPI Z.S Z.tb) {i s x g h r:Nat} {p:Pl} (hi:Z.S.l[i]?=some p) (h1:p.st=1) (h2:p.kind=2) (A7:s<256) (h0:(Z.tb i).en s=none) (hh:h<4294967295) (hr:r<16) (hg:TblZ Z p g w) :
  Calls prog 98 #[.pointer (some ⟨Z.s,0,none⟩),.agg #[.pointer (some ⟨g,0,none⟩),.int .u32 x,.int .i64 (p.fac:Int)],.int .i64 s,.agg #[.int .u32 h,.int .i64 r]] w fun rv w'=>∃er:Int,rv=.returned (.int .i64 er)/\LayR Z fr N K p.fac i s h r w er w':=by
 have hb:Below w.heap.size w ((w.alloc (.cells #[.pointer (some ⟨g,0,none⟩),.int .u32 x,.int .i64 (p.fac:Int)] 191)).alloc (.cells #[.int .u32 h,.int .i64 r] 72)):=((Below.refl _ _).alloc (J2y _) _).alloc (by simp) _;have BT:BoxL Z g x p.fac h r w.heap.size ((w.alloc (.cells #[.pointer (some ⟨g,0,none⟩),.int .u32 x,.int .i64 (p.fac:Int)] 191)).alloc (.cells #[.int .u32 h,.int .i64 r] 72)):=by
  refine⟨fun j v hj=>⟨w.heap.size,rfl,fun hk=>by have:=hs.lt hk;omega,by simp;omega,?_⟩,fun j v hj=>⟨w.heap.size+1,rfl,fun hk=>by have:=hs.lt hk;omega,by simp,?_⟩⟩
  ·exact ((Cells.new w 191 [.pointer (some ⟨g,0,none⟩),.int .u32 x,.int .i64 (p.fac:Int)]).alloc _).cell j v hj
  ·have:=(Cells.new (w.alloc (.cells #[.pointer (some ⟨g,0,none⟩),.int .u32 x,.int .i64 (p.fac:Int)] 191)) 72 [.int .u32 h,.int .i64 r]).cell j v hj
   simpa using this
 have FA:Hid (∀w1,Below ((w.alloc (.cells #[.pointer (some ⟨g,0,none⟩),.int .u32 x,.int .i64 (p.fac:Int)] 191)).alloc (.cells #[.int .u32 h,.int .i64 r] 72)).heap.size ((w.alloc (.cells #[.pointer (some ⟨g,0,none⟩),.int .u32 x,.int .i64 (p.fac:Int)] 191)).alloc (.cells #[.int .u32 h,.int .i64 r] 72)) w1->HeldL Z g p.fac h r w.heap.size w1/\Calls prog 27 #[.pointer (some ⟨Z.S.c,0,none⟩)] w1 (fun r w'=>r=.returned (.pointer (some ⟨Z.S.P.p,0,none⟩))/\w1=w')/\_):=fun w1 Av=>by
  have Ak:Below w.heap.size w w1:=hb.trans (Av.mono (by simp;omega));have s0:=(hs.grown hb).sep;have CL:=BT.step (s0.grown Av);have s1:=(hs.grown Ak).sep;exact⟨CL.held s1,Q1A (SP.sS s1),Z6a hs Ak ok t hi h1 h2 A7 h0 hh hr (hg.grown hs Ak) CL⟩
 have BO:=(FA.out _ (Below.refl _ _)).1;have D5:=(FA.out _ ((Below.refl _ _).drew)).1;have Dw:=(FA.out _ ((Below.refl _ _).drew)).2.1;have CS:=(FA.out _ ((Below.refl _ _).drew)).2.2;have CZ:=Q0a CS;have Jf:Hid (∀w,Calls prog 104 #[.agg #[.int .u32 h,.int .i64 r]] w (Told w (.int .u64 ((⟨h,r,0⟩:Ent).a:Nat)))):=fun w=>Q6r w h r hh hr
 clear FA BT hb hs ok t hi h1 h2 h0 hg CS;generalize LayR Z fr N K p.fac i s h r w=Q at *
 unfold HeldL at BO D5;go_enter func98,ntmps98;go_wp2_with fail
 go_region_held3 (fun w'=>w'.cell? ⟨Z.s,0,none⟩=some (.pointer (some ⟨Z.S.c,0,none⟩))/\w'.cell? ⟨w.heap.size,0,none⟩=some (.pointer (some ⟨g,0,none⟩))/\w'.cell? ⟨w.heap.size,2,none⟩=some (.int .i64 (p.fac:Int))/\w'.cell? ⟨w.heap.size+1,0,none⟩=some (.int .u32 h)/\w'.cell? ⟨w.heap.size+1,1,none⟩=some (.int .i64 r)) (first|exact BO|exact D5|exact Al)
  (first|(go_at_call 27;refine Dw.mono ?_;rintro r w' ⟨rfl,rfl⟩)|(go_at_call 15;refine CZ.out.mono ?_;rintro r w2 ⟨Al,a,er,rfl,hy⟩;have HY:=Q0a hy;clear hy CZ))
 rcases HY.out with ⟨Cu,hq⟩|⟨A,rfl,rfl,hA,hy⟩
 ·have HQ:=Q0a hq;clear hq HY BO D5 Dw Jf Al;rcases Cu with rfl|rfl
  all_goals
   go_wp2_with fail
   first|exact⟨_,rfl,HQ.out⟩|(go_ret;exact⟨_,rfl,HQ.out⟩)
 ·have HS:=Q0a hy;have Or:(0:Int)<=(A:Int):=by omega
  have Ru:(A:Int)<=1073741824:=by omega
  have Vo:IntKind.u64.wrap (A:Int)=(A:Int):=by rw [IntKind.wrap_u64];omega
  have PV:IntKind.i64.wrap (A:Int)=(A:Int):=Go.IntWalk.i64_in _ (by omega);have DL:HeldL Z g p.fac h r w.heap.size w2.drew:=Al;generalize ((⟨h,r,0⟩:Ent).a:Nat)=za at *
  clear hy HY BO D5 Dw hA;unfold HeldL at Al DL;go_wp2_with fail
  go_region_held3 (fun w'=>w'.cell? ⟨Z.s,0,none⟩=some (.pointer (some ⟨Z.S.c,0,none⟩))/\w'.cell? ⟨w.heap.size,0,none⟩=some (.pointer (some ⟨g,0,none⟩))/\w'.cell? ⟨w.heap.size,2,none⟩=some (.int .i64 (p.fac:Int))/\w'.cell? ⟨w.heap.size+1,0,none⟩=some (.int .u32 h)/\w'.cell? ⟨w.heap.size+1,1,none⟩=some (.int .i64 r)) (first|exact Al|exact DL|exact Gy|exact C0)
   (first|(go_at_call 104;refine (Jf.out _).mono ?_;rintro r w3 ⟨rfl,Ar⟩;have Gy:=HeldL.grown DL Ar;have GU:=Q0a Ar;clear Ar Jf)|(go_at_call 103;refine (HS.out _ (((Below.refl w2.heap.size w2).drew).trans GU.out)).mono ?_;rintro r w4 ⟨C0,er,rfl,hz⟩;have HZ:=Q0a hz;clear hz HS))
  rcases HZ.out with ⟨rfl,hq⟩|⟨Cu,hy⟩
  ·have HQ:=Q0a hq;clear hq HZ Al DL Gy C0;go_wp2_with fail
   first|exact⟨_,rfl,HQ.out⟩|(go_ret;exact⟨_,rfl,HQ.out⟩)
  ·have Mt:HeldL Z g p.fac h r w.heap.size w4.drew:=C0;have Dw:=(hy _ ((Below.refl _ _).drew)).1;have HP:=Q0a (hy _ ((Below.refl _ _).drew)).2;have FI:(er==0)=false:=by rcases Cu with rfl|rfl <;> rfl
   clear hy HZ Al DL Gy Cu;unfold HeldL at C0 Mt;go_wp2_with fail
   go_region_held3 (fun w'=>w'.cell? ⟨Z.s,0,none⟩=some (.pointer (some ⟨Z.S.c,0,none⟩))/\w'.cell? ⟨w.heap.size,0,none⟩=some (.pointer (some ⟨g,0,none⟩))/\w'.cell? ⟨w.heap.size,2,none⟩=some (.int .i64 (p.fac:Int))/\w'.cell? ⟨w.heap.size+1,0,none⟩=some (.int .u32 h)/\w'.cell? ⟨w.heap.size+1,1,none⟩=some (.int .i64 r)) (first|exact C0|exact Mt|exact Nw)
    (first|(go_at_call 27;refine Dw.mono ?_;rintro r w' ⟨rfl,rfl⟩)|(go_at_call 21;refine HP.out.mono ?_;rintro r w6 ⟨rfl,Nw,hq⟩;have HQ:=Q0a hq;clear hq HP))
   go_wp2_with fail
   first|exact⟨_,rfl,HQ.out⟩|(go_ret;exact⟨_,rfl,HQ.out⟩)
def Z6b (Z:SP) (g f B:Nat) (w':World):Prop:=w'.cell? ⟨Z.s,0,none⟩=some (.pointer (some ⟨Z.S.c,0,none⟩))/\w'.cell? ⟨B,0,none⟩=some (.pointer (some ⟨g,0,none⟩))/\w'.cell? ⟨B,2,none⟩=some (.int .i64 f)
theorem Z2X {w w1:World} {Z:SP} {fr:List Nat} {N K:Nat} (hs:Sep w Z.hl) (hb:Below w.heap.size w w1) (ok:Z.S.Ok fr N K) (t:TPI Z.S Z.tb) {i s x g B:Nat} {p:Pl} {e:Ent} (hi:Z.S.l[i]?=some p) (h1:p.st=1) (h2:p.kind=2) (A7:s<256) (he:(Z.tb i).en s=some e)
  (hg:TblZ Z p g w1) (BT:AsideV Z.hl [.pointer (some ⟨g,0,none⟩),.int .u32 x,.int .i64 (p.fac:Int)] (some ⟨B,0,none⟩) w1) :
  Calls prog 173 #[.pointer (some ⟨g,0,none⟩),.int .i64 s] w1 fun rv w2=>rv=.returned (.int .i64 0)/\Z6b Z g p.fac B w2/\e.nd<=1073741824/\∀w3,Below w2.heap.size w2 w3 ->
   Calls prog 27 #[.pointer (some ⟨Z.S.c,0,none⟩)] w3 (fun r w'=>r=.returned (.pointer (some ⟨Z.S.P.p,0,none⟩))/\w3=w') /\
   Calls prog 21 #[.pointer (some ⟨Z.S.P.p,0,none⟩),.int .i64 (p.fac:Int),.int .i64 6,.int .i64 (e.nd:Int)] w3 fun rv w4=>rv=.returned (.int .i64 0)/\Z6b Z g p.fac B w4/\J0H Z fr N K p.fac i s none w w4:=by
 have s1:=(hs.grown hb).sep;have AT:∃q∈Z.S.l,q.st=1/\(q.fac:Int)=(p.fac:Int):=⟨p,J4O hi,h1,rfl⟩
 have Am:=Q1p ok.inv.len hi;refine (Z2N ok (t.x (p.fac:Int)) hi h1 h2 rfl A7 he (SP.sS s1) hg.c).mono ?_;rintro rv w2 ⟨rfl,S1,t',ok1,t1,en,full,lf,al,st⟩;have st1z:=SP.stepS s1 S1 (updT Z.tb i t') al.c st;have st1:Step Z.hl (Z.setS S1 (updT Z.tb i t')).hl w w2:=(hs.grown hb).trans st1z;have CL:=AsideV.step BT st1z;have MZ:e.nd∈S1.P.usedOf 6:=t1.nds.mem_iff.1 (by simp);have hm:=Q0n ok1.inv.mem.pool MZ;have GS:=Q0p ok1.inv.mem.pool;have BO:∀{w3:World} {Z':SP},Z'.s=Z.s->Z'.S.c=Z.S.c->Sep w3 Z'.hl->AsideV Z'.hl [.pointer (some ⟨g,0,none⟩),.int .u32 x,.int .i64 (p.fac:Int)] (some ⟨B,0,none⟩) w3->Z6b Z g p.fac B w3:=fun {w3 Z'} e1 e2 hz hx=>by
  have:=SP.c0 hz;rw [e1,e2] at this;exact⟨this,hx.at 0 _ rfl,hx.at 2 _ rfl⟩
 refine⟨rfl,BO (Z':=Z.setS S1 (updT Z.tb i t')) rfl al.c st1.sep CL,by omega,fun w3 Ar=>?_⟩;have st3:=st1.trans (st1.sep.grown Ar);have Iv:=AsideV.step CL (st1.sep.grown Ar);have FU:S1.l[i]?=some p:=by rw [al.l];exact hi
 have km:=Q1A (SP.sS st3.sep);have He:(Z.setS S1 (updT Z.tb i t')).S.P.p=Z.S.P.p:=al.same.p;have A6:(Z.setS S1 (updT Z.tb i t')).S.c=Z.S.c:=al.c;rw [He,A6] at km;refine⟨km,?_⟩;obtain⟨ac1,Ga⟩:=Q8Y ok1 FU h1;have M9:=t1.paid ok1 Ga;rw [J4Z,J6B] at M9;obtain⟨c,hc⟩:=PL.cls ok1.inv.mem.pool (by omega:1<=6) (by omega);have kp:=Q4u (CO.sP (SP.sS st3.sep)) ok1.inv.mem.pool (p.fac:Int) Ga 6 (by rw [Q5a];omega) c hc e.nd (by rw [<- Q0U hc];exact MZ) (by omega);rw [He] at kp;refine kp.mono ?_;rintro rv w4 ⟨rfl,P2,b6,stp⟩;have Le:∃q∈S1.l,q.st=1/\(q.fac:Int)=(p.fac:Int):=by rw [al.l];exact AT
 obtain⟨ok2,t2⟩:=TPX.put (xl:=[]) (xn:=[]) ok1 (.inl rfl) (by rw [if_neg (by decide),if_pos rfl];exact t1) b6 Le;have al2:=al.trans (Alt.put ok1 b6);have stz:Step (Z.setS S1 (updT Z.tb i t')).hl ((Z.setS S1 (updT Z.tb i t')).setS (S1.paid P2 (p.fac:Int) (-((Q0c 6:Nat):Int))) (updT Z.tb i t')).hl w3 w4:=SP.stepS st3.sep _ _ rfl (CO.stepPaid (SP.sS st3.sep) P2 (p.fac:Int) _ b6.p stp);have stf:Step Z.hl (Z.setS (S1.paid P2 (p.fac:Int) (-((Q0c 6:Nat):Int))) (updT Z.tb i t')).hl w w4:=st3.trans stz;refine⟨rfl,BO (Z':=Z.setS (S1.paid P2 (p.fac:Int) (-((Q0c 6:Nat):Int))) (updT Z.tb i t')) rfl al2.c stf.sep (AsideV.step Iv stz),_,t',⟨ok2,t2.done fun j hj=>?_,en,lf,al2⟩,stf⟩
 by_cases ej:j=i
 ·subst ej;rw [updT_same];exact full (t.full j hj)
 ·rw [Q0X ej];exact t.full j hj
theorem Q4N {w:World} {Z:SP} {fr:List Nat} {N K:Nat} (hs:Sep w Z.hl) (ok:Z.S.Ok fr N K) (t:TPI Z.S Z.tb) {i s x g:Nat} {p:Pl} {e:Ent} (hi:Z.S.l[i]?=some p) (h1:p.st=1) (h2:p.kind=2) (A7:s<256) (he:(Z.tb i).en s=some e) (hg:TblZ Z p g w) :
  Calls prog 99 #[.pointer (some ⟨Z.s,0,none⟩),.agg #[.pointer (some ⟨g,0,none⟩),.int .u32 x,.int .i64 (p.fac:Int)],.int .i64 s] w fun rv w'=>rv=.returned (.tuple #[])/\J0H Z fr N K p.fac i s none w w':=by
 have hb:Below w.heap.size w (w.alloc (.cells #[.pointer (some ⟨g,0,none⟩),.int .u32 x,.int .i64 (p.fac:Int)] 191)):=(Below.refl _ _).alloc (J2y _) _;have BT:AsideV Z.hl [.pointer (some ⟨g,0,none⟩),.int .u32 x,.int .i64 (p.fac:Int)] (some ⟨w.heap.size,0,none⟩) (w.alloc (.cells #[.pointer (some ⟨g,0,none⟩),.int .u32 x,.int .i64 (p.fac:Int)] 191)):=fun j v hj=>⟨w.heap.size,rfl,fun hk=>by have:=hs.lt hk;omega,by simp,(Cells.new w 191 [.pointer (some ⟨g,0,none⟩),.int .u32 x,.int .i64 (p.fac:Int)]).cell j v hj⟩
 have T1:=(t.x (p.fac:Int)).tt ok hi h1 h2 (SP.sS (hs.grown hb).sep) (hg.grown hs hb).c;have kg:=Q3H T1 (s:Int);rw [show (Z.tb i).at' (s:Int)=some e by unfold TB.at';rw [if_pos ⟨by omega,by omega⟩,J3F,he]] at kg;have kc:=Z2X hs hb ok t hi h1 h2 A7 he (hg.grown hs hb) BT;have HK:=Q0a kc;have b0:=BT.at 0 _ rfl;unfold getV Q0W at kg;generalize Q0s (some e)=ca at *
 clear hb hs ok t hi h1 h2 he hg T1 kc BT;go_enter func99,ntmps99;go_wp2_with fail;refine kg.mono ?_;rintro r w1 ⟨rfl,rfl⟩;go_wp2_with fail;refine HK.out.mono ?_;rintro r w2 ⟨rfl,Al,AG,hy⟩;have Dw:=(hy _ ((Below.refl _ _).drew)).1;have HP:=Q0a (hy _ ((Below.refl _ _).drew)).2;clear hy HK kg;have Gz:Z6b Z g p.fac w.heap.size w2.drew:=Al;generalize e.nd=nd at *
 have CQ:(0:Int)<=(nd:Int)/\(nd:Int)<=1073741824:=by omega
 obtain⟨n0,n1⟩:=CQ;have Vo:IntKind.u64.wrap (nd:Int)=(nd:Int):=by rw [IntKind.wrap_u64];omega
 have PV:IntKind.i64.wrap (nd:Int)=(nd:Int):=Go.IntWalk.i64_in _ (by omega);unfold Z6b at Al Gz;go_wp2_with fail
 go_region_held3 (fun w'=>w'.cell? ⟨Z.s,0,none⟩=some (.pointer (some ⟨Z.S.c,0,none⟩))/\w'.cell? ⟨w.heap.size,0,none⟩=some (.pointer (some ⟨g,0,none⟩))/\w'.cell? ⟨w.heap.size,2,none⟩=some (.int .i64 (p.fac:Int))) (first|exact Al|exact Gz|exact Dy)
  (first|(go_at_call 27;refine Dw.mono ?_;rintro r w' ⟨rfl,rfl⟩)|(go_at_call 21;refine HP.out.mono ?_;rintro r w4 ⟨rfl,Dy,hq⟩;have HQ:=Q0a hq;clear hq HP))
 go_wp2_with fail
 first|exact⟨rfl,HQ.out⟩|(go_end0;exact⟨rfl,HQ.out⟩)
theorem J0I {N:List (En Nd)} (hs:N.Pairwise (fun a b=>(a.q.sp,a.q.sl)≠(b.q.sp,b.q.sl))) (Ac:N.Pairwise (fun a b=>a.id≠b.id)) {id:Int} {e:En Nd} (hf:find N id=some e):delS (okv N) (e.q.sp,e.q.sl)=okv (rem N id):=by
 obtain⟨A,B,hN,_,hr⟩:=Q2X Ac hf;rw [hr];rw [hN,J3n,J3a] at hs;obtain⟨_,⟨hB,_⟩,hA⟩:=hs
 conv=>lhs;rw [hN]
 unfold delS okv;rw [J6d,J2B,J4x,J6L,J6d];have a1:List.filter (fun q=>decide (q.1≠(e.q.sp,e.q.sl))) (A.map fun e=>((e.q.sp,e.q.sl),Value.int .i64 e.id))=A.map fun e=>((e.q.sp,e.q.sl),Value.int .i64 e.id):=by
  rw [J6H];intro x hx;obtain⟨c,hc,rfl⟩:=J2E.1 hx;show decide ((c.q.sp,c.q.sl)≠(e.q.sp,e.q.sl))=true;exact decide_eq_true (hA c hc e (by simp))
 have a2:List.filter (fun q=>decide (q.1≠(e.q.sp,e.q.sl))) (B.map fun e=>((e.q.sp,e.q.sl),Value.int .i64 e.id))=B.map fun e=>((e.q.sp,e.q.sl),Value.int .i64 e.id):=by
  rw [J6H];intro x hx;obtain⟨c,hc,rfl⟩:=J2E.1 hx;show decide ((c.q.sp,c.q.sl)≠(e.q.sp,e.q.sl))=true;exact decide_eq_true (hB c hc).symm
 rw [a1,a2,if_neg (by simp)]
def FO.cut (q:FO) (id:Int):FO:={q with N:=rem q.N id}
theorem FO.cut_perm {q:FO} (Ac:q.N.Pairwise (fun a b=>a.id≠b.id)) {id:Int} {e:En Nd} (hf:find q.N id=some e) :
  (q.head::(q.m,isMI (kvs (rem q.N id)))::(q.o,isMS (okv (rem q.N id)))::q.N.flatMap (ndH q.kr)).Perm ((q.cut id).hl++ndH q.kr e):=by
 obtain⟨A,B,hN,_,hr⟩:=Q2X Ac hf;have e1:(q.cut id).hl=q.head::(q.m,isMI (kvs (rem q.N id)))::(q.o,isMS (okv (rem q.N id)))::(A.flatMap (ndH q.kr)++B.flatMap (ndH q.kr)):=by
  show q.head::(q.m,isMI (kvs (rem q.N id)))::(q.o,isMS (okv (rem q.N id)))::(rem q.N id).flatMap (ndH q.kr)=_;rw [hr,J3h]
 have e2:q.N.flatMap (ndH q.kr)=A.flatMap (ndH q.kr)++(ndH q.kr e++B.flatMap (ndH q.kr)):=by
  conv=>lhs;rw [hN]
  rw [J3h,J2W]
 rw [e1,e2];simp only [J4L];refine List.Perm.cons _ (List.Perm.cons _ (List.Perm.cons _ ?_));rw [J3A];exact J5p _ J5n
theorem FO.spots_ok {q:FO} (hn:∀e∈q.N,0<=e.q.sp/\e.q.sp<4294967296/\0<=e.q.sl/\e.q.sl<256):∀p∈okv q.N,Q1K prog 173 p.1:=fun p hp=>by
 obtain⟨c,hc,rfl⟩:=J2E.1 hp;obtain⟨h1,h2,h3,h4⟩:=hn c hc;exact Q3j (p:=(c.q.sp,c.q.sl)) h1 (by show c.q.sp<_;omega) h3 (by show c.q.sl<_;omega)
theorem FO.okv_nd {N:List (En Nd)} (hs:N.Pairwise (fun a b=>(a.q.sp,a.q.sl)≠(b.q.sp,b.q.sl))):(okv N).Pairwise (fun a b=>a.1≠b.1):=by
 unfold okv;exact J3e.2 hs
theorem FO.delSteps {w:World} {q:FO} (h:Sep w q.hl) (Ac:q.N.Pairwise (fun a b=>a.id≠b.id)) (hs:q.N.Pairwise (fun a b=>(a.q.sp,a.q.sl)≠(b.q.sp,b.q.sl))) (hn:∀e∈q.N,0<=e.q.sp/\e.q.sp<4294967296/\0<=e.q.sl/\e.q.sl<256)
  {id:Int} {e:En Nd} (hf:find q.N id=some e) (t1 t2 t3 t4:TypeId) :
  ∃w3,(Builtin.delete_ #[280,t1] t2 #[.map (some q.m),.int .i64 id]).run prog w=.ok (.tuple #[]) w3/\Step q.hl (q.head::(q.m,isMI (kvs (rem q.N id)))::(q.o,isMS (okv q.N))::q.N.flatMap (ndH q.kr)) w w3 /\
   ∀w3',Below w3.heap.size w3 w3'->∃w4,(Builtin.delete_ #[281,t3] t4 #[.map (some q.o),.agg #[.int .i64 e.q.sp,.int .i64 e.q.sl]]).run prog w3'=.ok (.tuple #[]) w4/\Step q.hl ((q.cut id).hl++ndH q.kr e) w w4:=by
 obtain⟨BU,EL⟩:=Q0b hf;obtain⟨w3,r3,m3,g3⟩:=Q3S (FO.map h) id t1 t2 underlying280 underlying3;rw [Q7J] at m3;obtain⟨es,Af,ho,hr⟩:=m3;have s3:=Sep.turn (A:=[q.head]) (B:=(q.o,isMS (okv q.N))::q.N.flatMap (ndH q.kr)) (q':=isMI (kvs (rem q.N id))) h g3 ⟨_,ho,es,Af,rfl,hr⟩;refine⟨w3,r3,s3,fun w3' hb=>?_⟩;have s3':=s3.trans (s3.sep.grown hb);have m3':Q3g w3' q.o (okv q.N):=s3'.sep.map (by simp [isMS]);have Gv:=hn e BU;obtain⟨w4,r4,m4,g4⟩:=Q6g m3' Z0B (FO.okv_nd hs) (FO.spots_ok hn) (Q3j (p:=(e.q.sp,e.q.sl)) Gv.1 (by show e.q.sp<_;omega) Gv.2.2.1 (by show e.q.sl<_;omega)) t3 t4 underlying281
 rw [J0I hs Ac hf] at m4;obtain⟨es4,ER,NP,KP⟩:=m4;have s4:=Sep.turn (A:=[q.head,(q.m,isMI (kvs (rem q.N id)))]) (B:=q.N.flatMap (ndH q.kr)) (q':=isMS (okv (rem q.N id))) s3'.sep g4 ⟨_,NP,es4,ER,rfl,KP⟩;exact⟨w4,r4,(s3'.trans s4).perm (J5T _) (FO.cut_perm Ac hf)⟩
theorem Z1P (f:En Nd->Nd):∀(N:List (En Nd)) (id:Int),rem (mapE f N) id=mapE f (rem N id)
 | [],_=>rfl
 | c::r,id=>by
  show rem ({c with q:=f c}::mapE f r) id=mapE f (rem (c::r) id);unfold rem;show (if id=c.id then mapE f r else {c with q:=f c}::rem (mapE f r) id)=_;rw [Z1P f r id];split <;> rfl
theorem Q9n {N:List (En Nd)} (Ac:N.Pairwise (fun a b=>a.id≠b.id)) {c p:En Nd} {id:Int} (hc:c∈N) (hi:c.id=id) (hp:find N id=some p):c=p:=by
 have:=Q0l Ac hc;rw [hi,hp] at this;exact (J3x this).symm
def cutK (p:Nd) (id:Int):Nd:={p with ks:=p.ks.filter fun k=>decide (k≠id)}
theorem Z8C {N:List (En Nd)} (Ac:N.Pairwise (fun a b=>a.id≠b.id)) {e p:En Nd} (hp:find N e.q.par=some p) :
  rem (mapE (fun c=>if c.id=e.q.par then cutK p.q e.id else c.q) N) e.id=Q0C N e 0:=by
 rw [Z1P];unfold Q0C;refine Q5b fun c hc=>?_
 have Nt:=Q7K hc;unfold Q0t;rw [J5Z];by_cases h:c.id=e.q.par
 ·have:=Q9n Ac Nt h hp;subst this;simp [h,cutK]
 ·simp [h]
theorem Z6c {N:List (En Nd)} {e:En Nd} (h:∀c∈N,c.id≠e.q.par):rem N e.id=Q0C N e 0:=by
 unfold Q0C;rw [Z0u];intro c hc;have:=h c (Q7K hc);unfold Q0t;simp [this]
theorem Q6s {N:List (En Nd)} (Ac:N.Pairwise (fun a b=>a.id≠b.id)) (e:En Nd) (j:Nat):(Q0C N e j).Pairwise (fun a b=>a.id≠b.id):=Q2d (fun _ _ h=>h) (Ac.sublist (Q1y N e.id))
theorem Q6t {N:List (En Nd)} (Ac:N.Pairwise (fun a b=>a.id≠b.id)) (e:En Nd) (j:Nat) (id:Int):find (Q0C N e j) id=if id=e.id then none else (find N id).map fun c=>{c with q:=Q0t e j c}:=by
 unfold Q0C;rw [Q1q,Q2l Ac];split <;> rfl
theorem Z6d {N:List (En Nd)} (Ac:N.Pairwise (fun a b=>a.id≠b.id)) {e:En Nd} {j:Nat} {k:Int} (hk:e.q.ks[j]?=some k) (AG:e.q.ks.Nodup) {c p:En Nd} (hc:find (Q0C N e j) k=some c) (Ht:k≠e.q.par)
  (hp:find (mapE (fun d=>if d.id=k then {c.q with par:=e.q.par} else d.q) (Q0C N e j)) e.q.par=some p) :
  mapE (fun d=>if d.id=e.q.par then {p.q with ks:=p.q.ks++[k]} else d.q) (mapE (fun d=>if d.id=k then {c.q with par:=e.q.par} else d.q) (Q0C N e j))=Q0C N e (j+1):=by
 have Cb:=Q6s Ac e j;obtain⟨Dc,Hm⟩:=Q0b hc;rw [Q6h];unfold Q0C at Cb hc hp Dc ⊢;rw [Q6h];refine Q5b fun d hd=>?_
 have AR:e.q.ks.take (j+1)=e.q.ks.take j++[k]:=by
  rw [J4w,hk];rfl
 have EQ:({d with q:=Q0t e j d}:En Nd)∈mapE (Q0t e j) (rem N e.id):=J2E.2 ⟨d,hd,rfl⟩;by_cases h1:d.id=e.q.par
 ·have h2:d.id≠k:=fun h=>Ht (by rw [<- h,h1])
  have I3:p={d with q:=Q0t e j d}:=by
   have hx:find (mapE (fun d=>if d.id=k then {c.q with par:=e.q.par} else d.q) (mapE (Q0t e j) (rem N e.id))) d.id=some ({d with q:=Q0t e j d}:En Nd):=by
    rw [Q1q];have:=Q0l Cb EQ;simp only at this;rw [this];simp only [J4o,if_neg h2]
   exact (J3x (hx.symm.trans ((congrArg (find _) h1).trans hp))).symm
  simp only [h1,if_true];rw [I3];have h3:¬e.q.par=k:=fun h=>Ht h.symm
  unfold Q0t;simp only [h1,if_true,AR,J3o,J4H,h3,or_false,J3A]
 ·simp only [h1,if_false];by_cases h2:d.id=k
  ·simp only [h2,if_true];have DL:c={d with q:=Q0t e j d}:=Q9n Cb EQ h2 hc |>.symm;rw [DL];have h3:¬k=e.q.par:=Ht;unfold Q0t;simp only [h2,h3,if_false,AR,J3o,J4H,or_true,if_true]
  ·simp only [h2,if_false];unfold Q0t;simp only [h1,if_false,AR,J3o,J4H,h2,or_false]
theorem Z2Y {N:List (En Nd)} (Ac:N.Pairwise (fun a b=>a.id≠b.id)) {e:En Nd} {j:Nat} {k:Int} (hk:e.q.ks[j]?=some k) {c:En Nd} (hc:find (Q0C N e j) k=some c) (Aq:∀d∈N,d.id≠e.q.par) :
  mapE (fun d=>if d.id=k then {c.q with par:=e.q.par} else d.q) (Q0C N e j)=Q0C N e (j+1):=by
 have Cb:=Q6s Ac e j;unfold Q0C at Cb hc ⊢;rw [Q6h];refine Q5b fun d hd=>?_
 have AR:e.q.ks.take (j+1)=e.q.ks.take j++[k]:=by
  rw [J4w,hk];rfl
 have EQ:({d with q:=Q0t e j d}:En Nd)∈mapE (Q0t e j) (rem N e.id):=J2E.2 ⟨d,hd,rfl⟩;have h1:=Aq d (Q7K hd);by_cases h2:d.id=k
 ·simp only [h2,if_true];have DL:c={d with q:=Q0t e j d}:=Q9n Cb EQ h2 hc |>.symm;rw [DL];have h3:¬k=e.q.par:=h2 ▸ h1;unfold Q0t;simp only [h3,if_false,AR,J3o,J4H,h2,or_true,if_true]
 ·simp only [h2,if_false];unfold Q0t;simp only [h1,if_false,AR,J3o,J4H,h2,or_false]
structure Z2Z (q:FO) (e:En Nd) (j:Nat) (F:FO):Prop where
 f:F.f=q.f
 m:F.m=q.m
 o:F.o=q.o
 N:F.N=Q0C q.N e j
 next:F.next=q.next
 rv:∀c∈F.N,rvOk (F.kr c.id) c.q.ks.length
theorem Z8D {N:List (En Nd)} {next:Int} (ok:NOk N next) {a b:En Nd} (ha:a∈N) (hb:b∈N) (Aa:a.id≠b.id):a.q.ks.length+b.q.ks.length<=N.length:=by
 have AG:(a.q.ks++b.q.ks).Nodup:=by
  rw [J3t];refine⟨ok.nd a ha,ok.nd b hb,fun x hx y hy Ll=>?_⟩;subst Ll;obtain⟨c,hc,h1⟩:=ok.kids a ha x hx;obtain⟨d,hd,h2⟩:=ok.kids b hb x hy;rw [hc] at hd;cases hd;exact Aa (h1.symm.trans h2)
 have:=J6O AG (l₂:=N.map En.id) (fun k hk=>by
  rcases J3o.1 hk with hk|hk
  ·obtain⟨c,hc,_⟩:=ok.kids a ha k hk;obtain⟨c1,c2⟩:=Q0b hc;exact J2E.2 ⟨c,c1,c2⟩
  ·obtain⟨c,hc,_⟩:=ok.kids b hb k hk;obtain⟨c1,c2⟩:=Q0b hc;exact J2E.2 ⟨c,c1,c2⟩)
 rwa [J3j,J4j] at this
theorem Z6e {F:FO} {id:Int} {c:En Nd} (Ac:F.N.Pairwise (fun a b=>a.id≠b.id)) (hf:find F.N id=some c) (h:∀c∈F.N,rvOk (F.kr c.id) c.q.ks.length) {n:Nd} {rv:RV} (hn:rvOk rv n.ks.length):∀d∈(F.setN id n rv).N,rvOk ((F.setN id n rv).kr d.id) d.q.ks.length:=fun d hd=>by
 obtain⟨d0,NK,rfl⟩:=Q1r (show d∈mapE _ F.N from hd);show rvOk (if d0.id=id then rv else F.kr d0.id) (if d0.id=id then n else d0.q).ks.length;split
 ·exact hn
 ·exact h d0 NK
theorem Q7t {wr:World} {q F:FO} {e:En Nd} {j:Nat} {k:Int} (ok:q.Ok) (he:find q.N e.id=some e) (L:Z2Z q e j F) (hs:Sep wr (F.hl++ndH q.kr e)) (hj:e.q.ks[j]?=some k) :
  ∃c,find F.N k=some c/\(wr.cell? ⟨F.f,0,none⟩=some (.map (some F.m))/\wr.cell? ⟨e.b,2,none⟩=some (.int .i64 e.q.par)/\wr.frozen? ⟨c.b,2,none⟩=false/\∃v,wr.cell? ⟨c.b,2,none⟩=some v) /\
   (Instr.lookup 280 (.map (some F.m)) (.int .i64 k) false).run prog wr=.ok (.pointer (some ⟨c.b,0,none⟩)) wr /\
   ((wr.setCell ⟨c.b,2,none⟩ (.int .i64 e.q.par)).cell? ⟨e.b,2,none⟩=some (.int .i64 e.q.par)) /\
   ∀W1,Below (wr.setCell ⟨c.b,2,none⟩ (.int .i64 e.q.par)).heap.size (wr.setCell ⟨c.b,2,none⟩ (.int .i64 e.q.par)) W1 ->
    (find q.N e.q.par=none->Calls prog 180 #[.pointer (some ⟨F.f,0,none⟩),.int .i64 e.q.par] W1 (fun r w'=>r=.returned (.pointer none)/\W1=w') /\
     ∃F',Z2Z q e (j+1) F'/\Step (F.hl++ndH q.kr e) (F'.hl++ndH q.kr e) wr W1) /\
    (find q.N e.q.par≠none->∃(pb:Nat) (V:Value),Calls prog 180 #[.pointer (some ⟨F.f,0,none⟩),.int .i64 e.q.par] W1 (fun r w'=>r=.returned (.pointer (some ⟨pb,0,none⟩))/\W1=w')/\W1.cell? ⟨pb,3,none⟩=some V/\(∃a n c,V=.slice a n c) /\
     ∃(V':Value) (w':World),(Builtin.append_ #[38,38] 38 #[V,.slice (some ⟨W1.heap.size,0,none⟩) 1 1]).run prog (W1.alloc (.cells #[.int .i64 k] 3))=.ok V' w'/\(∃a n c,V'=.slice a n c)/\w'.cell? ⟨pb,3,none⟩=some V/\(∀i,w'.frozen? ⟨pb,i,none⟩=false) /\
      ∃F',Z2Z q e (j+1) F'/\Step (F.hl++ndH q.kr e) (F'.hl++ndH q.kr e) wr (w'.setCell ⟨pb,3,none⟩ V')):=by
 obtain⟨BU,_⟩:=Q0b he;have Sy:k∈e.q.ks:=J4O hj;obtain⟨d,hd,Eq⟩:=ok.n.kids e BU k Sy;obtain⟨EQ,If⟩:=Q0b hd;have Iz:=ok.n.rise d EQ;have KY:=ok.n.rise e BU;have Va:k≠e.id:=by omega
 have Ht:k≠e.q.par:=by omega
 have GP:F.N.Pairwise (fun a b=>a.id≠b.id):=by rw [L.N];exact Q6s ok.n.ids e j
 have Et:find F.N k=some {d with q:=Q0t e j d}:=by rw [L.N,Q6t ok.n.ids,if_neg Va,hd];rfl
 generalize hc:({d with q:=Q0t e j d}:En Nd)=c at Et;obtain⟨Dc,Hm⟩:=Q0b Et;have N9:=hs.left;have FC:=hs.right;have AU:Cells wr e.b 285 (e.q.cells (q.kr e.id)):=FC.cells (by simp [ndH]);obtain⟨R,p1,p2⟩:=FO.split GP Et;have A6:=(N9.perm p1).cells (b:=c.b) (T:=285) (cs:=c.q.cells (F.kr k)) (by simp);have AP:=Sep.set (A:=[]) (B:=rowH (F.kr k) 3 1 (c.q.ks.map encI)++R) (N9.perm p1) 2 (.int .i64 e.q.par);have AJ:(c.q.cells (F.kr k)).set 2 (.int .i64 e.q.par)=Nd.cells {c.q with par:=e.q.par} (F.kr k):=rfl;rw [AJ] at AP;have stF:Step F.hl (F.setN k {c.q with par:=e.q.par} (F.kr k)).hl wr (wr.setCell ⟨c.b,2,none⟩ (.int .i64 e.q.par)):=AP.perm p1.symm (p2 {c.q with par:=e.q.par} (F.kr k) rfl rfl).symm
 have st1:Step (F.hl++ndH q.kr e) ((F.setN k {c.q with par:=e.q.par} (F.kr k)).hl++ndH q.kr e) wr (wr.setCell ⟨c.b,2,none⟩ (.int .i64 e.q.par)):=by
  have:=Step.frame [] (ndH q.kr e) (by simpa using hs) stF
  simpa using this
 have Iy:Cells (wr.setCell ⟨c.b,2,none⟩ (.int .i64 e.q.par)) e.b 285 (e.q.cells (q.kr e.id)):=st1.sep.right.cells (by simp [ndH]);refine⟨c,Et,⟨FO.c0 N9,AU.cell 2 _ rfl,A6.free 2,_,A6.cell 2 _ rfl⟩,FO.look_some N9 Et,Iy.cell 2 _ rfl,fun W1 hW=>?_⟩;have st1':=st1.trans (st1.sep.grown hW);have Ix:Sep W1 (F.setN k {c.q with par:=e.q.par} (F.kr k)).hl:=st1'.sep.left;have C7:(F.setN k {c.q with par:=e.q.par} (F.kr k)).N.Pairwise (fun a b=>a.id≠b.id):=Q2d (fun _ _ h=>h) GP;have LF:=L.rv c Dc;rw [Hm] at LF;have JX:=Z6e GP Et L.rv (n:={c.q with par:=e.q.par}) (rv:=F.kr k) LF
 have U3:∀i,(F.setN k {c.q with par:=e.q.par} (F.kr k)).kr i=F.kr i:=fun i=>by
  show (if i=k then F.kr k else F.kr i)=F.kr i;split
  ·rename_i h;rw [h]
  ·rfl
 have find1:∀id,find (F.setN k {c.q with par:=e.q.par} (F.kr k)).N id=(find F.N id).map fun d=>{d with q:=if d.id=k then {c.q with par:=e.q.par} else d.q}:=fun id=>Q1q _ _ _
 refine⟨fun Aq=>?_,fun Hy=>?_⟩
 ·have Ux:find (F.setN k {c.q with par:=e.q.par} (F.kr k)).N e.q.par=none:=by
   rw [find1,L.N,Q6t ok.n.ids,Aq];split <;> rfl
  refine⟨Q4L Ix Ux,F.setN k {c.q with par:=e.q.par} (F.kr k),⟨L.f,L.m,L.o,?_,L.next,JX⟩,st1'⟩;show mapE _ F.N=_;rw [L.N];exact Z2Y ok.n.ids hj (by rw [<- L.N];exact Et) fun d hd h=>by
   have:=Q0l ok.n.ids hd;rw [h,Aq] at this;cases this
 ·obtain⟨p0,E3⟩:=Option.ne_none_iff_exists'.1 Hy;obtain⟨OP,Lk⟩:=Q0b E3;have I3:e.q.par≠e.id:=by omega
  have GN:find (F.setN k {c.q with par:=e.q.par} (F.kr k)).N e.q.par=some {p0 with q:=Q0t e j p0}:=by
   rw [find1,L.N,Q6t ok.n.ids,if_neg I3,E3];simp only [J4o,J2N];rw [Lk,if_neg (fun h=>Ht h.symm)]
  generalize hp:({p0 with q:=Q0t e j p0}:En Nd)=p at GN;obtain⟨BF,F9⟩:=Q0b GN;have MR:=JX p BF;rw [F9] at MR;have Cy:=Z8D ok.n OP BU (by omega);have Cx:=ok.few;have Ae:p.q.ks.length<=65536:=by
   rw [<- hp];show (Q0t e j p0).ks.length<=_;unfold Q0t;simp only;split
   ·rw [J3j,J4T];have:=J4P (fun k=>decide (k≠e.id)) p0.q.ks;omega
   ·omega
  obtain⟨rv',w',r5,Cz,k3,kf,st5⟩:=FO.pushK Ix C7 GN MR Ae k 38;have c3:=(FO.nd Ix GN).cell 3 (lvOf ((F.setN k {c.q with par:=e.q.par} (F.kr k)).kr p.id) p.q.ks.length) rfl;rw [F9] at c3;have lvs:∀(rv:RV) (n:Nat),∃a n' c,lvOf rv n=.slice a n' c:=fun rv n=>by
   cases rv with
   | none=>exact⟨_,_,_,rfl⟩
   | some p=>exact⟨_,_,_,rfl⟩
  refine⟨p.b,_,Q2P Ix GN,c3,lvs _ _,_,w',r5,?_,k3,kf,(F.setN k {c.q with par:=e.q.par} (F.kr k)).setN e.q.par {p.q with ks:=p.q.ks++[k]} rv',⟨L.f,L.m,L.o,?_,L.next,?_⟩,?_⟩
  ·cases rv' with
   | none=>exact⟨_,_,_,rfl⟩
   | some p=>exact⟨_,_,_,rfl⟩
  ·show mapE _ (mapE _ F.N)=_;have hx:=Z6d ok.n.ids (e:=e) (j:=j) (k:=k) hj (ok.n.nd e BU) (c:=c) (p:=p) (by rw [<- L.N];exact Et) Ht (by rw [<- L.N];exact GN);rw [L.N];exact hx
  ·exact Z6e C7 GN JX (n:={p.q with ks:=p.q.ks++[k]}) (by rw [J3j,J6B];exact Cz)
  ·have:=Step.frame [] (ndH q.kr e) (by simpa using st1'.sep) st5;exact st1'.trans (by simpa using this)
theorem Q4O (x id:Int) (b:Nat) (w:World) (h:w.cell? ⟨b,0,none⟩=some (.int .i64 id)) :
  Calls prog 241 #[.int .i64 x,.pointer (some ⟨b,0,none⟩)] w fun e w'=>e=.returned (.bool (x==id))/\w=w':=by
 go_enter func241,ntmps241
 go_wp2
 go_ret;exact⟨rfl,rfl⟩
def J1F (xs:List Int) (id:Int) (e:Ending):Prop:=
 (∃k:Nat,k<xs.length/\e=.returned (.int .i64 k)/\xs[k]?.getD 0=id/\∀j,j<k->xs[j]?.getD 0≠id)∨(e=.returned (.int .i64 (-1))/\∀j,j<xs.length->xs[j]?.getD 0≠id)
def Z6f (b:Nat):Value:=.func (.func 241) #[] #[.pointer (some ⟨b,0,none⟩)]
theorem Z0C (xs:List Int) (id:Int) (b g cap:Nat) (w:World) (h:w.cell? ⟨b,0,none⟩=some (.int .i64 id)) (hm:xs.length<=4611686018427387904)
  (hc:∀k,k<xs.length->w.cell? ⟨g,k,none⟩=some (.int .i64 (xs[k]?.getD 0))) :
  Calls prog 252 #[.slice (some ⟨g,0,none⟩) xs.length cap,Z6f b] w fun e w'=>J1F xs id e/\w=w':=by
 unfold Z6f;go_enter func252,ntmps252;go_wp2_with fail
 go_loop [5,8] (fun _ i=>∃k:Nat,k<=xs.length/\i=.int .i64 k/\∀j,j<k->xs[j]?.getD 0≠id) (fun _ i=>xs.length-(intOf i).toNat)
 case atStart=>exact⟨0,J4C _,rfl,by intro j hj;omega⟩
 case round =>
  obtain⟨k,hk,rfl,A3⟩:=hrel;have Hp:Hid (∀j,j<k->xs[j]?.getD 0≠id):=A3;clear A3;by_cases Ab:k<xs.length
  ·have D1:=hc k Ab;have hh:=h;clear hc h;generalize hx:xs[k]?.getD 0=x at D1;have Hx:Hid (xs[k]?.getD 0=x):=hx;clear hx;by_cases hx:x=id
   ·have hb:(x==id)=true:=by simpa using hx
    have O6:Hid (x=id):=hx;clear hx;go_wp2_with (go_at_call 241;refine (Q4O _ id b _ hh).mono ?_;rintro e w' ⟨rfl,rfl⟩);go_ret;exact⟨.inl ⟨k,Ab,rfl,Hx.out.trans O6.out,Hp.out⟩,rfl⟩
   ·have hb:(x==id)=false:=by simpa using hx
    have O6:Hid (x≠id):=hx;clear hx;go_wp2_with (go_at_call 241;refine (Q4O _ id b _ hh).mono ?_;rintro e w' ⟨rfl,rfl⟩)
    go_round
    case rel =>
     refine⟨k+1,by omega,by go_num,fun j hj=>?_⟩;by_cases e:j=k
     ·subst e;rw [Hx.out];exact O6.out
     ·exact Hp.out j (by omega)
    case measure=>simp [intOf];omega
  ·clear hc;go_wp2_with fail;go_ret;exact⟨.inr ⟨rfl,fun j hj=>Hp.out j (by omega)⟩,rfl⟩
def fltK (xs:List Int) (id:Int):List Int:=xs.filter fun x=>x != id
theorem Q9o {xs:List Int} {id:Int} (h:∀j,j<xs.length->xs[j]?.getD 0≠id):fltK xs id=xs:=by
 unfold fltK;rw [J6H];intro x hx;obtain⟨j,hj,rfl⟩:=List.getElem_of_mem hx;have:=h j hj
 simpa [hj] using this
theorem Q3X (xs:List Int) (id:Int) (j:Nat) (hj:j<xs.length) :
  fltK (xs.take (j+1)) id=if xs[j]?.getD 0=id then fltK (xs.take j) id else fltK (xs.take j) id++[xs[j]?.getD 0]:=by
 rw [J6P hj];unfold fltK;rw [J4x];by_cases h:xs[j]=id <;> simp [h,hj]
def Z8E (w:World) (g cap:Nat) (ys:List Int) (e:Ending) (w':World):Prop:=
 e=.returned (.slice (some ⟨g,0,none⟩) ys.length cap)/\(∃cs,Cells w' g 3 cs/\cs.length=cap/\cs.take ys.length=ys.map (Value.int .i64))/\w.grownBy w' (some g)
def Z6g (xs:List Int) (id:Int) (g cap:Nat) (w:World) (k0:Nat) (iv jv:Value) (wr:World):Prop:=
 ∃j cs,jv=.int .i64 (j:Nat)/\iv=.int .i64 ((fltK (xs.take j) id).length:Nat)/\k0<j/\j<=xs.length/\(fltK (xs.take j) id).length<j/\Cells wr g 3 cs/\cs.length=cap /\
  cs.take (fltK (xs.take j) id).length=(fltK (xs.take j) id).map (Value.int .i64)/\(∀m,j<=m->m<xs.length->cs[m]?=some (.int .i64 (xs[m]?.getD 0)))/\w.grownBy wr (some g)
theorem J1G (w:World):(zeroValue 3).run prog w=.ok (.int .i64 0) w:=by kernel_rfl
theorem Q9p (xs:List Int) (id:Int) (b g cap:Nat) (w:World) (cs0:List Value) (h:w.cell? ⟨b,0,none⟩=some (.int .i64 id)) (Aa:b≠g) (hc:Cells w g 3 cs0) (AE:xs.length<=cap) (AJ:cs0.length=cap)
  (CU:cs0.take xs.length=xs.map (Value.int .i64)) (hm:xs.length<=1048576) :
  Calls prog 240 #[.slice (some ⟨g,0,none⟩) xs.length cap,Z6f b] w (Z8E w g cap (fltK xs id)):=by
 have Al:∀k,k<xs.length->cs0[k]?=some (.int .i64 (xs[k]?.getD 0)):=by
  intro k hk;have h1:(cs0.take xs.length)[k]?=(xs.map (Value.int .i64))[k]?:=by rw [CU]
  rw [J4D,if_pos hk] at h1;rw [h1];simp [hk]
 have Lv:=Z0C xs id b g cap w h (by omega) (fun k hk=>hc.cell k _ (Al k hk));unfold Z6f at Lv ⊢;go_enter func240,ntmps240;go_wp2_with fail;refine Lv.mono ?_;rintro e w' ⟨⟨k,hk,rfl,IE,A3⟩|⟨rfl,AQ⟩,rfl⟩
 case inr =>
  have Ku:=Q9o AQ
  go_wp2
  go_ret;rw [Ku];exact⟨rfl,⟨cs0,hc,AJ,CU⟩,⟨rfl,rfl,rfl,J2y _,fun _ _ _=>rfl⟩⟩
 case inl =>
  have QY:fltK (xs.take k) id=xs.take k:=Q9o (by
   intro j hj;have KZ:j<k:=by simp at hj;omega
   have:=A3 j KZ
   simpa [J4D,KZ] using this)
  have IJ:fltK (xs.take (k+1)) id=xs.take k:=by rw [Q3X xs id k hk,if_pos IE,QY]
  have DN:Hid (Z6g xs id g cap w k (.int .i64 k) (.int .i64 ((k:Int)+1)) w):=by
   refine⟨k+1,cs0,by go_num,?_,by omega,by omega,?_,hc,AJ,?_,fun m _ hm=>Al m hm,⟨rfl,rfl,rfl,J2y _,fun _ _ _=>rfl⟩⟩
   ·rw [IJ];simp;omega
   ·rw [IJ];simp;omega
   ·rw [IJ];have h1:=congrArg (List.take k) CU;rw [J4V,<- List.map_take] at h1;have e1:(List.take k xs).length=k:=by simp;omega
    rw [e1,<- h1];congr 1;omega
  have Kk:((k:Int) == -1)=false:=by simp
  clear Al Lv QY IJ IE A3 hc CU AJ;go_wp2_with fail
  go_loopw [5,6] (fun iv jv wr=>Z6g xs id g cap w k iv jv wr) (fun _ jv _=>xs.length-(intOf jv).toNat)
  case atStart=>exact DN.out
  case round =>
   clear DN;obtain⟨j,cs,rfl,rfl,NE,hj,FE,hc,AJ,A3,IS,hg⟩:=hrel;generalize hi:(fltK (List.take j xs) id).length=i at FE A3;have Hi:Hid ((fltK (List.take j xs) id).length=i):=hi;clear hi;have BI:wr.cell? ⟨b,0,none⟩=some (.int .i64 id):=hg.cell h (by simpa using Aa);have JS:Hid (List.take i cs=List.map (Value.int IntKind.i64) (fltK (List.take j xs) id)):=A3;have Gf:Hid (∀(m:Nat),j<=m->m<xs.length->cs[m]?=some (Value.int IntKind.i64 (xs[m]?.getD 0))):=IS;have KD:Hid (cs.length=cap):=AJ;clear A3 IS h AJ;by_cases Ab:j<xs.length
   ·have Ta:=hc.cell j _ (Gf.out j (J2y _) Ab);have Jp:=hc.cell i (cs[i]?.getD undef) (by have:=KD.out;rw [J4R (by omega)];rfl);generalize hu:cs[i]?.getD undef=u at Jp;clear hu;have VF:=hc.free i;generalize hx:xs[j]?.getD 0=x at Ta;have Hx:Hid (xs[j]?.getD 0=x):=hx;clear hx;have Bt:Hid (Cells wr g 3 cs):=hc;clear hc;have Ky:=Q3X xs id j Ab;by_cases hx:x=id
    ·have Hf:Hid (fltK (List.take (j+1) xs) id=fltK (List.take j xs) id):=by rw [Ky,if_pos (Hx.out.trans hx)];exact rfl
     have BT:(x==id)=true:=by simpa using hx
     clear hx Ky;go_wp2_with (go_at_call 241;refine (Q4O _ id b _ BI).mono ?_;rintro e w' ⟨rfl,rfl⟩);go_roundw
     case rel =>
      refine⟨j+1,cs,by go_num,?_,by omega,by omega,?_,Bt.out,KD.out,?_,fun m Dm CT=>Gf.out m (by omega) CT,hg⟩
      ·rw [Hf.out,Hi.out]
      ·rw [Hf.out,Hi.out];omega
      ·rw [Hf.out,Hi.out];exact JS.out
     case measure=>simp [intOf];omega
    ·have Hf:Hid (fltK (List.take (j+1) xs) id=fltK (List.take j xs) id++[x]):=by rw [Ky,if_neg (by rw [Hx.out];exact hx),Hx.out];exact rfl
     have BT:(x==id)=false:=by simpa using hx
     clear hx Ky;go_wp2_with (go_at_call 241;refine (Q4O _ id b _ BI).mono ?_;rintro e w' ⟨rfl,rfl⟩);go_roundw
     case rel =>
      refine⟨j+1,cs.set i (.int .i64 x),by go_num,?_,by omega,by omega,?_,Bt.out.set _ _,by simpa using KD.out,?_,fun m Dm CT=>?_,?_⟩
      ·rw [Hf.out];simp [Hi.out]
      ·rw [Hf.out];simp [Hi.out];omega
      ·rw [Hf.out];have e1:(fltK (List.take j xs) id++[x]).length=i+1:=by simp [Hi.out]
       have Cw:i<cs.length:=by have:=KD.out;omega
       rw [e1,J6P (by simpa using Cw),J3B (J2y _),JS.out];simp
      ·rw [J6h (by omega)];exact Gf.out m (by omega) CT
      ·exact⟨hg.os,hg.tape,hg.output,by simpa using hg.size,fun q hq hqn=>(Below.heap_setCell _ _ _ _ (fun e=>hqn (by simp [e]))).trans (hg.block q hq hqn)⟩
     case measure=>simp [intOf];omega
   ·obtain rfl:j=xs.length:=by omega
    have Rq:i<cap:=by omega
    have Jp:((cap:Int)==i)=false:=by simp;omega
    have IM:¬(cap=i):=by omega
    have Bt:Hid (Cells wr g 3 cs):=hc;clear hc;go_wp2_with (refine Q4l _ rfl (.tmp 38) 38 3 rfl underlying38 (.int .i64 0) J1G rfl rfl g i (xs.length-i) (cap-i) rfl (by omega) 3 cs Bt.out (by have:=KD.out;omega) ?_;intro w2 BC B3);go_ret;have Dr:List.take xs.length xs=xs:=J4y (J2y _);have Pc:=Hi.out;have J4:=JS.out;have Vi:=KD.out;rw [Dr] at Pc J4;refine⟨by rw [Pc];rfl,⟨_,BC,?_,?_⟩,?_⟩
    ·simp;omega
    ·rw [Pc,J3A,J4U (by simp;omega),J4V,Nat.min_self,J4]
    ·exact⟨B3.os.trans hg.os,B3.tape.trans hg.tape,B3.output.trans hg.output,J2z hg.size B3.size,fun q hq hqn=>(B3.block q (J2A hq hg.size) hqn).trans (hg.block q hq hqn)⟩
theorem Step.aside {H H':HL} {w w1 w2:World} (st:Step H H' w w1) {F:Nat->Prop} (hc:Chg F w1 w2) (hF:∀b,F b->w.heap.size<=b/\b∉keys H') (Cm:GB<=w.heap.size):Step H H' w w2:=
 ⟨st.sep.chg hc (fun b hb hf=>(hF b hf).2 hb) (fun b hf=>J2z Cm (hF b hf).1),st.chg.trans hc (fun i hi=>.inr (hF i hi).1),st.new⟩
theorem Step.set_aside {H H':HL} {w w1:World} (st:Step H H' w w1) {b:Nat} (hb:w.heap.size<=b) (hk:b∉keys H') (Cm:GB<=w.heap.size) (i:Nat) (v:Value):Step H H' w (w1.setCell ⟨b,i,none⟩ v):=
 st.aside (F:=fun k=>k=b) ((Chg.refl _ _).set _ _ (.inl rfl)) (fun k Bu=>by subst Bu;exact⟨hb,hk⟩) Cm
def FO.dropped (q:FO) (e:En Nd):FO:={q with N:=Q0C q.N e 0}
theorem FO.cutRow {w:World} {q:FO} (h:Sep w q.hl) (ok:q.Ok) {e p:En Nd} (he:find q.N e.id=some e) (hp:find q.N e.q.par=some p) {b:Nat} (hb:w.cell? ⟨b,0,none⟩=some (.int .i64 e.id)) (A9:b∉keys q.hl) (EZ:b<w.heap.size) :
  ∃g cap:Nat,q.kr e.q.par=some (g,cap)/\Calls prog 240 #[.slice (some ⟨g,0,none⟩) p.q.ks.length cap,Z6f b] w fun r w'=>r=.returned (.slice (some ⟨g,0,none⟩) (cutK p.q e.id).ks.length cap) /\
   (w'.cell? ⟨b,0,none⟩=some (.int .i64 e.id))/\w'.frozen? ⟨p.b,3,none⟩=false/\(∃v,w'.cell? ⟨p.b,3,none⟩=some v) /\
   Step q.hl (q.setN e.q.par (cutK p.q e.id) (some (g,cap))).hl w (w'.setCell ⟨p.b,3,none⟩ (.slice (some ⟨g,0,none⟩) (cutK p.q e.id).ks.length cap)):=by
 obtain⟨BU,_⟩:=Q0b he;obtain⟨BF,F9⟩:=Q0b hp;have Cf:e.id∈p.q.ks:=by
  obtain⟨p',B8,hk⟩:=(ok.n.par e BU).2 (by have:=ok.n.rng p BF;omega);rw [hp] at B8;cases B8;exact hk
 have AO:=ok.rv p BF;rw [F9] at AO;obtain⟨R,p1,p2⟩:=FO.split ok.n.ids hp;cases CF:q.kr e.q.par with
 | none =>
  rw [CF] at AO;have:p.q.ks.length=0:=AO;rw [J4z] at this;rw [this] at Cf;cases Cf
 | some gc =>
  obtain⟨g,cap⟩:=gc;rw [CF] at AO p1;obtain⟨AE,Ii⟩:p.q.ks.length<=cap/\cap<=maxLen:=AO;refine⟨g,cap,rfl,?_⟩;have pm:∀(Z:HL) (a:Nat×(Obj->Prop)),((a::Z)++R).Perm (Z++(a::R)):=fun Z a=>J6e.symm
  have h':Sep w (rowH (some (g,cap)) 3 1 (p.q.ks.map encI)++((p.b,isC 285 (p.q.cells (some (g,cap))))::R)):=h.perm (p1.trans (pm _ _));obtain⟨ds,FK,DR,RY⟩:=h'.left.row (b:=g) (T:=3) (n:=cap*1) (cs:=p.q.ks.map encI) (by simp [rowH]);rw [J3G] at DR;rw [J4j] at RY;have Ex:g∈keys q.hl:=by
   have:g∈keys (rowH (some (g,cap)) 3 1 (p.q.ks.map encI)++((p.b,isC 285 (p.q.cells (some (g,cap))))::R)):=by simp [rowH,keys]
   exact ((p1.trans (pm _ _)).map Prod.fst).mem_iff.2 this
  have Sf:b≠g:=fun x=>A9 (x ▸ Ex)
  have Cx:=ok.n.kids_few BF;have Gx:=ok.few;have PS:fltK p.q.ks e.id=(cutK p.q e.id).ks:=by
   unfold fltK cutK;exact J5q fun x _=>by by_cases hx:x=e.id <;> simp [hx]
  refine (Q9p p.q.ks e.id b g cap w ds hb Sf FK AE DR (by rw [RY]) (by omega)).mono ?_;rintro r w' ⟨hr,⟨cs,Bt,AJ,Nk⟩,hg⟩;rw [PS] at hr Nk;have s1:=Sep.turn (A:=[]) (B:=(p.b,isC 285 (p.q.cells (some (g,cap))))::R) (q':=isR 3 (cap*1) ((cutK p.q e.id).ks.map encI)) h' hg ⟨_,Bt,cs.toArray,rfl,by simpa using AJ,by
   rw [J4j]
   simpa using Nk⟩
  have hc:=s1.sep.cells (b:=p.b) (T:=285) (cs:=p.q.cells (some (g,cap))) (by simp);have s2:=Sep.set (A:=[(g,isR 3 (cap*1) ((cutK p.q e.id).ks.map encI))]) (B:=R) s1.sep 3 (.slice (some ⟨g,0,none⟩) (cutK p.q e.id).ks.length cap);have PX:(p.q.cells (some (g,cap))).set 3 (.slice (some ⟨g,0,none⟩) (cutK p.q e.id).ks.length cap)=(cutK p.q e.id).cells (some (g,cap)):=rfl;rw [PX] at s2;refine⟨hr,hg.cell hb (by simpa using Sf),hc.free 3,⟨_,hc.cell 3 _ rfl⟩,(s1.trans s2).perm ((p1.trans (pm _ _)).symm) ?_⟩;exact ((p2 (cutK p.q e.id) (some (g,cap)) rfl rfl).trans (pm _ _)).symm
def Z8F (q:FO) (e:En Nd) (w w':World):Prop:=Step q.hl ((q.dropped e).hl++ndH q.kr e) w w'
theorem Z8G {q:FO} (ok:q.Ok) {e p:En Nd} (hp:find q.N e.q.par=some p) {rv:RV} (CF:q.kr e.q.par=rv):(q.setN e.q.par (cutK p.q e.id) rv).cut e.id=q.dropped e/\(q.setN e.q.par (cutK p.q e.id) rv).kr=q.kr:=by
 have hk:(fun j=>if j=e.q.par then rv else q.kr j)=q.kr:=by
  funext j;split
  ·rename_i h;rw [h];exact CF.symm
  ·rfl
 refine⟨?_,hk⟩;unfold FO.cut FO.setN FO.dropped;simp only [hk];rw [Z8C ok.n.ids hp]
theorem Z6h {q:FO} {e:En Nd} (he:find q.N e.id=some e) (Aa:e.id≠e.q.par) (n:Nd) (rv:RV):find (q.setN e.q.par n rv).N e.id=some e:=by
 show find (mapE _ q.N) e.id=_;rw [Q1q,he];simp only [J4o,if_neg Aa]
end Go.Proofs.YtfidemmgofcnmaaGreatDoor

/- What the laws of spaces share is proved. No condition. Part of a proof. -/
import Derived.Test.YtfidemmgofcnmaaGreatDoorBz08
import Derived.Deep.MidRow
import Derived.Deep.LoopGhost
set_option maxHeartbeats 4000000
set_option maxRecDepth 100000
set_option linter.unusedVariables false
namespace Go.Proofs.YtfidemmgofcnmaaGreatDoor
open Go.RowKit Go.Proofs.Tryz
theorem Q8S{w:World}(bb:Nat):Calls prog 65 #[ptr bb,.int .i64 0] w fun r w'=>r=.returned (.pointer none)/\w=w':=by
 unfold ptr;go_enter func65,ntmps65;go_wp2_with fail;go_ret;exact⟨rfl,rfl⟩
def PL.cellsN(P:PL):List Value:=ptr P.q.t::ptr P.d.b::ptr P.a.a::.pointer none::(P.cs.map (fun c=>ptr c.c)++List.replicate (7-P.cs.length) (.pointer none))
def PL.hlN(P:PL):HL:=(P.p,isC 137 P.cellsN)::(P.q.hl++(P.d.hl++(P.a.hl++P.cs.flatMap CA.hl)))
theorem Z8v{P:PL}(h:P.cs.length=7):P.hlN=P.hl:=by
 unfold PL.hlN PL.hl PL.cellsN PL.cells;rw[h];simp
theorem PL.snoc{w w1:World}{H:HL}{P:PL}(hl:P.cs.length<7)(c:CA)(hs:Step (P.hlN++H) (c.hl++(P.hlN++H)) w w1) :
  Step (P.hlN++H) (({P with cs:=P.cs++[c]}:PL).hlN++H) w (w1.setCell ⟨P.p,3+(P.cs.length+1),none⟩ (ptr c.c)):=by
 have ec:P.cellsN.set (3+(P.cs.length+1)) (ptr c.c)=({P with cs:=P.cs++[c]}:PL).cellsN:=by
  unfold PL.cellsN;rw[show 3+(P.cs.length+1)=P.cs.length+1+1+1+1 by omega];simp only[J5M,J3N,J6Z,J6E,J3k,J5H];rw[J6R _ _ (by simp),J4K,J6t,show 7-P.cs.length=(7-(P.cs.length+1))+1 by omega,J7a,J5N,J4b];rfl
 have s2:Step _ _ w1 _:=Sep.set (A:=c.hl) (b:=P.p) (T:=137) (cs:=P.cellsN) (B:=(P.q.hl++(P.d.hl++(P.a.hl++P.cs.flatMap CA.hl)))++H) (by simpa[PL.hlN] using hs.sep) (3+(P.cs.length+1)) (ptr c.c);rw[ec] at s2;have h3:=Step.trans (H1:=c.hl++(P.p,isC 137 P.cellsN)::((P.q.hl++(P.d.hl++(P.a.hl++P.cs.flatMap CA.hl)))++H)) (by simpa[PL.hlN] using hs) s2;refine h3.perm (.of_eq (by unfold PL.hlN;simp)) (Q0X fun a=>?_);simp only[PL.hlN,J3M,J3E,J7b,J5h,hc_append,hc_cons];omega
def FreshC(bb:Nat)(cs:List CA):Prop:=∀j c,cs[j]?=some c->c.bb=bb/\c.size=Q0e (j+1)/\c.rv=none/\c.pg=[]
theorem FreshC.snoc{bb:Nat}{cs:List CA}(h:FreshC bb cs)(c:Nat):FreshC bb (cs++[⟨c,bb,Q0e (cs.length+1),none,[]⟩]):=by
 intro j x hx;by_cases hj:j<cs.length
 ·rw[J6p hj] at hx;exact h j x hx
 ·rw[J6q (by omega)] at hx;have:j=cs.length:=by
   have:=(J3y.1 hx).1;simp at this;omega
  subst this;rw[J6t] at hx;cases hx;exact⟨rfl,rfl,rfl,rfl⟩
structure FreshP(P:PL)(top:Nat)(limit:Int):Prop where
 q:∃t m b,P.q=Q2h t m b limit
 etop:P.d.top=top
 ps:P.d.ps=[]
 at':P.d.At
 mem:P.a.mem=List.replicate (2 ^ (top+10)) 0
 cs:FreshC P.d.b P.cs
theorem FreshP.ok{P:PL}{top:Nat}{limit:Int}(h:FreshP P top limit)(hl:P.cs.length=7)(h1:6<=top)(h0:0<=limit)(hm:limit<=1073741824):P.Ok []:=by
 obtain⟨t,m,b,hq⟩:=h.q;have DE:P.pages=[]:=by
  unfold PL.pages;rw[List.flatMap_eq_nil_iff];intro c hc;obtain⟨j,hj⟩:=J5Q.1 hc;rw[(h.cs j c hj).2.2.2];rfl
 refine⟨by rw[hq];exact Z8t t m b limit h0 hm,h.at',by rw[h.mem,h.etop,J3r],by rw[h.etop];exact h1,?_,hl,?_,by rw[DE,h.ps];exact J6v _,?_⟩
 ·intro x hx;rw[h.mem] at hx;rw[J3p hx];omega
 ·intro k c hc;obtain⟨e1,e2,e3,e4⟩:=h.cs k c hc;have hk:k<7:=by have:=(J3y.1 hc).1;omega
  obtain⟨s0,s1,_⟩:=Q7Q (k:=k+1) (by omega) (by omega);have MS:=CA.ok_new c.c c.bb c.size (by rw[e2];omega) (by rw[e2];omega);have:(⟨c.c,c.bb,c.size,none,[]⟩:CA)=c:=by cases c;simp_all
  rw[this] at MS;exact⟨MS,e2,e1⟩
 ·intro c hc x hx;obtain⟨j,hj⟩:=J5Q.1 hc;rw[(h.cs j c hj).2.2.2] at hx;cases hx
def J1i(top:Nat)(limit:Int)(H:HL)(w:World)(r:Ending)(w':World):Prop:=∃P:PL,r=.returned (.pointer (some ⟨P.p,0,none⟩))/\P.cs.length=7/\FreshP P top limit/\Step H (P.hl++H) w w'
def Z1F(P:PL)(i:Nat)(top:Nat)(limit:Int)(H:HL)(w wr:World):Prop:=P.cs.length=i-1/\FreshP P top limit/\Step H (P.hlN++H) w wr
theorem Z2J{w wr:World}{H:HL}{P:PL}{i top:Nat}{limit:Int}(hi:i<8)(hp:Z1F P i top limit H w wr)(cst:Int)(hc:Z4k[i]?=some cst) :
  wr.cell? ⟨P.p,1,none⟩=some (ptr P.d.b)/\wr.cell? ⟨P.p,3+i,none⟩=some (.pointer none)/\wr.frozen? ⟨P.p,3+i,none⟩=false /\
  Calls prog 65 #[ptr P.d.b,.int .i64 cst] wr.drew fun r w1=>∃v,r=.returned (.pointer v)/\w1.cell? ⟨P.p,1,none⟩=some (ptr P.d.b)/\(∀v,(w1.setCell ⟨P.p,3+i,none⟩ v).cell? ⟨P.p,1,none⟩=some (ptr P.d.b))/\w1.cell? ⟨P.p,3+i,none⟩=some (.pointer none)/\w1.frozen? ⟨P.p,3+i,none⟩=false /\
   ∃P':PL,P'.p=P.p/\P'.d.b=P.d.b/\Z1F P' (i+1) top limit H w (w1.setCell ⟨P.p,3+i,none⟩ (.pointer v)):=by
 obtain⟨Ab,hf,Ao⟩:=hp;have cells:∀{w1:World},Sep w1 P.hlN->w1.cell? ⟨P.p,1,none⟩=some (ptr P.d.b)/\(∀v,(w1.setCell ⟨P.p,3+i,none⟩ v).cell? ⟨P.p,1,none⟩=some (ptr P.d.b))/\w1.cell? ⟨P.p,3+i,none⟩=some (.pointer none)/\w1.frozen? ⟨P.p,3+i,none⟩=false:=by
  intro w1 CN;have Bi:Cells w1 P.p 137 P.cellsN:=CN.cells (by simp[PL.hlN]);refine⟨Bi.cell 1 _ rfl,fun v=>(Bi.set (3+i) v).cell 1 _ ?_,Bi.cell (3+i) _ ?_,Bi.free _⟩
  ·rw[J6H (by omega)];rfl
  ·unfold PL.cellsN;cases i with
   | zero=>rfl
   | succ i =>
    rw[show 3+(i+1)=i+1+1+1+1 by omega];simp only[J6o];rw[J6q (by simp;omega),J4K,Ab];rw[J5c,if_pos (by omega)]
 have hs:=Ao.sep.left;obtain⟨a1,_,a2,a3⟩:=cells hs;refine⟨a1,a2,a3,?_⟩;cases i with
 | zero =>
  cases hc
  refine(Q8S P.d.b).mono ?_;rintro r w1⟨rfl,rfl⟩;obtain⟨b1,b2,b3,b4⟩:=cells Ao.sep.drew.left;have hP:P.cs=[]:=J5r Ab;have GS:Step (P.hlN++H) (P.hlN++H) wr.drew (wr.drew.setCell ⟨P.p,3,none⟩ (.pointer none)):=by
   have:=Sep.set (A:=[]) (b:=P.p) (T:=137) (cs:=P.cellsN) (B:=(P.q.hl++(P.d.hl++(P.a.hl++P.cs.flatMap CA.hl)))++H) (by simpa[PL.hlN] using Ao.sep.drew) 3 (.pointer none);have e:P.cellsN.set 3 (.pointer none)=P.cellsN:=rfl;rw[e] at this
   simpa[PL.hlN] using this
  exact⟨none,rfl,b1,b2,b3,b4,P,rfl,rfl,by simp[Ab],hf,Ao.trans GS.from_drew⟩
 | succ i =>
  have GZ:cst=((Q0e (i+1):Nat):Int):=by
   have:=Q8K (k:=i+1) hi;rw[hc] at this;cases this;rfl
  subst GZ;obtain⟨s0,s1,s2⟩:=Q7Q (k:=i+1) (by omega) (by omega);refine(Z0p Ao.sep.drew P.d.b (Q0e (i+1)) (by omega) (by omega) s2).mono ?_;rintro r w1⟨c,rfl,CN⟩;obtain⟨b1,b2,b3,b4⟩:=cells CN.sep.right.left;have ME:P.cs.length=i:=by omega
  have J7:=PL.snoc (by omega) _ CN.from_drew;rw[ME] at J7;have Kn:=hf.cs.snoc c;rw[ME] at Kn;exact⟨some ⟨c,0,none⟩,rfl,b1,b2,b3,b4,{P with cs:=P.cs++[⟨c,P.d.b,Q0e (i+1),none,[]⟩]},rfl,rfl,by simp[ME],⟨hf.q,hf.etop,hf.ps,hf.at',hf.mem,Kn⟩,Ao.trans J7⟩
theorem Z2K{w w1 w2 w3:World}{H:HL}{limit:Int}{top:Nat}{t m b:Nat}{d:BD}{a:AN}(s1:Step H ((Q2h t m b limit).hl++H) w w1)(e1:d.top=top)(e2:d.ps=[])(e3:d.At)(s2:Step ((Q2h t m b limit).hl++H) (d.hl++((Q2h t m b limit).hl++H)) w1 w2)
  (e4:a.mem=List.replicate (2 ^ (top+10)) 0) (s3:Step (d.hl++((Q2h t m b limit).hl++H)) (a.hl++(d.hl++((Q2h t m b limit).hl++H))) w2 w3) :
  Z1F ⟨w3.heap.size,Q2h t m b limit,d,a,[]⟩ 0 top limit H w (w3.alloc (.cells #[ptr t,ptr d.b,ptr a.a,.pointer none,.pointer none,.pointer none,.pointer none,.pointer none,.pointer none,.pointer none,.pointer none] 137)):=by
 have s4:=s3.sep.new 137 [ptr t,ptr d.b,ptr a.a,.pointer none,.pointer none,.pointer none,.pointer none,.pointer none,.pointer none,.pointer none,.pointer none];refine⟨rfl,⟨⟨t,m,b,rfl⟩,e1,e2,e3,e4,fun j c hj=>by simp at hj⟩,?_⟩;have:=((s1.trans s2).trans s3).trans s4;refine this.perm (J6v _) (Q0X fun x=>?_);have e:PL.cellsN ⟨w3.heap.size,Q2h t m b limit,d,a,[]⟩=[ptr t,ptr d.b,ptr a.a,.pointer none,.pointer none,.pointer none,.pointer none,.pointer none,.pointer none,.pointer none,.pointer none]:=rfl;simp only[PL.hlN,e,J7b,J5h,hc_append,hc_cons];omega
theorem Z5s(w:World):(Instr.index 138 (.agg #[.int .i64 0,.int .i64 64,.int .i64 128,.int .i64 256,.int .i64 32,.int .i64 32,.int .i64 48,.int .i64 256]) (.int .i64 0)).run prog w=.ok (.int .i64 0) w:=by kernel_rfl
theorem Z5t(w:World):(Instr.index 138 (.agg #[.int .i64 0,.int .i64 64,.int .i64 128,.int .i64 256,.int .i64 32,.int .i64 32,.int .i64 48,.int .i64 256]) (.int .i64 1)).run prog w=.ok (.int .i64 64) w:=by kernel_rfl
theorem Z5u(w:World):(Instr.index 138 (.agg #[.int .i64 0,.int .i64 64,.int .i64 128,.int .i64 256,.int .i64 32,.int .i64 32,.int .i64 48,.int .i64 256]) (.int .i64 2)).run prog w=.ok (.int .i64 128) w:=by kernel_rfl
theorem Z5v(w:World):(Instr.index 138 (.agg #[.int .i64 0,.int .i64 64,.int .i64 128,.int .i64 256,.int .i64 32,.int .i64 32,.int .i64 48,.int .i64 256]) (.int .i64 3)).run prog w=.ok (.int .i64 256) w:=by kernel_rfl
theorem Z5w(w:World):(Instr.index 138 (.agg #[.int .i64 0,.int .i64 64,.int .i64 128,.int .i64 256,.int .i64 32,.int .i64 32,.int .i64 48,.int .i64 256]) (.int .i64 4)).run prog w=.ok (.int .i64 32) w:=by kernel_rfl
theorem Z5x(w:World):(Instr.index 138 (.agg #[.int .i64 0,.int .i64 64,.int .i64 128,.int .i64 256,.int .i64 32,.int .i64 32,.int .i64 48,.int .i64 256]) (.int .i64 5)).run prog w=.ok (.int .i64 32) w:=by kernel_rfl
theorem Z5y(w:World):(Instr.index 138 (.agg #[.int .i64 0,.int .i64 64,.int .i64 128,.int .i64 256,.int .i64 32,.int .i64 32,.int .i64 48,.int .i64 256]) (.int .i64 6)).run prog w=.ok (.int .i64 48) w:=by kernel_rfl
theorem Z5z(w:World):(Instr.index 138 (.agg #[.int .i64 0,.int .i64 64,.int .i64 128,.int .i64 256,.int .i64 32,.int .i64 32,.int .i64 48,.int .i64 256]) (.int .i64 7)).run prog w=.ok (.int .i64 256) w:=by kernel_rfl
theorem Z8w{w:World}{H:HL}(h:Sep w H)(top:Nat)(h1:6<=top)(h2:top<=20)(limit:Int)(OP:0<=limit)(D7:limit<=((2 ^ (top+10):Nat):Int)):Calls prog 12 #[.int .i64 ((2 ^ (top+10):Nat):Int),.int .i64 limit] w (J1i top limit H w):=by
 have b2:2 ^ (top+10)<=1073741824:=J3i (J4p (by omega) (by omega)) (by decide:2 ^ 30<=1073741824);have k1:=Z8u h limit OP (by omega);have HQ:Hid (∀r w1,NewQ limit H w r w1->∃t m b,r=.returned (.pointer (some ⟨t,0,none⟩))/\Step H ((Q2h t m b limit).hl++H) w w1/\Calls prog 63 #[.int .i64 ((2 ^ (top+10):Nat):Int)] w1 (J1h top ((Q2h t m b limit).hl++H) w1)):=by
  rintro r w1⟨t,m,b,rfl,s1⟩;exact⟨t,m,b,rfl,s1,Z5r s1.sep top h1 h2⟩
 have HA:Hid (∀w2 H2,Sep w2 H2->Calls prog 64 #[.int .i64 ((2 ^ (top+10):Nat):Int)] w2 (J1a (2 ^ (top+10)) H2 w2)):=fun w2 H2 s2=>Z4X s2 (top+10) (by omega) (by omega)
 clear h;generalize Br:2 ^ (top+10)=sz at *
 have VA:=Q0a Br;clear Br;go_enter func12,ntmps12;go_wp2_with fail;refine k1.mono ?_;intro r w1 hx;obtain⟨t,m,b,rfl,s1,hb⟩:=HQ.out _ _ hx;have HB:=Q0a hb;have S1:=Q0a s1;clear hx hb s1;go_wp2_with fail;refine HB.out.mono ?_;rintro r w2⟨d,rfl,e1,e2,e3,s2⟩;have S2:=Q0a s2;have ha:=HA.out w2 _ s2.sep;have Xb:=Q0a ha;have E1:=Q0a e1;have E2:=Q0a e2;clear ha s2 e1 e2;go_wp2_with fail;refine Xb.out.mono ?_;rintro r w3⟨a,rfl,e4,s3⟩;have G5:=Z2K S1.out E1.out E2.out e3 S2.out (by rw[VA.out];exact e4) s3;have HP:=Q0a G5;have E7:=Q0a (G5.2.2.sep.env.tabC);clear e3 e4 s3 G5;unfold ptr at *
 have g0:(w3.alloc (.cells #[.pointer (some ⟨t,0,none⟩),.pointer (some ⟨d.b,0,none⟩),.pointer (some ⟨a.a,0,none⟩),.pointer none,.pointer none,.pointer none,.pointer none,.pointer none,.pointer none,.pointer none,.pointer none] 137)).cell? ⟨0,0,none⟩=some (.int .i64 0):=E7.out 0 0 rfl;have g1:(w3.alloc (.cells #[.pointer (some ⟨t,0,none⟩),.pointer (some ⟨d.b,0,none⟩),.pointer (some ⟨a.a,0,none⟩),.pointer none,.pointer none,.pointer none,.pointer none,.pointer none,.pointer none,.pointer none,.pointer none] 137)).cell? ⟨0,1,none⟩=some (.int .i64 64):=E7.out 1 64 rfl;have g2:(w3.alloc (.cells #[.pointer (some ⟨t,0,none⟩),.pointer (some ⟨d.b,0,none⟩),.pointer (some ⟨a.a,0,none⟩),.pointer none,.pointer none,.pointer none,.pointer none,.pointer none,.pointer none,.pointer none,.pointer none] 137)).cell? ⟨0,2,none⟩=some (.int .i64 128):=E7.out 2 128 rfl
 have g3:(w3.alloc (.cells #[.pointer (some ⟨t,0,none⟩),.pointer (some ⟨d.b,0,none⟩),.pointer (some ⟨a.a,0,none⟩),.pointer none,.pointer none,.pointer none,.pointer none,.pointer none,.pointer none,.pointer none,.pointer none] 137)).cell? ⟨0,3,none⟩=some (.int .i64 256):=E7.out 3 256 rfl;have g4:(w3.alloc (.cells #[.pointer (some ⟨t,0,none⟩),.pointer (some ⟨d.b,0,none⟩),.pointer (some ⟨a.a,0,none⟩),.pointer none,.pointer none,.pointer none,.pointer none,.pointer none,.pointer none,.pointer none,.pointer none] 137)).cell? ⟨0,4,none⟩=some (.int .i64 32):=E7.out 4 32 rfl;have g5:(w3.alloc (.cells #[.pointer (some ⟨t,0,none⟩),.pointer (some ⟨d.b,0,none⟩),.pointer (some ⟨a.a,0,none⟩),.pointer none,.pointer none,.pointer none,.pointer none,.pointer none,.pointer none,.pointer none,.pointer none] 137)).cell? ⟨0,5,none⟩=some (.int .i64 32):=E7.out 5 32 rfl
 have g6:(w3.alloc (.cells #[.pointer (some ⟨t,0,none⟩),.pointer (some ⟨d.b,0,none⟩),.pointer (some ⟨a.a,0,none⟩),.pointer none,.pointer none,.pointer none,.pointer none,.pointer none,.pointer none,.pointer none,.pointer none] 137)).cell? ⟨0,6,none⟩=some (.int .i64 48):=E7.out 6 48 rfl;have g7:(w3.alloc (.cells #[.pointer (some ⟨t,0,none⟩),.pointer (some ⟨d.b,0,none⟩),.pointer (some ⟨a.a,0,none⟩),.pointer none,.pointer none,.pointer none,.pointer none,.pointer none,.pointer none,.pointer none,.pointer none] 137)).cell? ⟨0,7,none⟩=some (.int .i64 256):=E7.out 7 256 rfl;go_wp2_with fail;clear g0 g1 g2 g3 g4 g5 g6 g7
 have ix0:=Z5s;have ix1:=Z5t;have ix2:=Z5u;have ix3:=Z5v;have ix4:=Z5w;have ix5:=Z5x;have ix6:=Z5y;have ix7:=Z5z
 go_loopw [34] (fun iv wr=>∃(i:Nat) (P:PL),iv=.int .i64 i/\i<=8/\P.p=w3.heap.size/\P.d.b=d.b/\Z1F P i top limit H w wr) (fun iv _=>8-(intOf iv).toNat)
 case atStart=>exact⟨0,_,rfl,by omega,rfl,rfl,HP.out⟩
 case round =>
  clear HP;obtain⟨i,P,rfl,hi,ep,ed,hp⟩:=hrel;by_cases Aa:i<8
  ·have JU:=fun cst hc=>Z2J Aa hp cst hc
   rw[ep,ed] at JU;have Um:=Q0a JU;clear JU hp ep ed;have KJ:i=0∨i=1∨i=2∨i=3∨i=4∨i=5∨i=6∨i=7:=by omega
   rcases KJ with rfl|rfl|rfl|rfl|rfl|rfl|rfl|rfl
   all_goals
    obtain⟨c0,c1,cf,AI⟩:=Um.out _ rfl;clear Um;unfold ptr at *
    have Co:=Q0a AI;clear AI;have d0:wr.drew.cell? ⟨w3.heap.size,1,none⟩=some (.pointer (some ⟨d.b,0,none⟩)):=c0
    try push_cast
    go_wp2_with fail
    go_region_held3 (fun w'=>w'.cell? ⟨w3.heap.size,1,none⟩=some (.pointer (some ⟨d.b,0,none⟩)))
     (first|exact c0|exact d0|exact e0|exact ek _)
     (first|(go_at_call 65;refine Co.out.mono ?_;rintro r w1⟨v,rfl,e0,ek,e1,ef,Bs⟩;have IN:=Q0a Bs;clear Bs))
    go_wp2_with fail;obtain⟨P',r1,r2,r3⟩:=IN.out;go_roundw
    case rel=>exact⟨_,P',by go_num,by omega,r1,r2,r3⟩
    case measure=>simp[intOf]
  ·obtain rfl:i=8:=by omega
   have HR:Hid (J1i top limit H w (.returned (.pointer (some ⟨w3.heap.size,0,none⟩))) wr):=by
    obtain⟨q1,q2,q3⟩:=hp;refine⟨P,by rw[ep],q1,q2,?_⟩;rw[Z8v q1] at q3;exact q3
   clear hp ep ed;go_wp2_with fail
   (try go_ret);exact HR.out
theorem Z8x{c:CA}(h:c.used=[])(hb:∀x∈c.pg,cntB x.1.bits≠0):c.pg=[]:=by
 cases hp:c.pg with
 | nil=>rfl
 | cons x r =>
  exfalso;have hx:x∈c.pg:=by rw[hp];simp
  have h1:=hb x hx;rw[<- Q5y] at h1;obtain⟨i,hi⟩:=List.exists_mem_of_length_pos (Nat.pos_of_ne_zero h1);have:addr c.size x.2 i∈c.used:=mem_used.2 ⟨x,hx,i,mem_trues.1 hi,rfl⟩;rw[h] at this;cases this
theorem Z8y{P:PL}{fr:List Nat}(ok:P.Ok fr)(h:∀j,P.usedOf j=[]):∀(k:Nat) (c:CA),P.cs[k]?=some c->c.pg=[]:=by
 intro k c hc;have ID:P.Cls (k+1) c:=⟨by omega,by simpa using hc⟩
 have:=h (k+1);rw[Q0P ID] at this;exact Z8x this (PL.busyC ok hc)
theorem Q7f{P:PL}{top:Nat}{limit:Int}(h:FreshP P top limit)(j:Nat):P.usedOf j=[]:=by
 unfold PL.usedOf;split
 ·split
  ·rename_i c hc;unfold CA.used;rw[(h.cs _ c hc).2.2.2];rfl
  ·rfl
 ·rfl
theorem Z2L(m:List Nat)(a n:Nat)(hn:8<=n)(hl:a<=m.length):Q0m (put_ m a (List.replicate n 0)) a=0:=by
 unfold Q0m put_;rw[J4b,J5x (by rw[J5u];omega),List.drop_of_length_le (by rw[J5u];omega),J5l,J5v (by simpa using hn),J6A,J6B hn];rfl
def newL(a:Nat):List Pl:=⟨1,a,0,1,0,0⟩::List.replicate 255 (noPl 0)
theorem Q1Q{a:Nat}{p:Pl}(h:p∈newL a):p=⟨1,a,0,1,0,0⟩∨p=noPl 0:=by
 rcases J3m.1 h with h|h
 ·exact .inl h
 ·exact .inr (J3p h)
theorem Q7V{a:Nat}{p:Pl}(h:p∈newL a)(hi:p.is=true):p=⟨1,a,0,1,0,0⟩:=by
 rcases Q1Q h with h|rfl
 ·exact h
 ·cases hi
theorem Q7W{β:Type}(f:Pl->Option β)(h:f (noPl 0)=none)(a:Nat):(newL a).filterMap f=match f ⟨1,a,0,1,0,0⟩ with|some b=>[b]|none=>[]:=by
 have e:(List.replicate 255 (noPl 0)).filterMap f=[]:=by
  rw[List.filterMap_eq_nil_iff];intro x hx;rw[J3p hx];exact h
 unfold newL;cases hc:f ⟨1,a,0,1,0,0⟩ with
 | none=>rw[J6K hc,e]
 | some b=>rw[J6L hc,e]
theorem Z2M(a h:Nat):pget (newL a) 2 h=none:=by
 cases hp:pget (newL a) 2 h with
 | none=>rfl
 | some p =>
  have h1:=Q1l hp;have h2:=(pget_some.1 hp).2.2;rcases Q1Q h1 with rfl|rfl <;> cases h2
theorem J1j{P P':PL}{top:Nat}{limit:Int}{a:Nat}(h:FreshP P top limit)(hl:P.cs.length=7)(h1:6<=top)(h0:0<=limit)(hm:limit<=1073741824)(g:GotM P [] 0 1 a P' []):Inv P' (newL a) [] x0 []:=by
 have ok:=h.ok hl h1 h0 hm;obtain⟨t,m,b,hq⟩:=h.q;obtain⟨e,q1,q2,q3⟩:=g.q;have he:e=⟨0,b,⟨limit,0,0,-1,0⟩⟩:=by
  rw[hq] at q1;simp only[Q2h,find,if_true,J3v] at q1;exact q1.symm
 have hE:P'.q.E=[⟨0,b,⟨limit,64,0,-1,0⟩⟩]:=by
  rw[q3,hq,he];simp[Q2h,upd,costK,Q0e]
 have hid:∀id x,find P'.q.E id=some x->id=0/\x=⟨0,b,⟨limit,64,0,-1,0⟩⟩:=fun id x hx=>by
  rw[hE] at hx;simp only[find] at hx;split at hx
  ·rename_i h;cases hx;exact⟨h,rfl⟩
  ·cases hx
 have Bq:∀k,P.usedOf k=[]:=fun k=>Q7f h k
 refine⟨by unfold newL;rw[J3O,J3r],fun p hp=>?_,⟨g.ok,fun p hp hi=>?_,fun k k1 k5=>?_,?_,fun p hp hi _=>?_⟩,⟨?_,fun p hp hi=>?_,fun p hp hi _ x hx=>?_,fun id x hx=>?_,fun id x hx=>?_⟩,⟨?_,fun i p hi BH hs=>?_,fun id=>⟨J7c _,fun h=>absurd rfl h⟩,by simp,fun x=>?_,by simp⟩⟩
 ·rcases Q1Q hp with rfl|rfl
  ·exact⟨by show(1:Nat)<=2;omega,by show(0:Nat)<=1048575;omega⟩
  ·exact⟨by show(0:Nat)<=2;omega,by show(0:Nat)<=1048575;omega⟩
 ·rw[Q7V hp hi];exact .inr ⟨J3h 1,by show(1:Nat)<=5;omega⟩
 ·unfold Q1Y;rw[Q7W (atsF k) rfl a];by_cases e1:k=1
  ·subst e1;have:=g.used (by decide);rw[Bq] at this;exact this.symm
  ·rw[Z0o (show(⟨1,a,0,1,0,0⟩:Pl).kind≠k from fun h=>e1 h.symm),g.other k e1,Bq]
 ·unfold Q1Y;rw[Q7W (atsF 8) rfl a];exact J6v _
 ·rw[Q7V hp hi];show Q0m P'.a.mem a=0;rw[g.mem];exact Z2L _ _ _ (by decide) (by have:=g.room.1;omega)
 ·unfold Z5h;rw[Q7W ownF rfl a,hE];exact J6v _
 ·rw[Q7V hp hi,hE];exact⟨_,rfl⟩
 ·obtain⟨_,rfl⟩:=hid _ _ hx;rw[Q7V hp hi];exact⟨fun _=>rfl,fun h=>absurd rfl h⟩
 ·obtain⟨rfl,rfl⟩:=hid _ _ hx;have hz:Q0Q (List.replicate 255 (noPl 0)) 0=0:=Q2U fun p hp hi=>by rw[J3p hp] at hi;cases hi
  show(64:Int)=Q0Q (newL a) 0+0;have:Q0Q (newL a) 0=Q4e 0 ⟨1,a,0,1,0,0⟩+Q0Q (List.replicate 255 (noPl 0)) 0:=by unfold Q0Q newL;rw[J3k,J6M]
  rw[this,hz];rfl
 ·obtain⟨rfl,rfl⟩:=hid _ _ hx;rw[hE];exact⟨rfl,rfl⟩
 ·exact⟨⟨1,a,0,1,0,0⟩,rfl,rfl,rfl,rfl,rfl,rfl⟩
 ·exfalso;rcases Q1Q (J5p hi) with rfl|rfl
  ·have:(List.replicate 255 (noPl 0))[i-1]?=some ⟨1,a,0,1,0,0⟩:=by
    have e:i=(i-1)+1:=by omega
    rw[e] at hi;unfold newL at hi;rw[J6o] at hi;exact hi
   have:=J3p (J5p this);cases this
  ·cases hs
 ·rw[Z2M];simp
end Go.Proofs.YtfidemmgofcnmaaGreatDoor
namespace Go.Proofs.YtfidemmgofcnmaaGreatDoor
open Go.RowKit Go.Proofs.Tryz
def Q1R(l:List Nat):List Value:=l.map fun(a:Nat)=>Value.int .u32 a
theorem Q8T(l:List Nat):(Q1R l).length=l.length:=by simp[Q1R]
theorem Q8U(l m:List Nat):Q1R (l++m)=Q1R l++Q1R m:=by simp[Q1R]
theorem Z1G{l:List Nat}{j x:Nat}(h:l[j]?=some x):(Q1R l)[j]?=some (.int .u32 x):=by unfold Q1R;rw[J4M,h];rfl
def NewHs(w:World)(l:List Nat)(r:Ending)(w':World):Prop:=∃v,r=.returned v/\w'.ownsRow w.heap.size 58 1 v l.length (Q1R l)/\Below w.heap.size w w'
structure IsHs(B:Nat)(L:List Nat)(a:Option Addr)(w:World):Prop where
 at':∀(j x:Nat),L[j]?=some x->∃g,a=some ⟨g,0,none⟩/\B<=g/\g<w.heap.size/\w.cell? ⟨g,j,none⟩=some (.int .u32 x)
theorem NewHs.shape{w:World}{L:List Nat}{r:Ending}{w':World}(h:NewHs w L r w'):∃(a:Option Addr) (cap:Nat),r=.returned (.slice a L.length cap)/\Below w.heap.size w w'/\IsHs w.heap.size L a w':=by
 obtain⟨v,rfl,⟨_,h2⟩,hb⟩:=h;rcases h2 with ⟨rfl,h0⟩|⟨g,cap,Ak,rfl,hg,CR,hn,hm,hs,AU⟩
 ·refine⟨none,0,by rw[h0],hb,⟨fun j x hj=>?_⟩⟩;have:=(J3y.1 hj).1;omega
 ·refine⟨_,cap,rfl,hb,⟨fun j x hj=>⟨g,rfl,hg,lt_of_block CR,?_⟩⟩⟩;have hv:=Z1G hj;rw[<- AU,J5e] at hv;split at hv
  ·simp only[World.cell?,CR,J6e,J6S,if_false];rw[<- J5B];exact hv
  ·cases hv
def OutH(w wr:World)(v:Value)(L:List Nat):Prop:=wr.ownsRow w.heap.size 58 1 v L.length (Q1R L)/\Below w.heap.size w wr
theorem OutH.nil(w:World):OutH w w (.slice none 0 0) []:=⟨World.ownsRow_nil _ _ _ _,Below.refl _ _⟩
theorem OutH.app0{w wr w1:World}{v v':Value}{L M:List Nat}(h:OutH w wr v L)(An:w1.ownsRow w.heap.size 58 1 v' (L.length+M.length) (Q1R L++Q1R M))(hg:wr.grownBy w1 v.ownBlock):OutH w w1 v' (L++M):=
 ⟨by rw[J3N,Q8U];exact An,h.2.trans ((Below.refl _ wr).mono h.2.size |>.grown hg h.2.size (fun b hb=>(h.1.lt b hb).1))⟩
theorem OutH.alloc{w wr:World}{v:Value}{L:List Nat}(h:OutH w wr v L)(o:Obj):OutH w (wr.alloc o) v L:=⟨h.1.alloc _,h.2.alloc h.2.size _⟩
theorem OutH.app2{w wr w1:World}{v v':Value}{L M:List Nat}{o o2:Obj}(h:OutH w wr v L)(An:w1.ownsRow w.heap.size 58 1 v' (L.length+M.length) (Q1R L++Q1R M))(hg:((wr.alloc o).alloc o2).grownBy w1 v.ownBlock):OutH w w1 v' (L++M):=((h.alloc o).alloc o2).app0 An hg
theorem OutH.below{w wr w1:World}{v:Value}{L:List Nat}(h:OutH w wr v L)(hb:Below wr.heap.size wr w1):OutH w w1 v L:=
 ⟨h.1.kept (row:=none) ⟨hb.os,hb.tape,hb.output,hb.size,fun k hk _=>hb.block k hk⟩ (by cases hv:v.ownBlock with|none=>exact .inl rfl|some b=>exact .inr (by simp)),h.2.trans (hb.mono h.2.size)⟩
theorem Z5A(w:World)(x:Value):∀j u,[x][j]?=some u->(w.alloc (.cells #[x] 58)).cell? ((⟨w.heap.size,0,none⟩:Addr).add j)=some u:=by
 intro j u hj;have:=(Cells.new w 58 [x]).cell j u hj;have e:(⟨w.heap.size,0,none⟩:Addr).add j=⟨w.heap.size,j,none⟩:=by unfold Addr.add;split <;> simp_all
 rw[e];exact this
theorem Z2N(w:World)(o:Obj)(x:Value):∀j u,[x][j]?=some u->((w.alloc o).alloc (.cells #[x] 58)).cell? ((⟨w.heap.size+1,0,none⟩:Addr).add j)=some u:=by
 intro j u hj;have:=Z5A (w.alloc o) x j u hj;rw[World.size_alloc] at this;exact this
theorem Q7g:(prog.info? 58).map (fun i=>(i.zero,i.size,i.bytes))=some (some (.int .u32 0),1,4):=by kernel_rfl
def Q3I(q:QT)(id:Int)(e:En Fa)(b:Nat)(limit:Int):QT:={q with E:=upd q.E id {e.q with given:=e.q.given+limit,kids:=e.q.kids+1}++[⟨q.next,b,⟨limit,0,0,id,0⟩⟩],next:=q.next+1}
def Z0q(w:World)(q:QT)(id:Int)(e:En Fa)(limit:Int)(r:Ending)(w':World):Prop:=r=.returned (.tuple #[.int .i64 q.next,.int .i64 0])/\∃b,Step q.hl (Q3I q id e b limit).hl w w'
def closed(q:QT)(par:Int)(e c:En Fa)(id:Int):QT:={q with E:=rem (upd q.E par {e.q with given:=e.q.given-c.q.limit,kids:=e.q.kids-1}) id}
theorem Z8z{α:Type}(E:List (En α))(x:En α)(id:Int)(f:α)(h:x.id≠id):upd (E++[x]) id f=upd E id f++[x]:=by
 simp[upd,h]
theorem QT.next_none{q:QT}(ok:q.Ok):find q.E q.next=none:=by
 cases h:find q.E q.next with
 | none=>rfl
 | some e=>have:=(ok.fa _ e h).2.2.2.2.2.2.2;omega
theorem J1k{q:QT}(ok:q.Ok)(b:Nat)(f:Fa):(q.E++[(⟨q.next,b,f⟩:En Fa)]).Pairwise (fun a b=>a.id≠b.id):=by
 rw[J3P];refine⟨ok.ids,by simp,fun x hx y hy=>?_⟩;rw[J5i] at hy;subst hy;exact Q5w (QT.next_none ok) x hx
theorem QT.carve{w:World}{q:QT}(h:Sep w q.hl)(ok:q.Ok){id:Int}{e:En Fa}(hf:find q.E id=some e)(limit:Int)(w4:World)(hm:Q0H w4 q.m (put (kvs q.E) q.next (ptr w.heap.size)))
  (hg:((w.setCell ⟨q.t,1,none⟩ (.int .i64 (q.next+1))).alloc (.cells #[.int .i64 limit,.int .i64 0,.int .i64 0,.int .i64 id,.int .i64 0] 147)).grownBy w4 (some q.m)) :
  w4.cell? ⟨e.b,2,none⟩=some (.int .i64 e.q.given)/\w4.cell? ⟨e.b,4,none⟩=some (.int .i64 e.q.kids)/\(∀i,w4.frozen? ⟨e.b,i,none⟩=false) /\
   Step q.hl (Q3I q id e w.heap.size limit).hl w ((w4.setCell ⟨e.b,2,none⟩ (.int .i64 (e.q.given+limit))).setCell ⟨e.b,4,none⟩ (.int .i64 (e.q.kids+1))):=by
 have Aw:=QT.next_none ok;have Ac:q.next≠id:=fun e'=>by rw[e',hf] at Aw;cases Aw
 have s1:Step q.hl ({q with next:=q.next+1}:QT).hl w (w.setCell ⟨q.t,1,none⟩ (.int .i64 (q.next+1))):=Sep.set (A:=[]) (B:=(q.m,isMI (kvs q.E))::facH q.E) h 1 (.int .i64 (q.next+1));have Br:(w.setCell ⟨q.t,1,none⟩ (.int .i64 (q.next+1))).heap.size=w.heap.size:=by simp[World.setCell]
 have s2:=s1.sep.new 147 [.int .i64 limit,.int .i64 0,.int .i64 0,.int .i64 id,.int .i64 0];rw[Br] at s2;obtain⟨es,Ah,ho,hr⟩:=hm;have s3:=Sep.turn (A:=[(w.heap.size,isC 147 [.int .i64 limit,.int .i64 0,.int .i64 0,.int .i64 id,.int .i64 0]),(q.t,isC 150 [.map (some q.m),.int .i64 (q.next+1)])]) (B:=facH q.E) (q':=isMI (put (kvs q.E) q.next (ptr w.heap.size))) s2.sep hg ⟨_,ho,es,Ah,rfl,hr⟩;rw[Z4u q.E q.next w.heap.size ⟨limit,0,0,id,0⟩ Aw] at s3;have s123:=(s1.trans s2).trans s3;obtain⟨q1,D9⟩:∃q1:QT,q1={q with E:=q.E++[⟨q.next,w.heap.size,⟨limit,0,0,id,0⟩⟩],next:=q.next+1}:=⟨_,rfl⟩
 have s4:Step q.hl q1.hl w w4:=by
  refine s123.perm (J6v _) ?_;rw[D9];simp only[QT.hl,facH,J6E,J3k,J5H,J5m,J5l,Fa.cells];refine(List.Perm.swap _ _ _).trans (List.Perm.cons _ ?_);refine(List.Perm.swap _ _ _).trans (List.Perm.cons _ ?_);exact(J6G _ _).symm
 have C9:q1.E.Pairwise (fun a b=>a.id≠b.id):=by rw[D9];exact J1k ok _ _
 have Fs:find q1.E id=some e:=by
  rw[D9];show find (q.E++[_]) id=_;rw[Q1O,hf]
 have k:=QT.fac s4.sep Fs;have s5:=QT.setF s4.sep C9 Fs 2 (.int .i64 (e.q.given+limit)) {e.q with given:=e.q.given+limit} rfl;have Gk:find (upd q1.E id {e.q with given:=e.q.given+limit}) id=some {e with q:={e.q with given:=e.q.given+limit}}:=Q0n Fs _;have C8:(upd q1.E id {e.q with given:=e.q.given+limit}).Pairwise (fun a b=>a.id≠b.id):=Q2P _ _ (fun a b a' b' _ h1 _ h2 h=>by rw[<- h1,<- h2];exact h) C9;have s6:=QT.setF (q:={q1 with E:=upd q1.E id {e.q with given:=e.q.given+limit}}) s5.sep C8 Gk 4 (.int .i64 (e.q.kids+1)) {e.q with given:=e.q.given+limit,kids:=e.q.kids+1} rfl;refine⟨k.cell 2 _ rfl,k.cell 4 _ rfl,k.free,?_⟩
 have:=(s4.trans s5).trans s6;have e1:upd (upd q1.E id {e.q with given:=e.q.given+limit}) id {e.q with given:=e.q.given+limit,kids:=e.q.kids+1}=upd q.E id {e.q with given:=e.q.given+limit,kids:=e.q.kids+1}++[⟨q.next,w.heap.size,⟨limit,0,0,id,0⟩⟩]:=by
  rw[upd_upd,D9];exact Z8z _ _ _ _ Ac
 rw[e1] at this;rw[D9] at this;exact this
theorem Z5B{q:QT}(ok:q.Ok){id:Int}{e:En Fa}(hf:find q.E id=some e)(b:Nat){limit:Int}(h0:0<=limit)(Af:limit<=e.q.limit-(e.q.charged+e.q.given))(hn:q.next+1<1048576):(Q3I q id e b limit).Ok:=by
 have Aw:=QT.next_none ok;have Em:=ok.next0;have Ac:q.next≠id:=fun e'=>by rw[e',hf] at Aw;cases Aw
 have Ai:(upd q.E id {e.q with given:=e.q.given+limit,kids:=e.q.kids+1}).Pairwise (fun a b=>a.id≠b.id):=Q2P _ _ (fun a b a' b' _ h1 _ h2 h=>by rw[<- h1,<- h2];exact h) ok.ids;refine⟨?_,by show 0<q.next+1;omega,hn,fun j x hx=>?_⟩
 ·show(upd q.E id _++[_]).Pairwise _;rw[J3P];refine⟨Ai,by simp,fun x hx y hy=>?_⟩;rw[J5i] at hy;subst hy;obtain⟨y,hy,_,h2,_⟩:=J0G hx;rw[<- h2];exact Q5w Aw y hy
 ·have E8:find (upd q.E id {e.q with given:=e.q.given+limit,kids:=e.q.kids+1}++[⟨q.next,b,⟨limit,0,0,id,0⟩⟩]) j=some x:=hx;show _/\_/\_/\_/\_/\_<q.next+1/\_/\j<q.next+1;obtain⟨f1,f2,f3,f4,f5,f6,f7,f8⟩:=ok.fa id e hf;rw[Q1O] at E8;by_cases hj:j=id
  ·subst hj;rw[Q0n hf] at E8;cases E8;show 0<=e.q.charged/\0<=e.q.given+limit/\e.q.charged+(e.q.given+limit)<=e.q.limit/\e.q.limit<=_/\0<=e.q.kids+1/\e.q.kids+1<q.next+1/\0<=j/\j<q.next+1;omega
  ·rw[Q0M hj] at E8;cases hc:find q.E j with
   | some y =>
    rw[hc] at E8;cases E8;obtain⟨g1,g2,g3,g4,g5,g6,g7,g8⟩:=ok.fa j x hc;omega
   | none =>
    rw[hc] at E8;simp only at E8;split at E8
    ·rename_i h';cases E8;have Xv:j=q.next:=h';show 0<=(0:Int)/\0<=(0:Int)/\(0:Int)+0<=limit/\limit<=1073741824/\0<=(0:Int)/\(0:Int)<q.next+1/\0<=j/\j<q.next+1;omega
    ·cases E8
def Q0u(e:En Fa):Int:=e.q.limit-(e.q.charged+e.q.given)
def two(x:Nat)(e:Int):Ending:=.returned (.tuple #[.int .u32 x,.int .i64 e])
structure MadeOk(S:CO)(fr:List Nat)(f:Pl)(e:En Fa)(n a:Nat)(lim:Int)(x:Nat)(i:Nat)(p:Pl)(P':PL)(fr':List Nat):Prop where
 inv:Inv P' (S.l.set i ⟨n,a,f.own,1,p.age,x⟩) fr' S.xc (S.ts.map Prod.fst)
 same:SameP S.P P'
 kept:KeptL S.P.a.mem P'.a.mem S.l
 next:P'.q.next<=S.P.q.next+1
 fac:n≠1->P'.q.E=upd S.P.q.E f.own {e.q with charged:=e.q.charged+((costK n:Nat):Int)}
 fac1:n=1->(x:Int)=S.P.q.next/\P'.q.next=S.P.q.next+1/\∃b,P'.q.E=upd S.P.q.E f.own {e.q with charged:=e.q.charged+64,given:=e.q.given+lim,kids:=e.q.kids+1}++[⟨x,b,⟨lim,0,0,f.own,0⟩⟩]
 zero:n≠1->∀j,a<=j->j<a+costK n->P'.a.mem[j]?=some 0
 few:P'.d.ps.length<=S.P.d.ps.length+1
 high:∀j,6<=j->(P'.usedOf j).Perm (S.P.usedOf j)
 memH:Z5m S.P P'
 room:a+costK n<=S.P.a.mem.length
def CO.made(S:CO)(f:Pl)(n a x i:Nat)(p:Pl)(P':PL):CO:=(S.setP P').setL (S.l.set i ⟨n,a,f.own,1,p.age,x⟩)
def J2o(S:CO)(fr:List Nat)(f:Pl)(e:En Fa)(n:Nat)(lim:Int)(w:World)(r:Ending)(w':World):Prop:=
 (Q0u e<((costK n:Nat):Int)/\r=two 0 5/\Step S.hl S.hl w w') ∨
 (((costK n:Nat):Int)<=Q0u e/\NoPage S.P/\r=two 0 4/\Step S.hl S.hl w w') ∨
 (((costK n:Nat):Int)<=Q0u e/\∃(er:Int) (P':PL),((er=11/\((∀p∈S.l,p.st≠0)∨n=1/\S.P.q.E.length=32))∨(er=5/\n=1/\Q0u e-64<lim))/\Tried S.P fr S.l P'/\r=two 0 er/\Step S.hl (S.setP P').hl w w') ∨
 (∃(i:Nat) (p:Pl) (a x:Nat) (P':PL) (fr':List Nat),S.l[i]?=some p/\p.st=0/\(∀j q,j<i->S.l[j]?=some q->q.st≠0)/\((costK n:Nat):Int)<=Q0u e/\r=two (nm i p) 0/\MadeOk S fr f e n a lim x i p P' fr'/\Step S.hl (S.made f n a x i p P').hl w w')
def MakeR(S:CO)(fr:List Nat)(h:Nat)(k lim:Int)(w:World)(r:Ending)(w':World):Prop:=
 (pget S.l 1 h=none/\r=two 0 8/\Step S.hl S.hl w w') ∨
 ∃f,pget S.l 1 h=some f/\((f.kind≠1/\r=two 0 10/\Step S.hl S.hl w w') ∨
  (f.kind=1/\(¬(k=8∨1<=k/\k<=5)∨k=1/\lim<0)/\r=two 0 1/\Step S.hl S.hl w w') ∨
  ∃(n:Nat) (e:En Fa),k=(n:Int)/\f.kind=1/\(n=8∨1<=n/\n<=5)/\(n=1->0<=lim)/\find S.P.q.E f.own=some e/\J2o S fr f e n lim w r w')
theorem CO.Ok.mono{S:CO}{fr:List Nat}{N N' K K':Nat}(ok:S.Ok fr N K)(h1:N<=N')(h2:K<=K'):S.Ok fr N' K':=
 ⟨ok.inv,ok.per,ok.due,ok.ord,ok.ov,by have:=ok.next;omega,J3i ok.now h2,ok.age⟩
theorem MadeOk.ok{S:CO}{fr:List Nat}{N K:Nat}(ok:S.Ok fr N K){f:Pl}{e:En Fa}{n a x i:Nat}{lim:Int}{p:Pl}{P':PL}{fr':List Nat}(m:MadeOk S fr f e n a lim x i p P' fr')(hi:S.l[i]?=some p):(S.made f n a x i p P').Ok fr' (N+1) K:=
 ok.made m.inv (by have:=m.next;have:=ok.next;omega) (J1g ok.age (ok.age p (J5p hi)))
theorem MadeOk.went{S:CO}{fr:List Nat}{N K:Nat}(ok:S.Ok fr N K){f:Pl}{e:En Fa}{n a x i:Nat}{lim:Int}{p:Pl}{P':PL}{fr':List Nat}(m:MadeOk S fr f e n a lim x i p P' fr')(hi:S.l[i]?=some p)(hp:p.st=0):Went S (S.made f n a x i p P'):=
 Went.made ok m.same hi hp rfl m.kept m.high m.memH
def LOk(l:List Pl):Prop:=l.length=256/\∀p∈l,p.st<=3/\p.age<=1048575
theorem LOk.get{l:List Pl}(h:LOk l)(x:Nat):∃p,l[x%256]?=some p/\p.st<=3/\p.age<=1048575:=by
 have Aa:x%256<l.length:=by rw[h.1];omega
 exact⟨l[x%256],J5s Aa,h.2 _ (J6z Aa)⟩
theorem Z5C{l:List Pl}{s h:Nat}{p:Pl}(hl:l[h%256]?=some p):pget l s h=none↔nm (h%256) p≠h∨p.st≠s:=by
 unfold pget;rw[hl];simp only;by_cases hc:nm (h%256) p=h/\p.st=s
 ·rw[if_pos hc];simp[hc.1,hc.2]
 ·rw[if_neg hc];have:nm (h%256) p≠h∨p.st≠s:=by
   by_cases h1:nm (h%256) p=h
   ·exact .inr fun h2=>hc ⟨h1,h2⟩
   ·exact .inl h1
  simp[this]
theorem Z1H{w:World}{h:HT}(s:Sep w h.hl)(ok:LOk h.l){x st:Nat}(hx:x<4294967296){p:Pl}(hp:pget h.l st x=some p) :
  Calls prog 168 #[.pointer (some ⟨h.t,0,none⟩),.int .u32 x,.int .i64 st] w fun r w'=>r=.returned (.tuple #[.pointer (some ⟨h.t,x%256*5,none⟩),.int .i64 0])/\w=w':=by
 obtain⟨hi,hn,hs⟩:=pget_some.1 hp;have ha:=(ok.2 p (J5p hi)).2;have k1:=Q4g s hi (by omega) ha;obtain⟨-,-,-,c3,-,-⟩:=HT.cell s hi;have HO:=Q8R x hx;rw[hn] at k1;rw[hs] at c3;clear s ok hp hi hn hs ha;have Pw:x%256<256:=by omega
 have hw:IntKind.i64.wrap ((x%256:Nat):Int)=((x%256:Nat):Int):=Go.IntWalk.i64_in _ (by omega);generalize x%256=i at *
 go_enter func168,ntmps168;go_wp2_with (go_at_call 202;refine k1.mono ?_;rintro e w'⟨rfl,rfl⟩);go_ret2;exact⟨rfl,rfl⟩
theorem Z5D{a b:Nat}(h:a≠b):(((a:Nat):Int) != ((b:Nat):Int))=true:=by simp;omega
theorem Q5J{a b:Nat}(h:a≠b):(((a:Nat):Int)==((b:Nat):Int))=false:=by simp;omega
theorem Z1I{w:World}{h:HT}(s:Sep w h.hl)(ok:LOk h.l){x st:Nat}(hx:x<4294967296)(hp:pget h.l st x=none) :
  Calls prog 168 #[.pointer (some ⟨h.t,0,none⟩),.int .u32 x,.int .i64 st] w fun r w'=>r=.returned (.tuple #[.pointer none,.int .i64 8])/\w=w':=by
 obtain⟨p,hi,h1,ha⟩:=ok.get x;have Ay:=(Z5C hi).1 hp;have k1:=Q4g s hi (by omega) ha;obtain⟨-,-,-,c3,-,-⟩:=HT.cell s hi;have HO:=Q8R x hx;clear s ok hp hi ha;have Pw:x%256<256:=by omega
 have hw:IntKind.i64.wrap ((x%256:Nat):Int)=((x%256:Nat):Int):=Go.IntWalk.i64_in _ (by omega);generalize x%256=i at *
 generalize nm i p=n at *
 generalize p.st=t at *
 by_cases hn:n=x
 ·subst hn;have ht:t≠st:=Ay.resolve_left fun h=>h rfl
  have hb:=Z5D ht;have Ae:=Q5J ht;clear Ay ht;go_enter func168,ntmps168;go_wp2_with (go_at_call 202;refine k1.mono ?_;rintro e w'⟨rfl,rfl⟩);go_ret2;exact⟨rfl,rfl⟩
 ·have hb:=Z5D hn;have Ae:=Q5J hn;clear Ay hn;go_enter func168,ntmps168;go_wp2_with (go_at_call 202;refine k1.mono ?_;rintro e w'⟨rfl,rfl⟩);go_ret2;exact⟨rfl,rfl⟩
def Pl.obj(p:Pl):Value:=.agg #[.int .i64 (p.kind:Int),.int .i64 (p.at_:Int),.int .i64 (p.fac:Int)]
def zobj:Value:=.agg #[.int .i64 0,.int .i64 0,.int .i64 0]
theorem Q5K{w:World}{h:HT}(s:Sep w h.hl)(ok:LOk h.l){x:Nat}(hx:x<4294967296){p:Pl}(hp:pget h.l 1 x=some p) :
  Calls prog 112 #[.pointer (some ⟨h.t,0,none⟩),.int .u32 x] w (Told w (.tuple #[p.obj,.int .i64 0])):=by
 have hi:=(pget_some.1 hp).1;have hA:Calls prog 168 #[.pointer (some ⟨h.t,0,none⟩),.int .u32 x,.int .i64 1] (w.alloc (.cells #[.int .i64 0,.int .i64 0,.int .i64 0] 54)) fun r w'=>r=.returned (.tuple #[.pointer (some ⟨h.t,x%256*5,none⟩),.int .i64 0])/\(w.alloc (.cells #[.int .i64 0,.int .i64 0,.int .i64 0] 54))=w':=Z1H (st:=1) (s.alloc _) ok hx hp
 obtain⟨c0,c1,c2,-,-,-⟩:=HT.cell (s.alloc (.cells #[.int .i64 0,.int .i64 0,.int .i64 0] 54)) hi;have HB:Hid (Below w.heap.size w (w.alloc (.cells #[.int .i64 0,.int .i64 0,.int .i64 0] 54))):=(Below.refl _ _).alloc (J3h _) _;unfold Pl.obj;clear s ok hp hi;generalize x%256*5=i at *
 go_enter func112,ntmps112;go_wp2_with (go_at_call 168;refine hA.mono ?_;rintro e w'⟨rfl,rfl⟩);refine bodyPost_ret (v:=.tuple #[.agg #[.int .i64 (p.kind:Int),.int .i64 (p.at_:Int),.int .i64 (p.fac:Int)],.int .i64 0]) (by simp[results,results112,go_sem]) rfl ⟨rfl,?_⟩;exact(Below.refl _ _).alloc (J3h _) _
theorem Q8V{w:World}{h:HT}(s:Sep w h.hl)(ok:LOk h.l){x:Nat}(hx:x<4294967296)(hp:pget h.l 1 x=none) :
  Calls prog 112 #[.pointer (some ⟨h.t,0,none⟩),.int .u32 x] w (Told w (.tuple #[zobj,.int .i64 8])):=by
 have hA:Calls prog 168 #[.pointer (some ⟨h.t,0,none⟩),.int .u32 x,.int .i64 1] (w.alloc (.cells #[.int .i64 0,.int .i64 0,.int .i64 0] 54)) fun r w'=>r=.returned (.tuple #[.pointer none,.int .i64 8])/\(w.alloc (.cells #[.int .i64 0,.int .i64 0,.int .i64 0] 54))=w':=Z1I (st:=1) (s.alloc _) ok hx hp
 unfold zobj;clear s ok hp;go_enter func112,ntmps112;go_wp2_with (go_at_call 168;refine hA.mono ?_;rintro e w'⟨rfl,rfl⟩);refine bodyPost_ret (v:=.tuple #[.agg #[.int .i64 0,.int .i64 0,.int .i64 0],.int .i64 8]) (by simp[results,results112,go_sem]) rfl ⟨rfl,?_⟩;exact(Below.refl _ _).alloc (J3h _) _
theorem J2p:(prog.info? 271).map (·.size)=some 5:=by kernel_rfl
theorem Z5E{w:World}{h:HT}(s:Sep w h.hl)(ok:LOk h.l){x:Nat}(hx:x<4294967296){p:Pl}(hp:pget h.l 2 x=some p) :
  Calls prog 88 #[.pointer (some ⟨h.t,0,none⟩),.int .u32 x] w (Told w (.tuple #[p.obj,.int .i64 0])):=by
 have hi:=(pget_some.1 hp).1;have hA:Calls prog 168 #[.pointer (some ⟨h.t,0,none⟩),.int .u32 x,.int .i64 2] (w.alloc (.cells #[.int .i64 0,.int .i64 0,.int .i64 0] 54)) fun r w'=>r=.returned (.tuple #[.pointer (some ⟨h.t,x%256*5,none⟩),.int .i64 0])/\(w.alloc (.cells #[.int .i64 0,.int .i64 0,.int .i64 0] 54))=w':=Z1H (st:=2) (s.alloc _) ok hx hp
 obtain⟨c0,c1,c2,-,-,-⟩:=HT.cell s hi;have Aa:=(HT.cells s).lt;unfold Pl.obj;clear s ok hp hi;generalize x%256*5=i at *
 go_enter func88,ntmps88;go_wp2_with (go_at_call 168;refine hA.mono ?_;rintro e w'⟨rfl,rfl⟩);refine bodyPost_ret (v:=.tuple #[.agg #[.int .i64 (p.kind:Int),.int .i64 (p.at_:Int),.int .i64 (p.fac:Int)],.int .i64 0]) (by simp[results,results88,go_sem]) rfl ⟨rfl,?_⟩;exact(Below.refl _ _).alloc (J3h _) _
theorem Z2O{w:World}{h:HT}(s:Sep w h.hl)(ok:LOk h.l){x:Nat}(hx:x<4294967296)(hp:pget h.l 2 x=none) :
  Calls prog 88 #[.pointer (some ⟨h.t,0,none⟩),.int .u32 x] w fun r w'=>(∃a b c e,r=.returned (.tuple #[.agg #[.int .i64 a,.int .i64 b,.int .i64 c],.int .i64 e])/\((∃p,pget h.l 1 x=some p/\.agg #[.int .i64 a,.int .i64 b,.int .i64 c]=p.obj/\e=0)∨(pget h.l 1 x=none/\.agg #[.int .i64 a,.int .i64 b,.int .i64 c]=zobj/\e=8)))/\Below w.heap.size w w':=by
 have hA:Calls prog 168 #[.pointer (some ⟨h.t,0,none⟩),.int .u32 x,.int .i64 2] (w.alloc (.cells #[.int .i64 0,.int .i64 0,.int .i64 0] 54)) fun r w'=>r=.returned (.tuple #[.pointer none,.int .i64 8])/\(w.alloc (.cells #[.int .i64 0,.int .i64 0,.int .i64 0] 54))=w':=Z1I (st:=2) (s.alloc _) ok hx hp
 have HG:Hid (Calls prog 112 #[.pointer (some ⟨h.t,0,none⟩),.int .u32 x] (w.alloc (.cells #[.int .i64 0,.int .i64 0,.int .i64 0] 54)) fun r w'=>(∃a b c e,r=.returned (.tuple #[.agg #[.int .i64 a,.int .i64 b,.int .i64 c],.int .i64 e])/\((∃p,pget h.l 1 x=some p/\.agg #[.int .i64 a,.int .i64 b,.int .i64 c]=p.obj/\e=0)∨(pget h.l 1 x=none/\.agg #[.int .i64 a,.int .i64 b,.int .i64 c]=zobj/\e=8)))/\Below w.heap.size w w'/\w'.cell? ⟨w.heap.size,0,none⟩=some (.int .i64 0)/\w'.cell? ⟨w.heap.size,1,none⟩=some (.int .i64 0)/\w'.cell? ⟨w.heap.size,2,none⟩=some (.int .i64 0)/\(∀i,w'.frozen? ⟨w.heap.size,i,none⟩=false)):=by
  have D5:∀w',Below (w.alloc (.cells #[.int .i64 0,.int .i64 0,.int .i64 0] 54)).heap.size (w.alloc (.cells #[.int .i64 0,.int .i64 0,.int .i64 0] 54)) w'->Below w.heap.size w w'/\w'.cell? ⟨w.heap.size,0,none⟩=some (.int .i64 0)/\w'.cell? ⟨w.heap.size,1,none⟩=some (.int .i64 0)/\w'.cell? ⟨w.heap.size,2,none⟩=some (.int .i64 0)/\(∀i,w'.frozen? ⟨w.heap.size,i,none⟩=false):=fun w' hb=>by
   have hc:=(Cells.new w 54 [.int .i64 0,.int .i64 0,.int .i64 0]).same (hb.block w.heap.size (by simp));refine⟨((Below.refl _ _).alloc (J3h _) _).trans ⟨hb.os,hb.tape,hb.output,hb.size,fun b hl=>hb.block b (by simp;omega)⟩,hc.cell 0 _ rfl,hc.cell 1 _ rfl,hc.cell 2 _ rfl,hc.free⟩
  cases h1:pget h.l 1 x with
  | none =>
   refine(Q8V (s.alloc _) ok hx h1).mono ?_;rintro r w'⟨rfl,hb⟩;exact⟨⟨_,_,_,_,rfl,.inr ⟨rfl,rfl,rfl⟩⟩,D5 _ hb⟩
  | some p =>
   refine(Q5K (s.alloc _) ok hx h1).mono ?_;rintro r w'⟨rfl,hb⟩;exact⟨⟨_,_,_,_,rfl,.inl ⟨p,rfl,rfl,rfl⟩⟩,D5 _ hb⟩
 have Aa:=(HT.cells s).lt;clear s ok hp;go_enter func88,ntmps88;go_wp2_with (first|(go_at_call 168;refine hA.mono ?_;rintro e w'⟨rfl,rfl⟩)|(go_at_call 112;refine HG.out.mono ?_;rintro r w1⟨⟨oa,ob,oc,oe,rfl,Ay⟩,hb,e0,e1,e2,ef⟩;have BX:=Q0a Ay;have HB:=Q0a hb;have ef0:=ef 0;have ef1:=ef 1;have ef2:=ef 2;clear Ay hb ef));have HF:Hid (Below w.heap.size w (((w1.setCell ⟨w.heap.size,0,none⟩ (.int .i64 oa)).setCell ⟨w.heap.size,1,none⟩ (.int .i64 ob)).setCell ⟨w.heap.size,2,none⟩ (.int .i64 oc))):=((HB.out.setCell (J3h _) _).setCell (J3h _) _).setCell (J3h _) _;refine bodyPost_ret (v:=.tuple #[.agg #[.int .i64 oa,.int .i64 ob,.int .i64 oc],.int .i64 oe]) (by simp[results,results88,go_sem,e0,e1,e2]) rfl ⟨⟨_,_,_,_,rfl,BX.out⟩,HF.out⟩
theorem Z2P(l:List Pl)(h:l.length=256):(l.flatMap Pl.cells).length=1280:=by rw[J1d,h]
theorem J1l:(prog.info? 300).map (·.size)=some 1280:=by kernel_rfl
theorem HT.range{w:World}{h:HT}(s:Sep w h.hl):w.rangeAt h.t 0 (h.l.flatMap Pl.cells):=fun j v hv=>by
 rw[J5F];exact(HT.cells s).cell j v hv
theorem Z2Q{l:List Pl}{i:Nat}{p:Pl}(hi:l[i]?=some p):(l.flatMap Pl.cells).toArray.extract (i*5) (i*5+5)=p.cells.toArray:=by
 apply Array.ext'
 rw[Array.toList_extract]
 apply J4J
 intro j;simp only[List.extract_eq_take_drop,J5Z];rw[J5e];split
 ·rename_i hj;rw[J5D];have h5:j<p.cells.length:=hj;have:=Q3M hi j p.cells[j] hj (J5s h5);rw[this,J5s h5]
 ·rw[J4Q (by show 5<=j;omega)]
theorem Z8A{w:World}{l:List Pl}(hl:l.length=256){i:Nat}{p:Pl}(hi:l[i]?=some p):(Instr.index 300 (.agg (l.flatMap Pl.cells).toArray) (.int .i64 i)).run prog w=.ok (.agg p.cells.toArray) w:=by
 have Aa:i<256:=by have:=(J3y.1 hi).1;omega
 have e:=Z2Q hi;generalize (l.flatMap Pl.cells).toArray=cs at *
 have h1:(0:Int)<=(i:Int)/\(i:Int)<((256:Nat):Int):=by omega
 have h2:(prog.info? 271).map (·.size)=some 5:=J2p;cases hq:prog.info? 271 with
 | none=>simp[hq] at h2
 | some inf =>
  have hs:inf.size=5:=by simpa[hq] using h2
  have hu:prog.underlying 300=some (.array 256 271):=underlying300;have Wx:(isAgg 271).run prog w=.ok true w:=by
   unfold isAgg;rw[Sem.run_bind,run_underlying underlying271 w];rfl
  simp[Instr.index,asIntOf,Sem.run_bind,run_underlying hu w,h1,part,sizeOf,typeInfo,hq,hs,e];intro hh;omega
theorem Q7X{w:World}{h:HT}(s:Sep w h.hl)(ok:LOk h.l)(st:Nat)(Ao:st<=3) :
  Calls prog 167 #[.pointer (some ⟨h.t,0,none⟩),.int .i64 st] w (NewHs w (allL h.l st)):=by
 have HL:Hid (w.rangeAt h.t 0 (h.l.flatMap Pl.cells)):=HT.range s;have HI:Hid (∀(w':World) (i:Nat) (p:Pl),h.l[i]?=some p->(Instr.index 300 (.agg (h.l.flatMap Pl.cells).toArray) (.int .i64 i)).run prog w'=.ok (.agg p.cells.toArray) w'):=fun w' i p hp=>Z8A ok.1 hp
 go_enter func167,ntmps167;go_wp2_with (refine wpList_load_mid rfl 300 _ rfl h.t 0 rfl (h.l.flatMap Pl.cells) _ HL.out underlying300 rfl (by rw[Z2P _ ok.1];exact J1l) ?_);have C7:=Q0a ok;have HS:=Q0a s;have J2:=ok.1;clear s ok HL;generalize AO:(h.l.flatMap Pl.cells).toArray=cs at *
 obtain⟨i0,DN,Bu,AT,Bk⟩:=info_parts Q7g
 go_loopg [5,14] 256 (fun gk ov iv wr=>∃k:Nat,iv=.int .i64 k/\k+gk=256/\OutH w wr ov (Q4Z h.l st k))
 case atStart=>exact⟨0,rfl,rfl,OutH.nil w⟩
 case round =>
  obtain⟨k,rfl,BR,AS⟩:=hrel;have HO:=Q0a AS;have Dz:=Q0a BR;clear AS;by_cases Aa:k<256
  ·obtain⟨p,hp⟩:∃p,h.l[k]?=some p:=⟨h.l[k]'(by omega),J5s (by omega)⟩
   have N1:=HI.out wr k p hp;have HP:=Q0a hp;have ha:Hid (p.age<=1048575):=(C7.out.2 p (J5p hp)).2;clear hp;by_cases hs:p.st=st
   ·have CH:=Q0a hs;have hb:(((p.st:Nat):Int)==(st:Int))=true:=by simp[hs]
    clear hs;unfold Pl.cells at N1;have UI:=Q4g ((HS.out.grown HO.out.2).sep.alloc (.cells #[.int .i64 (p.kind:Int),.int .i64 (p.at_:Int),.int .i64 (p.fac:Int),.int .i64 (p.st:Int),.int .u32 (p.age:Int)] 271)) HP.out Aa ha.out;have Ab:=Q2N h.l st k;have Br:=HO.out.2.size;go_wp2_with fail;refine UI.mono ?_;rintro e w'⟨rfl,rfl⟩;dsimp only
    iterate 4 go_step
    refine wpList_append_own _ rfl _ _ 51 rfl w.heap.size 58 i0 (.int .u32 0) 1 4 underlying51 DN Bu AT Bk rfl (by decide) _ _ _ rfl ((HO.out.1.alloc _).alloc _) ⟨wr.heap.size+1,0,none⟩ 1 1 [.int .u32 ((nm k p:Nat):Int)] rfl rfl (Z2N _ _ _) (by simp[Value.oneCell']) (by unfold maxLen;omega) (by omega) (by simp;omega) ?_;intro v' w1 Bc Dk _;have HR:Hid (OutH w w1 v' (Q4Z h.l st (k+1))):=by
     have e:=Q6M HP.out st;rw[if_pos CH.out] at e;rw[e];exact HO.out.app2 (M:=[nm k p]) Bc Dk
    clear Bc Dk HO Br Ab;go_wp2_with fail;go_roundg (256-(k+1))
    case measure=>have:=Dz.out;omega
    case rel=>exact⟨k+1,by go_num,by omega,HR.out⟩
   ·have CH:=Q0a hs;have hb:=Q5J hs;clear hs;unfold Pl.cells at N1;have HR:Hid (∀o,OutH w (wr.alloc o) u5 (Q4Z h.l st (k+1))):=fun o=>by
     have e:=Q6M HP.out st;rw[if_neg CH.out,J5h] at e;rw[e];exact HO.out.alloc o
    go_wp2_with fail;go_roundg (256-(k+1))
    case measure=>have:=Dz.out;omega
    case rel=>exact⟨k+1,by go_num,by omega,HR.out _⟩
  ·have e:Q4Z h.l st k=allL h.l st:=by
    have:k=256:=by omega
    unfold allL;rw[this,J2]
   rw[e] at HO;have HR:Hid (NewHs w (allL h.l st) (.returned u5) wr):=⟨u5,rfl,HO.out.1,HO.out.2⟩
   go_wp2_with fail;go_ret;exact HR.out
end Go.Proofs.YtfidemmgofcnmaaGreatDoor

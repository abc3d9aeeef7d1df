/- What the laws of spaces share is proved. No condition. Part of a proof. -/
import Derived.Test.YtlakjlmaboioiaaGreatDoorVa09
import Derived.Deep.MidRow
set_option maxHeartbeats 4000000
set_option maxRecDepth 100000
set_option linter.unusedVariables false
namespace Go.Proofs.YtlakjlmaboioiaaGreatDoor
open Go.RowKit Go.Proofs.Tryz
theorem Q9d {w:World} (bb:Nat):Calls prog 145 #[ptr bb,.int .i64 0] w fun r w'=>r=.returned (.pointer none)/\w=w':=by
 unfold ptr;go_enter func145,ntmps145;go_wp2_with fail;go_ret;exact⟨rfl,rfl⟩
def PL.cellsN (P:PL):List Value:=ptr P.q.t::ptr P.d.b::ptr P.a.a::.pointer none::(P.cs.map (fun c=>ptr c.c)++List.replicate (7-P.cs.length) (.pointer none))
def PL.hlN (P:PL):HL:=(P.p,isC 228 P.cellsN)::(P.q.hl++(P.d.hl++(P.a.hl++P.cs.flatMap CA.hl)))
theorem Z8k {P:PL} (h:P.cs.length=7):P.hlN=P.hl:=by
 unfold PL.hlN PL.hl PL.cellsN PL.cells;rw [h];simp
theorem PL.snoc {w w1:World} {H:HL} {P:PL} (hl:P.cs.length<7) (c:CA) (hs:Step (P.hlN++H) (c.hl++(P.hlN++H)) w w1) :
  Step (P.hlN++H) (({P with cs:=P.cs++[c]}:PL).hlN++H) w (w1.setCell ⟨P.p,3+(P.cs.length+1),none⟩ (ptr c.c)):=by
 have ec:P.cellsN.set (3+(P.cs.length+1)) (ptr c.c)=({P with cs:=P.cs++[c]}:PL).cellsN:=by
  unfold PL.cellsN;rw [show 3+(P.cs.length+1)=P.cs.length+1+1+1+1 by omega];simp only [J4R,J2R,J6i,J5K,J2k,J4N];rw [J5Y _ _ (by simp),J3Q,J5y,show 7-P.cs.length=(7-(P.cs.length+1))+1 by omega,List.replicate_succ,J4S,J3h];rfl
 have s2:Step _ _ w1 _:=Sep.set (A:=c.hl) (b:=P.p) (T:=228) (cs:=P.cellsN) (B:=(P.q.hl++(P.d.hl++(P.a.hl++P.cs.flatMap CA.hl)))++H) (by simpa [PL.hlN] using hs.sep) (3+(P.cs.length+1)) (ptr c.c);rw [ec] at s2;have h3:=Step.trans (H1:=c.hl++(P.p,isC 228 P.cellsN)::((P.q.hl++(P.d.hl++(P.a.hl++P.cs.flatMap CA.hl)))++H)) (by simpa [PL.hlN] using hs) s2;refine h3.perm (.of_eq (by unfold PL.hlN;simp)) (Q1e fun a=>?_);simp only [PL.hlN,J2P,J2E,J6j,J4n,hc_append,hc_cons];omega
def FreshC (bb:Nat) (cs:List CA):Prop:=∀j c,cs[j]?=some c->c.bb=bb/\c.size=Q0c (j+1)/\c.rv=none/\c.pg=[]
theorem FreshC.snoc {bb:Nat} {cs:List CA} (h:FreshC bb cs) (c:Nat):FreshC bb (cs++[⟨c,bb,Q0c (cs.length+1),none,[]⟩]):=by
 intro j x hx;by_cases hj:j<cs.length
 ·rw [J5u hj] at hx;exact h j x hx
 ·rw [J5v (by omega)] at hx;have:j=cs.length:=by
   have:=(J2y.1 hx).1;simp at this;omega
  subst this;rw [J5y] at hx;cases hx;exact⟨rfl,rfl,rfl,rfl⟩
structure FreshP (P:PL) (top:Nat) (limit:Int):Prop where
 q:∃t m b,P.q=Q2t t m b limit
 etop:P.d.top=top
 ps:P.d.ps=[]
 at':P.d.At
 mem:P.a.mem=List.replicate (2 ^ (top+10)) 0
 cs:FreshC P.d.b P.cs
theorem FreshP.ok {P:PL} {top:Nat} {limit:Int} (h:FreshP P top limit) (hl:P.cs.length=7) (h1:6<=top) (h0:0<=limit) (hm:limit<=1073741824):P.Ok []:=by
 obtain⟨t,m,b,hq⟩:=h.q;have DY:P.pages=[]:=by
  unfold PL.pages;rw [List.flatMap_eq_nil_iff];intro c hc;obtain⟨j,hj⟩:=J4V.1 hc;rw [(h.cs j c hj).2.2.2];rfl
 refine⟨by rw [hq];exact Z8i t m b limit h0 hm,h.at',by rw [h.mem,h.etop,J2r],by rw [h.etop];exact h1,?_,hl,?_,by rw [DY,h.ps];exact J5A _,?_⟩
 ·intro x hx;rw [h.mem] at hx;rw [J2p hx];omega
 ·intro k c hc;obtain⟨e1,e2,e3,e4⟩:=h.cs k c hc;have hk:k<7:=by have:=(J2y.1 hc).1;omega
  obtain⟨s0,s1,_⟩:=Q8h (k:=k+1) (by omega) (by omega);have Ng:=CA.ok_new c.c c.bb c.size (by rw [e2];omega) (by rw [e2];omega);have:(⟨c.c,c.bb,c.size,none,[]⟩:CA)=c:=by cases c;simp_all
  rw [this] at Ng;exact⟨Ng,e2,e1⟩
 ·intro c hc x hx;obtain⟨j,hj⟩:=J4V.1 hc;rw [(h.cs j c hj).2.2.2] at hx;cases hx
def J0t (top:Nat) (limit:Int) (H:HL) (w:World) (r:Ending) (w':World):Prop:=∃P:PL,r=.returned (.pointer (some ⟨P.p,0,none⟩))/\P.cs.length=7/\FreshP P top limit/\Step H (P.hl++H) w w'
def Z1M (P:PL) (i:Nat) (top:Nat) (limit:Int) (H:HL) (w wr:World):Prop:=P.cs.length=i-1/\FreshP P top limit/\Step H (P.hlN++H) w wr
theorem Z2J {w wr:World} {H:HL} {P:PL} {i top:Nat} {limit:Int} (hi:i<8) (hp:Z1M P i top limit H w wr) (cst:Int) (hc:Z4m[i]?=some cst) :
  wr.cell? ⟨P.p,1,none⟩=some (ptr P.d.b)/\wr.cell? ⟨P.p,3+i,none⟩=some (.pointer none)/\wr.frozen? ⟨P.p,3+i,none⟩=false /\
  Calls prog 145 #[ptr P.d.b,.int .i64 cst] wr.drew fun r w1=>∃v,r=.returned (.pointer v)/\w1.cell? ⟨P.p,1,none⟩=some (ptr P.d.b)/\(∀v,(w1.setCell ⟨P.p,3+i,none⟩ v).cell? ⟨P.p,1,none⟩=some (ptr P.d.b))/\w1.cell? ⟨P.p,3+i,none⟩=some (.pointer none)/\w1.frozen? ⟨P.p,3+i,none⟩=false /\
   ∃P':PL,P'.p=P.p/\P'.d.b=P.d.b/\Z1M P' (i+1) top limit H w (w1.setCell ⟨P.p,3+i,none⟩ (.pointer v)):=by
 obtain⟨Ac,hf,Ap⟩:=hp;have cells:∀{w1:World},Sep w1 P.hlN->w1.cell? ⟨P.p,1,none⟩=some (ptr P.d.b)/\(∀v,(w1.setCell ⟨P.p,3+i,none⟩ v).cell? ⟨P.p,1,none⟩=some (ptr P.d.b))/\w1.cell? ⟨P.p,3+i,none⟩=some (.pointer none)/\w1.frozen? ⟨P.p,3+i,none⟩=false:=by
  intro w1 C2;have AR:Cells w1 P.p 228 P.cellsN:=C2.cells (by simp [PL.hlN]);refine⟨AR.cell 1 _ rfl,fun v=>(AR.set (3+i) v).cell 1 _ ?_,AR.cell (3+i) _ ?_,AR.free _⟩
  ·rw [J5O (by omega)];rfl
  ·unfold PL.cellsN;cases i with
   | zero=>rfl
   | succ i =>
    rw [show 3+(i+1)=i+1+1+1+1 by omega];simp only [J5t];rw [J5v (by simp;omega),J3Q,Ac];rw [J4i,if_pos (by omega)]
 have hs:=Ap.sep.left;obtain⟨a1,_,a2,a3⟩:=cells hs;refine⟨a1,a2,a3,?_⟩;cases i with
 | zero =>
  cases hc
  refine (Q9d P.d.b).mono ?_;rintro r w1 ⟨rfl,rfl⟩;obtain⟨b1,b2,b3,b4⟩:=cells Ap.sep.drew.left;have hP:P.cs=[]:=J4x Ac;have GD:Step (P.hlN++H) (P.hlN++H) wr.drew (wr.drew.setCell ⟨P.p,3,none⟩ (.pointer none)):=by
   have:=Sep.set (A:=[]) (b:=P.p) (T:=228) (cs:=P.cellsN) (B:=(P.q.hl++(P.d.hl++(P.a.hl++P.cs.flatMap CA.hl)))++H) (by simpa [PL.hlN] using Ap.sep.drew) 3 (.pointer none);have e:P.cellsN.set 3 (.pointer none)=P.cellsN:=rfl;rw [e] at this
   simpa [PL.hlN] using this
  exact⟨none,rfl,b1,b2,b3,b4,P,rfl,rfl,by simp [Ac],hf,Ap.trans GD.from_drew⟩
 | succ i =>
  have QR:cst=((Q0c (i+1):Nat):Int):=by
   have:=Q8T (k:=i+1) hi;rw [hc] at this;cases this;rfl
  subst QR;obtain⟨s0,s1,s2⟩:=Q8h (k:=i+1) (by omega) (by omega);refine (Z0A Ap.sep.drew P.d.b (Q0c (i+1)) (by omega) (by omega) s2).mono ?_;rintro r w1 ⟨c,rfl,C2⟩;obtain⟨b1,b2,b3,b4⟩:=cells C2.sep.right.left;have Ix:P.cs.length=i:=by omega
  have DW:=PL.snoc (by omega) _ C2.from_drew;rw [Ix] at DW;have KQ:=hf.cs.snoc c;rw [Ix] at KQ;exact⟨some ⟨c,0,none⟩,rfl,b1,b2,b3,b4,{P with cs:=P.cs++[⟨c,P.d.b,Q0c (i+1),none,[]⟩]},rfl,rfl,by simp [Ix],⟨hf.q,hf.etop,hf.ps,hf.at',hf.mem,KQ⟩,Ap.trans DW⟩
theorem Z2K {w w1 w2 w3:World} {H:HL} {limit:Int} {top:Nat} {t m b:Nat} {d:BD} {a:AN} (s1:Step H ((Q2t t m b limit).hl++H) w w1) (e1:d.top=top) (e2:d.ps=[]) (e3:d.At) (s2:Step ((Q2t t m b limit).hl++H) (d.hl++((Q2t t m b limit).hl++H)) w1 w2)
  (e4:a.mem=List.replicate (2 ^ (top+10)) 0) (s3:Step (d.hl++((Q2t t m b limit).hl++H)) (a.hl++(d.hl++((Q2t t m b limit).hl++H))) w2 w3) :
  Z1M ⟨w3.heap.size,Q2t t m b limit,d,a,[]⟩ 0 top limit H w (w3.alloc (.cells #[ptr t,ptr d.b,ptr a.a,.pointer none,.pointer none,.pointer none,.pointer none,.pointer none,.pointer none,.pointer none,.pointer none] 228)):=by
 have s4:=s3.sep.new 228 [ptr t,ptr d.b,ptr a.a,.pointer none,.pointer none,.pointer none,.pointer none,.pointer none,.pointer none,.pointer none,.pointer none];refine⟨rfl,⟨⟨t,m,b,rfl⟩,e1,e2,e3,e4,fun j c hj=>by simp at hj⟩,?_⟩;have:=((s1.trans s2).trans s3).trans s4;refine this.perm (J5A _) (Q1e fun x=>?_);have e:PL.cellsN ⟨w3.heap.size,Q2t t m b limit,d,a,[]⟩=[ptr t,ptr d.b,ptr a.a,.pointer none,.pointer none,.pointer none,.pointer none,.pointer none,.pointer none,.pointer none,.pointer none]:=rfl;simp only [PL.hlN,e,J6j,J4n,hc_append,hc_cons];omega
theorem Z5u (w:World):(Instr.index 258 (.agg #[.int .i64 0,.int .i64 64,.int .i64 128,.int .i64 256,.int .i64 32,.int .i64 32,.int .i64 48,.int .i64 256]) (.int .i64 0)).run prog w=.ok (.int .i64 0) w:=by kernel_rfl
theorem Z5v (w:World):(Instr.index 258 (.agg #[.int .i64 0,.int .i64 64,.int .i64 128,.int .i64 256,.int .i64 32,.int .i64 32,.int .i64 48,.int .i64 256]) (.int .i64 1)).run prog w=.ok (.int .i64 64) w:=by kernel_rfl
theorem Z5w (w:World):(Instr.index 258 (.agg #[.int .i64 0,.int .i64 64,.int .i64 128,.int .i64 256,.int .i64 32,.int .i64 32,.int .i64 48,.int .i64 256]) (.int .i64 2)).run prog w=.ok (.int .i64 128) w:=by kernel_rfl
theorem Z5x (w:World):(Instr.index 258 (.agg #[.int .i64 0,.int .i64 64,.int .i64 128,.int .i64 256,.int .i64 32,.int .i64 32,.int .i64 48,.int .i64 256]) (.int .i64 3)).run prog w=.ok (.int .i64 256) w:=by kernel_rfl
theorem Z5y (w:World):(Instr.index 258 (.agg #[.int .i64 0,.int .i64 64,.int .i64 128,.int .i64 256,.int .i64 32,.int .i64 32,.int .i64 48,.int .i64 256]) (.int .i64 4)).run prog w=.ok (.int .i64 32) w:=by kernel_rfl
theorem Z5z (w:World):(Instr.index 258 (.agg #[.int .i64 0,.int .i64 64,.int .i64 128,.int .i64 256,.int .i64 32,.int .i64 32,.int .i64 48,.int .i64 256]) (.int .i64 5)).run prog w=.ok (.int .i64 32) w:=by kernel_rfl
theorem Z5A (w:World):(Instr.index 258 (.agg #[.int .i64 0,.int .i64 64,.int .i64 128,.int .i64 256,.int .i64 32,.int .i64 32,.int .i64 48,.int .i64 256]) (.int .i64 6)).run prog w=.ok (.int .i64 48) w:=by kernel_rfl
theorem Z5B (w:World):(Instr.index 258 (.agg #[.int .i64 0,.int .i64 64,.int .i64 128,.int .i64 256,.int .i64 32,.int .i64 32,.int .i64 48,.int .i64 256]) (.int .i64 7)).run prog w=.ok (.int .i64 256) w:=by kernel_rfl
theorem Z8l {w:World} {H:HL} (h:Sep w H) (top:Nat) (h1:6<=top) (h2:top<=20) (limit:Int) (OR:0<=limit) (DD:limit<=((2 ^ (top+10):Nat):Int)):Calls prog 62 #[.int .i64 ((2 ^ (top+10):Nat):Int),.int .i64 limit] w (J0t top limit H w):=by
 have b2:2 ^ (top+10)<=1073741824:=J2i (J3v (by omega) (by omega)) (by decide:2 ^ 30<=1073741824);have k1:=Z8j h limit OR (by omega);have HQ:Hid (∀r w1,NewQ limit H w r w1->∃t m b,r=.returned (.pointer (some ⟨t,0,none⟩))/\Step H ((Q2t t m b limit).hl++H) w w1/\Calls prog 143 #[.int .i64 ((2 ^ (top+10):Nat):Int)] w1 (J0s top ((Q2t t m b limit).hl++H) w1)):=by
  rintro r w1 ⟨t,m,b,rfl,s1⟩;exact⟨t,m,b,rfl,s1,Z5t s1.sep top h1 h2⟩
 have HA:Hid (∀w2 H2,Sep w2 H2->Calls prog 144 #[.int .i64 ((2 ^ (top+10):Nat):Int)] w2 (J0k (2 ^ (top+10)) H2 w2)):=fun w2 H2 s2=>Z4Z s2 (top+10) (by omega) (by omega)
 clear h;generalize B7:2 ^ (top+10)=sz at *
 have Q8:=Q0a B7;clear B7;go_enter func62,ntmps62;go_wp2_with fail;refine k1.mono ?_;intro r w1 hx;obtain⟨t,m,b,rfl,s1,hb⟩:=HQ.out _ _ hx;have HB:=Q0a hb;have S1:=Q0a s1;clear hx hb s1;go_wp2_with fail;refine HB.out.mono ?_;rintro r w2 ⟨d,rfl,e1,e2,e3,s2⟩;have S2:=Q0a s2;have ha:=HA.out w2 _ s2.sep;have NM:=Q0a ha;have E1:=Q0a e1;have E2:=Q0a e2;clear ha s2 e1 e2;go_wp2_with fail;refine NM.out.mono ?_;rintro r w3 ⟨a,rfl,e4,s3⟩;have Gp:=Z2K S1.out E1.out E2.out e3 S2.out (by rw [Q8.out];exact e4) s3;have HP:=Q0a Gp;have Eh:=Q0a (Gp.2.2.sep.env.tabC);clear e3 e4 s3 Gp;unfold ptr at *
 have g0:(w3.alloc (.cells #[.pointer (some ⟨t,0,none⟩),.pointer (some ⟨d.b,0,none⟩),.pointer (some ⟨a.a,0,none⟩),.pointer none,.pointer none,.pointer none,.pointer none,.pointer none,.pointer none,.pointer none,.pointer none] 228)).cell? ⟨0,0,none⟩=some (.int .i64 0):=Eh.out 0 0 rfl;have g1:(w3.alloc (.cells #[.pointer (some ⟨t,0,none⟩),.pointer (some ⟨d.b,0,none⟩),.pointer (some ⟨a.a,0,none⟩),.pointer none,.pointer none,.pointer none,.pointer none,.pointer none,.pointer none,.pointer none,.pointer none] 228)).cell? ⟨0,1,none⟩=some (.int .i64 64):=Eh.out 1 64 rfl;have g2:(w3.alloc (.cells #[.pointer (some ⟨t,0,none⟩),.pointer (some ⟨d.b,0,none⟩),.pointer (some ⟨a.a,0,none⟩),.pointer none,.pointer none,.pointer none,.pointer none,.pointer none,.pointer none,.pointer none,.pointer none] 228)).cell? ⟨0,2,none⟩=some (.int .i64 128):=Eh.out 2 128 rfl
 have g3:(w3.alloc (.cells #[.pointer (some ⟨t,0,none⟩),.pointer (some ⟨d.b,0,none⟩),.pointer (some ⟨a.a,0,none⟩),.pointer none,.pointer none,.pointer none,.pointer none,.pointer none,.pointer none,.pointer none,.pointer none] 228)).cell? ⟨0,3,none⟩=some (.int .i64 256):=Eh.out 3 256 rfl;have g4:(w3.alloc (.cells #[.pointer (some ⟨t,0,none⟩),.pointer (some ⟨d.b,0,none⟩),.pointer (some ⟨a.a,0,none⟩),.pointer none,.pointer none,.pointer none,.pointer none,.pointer none,.pointer none,.pointer none,.pointer none] 228)).cell? ⟨0,4,none⟩=some (.int .i64 32):=Eh.out 4 32 rfl;have g5:(w3.alloc (.cells #[.pointer (some ⟨t,0,none⟩),.pointer (some ⟨d.b,0,none⟩),.pointer (some ⟨a.a,0,none⟩),.pointer none,.pointer none,.pointer none,.pointer none,.pointer none,.pointer none,.pointer none,.pointer none] 228)).cell? ⟨0,5,none⟩=some (.int .i64 32):=Eh.out 5 32 rfl
 have g6:(w3.alloc (.cells #[.pointer (some ⟨t,0,none⟩),.pointer (some ⟨d.b,0,none⟩),.pointer (some ⟨a.a,0,none⟩),.pointer none,.pointer none,.pointer none,.pointer none,.pointer none,.pointer none,.pointer none,.pointer none] 228)).cell? ⟨0,6,none⟩=some (.int .i64 48):=Eh.out 6 48 rfl;have g7:(w3.alloc (.cells #[.pointer (some ⟨t,0,none⟩),.pointer (some ⟨d.b,0,none⟩),.pointer (some ⟨a.a,0,none⟩),.pointer none,.pointer none,.pointer none,.pointer none,.pointer none,.pointer none,.pointer none,.pointer none] 228)).cell? ⟨0,7,none⟩=some (.int .i64 256):=Eh.out 7 256 rfl;go_wp2_with fail;clear g0 g1 g2 g3 g4 g5 g6 g7
 have ix0:=Z5u;have ix1:=Z5v;have ix2:=Z5w;have ix3:=Z5x;have ix4:=Z5y;have ix5:=Z5z;have ix6:=Z5A;have ix7:=Z5B
 go_loopw [34] (fun iv wr=>∃(i:Nat) (P:PL),iv=.int .i64 i/\i<=8/\P.p=w3.heap.size/\P.d.b=d.b/\Z1M P i top limit H w wr) (fun iv _=>8-(intOf iv).toNat)
 case atStart=>exact⟨0,_,rfl,by omega,rfl,rfl,HP.out⟩
 case round =>
  clear HP;obtain⟨i,P,rfl,hi,ep,ed,hp⟩:=hrel;by_cases Ab:i<8
  ·have PG:=fun cst hc=>Z2J Ab hp cst hc
   rw [ep,ed] at PG;have Gq:=Q0a PG;clear PG hp ep ed;have KP:i=0∨i=1∨i=2∨i=3∨i=4∨i=5∨i=6∨i=7:=by omega
   rcases KP with rfl|rfl|rfl|rfl|rfl|rfl|rfl|rfl
   all_goals
    obtain⟨c0,c1,cf,Bl⟩:=Gq.out _ rfl;clear Gq;unfold ptr at *
    have D5:=Q0a Bl;clear Bl;have d0:wr.drew.cell? ⟨w3.heap.size,1,none⟩=some (.pointer (some ⟨d.b,0,none⟩)):=c0
    try push_cast
    go_wp2_with fail
    go_region_held3 (fun w'=>w'.cell? ⟨w3.heap.size,1,none⟩=some (.pointer (some ⟨d.b,0,none⟩)))
     (first|exact c0|exact d0|exact e0|exact ek _)
     (first|(go_at_call 145;refine D5.out.mono ?_;rintro r w1 ⟨v,rfl,e0,ek,e1,ef,BA⟩;have Jh:=Q0a BA;clear BA))
    go_wp2_with fail;obtain⟨P',r1,r2,r3⟩:=Jh.out;go_roundw
    case rel=>exact⟨_,P',by go_num,by omega,r1,r2,r3⟩
    case measure=>simp [intOf]
  ·obtain rfl:i=8:=by omega
   have HR:Hid (J0t top limit H w (.returned (.pointer (some ⟨w3.heap.size,0,none⟩))) wr):=by
    obtain⟨q1,q2,q3⟩:=hp;refine⟨P,by rw [ep],q1,q2,?_⟩;rw [Z8k q1] at q3;exact q3
   clear hp ep ed;go_wp2_with fail
   first|exact HR.out|(go_ret;exact HR.out)
theorem Z8m {c:CA} (h:c.used=[]) (hb:∀x∈c.pg,cntB x.1.bits≠0):c.pg=[]:=by
 cases hp:c.pg with
 | nil=>rfl
 | cons x r =>
  exfalso;have hx:x∈c.pg:=by rw [hp];simp
  have h1:=hb x hx;rw [<- Q6b] at h1;obtain⟨i,hi⟩:=List.exists_mem_of_length_pos (Nat.pos_of_ne_zero h1);have:addr c.size x.2 i∈c.used:=mem_used.2 ⟨x,hx,i,mem_trues.1 hi,rfl⟩;rw [h] at this;cases this
theorem Z8n {P:PL} {fr:List Nat} (ok:P.Ok fr) (h:∀j,P.usedOf j=[]):∀(k:Nat) (c:CA),P.cs[k]?=some c->c.pg=[]:=by
 intro k c hc;have I1:P.Cls (k+1) c:=⟨by omega,by simpa using hc⟩
 have:=h (k+1);rw [Q0T I1] at this;exact Z8m this (PL.busyC ok hc)
theorem Q7w {P:PL} {top:Nat} {limit:Int} (h:FreshP P top limit) (j:Nat):P.usedOf j=[]:=by
 unfold PL.usedOf;split
 ·split
  ·rename_i c hc;unfold CA.used;rw [(h.cs _ c hc).2.2.2];rfl
  ·rfl
 ·rfl
theorem Z2L (m:List Nat) (a n:Nat) (hn:8<=n) (hl:a<=m.length):Q0u (put_ m a (List.replicate n 0)) a=0:=by
 unfold Q0u put_;rw [J3h,J4D (by rw [J4A];omega),List.drop_of_length_le (by rw [J4A];omega),J4r,J4B (by simpa using hn),J5E,J5F hn];rfl
def newL (a:Nat):List Pl:=⟨1,a,0,1,0,0⟩::List.replicate 255 (noPl 0)
theorem Q2C {a:Nat} {p:Pl} (h:p∈newL a):p=⟨1,a,0,1,0,0⟩∨p=noPl 0:=by
 rcases J2m.1 h with h|h
 ·exact .inl h
 ·exact .inr (J2p h)
theorem Q8l {a:Nat} {p:Pl} (h:p∈newL a) (hi:p.is=true):p=⟨1,a,0,1,0,0⟩:=by
 rcases Q2C h with h|rfl
 ·exact h
 ·cases hi
theorem Q8m {β:Type} (f:Pl->Option β) (h:f (noPl 0)=none) (a:Nat):(newL a).filterMap f=match f ⟨1,a,0,1,0,0⟩ with|some b=>[b]|none=>[]:=by
 have e:(List.replicate 255 (noPl 0)).filterMap f=[]:=by
  rw [List.filterMap_eq_nil_iff];intro x hx;rw [J2p hx];exact h
 unfold newL;cases hc:f ⟨1,a,0,1,0,0⟩ with
 | none=>rw [J5R hc,e]
 | some b=>rw [J5S hc,e]
theorem Z2M (a h:Nat):pget (newL a) 2 h=none:=by
 cases hp:pget (newL a) 2 h with
 | none=>rfl
 | some p =>
  have h1:=Q0z hp;have h2:=(pget_some.1 hp).2.2;rcases Q2C h1 with rfl|rfl <;> cases h2
theorem J0u {P P':PL} {top:Nat} {limit:Int} {a:Nat} (h:FreshP P top limit) (hl:P.cs.length=7) (h1:6<=top) (h0:0<=limit) (hm:limit<=1073741824) (g:GotM P [] 0 1 a P' []):Inv P' (newL a) [] x0 []:=by
 have ok:=h.ok hl h1 h0 hm;obtain⟨t,m,b,hq⟩:=h.q;obtain⟨e,q1,q2,q3⟩:=g.q;have he:e=⟨0,b,⟨limit,0,0,-1,0⟩⟩:=by
  rw [hq] at q1;simp only [Q2t,find,if_true,J2v] at q1;exact q1.symm
 have hE:P'.q.E=[⟨0,b,⟨limit,64,0,-1,0⟩⟩]:=by
  rw [q3,hq,he];simp [Q2t,upd,costK,Q0c]
 have hid:∀id x,find P'.q.E id=some x->id=0/\x=⟨0,b,⟨limit,64,0,-1,0⟩⟩:=fun id x hx=>by
  rw [hE] at hx;simp only [find] at hx;split at hx
  ·rename_i h;cases hx;exact⟨h,rfl⟩
  ·cases hx
 have AZ:∀k,P.usedOf k=[]:=fun k=>Q7w h k
 refine⟨by unfold newL;rw [J2S,J2r],fun p hp=>?_,⟨g.ok,fun p hp hi=>?_,fun k k1 k5=>?_,?_,fun p hp hi _=>?_⟩,⟨?_,fun p hp hi=>?_,fun p hp hi _ x hx=>?_,fun id x hx=>?_,fun id x hx=>?_⟩,⟨?_,fun i p hi BJ hs=>?_,fun id=>⟨J6l _,fun h=>absurd rfl h⟩,by simp,fun x=>?_,by simp⟩⟩
 ·rcases Q2C hp with rfl|rfl
  ·exact⟨by show (1:Nat)<=2;omega,by show (0:Nat)<=1048575;omega⟩
  ·exact⟨by show (0:Nat)<=2;omega,by show (0:Nat)<=1048575;omega⟩
 ·rw [Q8l hp hi];exact .inr ⟨J2h 1,by show (1:Nat)<=5;omega⟩
 ·unfold Q2c;rw [Q8m (atsF k) rfl a];by_cases e1:k=1
  ·subst e1;have:=g.used (by decide);rw [AZ] at this;exact this.symm
  ·rw [Q6j (show (⟨1,a,0,1,0,0⟩:Pl).kind≠k from fun h=>e1 h.symm),g.other k e1,AZ]
 ·unfold Q2c;rw [Q8m (atsF 8) rfl a];exact J5A _
 ·rw [Q8l hp hi];show Q0u P'.a.mem a=0;rw [g.mem];exact Z2L _ _ _ (by decide) (by have:=g.room.1;omega)
 ·unfold Q8Z;rw [Q8m ownF rfl a,hE];exact J5A _
 ·rw [Q8l hp hi,hE];exact⟨_,rfl⟩
 ·obtain⟨_,rfl⟩:=hid _ _ hx;rw [Q8l hp hi];exact⟨fun _=>rfl,fun h=>absurd rfl h⟩
 ·obtain⟨rfl,rfl⟩:=hid _ _ hx;have hz:Q0y (List.replicate 255 (noPl 0)) 0=0:=Q2p fun p hp hi=>by rw [J2p hp] at hi;cases hi
  show (64:Int)=Q0y (newL a) 0+0;have:Q0y (newL a) 0=Q2Z 0 ⟨1,a,0,1,0,0⟩+Q0y (List.replicate 255 (noPl 0)) 0:=by unfold Q0y newL;rw [J2k,J5T]
  rw [this,hz];rfl
 ·obtain⟨rfl,rfl⟩:=hid _ _ hx;rw [hE];exact⟨rfl,rfl⟩
 ·exact⟨⟨1,a,0,1,0,0⟩,rfl,rfl,rfl,rfl,rfl,rfl⟩
 ·exfalso;rcases Q2C (J4v hi) with rfl|rfl
  ·have:(List.replicate 255 (noPl 0))[i-1]?=some ⟨1,a,0,1,0,0⟩:=by
    have e:i=(i-1)+1:=by omega
    rw [e] at hi;unfold newL at hi;rw [J5t] at hi;exact hi
   have:=J2p (J4v this);cases this
  ·cases hs
 ·rw [Z2M];simp
end Go.Proofs.YtlakjlmaboioiaaGreatDoor
namespace Go.Proofs.YtlakjlmaboioiaaGreatDoor
open Go.Proofs.Tryz
theorem Q4F {l:List Pl} {N:Nat} (t:Tre l N) (h:Nat):pre l N h=h::(Q0w l N h).reverse:=by
 rw [Q5W t h];unfold Q0w;rw [J2T,Q5W t h];rfl
theorem Z1N {l:List Pl} {N:Nat} (t:Tre l N) (h:Nat):(Q0w l N h).reverse=(kids l h).reverse.flatMap (pre l N):=by
 unfold Q0w;rw [J2T,Q5W t h];rfl
theorem Q9e {l:List Pl} {N:Nat} (t:Tre l N) {h:Nat}:Q0w l N h=[]↔kids l h=[]:=by
 constructor
 ·intro e;have h1:=Z1N t h;rw [e] at h1;cases hk:kids l h with
  | nil=>rfl
  | cons x r =>
   exfalso;rw [hk] at h1;have hx:x∈(x::r).reverse.flatMap (pre l N):=J2H.2 ⟨x,by simp,Q1H l N x⟩;rw [<- h1] at hx;cases hx
 ·intro e;have h1:=Z1N t h;rw [e] at h1
  simpa using h1
theorem Q2D {l:List Pl} {N:Nat} (t:Tre l N) {h x:Nat}:x∈Q0w l N h↔x∈pre l N h/\x≠h:=by
 have hp:(pre l N h).Pairwise (fun a b=>a≠b/\a∉kids l b):=Q5F t N h;rw [Q4F t h] at hp ⊢;obtain⟨h1,_⟩:=J2I.1 hp
 constructor
 ·intro hx;exact⟨by simp [hx],fun e=>(h1 x (by simp [hx])).1 e.symm⟩
 ·rintro⟨hx,Aa⟩;rcases J2m.1 hx with e|hx
  ·exact absurd e Aa
  ·simpa using hx
theorem Q4G {l:List Pl} {h:Nat} (hn:∀p,pget l 1 h=some p->p.kind≠1):kids l h=[]:=by
 unfold kids;cases hp:pget l 1 h with
 | none=>rfl
 | some p=>simp [hn p hp]
theorem Z5C {l:List Pl} {N:Nat} (t:Tre l N) {h:Nat} {p:Pl} (hp:pget l 1 h=some p) (hk:p.kind=1) {x:Nat} {A B:List Nat} (hu:Q0w l N h=A++x::B) :
  ∃q,pget l 1 x=some q/\x≠h/\x≠0/\(∀y∈B,y%256≠x%256)/\(∀y∈A,y%256≠x%256)/\(∀y∈kids l x,y∈A)/\(q.fac=p.own∨∃y∈B,∃r,pget l 1 y=some r/\r.kind=1/\r.own=q.fac):=by
 obtain⟨Nh,Cj,⟨q,hq⟩,FG,NV,Vh⟩:=Z7v t hu;have BV:∀y∈Q0w l N h,∃r,pget l 1 y=some r:=fun y hy=>by
  have:=(Q2D t).1 hy;exact ((Q5G t this.1).resolve_left this.2).2
 have apart:∀y∈Q0w l N h,y≠x->y%256≠x%256:=fun y hy Aa e=>by
  obtain⟨r,hr⟩:=BV y hy;exact Aa (Q0Q hr hq e).1
 refine⟨q,hq,Nh,Cj,fun y hy=>apart y (by rw [hu];simp [hy]) (fun e=>Vh (e ▸ hy)),fun y hy=>apart y (by rw [hu];simp [hy]) (fun e=>NV (e ▸ hy)),FG,?_⟩;have Kh:x∈preN l N h:=((Q2D t).1 (by rw [hu];simp)).1;rcases Z7s N h x Kh with e|⟨z,hz,Ta⟩
 ·exact absurd e Nh
 ·obtain⟨s,u,a1,a2,a3,a4,a5⟩:=(Q0P t.len).1 Ta;rw [hq] at a3;cases a3;by_cases RT:z=h
  ·subst RT;rw [hp] at a1;cases a1;exact .inl a5
  ·right;have Rc:z∈Q0w l N h:=(Q2D t).2 ⟨hz,RT⟩;have Ux:z≠x:=by
    rintro rfl;rw [hq] at a1;cases a1;have:=t.rise z q hq a4 a2;omega
   rw [hu] at Rc;rcases J2V.1 Rc with Ws|QO
   ·exfalso;have Iy:(pre l N h).Pairwise (fun a b=>a≠b/\a∉kids l b):=Q5F t N h;rw [Q4F t h,hu] at Iy;have h2:=(J2I.1 Iy).2;rw [J2N,List.reverse_cons] at h2;have:=(J2U.1 h2).2.2 x (by simp) z (by simpa using Ws);exact this.2 Ta
   ·rcases J2m.1 QO with e|QO
    ·exact absurd e Ux
    ·exact⟨z,QO,s,a1,a2,a5.symm⟩
theorem Z5D {l:List Pl} {N:Nat} (t:Tre l N) {h:Nat} {p:Pl} (hp:pget l 1 h=some p) (hk:p.kind=1) {y:Nat} {q:Pl} (hy:pget l 1 y=some q) (h0:y≠0) (Aa:y≠h)
  (hf:q.fac=p.own∨∃z∈Q0w l N h,∃r,pget l 1 z=some r/\r.kind=1/\r.own=q.fac):y∈Q0w l N h:=by
 refine (Q2D t).2 ⟨?_,Aa⟩;rcases hf with e|⟨z,hz,r,h1,h2,h3⟩
 ·exact Q3y t N h h y (Q5a _ _ _) (Q1H l N h) ((Q0P t.len).2 ⟨p,q,hp,hk,hy,h0,e⟩)
 ·exact Q3y t N h z y (Q5a _ _ _) ((Q2D t).1 hz).1 ((Q0P t.len).2 ⟨r,q,h1,h2,hy,h0,h3.symm⟩)
def Dmd (l:List Pl) (A:List Nat) (l':List Pl):Prop:=∀y,pget l' 1 y=if y∈A then none else pget l 1 y
theorem Dmd.nil (l:List Pl):Dmd l [] l:=fun y=>by simp
theorem Dmd.none_left {l l':List Pl} {A:List Nat} (hl:l.length<=256) (Ix:l'.length<=256) (d:Dmd l A l') {x:Nat} (hk:∀y∈kids l x,y∈A):kids l' x=[]:=by
 cases hc:kids l' x with
 | nil=>rfl
 | cons y r =>
  exfalso;obtain⟨p,q,a1,a2,a3,a4,a5⟩:=(Q0P Ix).1 (by rw [hc];simp:y∈kids l' x);rw [d x] at a1;rw [d y] at a3;split at a1
  ·cases a1
  ·split at a3
   ·cases a3
   ·rename_i h2;exact h2 (hk y ((Q0P hl).2 ⟨p,q,a1,a2,a3,a4,a5⟩))
theorem Dmd.step {l l' l'':List Pl} {A:List Nat} {x:Nat} (d:Dmd l A l') (h:Dmd l' [x] l''):Dmd l (A++[x]) l'':=fun y=>by
 rw [h y,d y];by_cases e:y=x
 ·simp [e]
 ·by_cases hy:y∈A <;> simp [e,hy]
theorem J0v {l:List Pl} {x:Nat} {p:Pl} (hp:pget l 1 x=some p):Dmd l [x] (l.set (x%256) {p with st:=2}):=fun y=>by
 obtain⟨hi,hn,hs⟩:=pget_some.1 hp;unfold pget;by_cases e:y%256=x%256
 ·rw [e];have Ab:=(J2y.1 hi).1;rw [J5W Ab];simp only;rw [if_neg (by rintro⟨_,h⟩;exact absurd h (by decide))];by_cases e2:y=x
  ·simp [e2]
  ·rw [if_neg (by simpa using e2),hi];simp only;rw [if_neg];rintro⟨h,_⟩;exact e2 (h.symm.trans hn)
 ·rw [J5O (fun h=>e h.symm)];rw [if_neg (by rintro h;rw [J4o] at h;exact e (by rw [h]))]
open Go.RowKit
def Q1g (l:List Nat):List Value:=l.map fun (a:Nat)=>Value.int .u32 a
theorem Q3h (l:List Nat):(Q1g l).length=l.length:=by simp [Q1g]
theorem hands_app (l m:List Nat):Q1g (l++m)=Q1g l++Q1g m:=by simp [Q1g]
theorem Q8n {l:List Nat} {j x:Nat} (h:l[j]?=some x):(Q1g l)[j]?=some (.int .u32 x):=by unfold Q1g;rw [J3S,h];rfl
def NewHs (w:World) (l:List Nat) (r:Ending) (w':World):Prop:=∃v,r=.returned v/\w'.ownsRow w.heap.size 27 1 v l.length (Q1g l)/\Below w.heap.size w w'
structure IsHs (B:Nat) (L:List Nat) (a:Option Addr) (w:World):Prop where
 at':∀(j x:Nat),L[j]?=some x->∃g,a=some ⟨g,0,none⟩/\B<=g/\g<w.heap.size/\w.cell? ⟨g,j,none⟩=some (.int .u32 x)
theorem IsHs.below {B:Nat} {L:List Nat} {a:Option Addr} {w w':World} (h:IsHs B L a w) (hb:Below w.heap.size w w'):IsHs B L a w':=⟨fun j x hj=>by
 obtain⟨g,h1,h2,h3,h4⟩:=h.at' j x hj;exact⟨g,h1,h2,J2j h3 hb.size,(World.cell?_of_block (w:=w) (hb.block g h3)).trans h4⟩⟩
theorem NewHs.shape {w:World} {L:List Nat} {r:Ending} {w':World} (h:NewHs w L r w'):∃(a:Option Addr) (cap:Nat),r=.returned (.slice a L.length cap)/\Below w.heap.size w w'/\IsHs w.heap.size L a w':=by
 obtain⟨v,rfl,⟨_,h2⟩,hb⟩:=h;rcases h2 with ⟨rfl,h0⟩|⟨g,cap,Ag,rfl,hg,Cs,hn,hm,hs,AW⟩
 ·refine⟨none,0,by rw [h0],hb,⟨fun j x hj=>?_⟩⟩;have:=(J2y.1 hj).1;omega
 ·refine⟨_,cap,rfl,hb,⟨fun j x hj=>⟨g,rfl,hg,lt_of_block Cs,?_⟩⟩⟩;have hv:=Q8n hj;rw [<- AW,J4k] at hv;split at hv
  ·simp only [World.cell?,Cs,J5k,J5Z,if_false];rw [<- J4H];exact hv
  ·cases hv
def OutH (w wr:World) (v:Value) (L:List Nat):Prop:=wr.ownsRow w.heap.size 27 1 v L.length (Q1g L)/\Below w.heap.size w wr
theorem OutH.nil (w:World):OutH w w (.slice none 0 0) []:=⟨World.ownsRow_nil _ _ _ _,Below.refl _ _⟩
theorem OutH.app0 {w wr w1:World} {v v':Value} {L M:List Nat} (h:OutH w wr v L) (Ak:w1.ownsRow w.heap.size 27 1 v' (L.length+M.length) (Q1g L++Q1g M)) (hg:wr.grownBy w1 v.ownBlock):OutH w w1 v' (L++M):=
 ⟨by rw [J2R,hands_app];exact Ak,h.2.trans ((Below.refl _ wr).mono h.2.size |>.grown hg h.2.size (fun b hb=>(h.1.lt b hb).1))⟩
theorem OutH.alloc {w wr:World} {v:Value} {L:List Nat} (h:OutH w wr v L) (o:Obj):OutH w (wr.alloc o) v L:=⟨h.1.alloc _,h.2.alloc h.2.size _⟩
theorem OutH.app1 {w wr w1:World} {v v':Value} {L M:List Nat} {o:Obj} (h:OutH w wr v L) (Ak:w1.ownsRow w.heap.size 27 1 v' (L.length+M.length) (Q1g L++Q1g M)) (hg:(wr.alloc o).grownBy w1 v.ownBlock):OutH w w1 v' (L++M):=(h.alloc o).app0 Ak hg
theorem OutH.app2 {w wr w1:World} {v v':Value} {L M:List Nat} {o o2:Obj} (h:OutH w wr v L) (Ak:w1.ownsRow w.heap.size 27 1 v' (L.length+M.length) (Q1g L++Q1g M)) (hg:((wr.alloc o).alloc o2).grownBy w1 v.ownBlock):OutH w w1 v' (L++M):=((h.alloc o).alloc o2).app0 Ak hg
theorem OutH.below {w wr w1:World} {v:Value} {L:List Nat} (h:OutH w wr v L) (hb:Below wr.heap.size wr w1):OutH w w1 v L:=
 ⟨h.1.kept (row:=none) ⟨hb.os,hb.tape,hb.output,hb.size,fun k hk _=>hb.block k hk⟩ (by cases hv:v.ownBlock with|none=>exact .inl rfl|some b=>exact .inr (by simp)),h.2.trans (hb.mono h.2.size)⟩
theorem Z5E (w:World) (x:Value):∀j u,[x][j]?=some u->(w.alloc (.cells #[x] 27)).cell? ((⟨w.heap.size,0,none⟩:Addr).add j)=some u:=by
 intro j u hj;have:=(Cells.new w 27 [x]).cell j u hj;have e:(⟨w.heap.size,0,none⟩:Addr).add j=⟨w.heap.size,j,none⟩:=by unfold Addr.add;split <;> simp_all
 rw [e];exact this
theorem Q7x (w:World) (o:Obj) (x:Value):∀j u,[x][j]?=some u->((w.alloc o).alloc (.cells #[x] 27)).cell? ((⟨w.heap.size+1,0,none⟩:Addr).add j)=some u:=by
 intro j u hj;have:=Z5E (w.alloc o) x j u hj;rw [World.size_alloc] at this;exact this
theorem Q3F:(prog.info? 27).map (fun i=>(i.zero,i.size,i.bytes))=some (some (.int .u32 0),1,4):=by kernel_rfl
def Q4b (q:QT) (id:Int) (e:En Fa) (b:Nat) (limit:Int):QT:={q with E:=upd q.E id {e.q with given:=e.q.given+limit,kids:=e.q.kids+1}++[⟨q.next,b,⟨limit,0,0,id,0⟩⟩],next:=q.next+1}
def Z0B (w:World) (q:QT) (id:Int) (e:En Fa) (limit:Int) (r:Ending) (w':World):Prop:=r=.returned (.tuple #[.int .i64 q.next,.int .i64 0])/\∃b,Step q.hl (Q4b q id e b limit).hl w w'
def closed (q:QT) (par:Int) (e c:En Fa) (id:Int):QT:={q with E:=rem (upd q.E par {e.q with given:=e.q.given-c.q.limit,kids:=e.q.kids-1}) id}
def Z5F (w:World) (q:QT) (par:Int) (e c:En Fa) (id:Int) (r:Ending) (w':World):Prop:=r=.returned (.int .i64 0)/\Step q.hl (closed q par e c id).hl w w'
theorem Z8o {α:Type} (E:List (En α)) (x:En α) (id:Int) (f:α) (h:x.id≠id):upd (E++[x]) id f=upd E id f++[x]:=by
 simp [upd,h]
theorem QT.next_none {q:QT} (ok:q.Ok):find q.E q.next=none:=by
 cases h:find q.E q.next with
 | none=>rfl
 | some e=>have:=(ok.fa _ e h).2.2.2.2.2.2.2;omega
theorem J0w {q:QT} (ok:q.Ok) (b:Nat) (f:Fa):(q.E++[(⟨q.next,b,f⟩:En Fa)]).Pairwise (fun a b=>a.id≠b.id):=by
 rw [J2U];refine⟨ok.ids,by simp,fun x hx y hy=>?_⟩;rw [J4o] at hy;subst hy;exact Q8K (QT.next_none ok) x hx
theorem QT.carve {w:World} {q:QT} (h:Sep w q.hl) (ok:q.Ok) {id:Int} {e:En Fa} (hf:find q.E id=some e) (limit:Int) (w4:World) (hm:Q0B w4 q.m (put (kvs q.E) q.next (ptr w.heap.size)))
  (hg:((w.setCell ⟨q.t,1,none⟩ (.int .i64 (q.next+1))).alloc (.cells #[.int .i64 limit,.int .i64 0,.int .i64 0,.int .i64 id,.int .i64 0] 236)).grownBy w4 (some q.m)) :
  w4.cell? ⟨e.b,2,none⟩=some (.int .i64 e.q.given)/\w4.cell? ⟨e.b,4,none⟩=some (.int .i64 e.q.kids)/\(∀i,w4.frozen? ⟨e.b,i,none⟩=false) /\
   Step q.hl (Q4b q id e w.heap.size limit).hl w ((w4.setCell ⟨e.b,2,none⟩ (.int .i64 (e.q.given+limit))).setCell ⟨e.b,4,none⟩ (.int .i64 (e.q.kids+1))):=by
 have Ar:=QT.next_none ok;have Aa:q.next≠id:=fun e'=>by rw [e',hf] at Ar;cases Ar
 have s1:Step q.hl ({q with next:=q.next+1}:QT).hl w (w.setCell ⟨q.t,1,none⟩ (.int .i64 (q.next+1))):=Sep.set (A:=[]) (B:=(q.m,isMI (kvs q.E))::facH q.E) h 1 (.int .i64 (q.next+1));have B7:(w.setCell ⟨q.t,1,none⟩ (.int .i64 (q.next+1))).heap.size=w.heap.size:=by simp [World.setCell]
 have s2:=s1.sep.new 236 [.int .i64 limit,.int .i64 0,.int .i64 0,.int .i64 id,.int .i64 0];rw [B7] at s2;obtain⟨es,Ai,ho,hr⟩:=hm;have s3:=Sep.turn (A:=[(w.heap.size,isC 236 [.int .i64 limit,.int .i64 0,.int .i64 0,.int .i64 id,.int .i64 0]),(q.t,isC 254 [.map (some q.m),.int .i64 (q.next+1)])]) (B:=facH q.E) (q':=isMI (put (kvs q.E) q.next (ptr w.heap.size))) s2.sep hg ⟨_,ho,es,Ai,rfl,hr⟩;rw [Z4x q.E q.next w.heap.size ⟨limit,0,0,id,0⟩ Ar] at s3;have s123:=(s1.trans s2).trans s3;obtain⟨q1,DS⟩:∃q1:QT,q1={q with E:=q.E++[⟨q.next,w.heap.size,⟨limit,0,0,id,0⟩⟩],next:=q.next+1}:=⟨_,rfl⟩
 have s4:Step q.hl q1.hl w w4:=by
  refine s123.perm (J5A _) ?_;rw [DS];simp only [QT.hl,facH,J5K,J2k,J4N,J4s,J4r,Fa.cells];refine (List.Perm.swap _ _ _).trans (List.Perm.cons _ ?_);refine (List.Perm.swap _ _ _).trans (List.Perm.cons _ ?_);exact (J5N _ _).symm
 have CB:q1.E.Pairwise (fun a b=>a.id≠b.id):=by rw [DS];exact J0w ok _ _
 have Gl:find q1.E id=some e:=by
  rw [DS];show find (q.E++[_]) id=_;rw [Q2a,hf]
 have k:=QT.fac s4.sep Gl;have s5:=QT.setF s4.sep CB Gl 2 (.int .i64 (e.q.given+limit)) {e.q with given:=e.q.given+limit} rfl;have IQ:find (upd q1.E id {e.q with given:=e.q.given+limit}) id=some {e with q:={e.q with given:=e.q.given+limit}}:=Q0i Gl _;have Ch:(upd q1.E id {e.q with given:=e.q.given+limit}).Pairwise (fun a b=>a.id≠b.id):=Q0N _ _ (fun a b a' b' _ h1 _ h2 h=>by rw [<- h1,<- h2];exact h) CB;have s6:=QT.setF (q:={q1 with E:=upd q1.E id {e.q with given:=e.q.given+limit}}) s5.sep Ch IQ 4 (.int .i64 (e.q.kids+1)) {e.q with given:=e.q.given+limit,kids:=e.q.kids+1} rfl;refine⟨k.cell 2 _ rfl,k.cell 4 _ rfl,k.free,?_⟩
 have:=(s4.trans s5).trans s6;have e1:upd (upd q1.E id {e.q with given:=e.q.given+limit}) id {e.q with given:=e.q.given+limit,kids:=e.q.kids+1}=upd q.E id {e.q with given:=e.q.given+limit,kids:=e.q.kids+1}++[⟨q.next,w.heap.size,⟨limit,0,0,id,0⟩⟩]:=by
  rw [upd_upd,DS];exact Z8o _ _ _ _ Aa
 rw [e1] at this;rw [DS] at this;exact this
theorem Z5G {q:QT} (ok:q.Ok) {id:Int} {e:En Fa} (hf:find q.E id=some e) (b:Nat) {limit:Int} (h0:0<=limit) (Am:limit<=e.q.limit-(e.q.charged+e.q.given)) (hn:q.next+1<1048576):(Q4b q id e b limit).Ok:=by
 have Ar:=QT.next_none ok;have Dw:=ok.next0;have Aa:q.next≠id:=fun e'=>by rw [e',hf] at Ar;cases Ar
 have Ae:(upd q.E id {e.q with given:=e.q.given+limit,kids:=e.q.kids+1}).Pairwise (fun a b=>a.id≠b.id):=Q0N _ _ (fun a b a' b' _ h1 _ h2 h=>by rw [<- h1,<- h2];exact h) ok.ids;refine⟨?_,by show 0<q.next+1;omega,hn,fun j x hx=>?_⟩
 ·show (upd q.E id _++[_]).Pairwise _;rw [J2U];refine⟨Ae,by simp,fun x hx y hy=>?_⟩;rw [J4o] at hy;subst hy;obtain⟨y,hy,_,h2,_⟩:=Z9P hx;rw [<- h2];exact Q8K Ar y hy
 ·have BZ:find (upd q.E id {e.q with given:=e.q.given+limit,kids:=e.q.kids+1}++[⟨q.next,b,⟨limit,0,0,id,0⟩⟩]) j=some x:=hx;show _/\_/\_/\_/\_/\_<q.next+1/\_/\j<q.next+1;obtain⟨f1,f2,f3,f4,f5,f6,f7,f8⟩:=ok.fa id e hf;rw [Q2a] at BZ;by_cases hj:j=id
  ·subst hj;rw [Q0i hf] at BZ;cases BZ;show 0<=e.q.charged/\0<=e.q.given+limit/\e.q.charged+(e.q.given+limit)<=e.q.limit/\e.q.limit<=_/\0<=e.q.kids+1/\e.q.kids+1<q.next+1/\0<=j/\j<q.next+1;omega
  ·rw [Q0x hj] at BZ;cases hc:find q.E j with
   | some y =>
    rw [hc] at BZ;cases BZ;obtain⟨g1,g2,g3,g4,g5,g6,g7,g8⟩:=ok.fa j x hc;omega
   | none =>
    rw [hc] at BZ;simp only at BZ;split at BZ
    ·rename_i h';cases BZ;have Tl:j=q.next:=h';show 0<=(0:Int)/\0<=(0:Int)/\(0:Int)+0<=limit/\limit<=1073741824/\0<=(0:Int)/\(0:Int)<q.next+1/\0<=j/\j<q.next+1;omega
    ·cases BZ
theorem Z5H {q:QT} (ok:q.Ok) {par id:Int} {e c:En Fa} (he:find q.E par=some e) (hc:find q.E id=some c) (Aa:par≠id) (h1:0<=e.q.given-c.q.limit) (h2:0<=e.q.kids-1) (h3:0<=c.q.limit):(closed q par e c id).Ok:=by
 have Ae:(upd q.E par {e.q with given:=e.q.given-c.q.limit,kids:=e.q.kids-1}).Pairwise (fun a b=>a.id≠b.id):=Q0N _ _ (fun a b a' b' _ h1 _ h2 h=>by rw [<- h1,<- h2];exact h) ok.ids;refine⟨Ae.sublist (Q1B _ _),ok.next0,ok.next1,fun j x hx=>?_⟩;have BZ:find (rem (upd q.E par {e.q with given:=e.q.given-c.q.limit,kids:=e.q.kids-1}) id) j=some x:=hx;show _/\_/\_/\_/\_/\_<q.next/\_/\j<q.next;rw [Q2m Ae] at BZ;split at BZ
 ·cases BZ
 ·by_cases hj:j=par
  ·subst hj;rw [Q0i he] at BZ;cases BZ;obtain⟨f1,f2,f3,f4,f5,f6,f7,f8⟩:=ok.fa j e he;show 0<=e.q.charged/\0<=e.q.given-c.q.limit/\e.q.charged+(e.q.given-c.q.limit)<=e.q.limit/\e.q.limit<=_/\0<=e.q.kids-1/\e.q.kids-1<q.next/\0<=j/\j<q.next;omega
  ·rw [Q0x hj] at BZ;exact ok.fa j x BZ
theorem QT.close {w:World} {q:QT} (h:Sep w q.hl) (ok:q.Ok) {par id:Int} {e c:En Fa} (he:find q.E par=some e) (hc:find q.E id=some c) (w4:World) (hm:Q0B w4 q.m (del (kvs q.E) id))
  (hg:((w.setCell ⟨e.b,2,none⟩ (.int .i64 (e.q.given-c.q.limit))).setCell ⟨e.b,4,none⟩ (.int .i64 (e.q.kids-1))).grownBy w4 (some q.m)):Step q.hl (closed q par e c id).hl w w4:=by
 have s1:=QT.setF h ok.ids he 2 (.int .i64 (e.q.given-c.q.limit)) {e.q with given:=e.q.given-c.q.limit} rfl;have IQ:find (upd q.E par {e.q with given:=e.q.given-c.q.limit}) par=some {e with q:={e.q with given:=e.q.given-c.q.limit}}:=Q0i he _;have Ch:(upd q.E par {e.q with given:=e.q.given-c.q.limit}).Pairwise (fun a b=>a.id≠b.id):=Q0N _ _ (fun a b a' b' _ h1 _ h2 h=>by rw [<- h1,<- h2];exact h) ok.ids;have s2:=QT.setF (q:={q with E:=upd q.E par {e.q with given:=e.q.given-c.q.limit}}) s1.sep Ch IQ 4 (.int .i64 (e.q.kids-1)) {e.q with given:=e.q.given-c.q.limit,kids:=e.q.kids-1} rfl;have s12:=s1.trans s2
 rw [show upd (upd q.E par {e.q with given:=e.q.given-c.q.limit}) par {e.q with given:=e.q.given-c.q.limit,kids:=e.q.kids-1}=upd q.E par {e.q with given:=e.q.given-c.q.limit,kids:=e.q.kids-1} from upd_upd _ _ _ _] at s12;obtain⟨es,Ai,ho,hr⟩:=hm;have s3:=Sep.turn (A:=[(q.t,isC 254 [.map (some q.m),.int .i64 q.next])]) (B:=facH (upd q.E par {e.q with given:=e.q.given-c.q.limit,kids:=e.q.kids-1})) (q':=isMI (del (kvs q.E) id)) s12.sep hg ⟨_,ho,es,Ai,rfl,hr⟩;have s4:=s12.trans s3;rw [Q7Y,show kvs (rem q.E id)=kvs (rem (upd q.E par {e.q with given:=e.q.given-c.q.limit,kids:=e.q.kids-1}) id) by rw [<- Q7Y,<- Q7Y,Z4y]] at s4
 refine s4.drop ?_;show List.Sublist (_::_::facH (rem _ id)) (_::_::facH _);refine List.Sublist.cons_cons _ (List.Sublist.cons_cons _ ?_);exact (Q1B _ _).map _
def Q0v (e:En Fa):Int:=e.q.limit-(e.q.charged+e.q.given)
def two (x:Nat) (e:Int):Ending:=.returned (.tuple #[.int .u32 x,.int .i64 e])
structure MadeOk (S:CO) (fr:List Nat) (f:Pl) (e:En Fa) (n a:Nat) (lim:Int) (x:Nat) (i:Nat) (p:Pl) (P':PL) (fr':List Nat):Prop where
 inv:Inv P' (S.l.set i ⟨n,a,f.own,1,p.age,x⟩) fr' S.xc (S.ts.map Prod.fst)
 same:SameP S.P P'
 kept:KeptL S.P.a.mem P'.a.mem S.l
 next:P'.q.next<=S.P.q.next+1
 fac:n≠1->P'.q.E=upd S.P.q.E f.own {e.q with charged:=e.q.charged+((costK n:Nat):Int)}
 fac1:n=1->(x:Int)=S.P.q.next/\P'.q.next=S.P.q.next+1/\∃b,P'.q.E=upd S.P.q.E f.own {e.q with charged:=e.q.charged+64,given:=e.q.given+lim,kids:=e.q.kids+1}++[⟨x,b,⟨lim,0,0,f.own,0⟩⟩]
 zero:n≠1->∀j,a<=j->j<a+costK n->P'.a.mem[j]?=some 0
 few:P'.d.ps.length<=S.P.d.ps.length+1
 high:∀j,6<=j->(P'.usedOf j).Perm (S.P.usedOf j)
 memH:Z5m S.P P'
 room:a+costK n<=S.P.a.mem.length
def CO.made (S:CO) (f:Pl) (n a x i:Nat) (p:Pl) (P':PL):CO:=(S.setP P').setL (S.l.set i ⟨n,a,f.own,1,p.age,x⟩)
def J1t (S:CO) (fr:List Nat) (f:Pl) (e:En Fa) (n:Nat) (lim:Int) (w:World) (r:Ending) (w':World):Prop:=
 (Q0v e<((costK n:Nat):Int)/\r=two 0 5/\Step S.hl S.hl w w') ∨
 (((costK n:Nat):Int)<=Q0v e/\NoPage S.P/\r=two 0 4/\Step S.hl S.hl w w') ∨
 (((costK n:Nat):Int)<=Q0v e/\∃(er:Int) (P':PL),((er=11/\((∀p∈S.l,p.st≠0)∨n=1/\S.P.q.E.length=32))∨(er=5/\n=1/\Q0v e-64<lim))/\Tried S.P fr S.l P'/\r=two 0 er/\Step S.hl (S.setP P').hl w w') ∨
 (∃(i:Nat) (p:Pl) (a x:Nat) (P':PL) (fr':List Nat),S.l[i]?=some p/\p.st=0/\(∀j q,j<i->S.l[j]?=some q->q.st≠0)/\((costK n:Nat):Int)<=Q0v e/\r=two (nm i p) 0/\MadeOk S fr f e n a lim x i p P' fr'/\Step S.hl (S.made f n a x i p P').hl w w')
def MakeR (S:CO) (fr:List Nat) (h:Nat) (k lim:Int) (w:World) (r:Ending) (w':World):Prop:=
 (pget S.l 1 h=none/\r=two 0 8/\Step S.hl S.hl w w') ∨
 ∃f,pget S.l 1 h=some f/\((f.kind≠1/\r=two 0 10/\Step S.hl S.hl w w') ∨
  (f.kind=1/\(¬(k=8∨1<=k/\k<=5)∨k=1/\lim<0)/\r=two 0 1/\Step S.hl S.hl w w') ∨
  ∃(n:Nat) (e:En Fa),k=(n:Int)/\f.kind=1/\(n=8∨1<=n/\n<=5)/\(n=1->0<=lim)/\find S.P.q.E f.own=some e/\J1t S fr f e n lim w r w')
def J0x (S:CO) (h:Nat) (w:World) (r:Ending) (w':World):Prop:=
 (pget S.l 1 h=none/\r=.returned (.int .i64 8)/\Step S.hl S.hl w w') ∨
 (pget S.l 1 h≠none/\h=0/\r=.returned (.int .i64 1)/\Step S.hl S.hl w w') ∨
 (pget S.l 1 h≠none/\h≠0/\kids S.l h≠[]/\r=.returned (.int .i64 12)/\Step S.hl S.hl w w') ∨
 (∃p rv,pget S.l 1 h=some p/\h≠0/\kids S.l h=[]/\ovOk rv (S.ts.length+1)/\r=.returned (.int .i64 0)/\Step S.hl (S.doomed h p rv).hl w w')
def TickR (S:CO) (fr:List Nat) (N K:Nat) (w:World) (r:Ending) (w':World):Prop:=
 ∃(rv:OV) (S':CO) (fr':List Nat) (v:Value),r=.returned v/\w'.ownsRow w.heap.size 27 1 v (dueN S).length (Q1g (dueN S))/\ovOk rv (dueT S).length/\Ticked (S.setG (S.now+1) rv (dueT S)) S' (dueN S)/\S'.Ok fr' N (K+1) /\
  Step S.hl S'.hl w w'/\∀b∈keys S'.hl,v.ownBlock≠some b
theorem CO.Ok.mono {S:CO} {fr:List Nat} {N N' K K':Nat} (ok:S.Ok fr N K) (h1:N<=N') (h2:K<=K'):S.Ok fr N' K':=
 ⟨ok.inv,ok.per,ok.due,ok.ord,ok.ov,by have:=ok.next;omega,J2i ok.now h2,ok.age⟩
theorem MadeOk.ok {S:CO} {fr:List Nat} {N K:Nat} (ok:S.Ok fr N K) {f:Pl} {e:En Fa} {n a x i:Nat} {lim:Int} {p:Pl} {P':PL} {fr':List Nat} (m:MadeOk S fr f e n a lim x i p P' fr') (hi:S.l[i]?=some p):(S.made f n a x i p P').Ok fr' (N+1) K:=
 ok.made m.inv (by have:=m.next;have:=ok.next;omega) (Z5r ok.age (ok.age p (J4v hi)))
theorem MadeOk.went {S:CO} {fr:List Nat} {N K:Nat} (ok:S.Ok fr N K) {f:Pl} {e:En Fa} {n a x i:Nat} {lim:Int} {p:Pl} {P':PL} {fr':List Nat} (m:MadeOk S fr f e n a lim x i p P' fr') (hi:S.l[i]?=some p) (hp:p.st=0):Went S (S.made f n a x i p P'):=
 Went.made ok m.same hi hp rfl m.kept m.high m.memH
def LOk (l:List Pl):Prop:=l.length=256/\∀p∈l,p.st<=3/\p.age<=1048575
theorem LOk.get {l:List Pl} (h:LOk l) (x:Nat):∃p,l[x%256]?=some p/\p.st<=3/\p.age<=1048575:=by
 have Ab:x%256<l.length:=by rw [h.1];omega
 exact⟨l[x%256],J4y Ab,h.2 _ (J5D Ab)⟩
theorem Z5I {l:List Pl} {s h:Nat} {p:Pl} (hl:l[h%256]?=some p):pget l s h=none↔nm (h%256) p≠h∨p.st≠s:=by
 unfold pget;rw [hl];simp only;by_cases hc:nm (h%256) p=h/\p.st=s
 ·rw [if_pos hc];simp [hc.1,hc.2]
 ·rw [if_neg hc];have:nm (h%256) p≠h∨p.st≠s:=by
   by_cases h1:nm (h%256) p=h
   ·exact .inr fun h2=>hc ⟨h1,h2⟩
   ·exact .inl h1
  simp [this]
theorem Q8o {w:World} {h:HT} (s:Sep w h.hl) (ok:LOk h.l) {x st:Nat} (hx:x<4294967296) {p:Pl} (hp:pget h.l st x=some p) :
  Calls prog 170 #[.pointer (some ⟨h.t,0,none⟩),.int .u32 x,.int .i64 st] w fun r w'=>r=.returned (.tuple #[.pointer (some ⟨h.t,x%256*5,none⟩),.int .i64 0])/\w=w':=by
 obtain⟨hi,hn,hs⟩:=pget_some.1 hp;have ha:=(ok.2 p (J4v hi)).2;have k1:=Q4E s hi (by omega) ha;obtain⟨-,-,-,c3,-,-⟩:=HT.cell s hi;have HO:=Q9b x hx;rw [hn] at k1;rw [hs] at c3;clear s ok hp hi hn hs ha;have PB:x%256<256:=by omega
 have hw:IntKind.i64.wrap ((x%256:Nat):Int)=((x%256:Nat):Int):=Go.IntWalk.i64_in _ (by omega);generalize x%256=i at *
 go_enter func170,ntmps170;go_wp2_with (go_at_call 153;refine k1.mono ?_;rintro e w' ⟨rfl,rfl⟩);go_ret2;exact⟨rfl,rfl⟩
theorem Z5J {a b:Nat} (h:a≠b):(((a:Nat):Int) != ((b:Nat):Int))=true:=by simp;omega
theorem Q3i {a b:Nat} (h:a≠b):(((a:Nat):Int)==((b:Nat):Int))=false:=by simp;omega
theorem Z8p {w:World} {h:HT} (s:Sep w h.hl) (ok:LOk h.l) {x st:Nat} (hx:x<4294967296) (hp:pget h.l st x=none) :
  Calls prog 170 #[.pointer (some ⟨h.t,0,none⟩),.int .u32 x,.int .i64 st] w fun r w'=>r=.returned (.tuple #[.pointer none,.int .i64 8])/\w=w':=by
 obtain⟨p,hi,h1,ha⟩:=ok.get x;have Ay:=(Z5I hi).1 hp;have k1:=Q4E s hi (by omega) ha;obtain⟨-,-,-,c3,-,-⟩:=HT.cell s hi;have HO:=Q9b x hx;clear s ok hp hi ha;have PB:x%256<256:=by omega
 have hw:IntKind.i64.wrap ((x%256:Nat):Int)=((x%256:Nat):Int):=Go.IntWalk.i64_in _ (by omega);generalize x%256=i at *
 generalize nm i p=n at *
 generalize p.st=t at *
 by_cases hn:n=x
 ·subst hn;have ht:t≠st:=Ay.resolve_left fun h=>h rfl
  have hb:=Z5J ht;have Af:=Q3i ht;clear Ay ht;go_enter func170,ntmps170;go_wp2_with (go_at_call 153;refine k1.mono ?_;rintro e w' ⟨rfl,rfl⟩);go_ret2;exact⟨rfl,rfl⟩
 ·have hb:=Z5J hn;have Af:=Q3i hn;clear Ay hn;go_enter func170,ntmps170;go_wp2_with (go_at_call 153;refine k1.mono ?_;rintro e w' ⟨rfl,rfl⟩);go_ret2;exact⟨rfl,rfl⟩
def Pl.obj (p:Pl):Value:=.agg #[.int .i64 (p.kind:Int),.int .i64 (p.at_:Int),.int .i64 (p.fac:Int)]
def zobj:Value:=.agg #[.int .i64 0,.int .i64 0,.int .i64 0]
theorem Q6l {w:World} {h:HT} (s:Sep w h.hl) (ok:LOk h.l) {x:Nat} (hx:x<4294967296) {p:Pl} (hp:pget h.l 1 x=some p) :
  Calls prog 93 #[.pointer (some ⟨h.t,0,none⟩),.int .u32 x] w (Told w (.tuple #[p.obj,.int .i64 0])):=by
 have hi:=(pget_some.1 hp).1;have hA:Calls prog 170 #[.pointer (some ⟨h.t,0,none⟩),.int .u32 x,.int .i64 1] (w.alloc (.cells #[.int .i64 0,.int .i64 0,.int .i64 0] 69)) fun r w'=>r=.returned (.tuple #[.pointer (some ⟨h.t,x%256*5,none⟩),.int .i64 0])/\(w.alloc (.cells #[.int .i64 0,.int .i64 0,.int .i64 0] 69))=w':=Q8o (st:=1) (s.alloc _) ok hx hp
 obtain⟨c0,c1,c2,-,-,-⟩:=HT.cell (s.alloc (.cells #[.int .i64 0,.int .i64 0,.int .i64 0] 69)) hi;have HB:Hid (Below w.heap.size w (w.alloc (.cells #[.int .i64 0,.int .i64 0,.int .i64 0] 69))):=(Below.refl _ _).alloc (J2h _) _;unfold Pl.obj;clear s ok hp hi;generalize x%256*5=i at *
 go_enter func93,ntmps93;go_wp2_with (go_at_call 170;refine hA.mono ?_;rintro e w' ⟨rfl,rfl⟩);refine bodyPost_ret (v:=.tuple #[.agg #[.int .i64 (p.kind:Int),.int .i64 (p.at_:Int),.int .i64 (p.fac:Int)],.int .i64 0]) (by simp [results,results93,go_sem]) rfl ⟨rfl,?_⟩;exact (Below.refl _ _).alloc (J2h _) _
theorem Z5K {w:World} {h:HT} (s:Sep w h.hl) (ok:LOk h.l) {x:Nat} (hx:x<4294967296) (hp:pget h.l 1 x=none) :
  Calls prog 93 #[.pointer (some ⟨h.t,0,none⟩),.int .u32 x] w (Told w (.tuple #[zobj,.int .i64 8])):=by
 have hA:Calls prog 170 #[.pointer (some ⟨h.t,0,none⟩),.int .u32 x,.int .i64 1] (w.alloc (.cells #[.int .i64 0,.int .i64 0,.int .i64 0] 69)) fun r w'=>r=.returned (.tuple #[.pointer none,.int .i64 8])/\(w.alloc (.cells #[.int .i64 0,.int .i64 0,.int .i64 0] 69))=w':=Z8p (st:=1) (s.alloc _) ok hx hp
 unfold zobj;clear s ok hp;go_enter func93,ntmps93;go_wp2_with (go_at_call 170;refine hA.mono ?_;rintro e w' ⟨rfl,rfl⟩);refine bodyPost_ret (v:=.tuple #[.agg #[.int .i64 0,.int .i64 0,.int .i64 0],.int .i64 8]) (by simp [results,results93,go_sem]) rfl ⟨rfl,?_⟩;exact (Below.refl _ _).alloc (J2h _) _
def J0y (h:HT) (x:Nat) (p:Pl) (w:World) (r:Ending) (w':World):Prop:=r=.returned (.int .i64 0)/\Step h.hl ({h with l:=h.l.set (x%256) {p with st:=2}}:HT).hl w w'
theorem Z2N {w:World} {h:HT} (s:Sep w h.hl) (ok:LOk h.l) {x:Nat} (hx:x<4294967296) {p:Pl} (hp:pget h.l 1 x=some p) :
  Calls prog 172 #[.pointer (some ⟨h.t,0,none⟩),.int .u32 x] w (J0y h x p w):=by
 have hA:Calls prog 170 #[.pointer (some ⟨h.t,0,none⟩),.int .u32 x,.int .i64 1] w fun r w'=>r=.returned (.tuple #[.pointer (some ⟨h.t,x%256*5,none⟩),.int .i64 0])/\w=w':=Q8o (st:=1) s ok hx hp
 have hi:=(pget_some.1 hp).1;obtain⟨-,-,-,c3,-,cf⟩:=HT.cell s hi;have WG:=cf (x%256*5+3);have HS:Hid (J0y h x p w (.returned (.int .i64 0)) (w.setCell ⟨h.t,x%256*5+3,none⟩ (.int .i64 2))):=⟨rfl,HT.set s hi 3 (.int .i64 2) (by omega) (q:={p with st:=2}) rfl⟩
 clear s ok hp hi cf;generalize J0y h x p w=Q at *
 generalize x%256*5=i at *
 go_enter func172,ntmps172;go_wp2_with (go_at_call 170;refine hA.mono ?_;rintro e w' ⟨rfl,rfl⟩)
 first|exact HS.out|(go_ret;exact HS.out)
def J0z (h:HT) (x:Nat) (p:Pl) (w:World) (r:Ending) (w':World):Prop:=r=.returned (.tuple #[p.obj,.int .i64 0])/\Step h.hl ({h with l:=h.l.set (x%256) ⟨0,0,0,0,p.age+1,0⟩}:HT).hl w w'
theorem Z8q {l:List Pl} {i:Nat} {p:Pl} (hi:l[i]?=some p) (q:Pl):(((((l.flatMap Pl.cells).set (i*5+0) (.int .i64 (q.kind:Int))).set (i*5+1) (.int .i64 (q.at_:Int))).set (i*5+2) (.int .i64 (q.fac:Int))).set (i*5+3) (.int .i64 (q.st:Int))).set (i*5+4) (.int .u32 (q.age:Int))=(l.set i q).flatMap Pl.cells:=by
 have g:∀(r:Pl),(l.set i r)[i]?=some r:=fun r=>by rw [J5W (J2y.1 hi).1]
 have e0:=Q4h hi (q:=⟨q.kind,p.at_,p.fac,p.st,p.age,q.own⟩) 0 (.int .i64 (q.kind:Int)) (by omega) rfl;have e1:=Q4h (g ⟨q.kind,p.at_,p.fac,p.st,p.age,q.own⟩) (q:=⟨q.kind,q.at_,p.fac,p.st,p.age,q.own⟩) 1 (.int .i64 (q.at_:Int)) (by omega) rfl;have e2:=Q4h (g ⟨q.kind,q.at_,p.fac,p.st,p.age,q.own⟩) (q:=⟨q.kind,q.at_,q.fac,p.st,p.age,q.own⟩) 2 (.int .i64 (q.fac:Int)) (by omega) rfl;have e3:=Q4h (g ⟨q.kind,q.at_,q.fac,p.st,p.age,q.own⟩) (q:=⟨q.kind,q.at_,q.fac,q.st,p.age,q.own⟩) 3 (.int .i64 (q.st:Int)) (by omega) rfl;have e4:=Q4h (g ⟨q.kind,q.at_,q.fac,q.st,p.age,q.own⟩) (q:=q) 4 (.int .u32 (q.age:Int)) (by omega) rfl
 rw [J4Y] at e1 e2 e3 e4;rw [e0,e1,e2,e3,e4]
theorem HT.set5 {w:World} {h:HT} (s:Sep w h.hl) {i:Nat} {p:Pl} (hi:h.l[i]?=some p) (q:Pl):Step h.hl ({h with l:=h.l.set i q}:HT).hl w (((((w.setCell ⟨h.t,i*5+0,none⟩ (.int .i64 (q.kind:Int))).setCell ⟨h.t,i*5+1,none⟩ (.int .i64 (q.at_:Int))).setCell ⟨h.t,i*5+2,none⟩ (.int .i64 (q.fac:Int))).setCell ⟨h.t,i*5+3,none⟩ (.int .i64 (q.st:Int))).setCell ⟨h.t,i*5+4,none⟩ (.int .u32 (q.age:Int))):=by
 have s1:=Sep.set (A:=[]) (B:=[]) (by simpa [HT.hl] using s) (i*5+0) (.int .i64 (q.kind:Int));have s2:=Sep.set (A:=[]) (B:=[]) s1.sep (i*5+1) (.int .i64 (q.at_:Int));have s3:=Sep.set (A:=[]) (B:=[]) s2.sep (i*5+2) (.int .i64 (q.fac:Int));have s4:=Sep.set (A:=[]) (B:=[]) s3.sep (i*5+3) (.int .i64 (q.st:Int));have s5:=Sep.set (A:=[]) (B:=[]) s4.sep (i*5+4) (.int .u32 (q.age:Int));have:=(((s1.trans s2).trans s3).trans s4).trans s5;rw [Z8q hi q] at this;exact this
theorem J1u:(prog.info? 261).map (·.size)=some 5:=by kernel_rfl
theorem Z2O {w:World} {h:HT} (s:Sep w h.hl) (ok:LOk h.l) {x:Nat} (hx:x<4294967296) {p:Pl} (hp:pget h.l 2 x=some p) (DQ:p.age+1<=1048575) :
  Calls prog 135 #[.pointer (some ⟨h.t,0,none⟩),.int .u32 x] w (J0z h x p w):=by
 have hi:=(pget_some.1 hp).1;have hA:Calls prog 170 #[.pointer (some ⟨h.t,0,none⟩),.int .u32 x,.int .i64 2] (w.alloc (.cells #[.int .i64 0,.int .i64 0,.int .i64 0] 69)) fun r w'=>r=.returned (.tuple #[.pointer (some ⟨h.t,x%256*5,none⟩),.int .i64 0])/\(w.alloc (.cells #[.int .i64 0,.int .i64 0,.int .i64 0] 69))=w':=Q8o (st:=2) (s.alloc _) ok hx hp
 obtain⟨c0,c1,c2,c3,c4,cf⟩:=HT.cell s hi;have f0:=cf (x%256*5);have f1:=cf (x%256*5+1);have f2:=cf (x%256*5+2);have f3:=cf (x%256*5+3);have f4:=cf (x%256*5+4);have Ab:=(HT.cells s).lt;have QD:h.t<w.heap.size+1:=by omega
 have Aa:h.t≠w.heap.size:=by omega
 have U6:h.t≠w.heap.size+1:=by omega
 have hw:IntKind.u32.wrap ((p.age:Int)+1)=(p.age:Int)+1:=by
  show ((p.age:Int)+1)%4294967296=_;omega
 have K3:decide ((1048575:Int)<(p.age:Int)+1)=false:=by rw [decide_eq_false_iff_not];omega
 have Bm:Hid (∀A B,J0z h x p w (.returned (.tuple #[.agg #[.int .i64 (p.kind:Int),.int .i64 (p.at_:Int),.int .i64 (p.fac:Int)],.int .i64 0])) (((((((w.setCell ⟨h.t,x%256*5,none⟩ (.int .i64 0)).setCell ⟨h.t,x%256*5+1,none⟩ (.int .i64 0)).setCell ⟨h.t,x%256*5+2,none⟩ (.int .i64 0)).setCell ⟨h.t,x%256*5+3,none⟩ (.int .i64 0)).setCell ⟨h.t,x%256*5+4,none⟩ (.int .u32 ((p.age:Int)+1))).alloc A).alloc B)):=fun A B=>by
  have st:=HT.set5 s hi ⟨0,0,0,0,p.age+1,0⟩;refine⟨rfl,st.trans (st.sep.grown (((Below.refl _ _).alloc (J2h _) A).alloc (by simp) B))⟩
 clear cf s ok hp hi DQ;generalize J0z h x p w=Q at *
 generalize x%256*5=i at *
 go_enter func135,ntmps135;go_wp2_with (go_at_call 170;refine hA.mono ?_;rintro e w' ⟨rfl,rfl⟩);refine bodyPost_ret (v:=.tuple #[.agg #[.int .i64 (p.kind:Int),.int .i64 (p.at_:Int),.int .i64 (p.fac:Int)],.int .i64 0]) (by simp [results,results135,go_sem]) rfl ?_;exact Bm.out _ _
end Go.Proofs.YtlakjlmaboioiaaGreatDoor

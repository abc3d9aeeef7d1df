/- SpaceFails returns true at every input. No condition. Part of its proof. -/
import Derived.Test.YtfidemmgofcnmaaGreatDoorSf09
set_option maxHeartbeats 4000000
set_option maxRecDepth 100000
set_option linter.unusedVariables false
namespace Go.Proofs.YtfidemmgofcnmaaGreatDoor
open Go.RowKit Go.Proofs.Tryz
theorem Q9d{w:World}(bb:Nat):Calls prog 65 #[ptr bb,.int .i64 0] w fun r w'=>r=.returned (.pointer none)/\w=w':=by
 unfold ptr;go_enter func65,ntmps65;go_wp2_with fail;go_ret;exact⟨rfl,rfl⟩
def PL.cellsN(P:PL):List Value:=ptr P.q.t::ptr P.d.b::ptr P.a.a::.pointer none::(P.cs.map (fun c=>ptr c.c)++List.replicate (7-P.cs.length) (.pointer none))
def PL.hlN(P:PL):HL:=(P.p,isC 137 P.cellsN)::(P.q.hl++(P.d.hl++(P.a.hl++P.cs.flatMap CA.hl)))
theorem Z8G{P:PL}(h:P.cs.length=7):P.hlN=P.hl:=by
 unfold PL.hlN PL.hl PL.cellsN PL.cells;rw[h];simp
theorem PL.snoc{w w1:World}{H:HL}{P:PL}(hl:P.cs.length<7)(c:CA)(hs:Step (P.hlN++H) (c.hl++(P.hlN++H)) w w1) :
  Step (P.hlN++H) (({P with cs:=P.cs++[c]}:PL).hlN++H) w (w1.setCell ⟨P.p,3+(P.cs.length+1),none⟩ (ptr c.c)):=by
 have ec:P.cellsN.set (3+(P.cs.length+1)) (ptr c.c)=({P with cs:=P.cs++[c]}:PL).cellsN:=by
  unfold PL.cellsN;rw[show 3+(P.cs.length+1)=P.cs.length+1+1+1+1 by omega];simp only[J5M,J3M,J7e,J6G,J3e,J5I];rw[J6U _ _ (by simp),J4L,J6u,show 7-P.cs.length=(7-(P.cs.length+1))+1 by omega,List.replicate_succ,J5N,J4c];rfl
 have s2:Step _ _ w1 _:=Sep.set (A:=c.hl) (b:=P.p) (T:=137) (cs:=P.cellsN) (B:=(P.q.hl++(P.d.hl++(P.a.hl++P.cs.flatMap CA.hl)))++H) (by simpa[PL.hlN] using hs.sep) (3+(P.cs.length+1)) (ptr c.c);rw[ec] at s2;have h3:=Step.trans (H1:=c.hl++(P.p,isC 137 P.cellsN)::((P.q.hl++(P.d.hl++(P.a.hl++P.cs.flatMap CA.hl)))++H)) (by simpa[PL.hlN] using hs) s2;refine h3.perm (.of_eq (by unfold PL.hlN;simp)) (Q1g fun a=>?_);simp only[PL.hlN,J3K,J3z,J7f,J5i,hc_append,hc_cons];omega
def FreshC(bb:Nat)(cs:List CA):Prop:=∀j c,cs[j]?=some c->c.bb=bb/\c.size=Q0c (j+1)/\c.rv=none/\c.pg=[]
theorem FreshC.snoc{bb:Nat}{cs:List CA}(h:FreshC bb cs)(c:Nat):FreshC bb (cs++[⟨c,bb,Q0c (cs.length+1),none,[]⟩]):=by
 intro j x hx;by_cases hj:j<cs.length
 ·rw[J6q hj] at hx;exact h j x hx
 ·rw[J6r (by omega)] at hx;have:j=cs.length:=by
   have:=(J3t.1 hx).1;simp at this;omega
  subst this;rw[J6u] at hx;cases hx;exact⟨rfl,rfl,rfl,rfl⟩
structure FreshP(P:PL)(top:Nat)(limit:Int):Prop where
 q:∃t m b,P.q=Q2w t m b limit
 etop:P.d.top=top
 ps:P.d.ps=[]
 at':P.d.At
 mem:P.a.mem=List.replicate (2 ^ (top+10)) 0
 cs:FreshC P.d.b P.cs
theorem FreshP.ok{P:PL}{top:Nat}{limit:Int}(h:FreshP P top limit)(hl:P.cs.length=7)(h1:6<=top)(h0:0<=limit)(hm:limit<=1073741824):P.Ok []:=by
 obtain⟨t,m,b,hq⟩:=h.q;have DT:P.pages=[]:=by
  unfold PL.pages;rw[List.flatMap_eq_nil_iff];intro c hc;obtain⟨j,hj⟩:=J5Q.1 hc;rw[(h.cs j c hj).2.2.2];rfl
 refine⟨by rw[hq];exact Z8E t m b limit h0 hm,h.at',by rw[h.mem,h.etop,J3l],by rw[h.etop];exact h1,?_,hl,?_,by rw[DT,h.ps];exact J6w _,?_⟩
 ·intro x hx;rw[h.mem] at hx;rw[J3j hx];omega
 ·intro k c hc;obtain⟨e1,e2,e3,e4⟩:=h.cs k c hc;have hk:k<7:=by have:=(J3t.1 hc).1;omega
  obtain⟨s0,s1,_⟩:=Q8h (k:=k+1) (by omega) (by omega);have MI:=CA.ok_new c.c c.bb c.size (by rw[e2];omega) (by rw[e2];omega);have:(⟨c.c,c.bb,c.size,none,[]⟩:CA)=c:=by cases c;simp_all
  rw[this] at MI;exact⟨MI,e2,e1⟩
 ·intro c hc x hx;obtain⟨j,hj⟩:=J5Q.1 hc;rw[(h.cs j c hj).2.2.2] at hx;cases hx
def J0X(top:Nat)(limit:Int)(H:HL)(w:World)(r:Ending)(w':World):Prop:=∃P:PL,r=.returned (.pointer (some ⟨P.p,0,none⟩))/\P.cs.length=7/\FreshP P top limit/\Step H (P.hl++H) w w'
def Z2a(P:PL)(i:Nat)(top:Nat)(limit:Int)(H:HL)(w wr:World):Prop:=P.cs.length=i-1/\FreshP P top limit/\Step H (P.hlN++H) w wr
theorem Z2Y{w wr:World}{H:HL}{P:PL}{i top:Nat}{limit:Int}(hi:i<8)(hp:Z2a P i top limit H w wr)(cst:Int)(hc:Z4D[i]?=some cst) :
  wr.cell? ⟨P.p,1,none⟩=some (ptr P.d.b)/\wr.cell? ⟨P.p,3+i,none⟩=some (.pointer none)/\wr.frozen? ⟨P.p,3+i,none⟩=false /\
  Calls prog 65 #[ptr P.d.b,.int .i64 cst] wr.drew fun r w1=>∃v,r=.returned (.pointer v)/\w1.cell? ⟨P.p,1,none⟩=some (ptr P.d.b)/\(∀v,(w1.setCell ⟨P.p,3+i,none⟩ v).cell? ⟨P.p,1,none⟩=some (ptr P.d.b))/\w1.cell? ⟨P.p,3+i,none⟩=some (.pointer none)/\w1.frozen? ⟨P.p,3+i,none⟩=false /\
   ∃P':PL,P'.p=P.p/\P'.d.b=P.d.b/\Z2a P' (i+1) top limit H w (w1.setCell ⟨P.p,3+i,none⟩ (.pointer v)):=by
 obtain⟨Ac,hf,Ap⟩:=hp;have cells:∀{w1:World},Sep w1 P.hlN->w1.cell? ⟨P.p,1,none⟩=some (ptr P.d.b)/\(∀v,(w1.setCell ⟨P.p,3+i,none⟩ v).cell? ⟨P.p,1,none⟩=some (ptr P.d.b))/\w1.cell? ⟨P.p,3+i,none⟩=some (.pointer none)/\w1.frozen? ⟨P.p,3+i,none⟩=false:=by
  intro w1 C5;have AM:Cells w1 P.p 137 P.cellsN:=C5.cells (by simp[PL.hlN]);refine⟨AM.cell 1 _ rfl,fun v=>(AM.set (3+i) v).cell 1 _ ?_,AM.cell (3+i) _ ?_,AM.free _⟩
  ·rw[J6K (by omega)];rfl
  ·unfold PL.cellsN;cases i with
   | zero=>rfl
   | succ i =>
    rw[show 3+(i+1)=i+1+1+1+1 by omega];simp only[J6p];rw[J6r (by simp;omega),J4L,Ac];rw[J5d,if_pos (by omega)]
 have hs:=Ap.sep.left;obtain⟨a1,_,a2,a3⟩:=cells hs;refine⟨a1,a2,a3,?_⟩;cases i with
 | zero =>
  cases hc
  refine(Q9d P.d.b).mono ?_;rintro r w1⟨rfl,rfl⟩;obtain⟨b1,b2,b3,b4⟩:=cells Ap.sep.drew.left;have hP:P.cs=[]:=J5s Ac;have GO:Step (P.hlN++H) (P.hlN++H) wr.drew (wr.drew.setCell ⟨P.p,3,none⟩ (.pointer none)):=by
   have:=Sep.set (A:=[]) (b:=P.p) (T:=137) (cs:=P.cellsN) (B:=(P.q.hl++(P.d.hl++(P.a.hl++P.cs.flatMap CA.hl)))++H) (by simpa[PL.hlN] using Ap.sep.drew) 3 (.pointer none);have e:P.cellsN.set 3 (.pointer none)=P.cellsN:=rfl;rw[e] at this
   simpa[PL.hlN] using this
  exact⟨none,rfl,b1,b2,b3,b4,P,rfl,rfl,by simp[Ac],hf,Ap.trans GO.from_drew⟩
 | succ i =>
  have Ox:cst=((Q0c (i+1):Nat):Int):=by
   have:=Q8U (k:=i+1) hi;rw[hc] at this;cases this;rfl
  subst Ox;obtain⟨s0,s1,s2⟩:=Q8h (k:=i+1) (by omega) (by omega);refine(Z0D Ap.sep.drew P.d.b (Q0c (i+1)) (by omega) (by omega) s2).mono ?_;rintro r w1⟨c,rfl,C5⟩;obtain⟨b1,b2,b3,b4⟩:=cells C5.sep.right.left;have He:P.cs.length=i:=by omega
  have DV:=PL.snoc (by omega) _ C5.from_drew;rw[He] at DV;have JS:=hf.cs.snoc c;rw[He] at JS;exact⟨some ⟨c,0,none⟩,rfl,b1,b2,b3,b4,{P with cs:=P.cs++[⟨c,P.d.b,Q0c (i+1),none,[]⟩]},rfl,rfl,by simp[He],⟨hf.q,hf.etop,hf.ps,hf.at',hf.mem,JS⟩,Ap.trans DV⟩
theorem Z2Z{w w1 w2 w3:World}{H:HL}{limit:Int}{top:Nat}{t m b:Nat}{d:BD}{a:AN}(s1:Step H ((Q2w t m b limit).hl++H) w w1)(e1:d.top=top)(e2:d.ps=[])(e3:d.At)(s2:Step ((Q2w t m b limit).hl++H) (d.hl++((Q2w t m b limit).hl++H)) w1 w2)
  (e4:a.mem=List.replicate (2 ^ (top+10)) 0) (s3:Step (d.hl++((Q2w t m b limit).hl++H)) (a.hl++(d.hl++((Q2w t m b limit).hl++H))) w2 w3) :
  Z2a ⟨w3.heap.size,Q2w t m b limit,d,a,[]⟩ 0 top limit H w (w3.alloc (.cells #[ptr t,ptr d.b,ptr a.a,.pointer none,.pointer none,.pointer none,.pointer none,.pointer none,.pointer none,.pointer none,.pointer none] 137)):=by
 have s4:=s3.sep.new 137 [ptr t,ptr d.b,ptr a.a,.pointer none,.pointer none,.pointer none,.pointer none,.pointer none,.pointer none,.pointer none,.pointer none];refine⟨rfl,⟨⟨t,m,b,rfl⟩,e1,e2,e3,e4,fun j c hj=>by simp at hj⟩,?_⟩;have:=((s1.trans s2).trans s3).trans s4;refine this.perm (J6w _) (Q1g fun x=>?_);have e:PL.cellsN ⟨w3.heap.size,Q2w t m b limit,d,a,[]⟩=[ptr t,ptr d.b,ptr a.a,.pointer none,.pointer none,.pointer none,.pointer none,.pointer none,.pointer none,.pointer none,.pointer none]:=rfl;simp only[PL.hlN,e,J7f,J5i,hc_append,hc_cons];omega
theorem Z5M(w:World):(Instr.index 138 (.agg #[.int .i64 0,.int .i64 64,.int .i64 128,.int .i64 256,.int .i64 32,.int .i64 32,.int .i64 48,.int .i64 256]) (.int .i64 0)).run prog w=.ok (.int .i64 0) w:=by kernel_rfl
theorem Z5N(w:World):(Instr.index 138 (.agg #[.int .i64 0,.int .i64 64,.int .i64 128,.int .i64 256,.int .i64 32,.int .i64 32,.int .i64 48,.int .i64 256]) (.int .i64 1)).run prog w=.ok (.int .i64 64) w:=by kernel_rfl
theorem Z5O(w:World):(Instr.index 138 (.agg #[.int .i64 0,.int .i64 64,.int .i64 128,.int .i64 256,.int .i64 32,.int .i64 32,.int .i64 48,.int .i64 256]) (.int .i64 2)).run prog w=.ok (.int .i64 128) w:=by kernel_rfl
theorem Z5P(w:World):(Instr.index 138 (.agg #[.int .i64 0,.int .i64 64,.int .i64 128,.int .i64 256,.int .i64 32,.int .i64 32,.int .i64 48,.int .i64 256]) (.int .i64 3)).run prog w=.ok (.int .i64 256) w:=by kernel_rfl
theorem Z5Q(w:World):(Instr.index 138 (.agg #[.int .i64 0,.int .i64 64,.int .i64 128,.int .i64 256,.int .i64 32,.int .i64 32,.int .i64 48,.int .i64 256]) (.int .i64 4)).run prog w=.ok (.int .i64 32) w:=by kernel_rfl
theorem Z5R(w:World):(Instr.index 138 (.agg #[.int .i64 0,.int .i64 64,.int .i64 128,.int .i64 256,.int .i64 32,.int .i64 32,.int .i64 48,.int .i64 256]) (.int .i64 5)).run prog w=.ok (.int .i64 32) w:=by kernel_rfl
theorem Z5S(w:World):(Instr.index 138 (.agg #[.int .i64 0,.int .i64 64,.int .i64 128,.int .i64 256,.int .i64 32,.int .i64 32,.int .i64 48,.int .i64 256]) (.int .i64 6)).run prog w=.ok (.int .i64 48) w:=by kernel_rfl
theorem Z5T(w:World):(Instr.index 138 (.agg #[.int .i64 0,.int .i64 64,.int .i64 128,.int .i64 256,.int .i64 32,.int .i64 32,.int .i64 48,.int .i64 256]) (.int .i64 7)).run prog w=.ok (.int .i64 256) w:=by kernel_rfl
theorem Z8H{w:World}{H:HL}(h:Sep w H)(top:Nat)(h1:6<=top)(h2:top<=20)(limit:Int)(ON:0<=limit)(DG:limit<=((2 ^ (top+10):Nat):Int)):Calls prog 12 #[.int .i64 ((2 ^ (top+10):Nat):Int),.int .i64 limit] w (J0X top limit H w):=by
 have b2:2 ^ (top+10)<=1073741824:=J3c (J4q (by omega) (by omega)) (by decide:2 ^ 30<=1073741824);have k1:=Z8F h limit ON (by omega);have HQ:Hid (∀r w1,NewQ limit H w r w1->∃t m b,r=.returned (.pointer (some ⟨t,0,none⟩))/\Step H ((Q2w t m b limit).hl++H) w w1/\Calls prog 63 #[.int .i64 ((2 ^ (top+10):Nat):Int)] w1 (J0W top ((Q2w t m b limit).hl++H) w1)):=by
  rintro r w1⟨t,m,b,rfl,s1⟩;exact⟨t,m,b,rfl,s1,Z5L s1.sep top h1 h2⟩
 have HA:Hid (∀w2 H2,Sep w2 H2->Calls prog 64 #[.int .i64 ((2 ^ (top+10):Nat):Int)] w2 (J0P (2 ^ (top+10)) H2 w2)):=fun w2 H2 s2=>Z5q s2 (top+10) (by omega) (by omega)
 clear h;generalize Be:2 ^ (top+10)=sz at *
 have OE:=Q0a Be;clear Be;go_enter func12,ntmps12;go_wp2_with fail;refine k1.mono ?_;intro r w1 hx;obtain⟨t,m,b,rfl,s1,hb⟩:=HQ.out _ _ hx;have HB:=Q0a hb;have S1:=Q0a s1;clear hx hb s1;go_wp2_with fail;refine HB.out.mono ?_;rintro r w2⟨d,rfl,e1,e2,e3,s2⟩;have S2:=Q0a s2;have ha:=HA.out w2 _ s2.sep;have Uz:=Q0a ha;have E1:=Q0a e1;have E2:=Q0a e2;clear ha s2 e1 e2;go_wp2_with fail;refine Uz.out.mono ?_;rintro r w3⟨a,rfl,e4,s3⟩;have Fk:=Z2Z S1.out E1.out E2.out e3 S2.out (by rw[OE.out];exact e4) s3;have HP:=Q0a Fk;have Eg:=Q0a (Fk.2.2.sep.env.tabC);clear e3 e4 s3 Fk;unfold ptr at *
 have g0:(w3.alloc (.cells #[.pointer (some ⟨t,0,none⟩),.pointer (some ⟨d.b,0,none⟩),.pointer (some ⟨a.a,0,none⟩),.pointer none,.pointer none,.pointer none,.pointer none,.pointer none,.pointer none,.pointer none,.pointer none] 137)).cell? ⟨0,0,none⟩=some (.int .i64 0):=Eg.out 0 0 rfl;have g1:(w3.alloc (.cells #[.pointer (some ⟨t,0,none⟩),.pointer (some ⟨d.b,0,none⟩),.pointer (some ⟨a.a,0,none⟩),.pointer none,.pointer none,.pointer none,.pointer none,.pointer none,.pointer none,.pointer none,.pointer none] 137)).cell? ⟨0,1,none⟩=some (.int .i64 64):=Eg.out 1 64 rfl;have g2:(w3.alloc (.cells #[.pointer (some ⟨t,0,none⟩),.pointer (some ⟨d.b,0,none⟩),.pointer (some ⟨a.a,0,none⟩),.pointer none,.pointer none,.pointer none,.pointer none,.pointer none,.pointer none,.pointer none,.pointer none] 137)).cell? ⟨0,2,none⟩=some (.int .i64 128):=Eg.out 2 128 rfl
 have g3:(w3.alloc (.cells #[.pointer (some ⟨t,0,none⟩),.pointer (some ⟨d.b,0,none⟩),.pointer (some ⟨a.a,0,none⟩),.pointer none,.pointer none,.pointer none,.pointer none,.pointer none,.pointer none,.pointer none,.pointer none] 137)).cell? ⟨0,3,none⟩=some (.int .i64 256):=Eg.out 3 256 rfl;have g4:(w3.alloc (.cells #[.pointer (some ⟨t,0,none⟩),.pointer (some ⟨d.b,0,none⟩),.pointer (some ⟨a.a,0,none⟩),.pointer none,.pointer none,.pointer none,.pointer none,.pointer none,.pointer none,.pointer none,.pointer none] 137)).cell? ⟨0,4,none⟩=some (.int .i64 32):=Eg.out 4 32 rfl;have g5:(w3.alloc (.cells #[.pointer (some ⟨t,0,none⟩),.pointer (some ⟨d.b,0,none⟩),.pointer (some ⟨a.a,0,none⟩),.pointer none,.pointer none,.pointer none,.pointer none,.pointer none,.pointer none,.pointer none,.pointer none] 137)).cell? ⟨0,5,none⟩=some (.int .i64 32):=Eg.out 5 32 rfl
 have g6:(w3.alloc (.cells #[.pointer (some ⟨t,0,none⟩),.pointer (some ⟨d.b,0,none⟩),.pointer (some ⟨a.a,0,none⟩),.pointer none,.pointer none,.pointer none,.pointer none,.pointer none,.pointer none,.pointer none,.pointer none] 137)).cell? ⟨0,6,none⟩=some (.int .i64 48):=Eg.out 6 48 rfl;have g7:(w3.alloc (.cells #[.pointer (some ⟨t,0,none⟩),.pointer (some ⟨d.b,0,none⟩),.pointer (some ⟨a.a,0,none⟩),.pointer none,.pointer none,.pointer none,.pointer none,.pointer none,.pointer none,.pointer none,.pointer none] 137)).cell? ⟨0,7,none⟩=some (.int .i64 256):=Eg.out 7 256 rfl;go_wp2_with fail;clear g0 g1 g2 g3 g4 g5 g6 g7
 have ix0:=Z5M;have ix1:=Z5N;have ix2:=Z5O;have ix3:=Z5P;have ix4:=Z5Q;have ix5:=Z5R;have ix6:=Z5S;have ix7:=Z5T
 go_loopw [34] (fun iv wr=>∃(i:Nat) (P:PL),iv=.int .i64 i/\i<=8/\P.p=w3.heap.size/\P.d.b=d.b/\Z2a P i top limit H w wr) (fun iv _=>8-(intOf iv).toNat)
 case atStart=>exact⟨0,_,rfl,by omega,rfl,rfl,HP.out⟩
 case round =>
  clear HP;obtain⟨i,P,rfl,hi,ep,ed,hp⟩:=hrel;by_cases Ab:i<8
  ·have Jr:=fun cst hc=>Z2Y Ab hp cst hc
   rw[ep,ed] at Jr;have JC:=Q0a Jr;clear Jr hp ep ed;have Kx:i=0∨i=1∨i=2∨i=3∨i=4∨i=5∨i=6∨i=7:=by omega
   rcases Kx with rfl|rfl|rfl|rfl|rfl|rfl|rfl|rfl
   all_goals
    obtain⟨c0,c1,cf,AR⟩:=JC.out _ rfl;clear JC;unfold ptr at *
    have Cz:=Q0a AR;clear AR;have d0:wr.drew.cell? ⟨w3.heap.size,1,none⟩=some (.pointer (some ⟨d.b,0,none⟩)):=c0
    try push_cast
    go_wp2_with fail
    go_region_held3 (fun w'=>w'.cell? ⟨w3.heap.size,1,none⟩=some (.pointer (some ⟨d.b,0,none⟩)))
     (first|exact c0|exact d0|exact e0|exact ek _)
     (first|(go_at_call 65;refine Cz.out.mono ?_;rintro r w1⟨v,rfl,e0,ek,e1,ef,B3⟩;have Ht:=Q0a B3;clear B3))
    go_wp2_with fail;obtain⟨P',r1,r2,r3⟩:=Ht.out;go_roundw
    case rel=>exact⟨_,P',by go_num,by omega,r1,r2,r3⟩
    case measure=>simp[intOf]
  ·obtain rfl:i=8:=by omega
   have HR:Hid (J0X top limit H w (.returned (.pointer (some ⟨w3.heap.size,0,none⟩))) wr):=by
    obtain⟨q1,q2,q3⟩:=hp;refine⟨P,by rw[ep],q1,q2,?_⟩;rw[Z8G q1] at q3;exact q3
   clear hp ep ed;go_wp2_with fail
   (try go_ret);exact HR.out
theorem Z8I{c:CA}(h:c.used=[])(hb:∀x∈c.pg,cntB x.1.bits≠0):c.pg=[]:=by
 cases hp:c.pg with
 | nil=>rfl
 | cons x r =>
  exfalso;have hx:x∈c.pg:=by rw[hp];simp
  have h1:=hb x hx;rw[<- Q5X] at h1;obtain⟨i,hi⟩:=List.exists_mem_of_length_pos (Nat.pos_of_ne_zero h1);have:addr c.size x.2 i∈c.used:=mem_used.2 ⟨x,hx,i,mem_trues.1 hi,rfl⟩;rw[h] at this;cases this
theorem Z8J{P:PL}{fr:List Nat}(ok:P.Ok fr)(h:∀j,P.usedOf j=[]):∀(k:Nat) (c:CA),P.cs[k]?=some c->c.pg=[]:=by
 intro k c hc;have Iw:P.Cls (k+1) c:=⟨by omega,by simpa using hc⟩
 have:=h (k+1);rw[Q0V Iw] at this;exact Z8I this (PL.busyC ok hc)
theorem Q7z{P:PL}{top:Nat}{limit:Int}(h:FreshP P top limit)(j:Nat):P.usedOf j=[]:=by
 unfold PL.usedOf;split
 ·split
  ·rename_i c hc;unfold CA.used;rw[(h.cs _ c hc).2.2.2];rfl
  ·rfl
 ·rfl
theorem Z3a(m:List Nat)(a n:Nat)(hn:8<=n)(hl:a<=m.length):Q0u (put_ m a (List.replicate n 0)) a=0:=by
 unfold Q0u put_;rw[J4c,J5y (by rw[J5v];omega),List.drop_of_length_le (by rw[J5v];omega),J5m,J5w (by simpa using hn),J6A,J6B hn];rfl
def newL(a:Nat):List Pl:=⟨1,a,0,1,0,0⟩::List.replicate 255 (noPl 0)
theorem Q2H{a:Nat}{p:Pl}(h:p∈newL a):p=⟨1,a,0,1,0,0⟩∨p=noPl 0:=by
 rcases J3g.1 h with h|h
 ·exact .inl h
 ·exact .inr (J3j h)
theorem Q8m{a:Nat}{p:Pl}(h:p∈newL a)(hi:p.is=true):p=⟨1,a,0,1,0,0⟩:=by
 rcases Q2H h with h|rfl
 ·exact h
 ·cases hi
theorem Q8n{β:Type}(f:Pl->Option β)(h:f (noPl 0)=none)(a:Nat):(newL a).filterMap f=match f ⟨1,a,0,1,0,0⟩ with|some b=>[b]|none=>[]:=by
 have e:(List.replicate 255 (noPl 0)).filterMap f=[]:=by
  rw[List.filterMap_eq_nil_iff];intro x hx;rw[J3j hx];exact h
 unfold newL;cases hc:f ⟨1,a,0,1,0,0⟩ with
 | none=>rw[J6N hc,e]
 | some b=>rw[J6O hc,e]
theorem Z3b(a h:Nat):pget (newL a) 2 h=none:=by
 cases hp:pget (newL a) 2 h with
 | none=>rfl
 | some p =>
  have h1:=Q0z hp;have h2:=(pget_some.1 hp).2.2;rcases Q2H h1 with rfl|rfl <;> cases h2
theorem J0Y{P P':PL}{top:Nat}{limit:Int}{a:Nat}(h:FreshP P top limit)(hl:P.cs.length=7)(h1:6<=top)(h0:0<=limit)(hm:limit<=1073741824)(g:GotM P [] 0 1 a P' []):Inv P' (newL a) [] x0 []:=by
 have ok:=h.ok hl h1 h0 hm;obtain⟨t,m,b,hq⟩:=h.q;obtain⟨e,q1,q2,q3⟩:=g.q;have he:e=⟨0,b,⟨limit,0,0,-1,0⟩⟩:=by
  rw[hq] at q1;simp only[Q2w,find,if_true,J3q] at q1;exact q1.symm
 have hE:P'.q.E=[⟨0,b,⟨limit,64,0,-1,0⟩⟩]:=by
  rw[q3,hq,he];simp[Q2w,upd,costK,Q0c]
 have hid:∀id x,find P'.q.E id=some x->id=0/\x=⟨0,b,⟨limit,64,0,-1,0⟩⟩:=fun id x hx=>by
  rw[hE] at hx;simp only[find] at hx;split at hx
  ·rename_i h;cases hx;exact⟨h,rfl⟩
  ·cases hx
 have Bb:∀k,P.usedOf k=[]:=fun k=>Q7z h k
 refine⟨by unfold newL;rw[J3N,J3l],fun p hp=>?_,⟨g.ok,fun p hp hi=>?_,fun k k1 k5=>?_,?_,fun p hp hi _=>?_⟩,⟨?_,fun p hp hi=>?_,fun p hp hi _ x hx=>?_,fun id x hx=>?_,fun id x hx=>?_⟩,⟨?_,fun i p hi BJ hs=>?_,fun id=>⟨J7h _,fun h=>absurd rfl h⟩,by simp,fun x=>?_,by simp⟩⟩
 ·rcases Q2H hp with rfl|rfl
  ·exact⟨by show(1:Nat)<=2;omega,by show(0:Nat)<=1048575;omega⟩
  ·exact⟨by show(0:Nat)<=2;omega,by show(0:Nat)<=1048575;omega⟩
 ·rw[Q8m hp hi];exact .inr ⟨J3b 1,by show(1:Nat)<=5;omega⟩
 ·unfold Q2i;rw[Q8n (atsF k) rfl a];by_cases e1:k=1
  ·subst e1;have:=g.used (by decide);rw[Bb] at this;exact this.symm
  ·rw[Q6g (show(⟨1,a,0,1,0,0⟩:Pl).kind≠k from fun h=>e1 h.symm),g.other k e1,Bb]
 ·unfold Q2i;rw[Q8n (atsF 8) rfl a];exact J6w _
 ·rw[Q8m hp hi];show Q0u P'.a.mem a=0;rw[g.mem];exact Z3a _ _ _ (by decide) (by have:=g.room.1;omega)
 ·unfold Q7w;rw[Q8n ownF rfl a,hE];exact J6w _
 ·rw[Q8m hp hi,hE];exact⟨_,rfl⟩
 ·obtain⟨_,rfl⟩:=hid _ _ hx;rw[Q8m hp hi];exact⟨fun _=>rfl,fun h=>absurd rfl h⟩
 ·obtain⟨rfl,rfl⟩:=hid _ _ hx;have hz:Q0y (List.replicate 255 (noPl 0)) 0=0:=Q2t fun p hp hi=>by rw[J3j hp] at hi;cases hi
  show(64:Int)=Q0y (newL a) 0+0;have:Q0y (newL a) 0=Q3f 0 ⟨1,a,0,1,0,0⟩+Q0y (List.replicate 255 (noPl 0)) 0:=by unfold Q0y newL;rw[J3e,J6P]
  rw[this,hz];rfl
 ·obtain⟨rfl,rfl⟩:=hid _ _ hx;rw[hE];exact⟨rfl,rfl⟩
 ·exact⟨⟨1,a,0,1,0,0⟩,rfl,rfl,rfl,rfl,rfl,rfl⟩
 ·exfalso;rcases Q2H (J5q hi) with rfl|rfl
  ·have:(List.replicate 255 (noPl 0))[i-1]?=some ⟨1,a,0,1,0,0⟩:=by
    have e:i=(i-1)+1:=by omega
    rw[e] at hi;unfold newL at hi;rw[J6p] at hi;exact hi
   have:=J3j (J5q this);cases this
  ·cases hs
 ·rw[Z3b];simp
end Go.Proofs.YtfidemmgofcnmaaGreatDoor
namespace Go.Proofs.YtfidemmgofcnmaaGreatDoor
open Go.Proofs.Tryz
theorem Q4C{l:List Pl}{N:Nat}(t:Tre l N)(h:Nat):pre l N h=h::(Q0M l N h).reverse:=by
 rw[Q5R t h];unfold Q0M;rw[J3O,Q5R t h];rfl
theorem Z2b{l:List Pl}{N:Nat}(t:Tre l N)(h:Nat):(Q0M l N h).reverse=(kids l h).reverse.flatMap (pre l N):=by
 unfold Q0M;rw[J3O,Q5R t h];rfl
theorem Q9e{l:List Pl}{N:Nat}(t:Tre l N){h:Nat}:Q0M l N h=[]↔kids l h=[]:=by
 constructor
 ·intro e;have h1:=Z2b t h;rw[e] at h1;cases hk:kids l h with
  | nil=>rfl
  | cons x r =>
   exfalso;rw[hk] at h1;have hx:x∈(x::r).reverse.flatMap (pre l N):=J3C.2 ⟨x,by simp,Q1L l N x⟩;rw[<- h1] at hx;cases hx
 ·intro e;have h1:=Z2b t h;rw[e] at h1
  simpa using h1
theorem Q2I{l:List Pl}{N:Nat}(t:Tre l N){h x:Nat}:x∈Q0M l N h↔x∈pre l N h/\x≠h:=by
 have hp:(pre l N h).Pairwise (fun a b=>a≠b/\a∉kids l b):=Q5A t N h;rw[Q4C t h] at hp ⊢;obtain⟨h1,_⟩:=J3D.1 hp
 constructor
 ·intro hx;exact⟨by simp[hx],fun e=>(h1 x (by simp[hx])).1 e.symm⟩
 ·rintro⟨hx,Aa⟩;rcases J3g.1 hx with e|hx
  ·exact absurd e Aa
  ·simpa using hx
theorem Q4D{l:List Pl}{h:Nat}(hn:∀p,pget l 1 h=some p->p.kind≠1):kids l h=[]:=by
 unfold kids;cases hp:pget l 1 h with
 | none=>rfl
 | some p=>simp[hn p hp]
theorem Z5U{l:List Pl}{N:Nat}(t:Tre l N){h:Nat}{p:Pl}(hp:pget l 1 h=some p)(hk:p.kind=1){x:Nat}{A B:List Nat}(hu:Q0M l N h=A++x::B) :
  ∃q,pget l 1 x=some q/\x≠h/\x≠0/\(∀y∈B,y%256≠x%256)/\(∀y∈A,y%256≠x%256)/\(∀y∈kids l x,y∈A)/\(q.fac=p.own∨∃y∈B,∃r,pget l 1 y=some r/\r.kind=1/\r.own=q.fac):=by
 obtain⟨MQ,Cw,⟨q,hq⟩,Fl,NX,UV⟩:=Z7S t hu;have BX:∀y∈Q0M l N h,∃r,pget l 1 y=some r:=fun y hy=>by
  have:=(Q2I t).1 hy;exact((Q5B t this.1).resolve_left this.2).2
 have apart:∀y∈Q0M l N h,y≠x->y%256≠x%256:=fun y hy Aa e=>by
  obtain⟨r,hr⟩:=BX y hy;exact Aa (Q0S hr hq e).1
 refine⟨q,hq,MQ,Cw,fun y hy=>apart y (by rw[hu];simp[hy]) (fun e=>UV (e ▸ hy)),fun y hy=>apart y (by rw[hu];simp[hy]) (fun e=>NX (e ▸ hy)),Fl,?_⟩;have Kq:x∈preN l N h:=((Q2I t).1 (by rw[hu];simp)).1;rcases Z7P N h x Kq with e|⟨z,hz,QN⟩
 ·exact absurd e MQ
 ·obtain⟨s,u,a1,a2,a3,a4,a5⟩:=(Q0R t.len).1 QN;rw[hq] at a3;cases a3;by_cases SF:z=h
  ·subst SF;rw[hp] at a1;cases a1;exact .inl a5
  ·right;have Rn:z∈Q0M l N h:=(Q2I t).2 ⟨hz,SF⟩;have Um:z≠x:=by
    rintro rfl;rw[hq] at a1;cases a1;have:=t.rise z q hq a4 a2;omega
   rw[hu] at Rn;rcases J3Q.1 Rn with UX|OS
   ·exfalso;have GV:(pre l N h).Pairwise (fun a b=>a≠b/\a∉kids l b):=Q5A t N h;rw[Q4C t h,hu] at GV;have h2:=(J3D.1 GV).2;rw[J3I,List.reverse_cons] at h2;have:=(J3P.1 h2).2.2 x (by simp) z (by simpa using UX);exact this.2 QN
   ·rcases J3g.1 OS with e|OS
    ·exact absurd e Um
    ·exact⟨z,OS,s,a1,a2,a5.symm⟩
theorem Z5V{l:List Pl}{N:Nat}(t:Tre l N){h:Nat}{p:Pl}(hp:pget l 1 h=some p)(hk:p.kind=1){y:Nat}{q:Pl}(hy:pget l 1 y=some q)(h0:y≠0)(Aa:y≠h)
  (hf:q.fac=p.own∨∃z∈Q0M l N h,∃r,pget l 1 z=some r/\r.kind=1/\r.own=q.fac):y∈Q0M l N h:=by
 refine(Q2I t).2 ⟨?_,Aa⟩;rcases hf with e|⟨z,hz,r,h1,h2,h3⟩
 ·exact Q3D t N h h y (Q4Y _ _ _) (Q1L l N h) ((Q0R t.len).2 ⟨p,q,hp,hk,hy,h0,e⟩)
 ·exact Q3D t N h z y (Q4Y _ _ _) ((Q2I t).1 hz).1 ((Q0R t.len).2 ⟨r,q,h1,h2,hy,h0,h3.symm⟩)
def Dmd(l:List Pl)(A:List Nat)(l':List Pl):Prop:=∀y,pget l' 1 y=if y∈A then none else pget l 1 y
theorem Dmd.nil(l:List Pl):Dmd l [] l:=fun y=>by simp
theorem Dmd.none_left{l l':List Pl}{A:List Nat}(hl:l.length<=256)(He:l'.length<=256)(d:Dmd l A l'){x:Nat}(hk:∀y∈kids l x,y∈A):kids l' x=[]:=by
 cases hc:kids l' x with
 | nil=>rfl
 | cons y r =>
  exfalso;obtain⟨p,q,a1,a2,a3,a4,a5⟩:=(Q0R He).1 (by rw[hc];simp:y∈kids l' x);rw[d x] at a1;rw[d y] at a3;split at a1
  ·cases a1
  ·split at a3
   ·cases a3
   ·rename_i h2;exact h2 (hk y ((Q0R hl).2 ⟨p,q,a1,a2,a3,a4,a5⟩))
theorem Dmd.step{l l' l'':List Pl}{A:List Nat}{x:Nat}(d:Dmd l A l')(h:Dmd l' [x] l''):Dmd l (A++[x]) l'':=fun y=>by
 rw[h y,d y];by_cases e:y=x
 ·simp[e]
 ·by_cases hy:y∈A <;> simp[e,hy]
theorem J0Z{l:List Pl}{x:Nat}{p:Pl}(hp:pget l 1 x=some p):Dmd l [x] (l.set (x%256) {p with st:=2}):=fun y=>by
 obtain⟨hi,hn,hs⟩:=pget_some.1 hp;unfold pget;by_cases e:y%256=x%256
 ·rw[e];have Ab:=(J3t.1 hi).1;rw[J6S Ab];simp only;rw[if_neg (by rintro⟨_,h⟩;exact absurd h (by decide))];by_cases e2:y=x
  ·simp[e2]
  ·rw[if_neg (by simpa using e2),hi];simp only;rw[if_neg];rintro⟨h,_⟩;exact e2 (h.symm.trans hn)
 ·rw[J6K (fun h=>e h.symm)];rw[if_neg (by rintro h;rw[J5j] at h;exact e (by rw[h]))]
open Go.RowKit
def Q1i(l:List Nat):List Value:=l.map fun(a:Nat)=>Value.int .u32 a
theorem Q3o(l:List Nat):(Q1i l).length=l.length:=by simp[Q1i]
theorem hands_app(l m:List Nat):Q1i (l++m)=Q1i l++Q1i m:=by simp[Q1i]
theorem Q8o{l:List Nat}{j x:Nat}(h:l[j]?=some x):(Q1i l)[j]?=some (.int .u32 x):=by unfold Q1i;rw[J4N,h];rfl
def NewHs(w:World)(l:List Nat)(r:Ending)(w':World):Prop:=∃v,r=.returned v/\w'.ownsRow w.heap.size 58 1 v l.length (Q1i l)/\Below w.heap.size w w'
structure IsHs(B:Nat)(L:List Nat)(a:Option Addr)(w:World):Prop where
 at':∀(j x:Nat),L[j]?=some x->∃g,a=some ⟨g,0,none⟩/\B<=g/\g<w.heap.size/\w.cell? ⟨g,j,none⟩=some (.int .u32 x)
theorem IsHs.below{B:Nat}{L:List Nat}{a:Option Addr}{w w':World}(h:IsHs B L a w)(hb:Below w.heap.size w w'):IsHs B L a w':=⟨fun j x hj=>by
 obtain⟨g,h1,h2,h3,h4⟩:=h.at' j x hj;exact⟨g,h1,h2,J3d h3 hb.size,(World.cell?_of_block (w:=w) (hb.block g h3)).trans h4⟩⟩
theorem NewHs.shape{w:World}{L:List Nat}{r:Ending}{w':World}(h:NewHs w L r w'):∃(a:Option Addr) (cap:Nat),r=.returned (.slice a L.length cap)/\Below w.heap.size w w'/\IsHs w.heap.size L a w':=by
 obtain⟨v,rfl,⟨_,h2⟩,hb⟩:=h;rcases h2 with ⟨rfl,h0⟩|⟨g,cap,Ag,rfl,hg,BK,hn,hm,hs,AW⟩
 ·refine⟨none,0,by rw[h0],hb,⟨fun j x hj=>?_⟩⟩;have:=(J3t.1 hj).1;omega
 ·refine⟨_,cap,rfl,hb,⟨fun j x hj=>⟨g,rfl,hg,lt_of_block BK,?_⟩⟩⟩;have hv:=Q8o hj;rw[<- AW,J5f] at hv;split at hv
  ·simp only[World.cell?,BK,J6f,J6V,if_false];rw[<- J5C];exact hv
  ·cases hv
def OutH(w wr:World)(v:Value)(L:List Nat):Prop:=wr.ownsRow w.heap.size 58 1 v L.length (Q1i L)/\Below w.heap.size w wr
theorem OutH.nil(w:World):OutH w w (.slice none 0 0) []:=⟨World.ownsRow_nil _ _ _ _,Below.refl _ _⟩
theorem OutH.app0{w wr w1:World}{v v':Value}{L M:List Nat}(h:OutH w wr v L)(Af:w1.ownsRow w.heap.size 58 1 v' (L.length+M.length) (Q1i L++Q1i M))(hg:wr.grownBy w1 v.ownBlock):OutH w w1 v' (L++M):=
 ⟨by rw[J3M,hands_app];exact Af,h.2.trans ((Below.refl _ wr).mono h.2.size |>.grown hg h.2.size (fun b hb=>(h.1.lt b hb).1))⟩
theorem OutH.alloc{w wr:World}{v:Value}{L:List Nat}(h:OutH w wr v L)(o:Obj):OutH w (wr.alloc o) v L:=⟨h.1.alloc _,h.2.alloc h.2.size _⟩
theorem OutH.app1{w wr w1:World}{v v':Value}{L M:List Nat}{o:Obj}(h:OutH w wr v L)(Af:w1.ownsRow w.heap.size 58 1 v' (L.length+M.length) (Q1i L++Q1i M))(hg:(wr.alloc o).grownBy w1 v.ownBlock):OutH w w1 v' (L++M):=(h.alloc o).app0 Af hg
theorem OutH.app2{w wr w1:World}{v v':Value}{L M:List Nat}{o o2:Obj}(h:OutH w wr v L)(Af:w1.ownsRow w.heap.size 58 1 v' (L.length+M.length) (Q1i L++Q1i M))(hg:((wr.alloc o).alloc o2).grownBy w1 v.ownBlock):OutH w w1 v' (L++M):=((h.alloc o).alloc o2).app0 Af hg
theorem OutH.below{w wr w1:World}{v:Value}{L:List Nat}(h:OutH w wr v L)(hb:Below wr.heap.size wr w1):OutH w w1 v L:=
 ⟨h.1.kept (row:=none) ⟨hb.os,hb.tape,hb.output,hb.size,fun k hk _=>hb.block k hk⟩ (by cases hv:v.ownBlock with|none=>exact .inl rfl|some b=>exact .inr (by simp)),h.2.trans (hb.mono h.2.size)⟩
theorem Z5W(w:World)(x:Value):∀j u,[x][j]?=some u->(w.alloc (.cells #[x] 58)).cell? ((⟨w.heap.size,0,none⟩:Addr).add j)=some u:=by
 intro j u hj;have:=(Cells.new w 58 [x]).cell j u hj;have e:(⟨w.heap.size,0,none⟩:Addr).add j=⟨w.heap.size,j,none⟩:=by unfold Addr.add;split <;> simp_all
 rw[e];exact this
theorem Q7A(w:World)(o:Obj)(x:Value):∀j u,[x][j]?=some u->((w.alloc o).alloc (.cells #[x] 58)).cell? ((⟨w.heap.size+1,0,none⟩:Addr).add j)=some u:=by
 intro j u hj;have:=Z5W (w.alloc o) x j u hj;rw[World.size_alloc] at this;exact this
theorem Q3K:(prog.info? 58).map (fun i=>(i.zero,i.size,i.bytes))=some (some (.int .u32 0),1,4):=by kernel_rfl
def Q4c(q:QT)(id:Int)(e:En Fa)(b:Nat)(limit:Int):QT:={q with E:=upd q.E id {e.q with given:=e.q.given+limit,kids:=e.q.kids+1}++[⟨q.next,b,⟨limit,0,0,id,0⟩⟩],next:=q.next+1}
def Z0E(w:World)(q:QT)(id:Int)(e:En Fa)(limit:Int)(r:Ending)(w':World):Prop:=r=.returned (.tuple #[.int .i64 q.next,.int .i64 0])/\∃b,Step q.hl (Q4c q id e b limit).hl w w'
def closed(q:QT)(par:Int)(e c:En Fa)(id:Int):QT:={q with E:=rem (upd q.E par {e.q with given:=e.q.given-c.q.limit,kids:=e.q.kids-1}) id}
def Z5X(w:World)(q:QT)(par:Int)(e c:En Fa)(id:Int)(r:Ending)(w':World):Prop:=r=.returned (.int .i64 0)/\Step q.hl (closed q par e c id).hl w w'
theorem Z8K{α:Type}(E:List (En α))(x:En α)(id:Int)(f:α)(h:x.id≠id):upd (E++[x]) id f=upd E id f++[x]:=by
 simp[upd,h]
theorem QT.next_none{q:QT}(ok:q.Ok):find q.E q.next=none:=by
 cases h:find q.E q.next with
 | none=>rfl
 | some e=>have:=(ok.fa _ e h).2.2.2.2.2.2.2;omega
theorem J1a{q:QT}(ok:q.Ok)(b:Nat)(f:Fa):(q.E++[(⟨q.next,b,f⟩:En Fa)]).Pairwise (fun a b=>a.id≠b.id):=by
 rw[J3P];refine⟨ok.ids,by simp,fun x hx y hy=>?_⟩;rw[J5j] at hy;subst hy;exact Q5V (QT.next_none ok) x hx
theorem QT.carve{w:World}{q:QT}(h:Sep w q.hl)(ok:q.Ok){id:Int}{e:En Fa}(hf:find q.E id=some e)(limit:Int)(w4:World)(hm:Q0x w4 q.m (put (kvs q.E) q.next (ptr w.heap.size)))
  (hg:((w.setCell ⟨q.t,1,none⟩ (.int .i64 (q.next+1))).alloc (.cells #[.int .i64 limit,.int .i64 0,.int .i64 0,.int .i64 id,.int .i64 0] 147)).grownBy w4 (some q.m)) :
  w4.cell? ⟨e.b,2,none⟩=some (.int .i64 e.q.given)/\w4.cell? ⟨e.b,4,none⟩=some (.int .i64 e.q.kids)/\(∀i,w4.frozen? ⟨e.b,i,none⟩=false) /\
   Step q.hl (Q4c q id e w.heap.size limit).hl w ((w4.setCell ⟨e.b,2,none⟩ (.int .i64 (e.q.given+limit))).setCell ⟨e.b,4,none⟩ (.int .i64 (e.q.kids+1))):=by
 have Aq:=QT.next_none ok;have Aa:q.next≠id:=fun e'=>by rw[e',hf] at Aq;cases Aq
 have s1:Step q.hl ({q with next:=q.next+1}:QT).hl w (w.setCell ⟨q.t,1,none⟩ (.int .i64 (q.next+1))):=Sep.set (A:=[]) (B:=(q.m,isMI (kvs q.E))::facH q.E) h 1 (.int .i64 (q.next+1));have Be:(w.setCell ⟨q.t,1,none⟩ (.int .i64 (q.next+1))).heap.size=w.heap.size:=by simp[World.setCell]
 have s2:=s1.sep.new 147 [.int .i64 limit,.int .i64 0,.int .i64 0,.int .i64 id,.int .i64 0];rw[Be] at s2;obtain⟨es,Ah,ho,hr⟩:=hm;have s3:=Sep.turn (A:=[(w.heap.size,isC 147 [.int .i64 limit,.int .i64 0,.int .i64 0,.int .i64 id,.int .i64 0]),(q.t,isC 150 [.map (some q.m),.int .i64 (q.next+1)])]) (B:=facH q.E) (q':=isMI (put (kvs q.E) q.next (ptr w.heap.size))) s2.sep hg ⟨_,ho,es,Ah,rfl,hr⟩;rw[Z4N q.E q.next w.heap.size ⟨limit,0,0,id,0⟩ Aq] at s3;have s123:=(s1.trans s2).trans s3;obtain⟨q1,EC⟩:∃q1:QT,q1={q with E:=q.E++[⟨q.next,w.heap.size,⟨limit,0,0,id,0⟩⟩],next:=q.next+1}:=⟨_,rfl⟩
 have s4:Step q.hl q1.hl w w4:=by
  refine s123.perm (J6w _) ?_;rw[EC];simp only[QT.hl,facH,J6G,J3e,J5I,J5n,J5m,Fa.cells];refine(List.Perm.swap _ _ _).trans (List.Perm.cons _ ?_);refine(List.Perm.swap _ _ _).trans (List.Perm.cons _ ?_);exact(J6J _ _).symm
 have CG:q1.E.Pairwise (fun a b=>a.id≠b.id):=by rw[EC];exact J1a ok _ _
 have FR:find q1.E id=some e:=by
  rw[EC];show find (q.E++[_]) id=_;rw[Q2g,hf]
 have k:=QT.fac s4.sep FR;have s5:=QT.setF s4.sep CG FR 2 (.int .i64 (e.q.given+limit)) {e.q with given:=e.q.given+limit} rfl;have IG:find (upd q1.E id {e.q with given:=e.q.given+limit}) id=some {e with q:={e.q with given:=e.q.given+limit}}:=Q0h FR _;have Cj:(upd q1.E id {e.q with given:=e.q.given+limit}).Pairwise (fun a b=>a.id≠b.id):=Q0Q _ _ (fun a b a' b' _ h1 _ h2 h=>by rw[<- h1,<- h2];exact h) CG;have s6:=QT.setF (q:={q1 with E:=upd q1.E id {e.q with given:=e.q.given+limit}}) s5.sep Cj IG 4 (.int .i64 (e.q.kids+1)) {e.q with given:=e.q.given+limit,kids:=e.q.kids+1} rfl;refine⟨k.cell 2 _ rfl,k.cell 4 _ rfl,k.free,?_⟩
 have:=(s4.trans s5).trans s6;have e1:upd (upd q1.E id {e.q with given:=e.q.given+limit}) id {e.q with given:=e.q.given+limit,kids:=e.q.kids+1}=upd q.E id {e.q with given:=e.q.given+limit,kids:=e.q.kids+1}++[⟨q.next,w.heap.size,⟨limit,0,0,id,0⟩⟩]:=by
  rw[upd_upd,EC];exact Z8K _ _ _ _ Aa
 rw[e1] at this;rw[EC] at this;exact this
theorem Z5Y{q:QT}(ok:q.Ok){id:Int}{e:En Fa}(hf:find q.E id=some e)(b:Nat){limit:Int}(h0:0<=limit)(An:limit<=e.q.limit-(e.q.charged+e.q.given))(hn:q.next+1<1048576):(Q4c q id e b limit).Ok:=by
 have Aq:=QT.next_none ok;have Dk:=ok.next0;have Aa:q.next≠id:=fun e'=>by rw[e',hf] at Aq;cases Aq
 have Ae:(upd q.E id {e.q with given:=e.q.given+limit,kids:=e.q.kids+1}).Pairwise (fun a b=>a.id≠b.id):=Q0Q _ _ (fun a b a' b' _ h1 _ h2 h=>by rw[<- h1,<- h2];exact h) ok.ids;refine⟨?_,by show 0<q.next+1;omega,hn,fun j x hx=>?_⟩
 ·show(upd q.E id _++[_]).Pairwise _;rw[J3P];refine⟨Ae,by simp,fun x hx y hy=>?_⟩;rw[J5j] at hy;subst hy;obtain⟨y,hy,_,h2,_⟩:=J0v hx;rw[<- h2];exact Q5V Aq y hy
 ·have Cb:find (upd q.E id {e.q with given:=e.q.given+limit,kids:=e.q.kids+1}++[⟨q.next,b,⟨limit,0,0,id,0⟩⟩]) j=some x:=hx;show _/\_/\_/\_/\_/\_<q.next+1/\_/\j<q.next+1;obtain⟨f1,f2,f3,f4,f5,f6,f7,f8⟩:=ok.fa id e hf;rw[Q2g] at Cb;by_cases hj:j=id
  ·subst hj;rw[Q0h hf] at Cb;cases Cb;show 0<=e.q.charged/\0<=e.q.given+limit/\e.q.charged+(e.q.given+limit)<=e.q.limit/\e.q.limit<=_/\0<=e.q.kids+1/\e.q.kids+1<q.next+1/\0<=j/\j<q.next+1;omega
  ·rw[Q0w hj] at Cb;cases hc:find q.E j with
   | some y =>
    rw[hc] at Cb;cases Cb;obtain⟨g1,g2,g3,g4,g5,g6,g7,g8⟩:=ok.fa j x hc;omega
   | none =>
    rw[hc] at Cb;simp only at Cb;split at Cb
    ·rename_i h';cases Cb;have Wm:j=q.next:=h';show 0<=(0:Int)/\0<=(0:Int)/\(0:Int)+0<=limit/\limit<=1073741824/\0<=(0:Int)/\(0:Int)<q.next+1/\0<=j/\j<q.next+1;omega
    ·cases Cb
theorem Z5Z{q:QT}(ok:q.Ok){par id:Int}{e c:En Fa}(he:find q.E par=some e)(hc:find q.E id=some c)(Aa:par≠id)(h1:0<=e.q.given-c.q.limit)(h2:0<=e.q.kids-1)(h3:0<=c.q.limit):(closed q par e c id).Ok:=by
 have Ae:(upd q.E par {e.q with given:=e.q.given-c.q.limit,kids:=e.q.kids-1}).Pairwise (fun a b=>a.id≠b.id):=Q0Q _ _ (fun a b a' b' _ h1 _ h2 h=>by rw[<- h1,<- h2];exact h) ok.ids;refine⟨Ae.sublist (Q1G _ _),ok.next0,ok.next1,fun j x hx=>?_⟩;have Cb:find (rem (upd q.E par {e.q with given:=e.q.given-c.q.limit,kids:=e.q.kids-1}) id) j=some x:=hx;show _/\_/\_/\_/\_/\_<q.next/\_/\j<q.next;rw[Q2r Ae] at Cb;split at Cb
 ·cases Cb
 ·by_cases hj:j=par
  ·subst hj;rw[Q0h he] at Cb;cases Cb;obtain⟨f1,f2,f3,f4,f5,f6,f7,f8⟩:=ok.fa j e he;show 0<=e.q.charged/\0<=e.q.given-c.q.limit/\e.q.charged+(e.q.given-c.q.limit)<=e.q.limit/\e.q.limit<=_/\0<=e.q.kids-1/\e.q.kids-1<q.next/\0<=j/\j<q.next;omega
  ·rw[Q0w hj] at Cb;exact ok.fa j x Cb
theorem QT.close{w:World}{q:QT}(h:Sep w q.hl)(ok:q.Ok){par id:Int}{e c:En Fa}(he:find q.E par=some e)(hc:find q.E id=some c)(w4:World)(hm:Q0x w4 q.m (del (kvs q.E) id))
  (hg:((w.setCell ⟨e.b,2,none⟩ (.int .i64 (e.q.given-c.q.limit))).setCell ⟨e.b,4,none⟩ (.int .i64 (e.q.kids-1))).grownBy w4 (some q.m)):Step q.hl (closed q par e c id).hl w w4:=by
 have s1:=QT.setF h ok.ids he 2 (.int .i64 (e.q.given-c.q.limit)) {e.q with given:=e.q.given-c.q.limit} rfl;have IG:find (upd q.E par {e.q with given:=e.q.given-c.q.limit}) par=some {e with q:={e.q with given:=e.q.given-c.q.limit}}:=Q0h he _;have Cj:(upd q.E par {e.q with given:=e.q.given-c.q.limit}).Pairwise (fun a b=>a.id≠b.id):=Q0Q _ _ (fun a b a' b' _ h1 _ h2 h=>by rw[<- h1,<- h2];exact h) ok.ids;have s2:=QT.setF (q:={q with E:=upd q.E par {e.q with given:=e.q.given-c.q.limit}}) s1.sep Cj IG 4 (.int .i64 (e.q.kids-1)) {e.q with given:=e.q.given-c.q.limit,kids:=e.q.kids-1} rfl;have s12:=s1.trans s2
 rw[show upd (upd q.E par {e.q with given:=e.q.given-c.q.limit}) par {e.q with given:=e.q.given-c.q.limit,kids:=e.q.kids-1}=upd q.E par {e.q with given:=e.q.given-c.q.limit,kids:=e.q.kids-1} from upd_upd _ _ _ _] at s12;obtain⟨es,Ah,ho,hr⟩:=hm;have s3:=Sep.turn (A:=[(q.t,isC 150 [.map (some q.m),.int .i64 q.next])]) (B:=facH (upd q.E par {e.q with given:=e.q.given-c.q.limit,kids:=e.q.kids-1})) (q':=isMI (del (kvs q.E) id)) s12.sep hg ⟨_,ho,es,Ah,rfl,hr⟩;have s4:=s12.trans s3;rw[Q7Z,show kvs (rem q.E id)=kvs (rem (upd q.E par {e.q with given:=e.q.given-c.q.limit,kids:=e.q.kids-1}) id) by rw[<- Q7Z,<- Q7Z,Z4O]] at s4
 refine s4.drop ?_;show List.Sublist (_::_::facH (rem _ id)) (_::_::facH _);refine List.Sublist.cons_cons _ (List.Sublist.cons_cons _ ?_);exact(Q1G _ _).map _
def Q0v(e:En Fa):Int:=e.q.limit-(e.q.charged+e.q.given)
def two(x:Nat)(e:Int):Ending:=.returned (.tuple #[.int .u32 x,.int .i64 e])
structure MadeOk(S:CO)(fr:List Nat)(f:Pl)(e:En Fa)(n a:Nat)(lim:Int)(x:Nat)(i:Nat)(p:Pl)(P':PL)(fr':List Nat):Prop where
 inv:Inv P' (S.l.set i ⟨n,a,f.own,1,p.age,x⟩) fr' S.xc (S.ts.map Prod.fst)
 same:SameP S.P P'
 kept:KeptL S.P.a.mem P'.a.mem S.l
 next:P'.q.next<=S.P.q.next+1
 fac:n≠1->P'.q.E=upd S.P.q.E f.own {e.q with charged:=e.q.charged+((costK n:Nat):Int)}
 fac1:n=1->(x:Int)=S.P.q.next/\P'.q.next=S.P.q.next+1/\∃b,P'.q.E=upd S.P.q.E f.own {e.q with charged:=e.q.charged+64,given:=e.q.given+lim,kids:=e.q.kids+1}++[⟨x,b,⟨lim,0,0,f.own,0⟩⟩]
 zero:n≠1->∀j,a<=j->j<a+costK n->P'.a.mem[j]?=some 0
 few:P'.d.ps.length<=S.P.d.ps.length+1
 high:∀j,6<=j->(P'.usedOf j).Perm (S.P.usedOf j)
 memH:Z5D S.P P'
 room:a+costK n<=S.P.a.mem.length
def CO.made(S:CO)(f:Pl)(n a x i:Nat)(p:Pl)(P':PL):CO:=(S.setP P').setL (S.l.set i ⟨n,a,f.own,1,p.age,x⟩)
def J2f(S:CO)(fr:List Nat)(f:Pl)(e:En Fa)(n:Nat)(lim:Int)(w:World)(r:Ending)(w':World):Prop:=
 (Q0v e<((costK n:Nat):Int)/\r=two 0 5/\Step S.hl S.hl w w') ∨
 (((costK n:Nat):Int)<=Q0v e/\NoPage S.P/\r=two 0 4/\Step S.hl S.hl w w') ∨
 (((costK n:Nat):Int)<=Q0v e/\∃(er:Int) (P':PL),((er=11/\((∀p∈S.l,p.st≠0)∨n=1/\S.P.q.E.length=32))∨(er=5/\n=1/\Q0v e-64<lim))/\Tried S.P fr S.l P'/\r=two 0 er/\Step S.hl (S.setP P').hl w w') ∨
 (∃(i:Nat) (p:Pl) (a x:Nat) (P':PL) (fr':List Nat),S.l[i]?=some p/\p.st=0/\(∀j q,j<i->S.l[j]?=some q->q.st≠0)/\((costK n:Nat):Int)<=Q0v e/\r=two (nm i p) 0/\MadeOk S fr f e n a lim x i p P' fr'/\Step S.hl (S.made f n a x i p P').hl w w')
def MakeR(S:CO)(fr:List Nat)(h:Nat)(k lim:Int)(w:World)(r:Ending)(w':World):Prop:=
 (pget S.l 1 h=none/\r=two 0 8/\Step S.hl S.hl w w') ∨
 ∃f,pget S.l 1 h=some f/\((f.kind≠1/\r=two 0 10/\Step S.hl S.hl w w') ∨
  (f.kind=1/\(¬(k=8∨1<=k/\k<=5)∨k=1/\lim<0)/\r=two 0 1/\Step S.hl S.hl w w') ∨
  ∃(n:Nat) (e:En Fa),k=(n:Int)/\f.kind=1/\(n=8∨1<=n/\n<=5)/\(n=1->0<=lim)/\find S.P.q.E f.own=some e/\J2f S fr f e n lim w r w')
def J1b(S:CO)(h:Nat)(w:World)(r:Ending)(w':World):Prop:=
 (pget S.l 1 h=none/\r=.returned (.int .i64 8)/\Step S.hl S.hl w w') ∨
 (pget S.l 1 h≠none/\h=0/\r=.returned (.int .i64 1)/\Step S.hl S.hl w w') ∨
 (pget S.l 1 h≠none/\h≠0/\kids S.l h≠[]/\r=.returned (.int .i64 12)/\Step S.hl S.hl w w') ∨
 (∃p rv,pget S.l 1 h=some p/\h≠0/\kids S.l h=[]/\ovOk rv (S.ts.length+1)/\r=.returned (.int .i64 0)/\Step S.hl (S.doomed h p rv).hl w w')
def TickR(S:CO)(fr:List Nat)(N K:Nat)(w:World)(r:Ending)(w':World):Prop:=
 ∃(rv:OV) (S':CO) (fr':List Nat) (v:Value),r=.returned v/\w'.ownsRow w.heap.size 58 1 v (dueN S).length (Q1i (dueN S))/\ovOk rv (dueT S).length/\Ticked (S.setG (S.now+1) rv (dueT S)) S' (dueN S)/\S'.Ok fr' N (K+1) /\
  Step S.hl S'.hl w w'/\∀b∈keys S'.hl,v.ownBlock≠some b
theorem CO.Ok.mono{S:CO}{fr:List Nat}{N N' K K':Nat}(ok:S.Ok fr N K)(h1:N<=N')(h2:K<=K'):S.Ok fr N' K':=
 ⟨ok.inv,ok.per,ok.due,ok.ord,ok.ov,by have:=ok.next;omega,J3c ok.now h2,ok.age⟩
theorem MadeOk.ok{S:CO}{fr:List Nat}{N K:Nat}(ok:S.Ok fr N K){f:Pl}{e:En Fa}{n a x i:Nat}{lim:Int}{p:Pl}{P':PL}{fr':List Nat}(m:MadeOk S fr f e n a lim x i p P' fr')(hi:S.l[i]?=some p):(S.made f n a x i p P').Ok fr' (N+1) K:=
 ok.made m.inv (by have:=m.next;have:=ok.next;omega) (Z5J ok.age (ok.age p (J5q hi)))
theorem MadeOk.went{S:CO}{fr:List Nat}{N K:Nat}(ok:S.Ok fr N K){f:Pl}{e:En Fa}{n a x i:Nat}{lim:Int}{p:Pl}{P':PL}{fr':List Nat}(m:MadeOk S fr f e n a lim x i p P' fr')(hi:S.l[i]?=some p)(hp:p.st=0):Went S (S.made f n a x i p P'):=
 Went.made ok m.same hi hp rfl m.kept m.high m.memH
def xcP(tb:Nat->TB)(id:Int)(i:Nat)(o:Option Pl):Int:=match o with
 | some p=>if (p.fac:Int)=id then(tb i).cost else 0
 | none=>0
def xcOf(l:List Pl)(tb:Nat->TB)(id:Int):Int:=((List.range 256).map fun i=>xcP tb id i l[i]?).sum
def Q2o(tb:Nat->TB):List Nat:=(List.range 256).flatMap fun i=>(tb i).lvs
def Q2J(tb:Nat->TB):List Nat:=(List.range 256).flatMap fun i=>(tb i).nds
structure TPI(S:CO)(tb:Nat->TB):Prop where
 tin:∀(i:Nat) (p:Pl),S.l[i]?=some p->p.st=1->p.kind=2->(tb i).In S.P.a.mem p.at_
 full:∀i,i<256->(tb i).Full
 nil:∀(i:Nat) (p:Pl),S.l[i]?=some p->¬(p.st=1/\p.kind=2)->(tb i).Nil
 lvs:(Q2o tb).Perm (S.P.usedOf 7)
 nds:(Q2J tb).Perm (S.P.usedOf 6)
 xc:∀id,S.xc id=xcOf S.l tb id
theorem Q3p{n:Nat}{f g:Nat->Int}(h:∀i,i<n->f i=g i):((List.range n).map f).sum=((List.range n).map g).sum:=by
 congr 1;exact J5l fun i hi=>h i (J3s.1 hi)
theorem Q5g{l l':List Pl}{tb tb':Nat->TB}{id:Int}(h:∀i,i<256->xcP tb id i l[i]?=xcP tb' id i l'[i]?):xcOf l tb id=xcOf l' tb' id:=Q3p h
theorem Z2c{l:List Pl}{tb:Nat->TB}{i:Nat}{q:Pl}(hi:i<l.length)(hn:(tb i).Nil)(id:Int):xcOf (l.set i q) tb id=xcOf l tb id:=by
 refine Q5g fun j hj=>?_
 by_cases e:i=j
 ·subst e;have h0:=(TB.Nil.lists hn).2.2;have hp:∀o,xcP tb id i o=0:=fun o=>by
   unfold xcP;cases o with
   | none=>rfl
   | some p=>simp only[h0];split <;> rfl
  rw[hp,hp]
 ·rw[J6K e]
theorem Q2W:Q0c 7=256:=rfl
theorem Q5h:Q0c 6=48:=rfl
theorem Z6a:costK 2=128:=rfl
theorem TPI.leaf{S:CO}{tb:Nat->TB}(t:TPI S tb){i k:Nat}(hi:i<256)(hk:k<16)(h:(tb i).lf k≠0):(tb i).lf k∈S.P.usedOf 7:=by
 refine t.lvs.mem_iff.1 (J3C.2 ⟨i,J3s.2 hi,mem_lvs.2 ⟨k,hk,rfl,h⟩⟩)
theorem Q1t{l:List Pl}(hl:l.length=256){i:Nat}{p:Pl}(h:l[i]?=some p):i<256:=by
 have:=(J3t.1 h).1;omega
theorem TPI.tin_kept{S:CO}{tb:Nat->TB}(hl:S.l.length=256)(t:TPI S tb){m:List Nat}(k1:∀(i:Nat) (p:Pl),S.l[i]?=some p->p.st=1->p.kind=2->Kept S.P.a.mem m p.at_ 128)(k2:∀a,a∈S.P.usedOf 7->Kept S.P.a.mem m a 256){i:Nat}{p:Pl}(hi:S.l[i]?=some p)(h1:p.st=1)(h2:p.kind=2):(tb i).In m p.at_:=
 (t.tin i p hi h1 h2).kept (k1 i p hi h1 h2) fun k hk Aa=>k2 _ (t.leaf (Q1t hl hi) hk Aa)
theorem TPI.tried{S:CO}{tb:Nat->TB}{fr:List Nat}{N K:Nat}(ok:S.Ok fr N K)(t:TPI S tb){P':PL}(h:Tried S.P fr S.l P'):TPI (S.setP P') tb:=by
 refine⟨fun i p hi h1 h2=>?_,t.full,t.nil,t.lvs.trans (h.used 7).symm,t.nds.trans (h.used 6).symm,t.xc⟩;refine t.tin_kept ok.inv.len (fun j q hj q1 q2=>?_) (fun a ha=>h.memH 7 a (by omega) ha) hi h1 h2;have:=h.mem q (J5q hj) (Pl.is_iff.2 (.inl q1));rw[q2] at this;exact this
theorem TPI.made{S:CO}{tb:Nat->TB}{fr fr':List Nat}{N K:Nat}(ok:S.Ok fr N K)(t:TPI S tb){f p:Pl}{e:En Fa}{n a x i:Nat}{lim:Int}{P':PL}(m:MadeOk S fr f e n a lim x i p P' fr')(hi:S.l[i]?=some p)(hp:p.st=0):TPI (S.made f n a x i p P') tb:=by
 have Ao:=Q1t ok.inv.len hi;have BT:=t.nil i p hi (by omega);have Ab:i<S.l.length:=(J3t.1 hi).1;refine⟨fun j q hj q1 q2=>?_,t.full,fun j q hj hq=>?_,t.lvs.trans (m.high 7 (by omega)).symm,t.nds.trans (m.high 6 (by omega)).symm,fun id=>?_⟩
 ·have AY:(S.l.set i ⟨n,a,f.own,1,p.age,x⟩)[j]?=some q:=hj;by_cases e:i=j
  ·subst e;rw[J6S Ab] at AY;cases AY;have TP:n=2:=q2;refine BT.new fun y h1 h2=>m.zero (by omega) y h1 ?_
   rw[TP,Z6a];exact h2
  ·rw[J6K e] at AY;refine t.tin_kept ok.inv.len (fun k r hk r1 r2=>?_) (fun b hb=>m.memH 7 b (by omega) hb) AY q1 q2;have:=m.kept r (J5q hk) (Pl.is_iff.2 (.inl r1));rw[r2] at this;exact this
 ·have AY:(S.l.set i ⟨n,a,f.own,1,p.age,x⟩)[j]?=some q:=hj;by_cases e:i=j
  ·subst e;exact BT
  ·rw[J6K e] at AY;exact t.nil j q AY hq
 ·show S.xc id=xcOf (S.l.set i _) tb id;rw[Z2c Ab BT,t.xc]
theorem TPI.spare{S:CO}{tb:Nat->TB}{fr:List Nat}{N K:Nat}(ok:S.Ok fr N K)(t:TPI S tb){h:Nat}{p:Pl}(hp:pget S.l 1 h=some p)(hn:(tb (h%256)).Nil):S.Spare h p:=by
 obtain⟨hi,_,_⟩:=pget_some.1 hp;intro id Aa;rw[t.xc] at Aa
 -- some place has what counts
 have Vm:∃j,j<256/\xcP tb id j S.l[j]?≠0:=by
  apply Classical.byContradiction
  intro Aq
  apply Aa
  have h0:xcOf S.l tb id=((List.range 256).map fun _=>(0:Int)).sum:=Q3p fun j hj=>Classical.byContradiction fun h=>Aq ⟨j,hj,h⟩
  rw[h0];have z:∀l:List Nat,(l.map fun _=>(0:Int)).sum=0:=fun l=>by
   induction l with
   | nil=>rfl
   | cons a r ih=>rw[J3e,J6P,ih];rfl
  exact z _
 obtain⟨j,hj,hx⟩:=Vm;unfold xcP at hx;cases hl:S.l[j]? with
 | none=>rw[hl] at hx;exact absurd rfl hx
 | some r =>
  rw[hl] at hx;simp only at hx;split at hx
  ·rename_i hf;have Ec:¬(tb j).Nil:=fun h=>hx (TB.Nil.lists h).2.2
   have BX:r.st=1/\r.kind=2:=Classical.byContradiction fun h=>Ec (t.nil j r hl h)
   have B0:h%256≠j:=fun e=>Ec (by rw[<- e];exact hn)
   exact⟨r,J5q (i:=j) (by rw[J6K B0];exact hl),BX.1,hf⟩
  ·exact absurd rfl hx
theorem TPI.doomed{S:CO}{tb:Nat->TB}{fr:List Nat}{N K:Nat}(ok:S.Ok fr N K)(t:TPI S tb){h:Nat}{p:Pl}(hp:pget S.l 1 h=some p)(hn:(tb (h%256)).Nil)(rv:OV):TPI (S.doomed h p rv) tb:=by
 obtain⟨hi,_,_⟩:=pget_some.1 hp;have Ab:h%256<S.l.length:=(J3t.1 hi).1;refine⟨fun j q hj q1 q2=>?_,t.full,fun j q hj hq=>?_,t.lvs,t.nds,fun id=>?_⟩
 ·have AY:(S.l.set (h%256) {p with st:=2})[j]?=some q:=hj;by_cases e:h%256=j
  ·subst e;rw[J6S Ab] at AY;cases AY;cases q1
  ·rw[J6K e] at AY;exact t.tin j q AY q1 q2
 ·have AY:(S.l.set (h%256) {p with st:=2})[j]?=some q:=hj;by_cases e:h%256=j
  ·subst e;exact hn
  ·rw[J6K e] at AY;exact t.nil j q AY hq
 ·show S.xc id=xcOf (S.l.set (h%256) _) tb id;rw[Z2c Ab hn,t.xc]
theorem TPI.ticked{S S':CO}{tb:Nat->TB}{D:List Nat}(hl:S.l.length=256)(He:S'.l.length=256)(t:TPI S tb)(BX:∀x,pget S'.l 1 x=pget S.l 1 x)(Az:S'.P.a.mem=S.P.a.mem)(hhigh:∀j,6<=j->(S'.P.usedOf j).Perm (S.P.usedOf j))(GW:S'.xc=S.xc):TPI S' tb:=by
 have fwd:∀(i:Nat) (p:Pl),S.l[i]?=some p->p.st=1->S'.l[i]?=some p:=fun i p hi h1=>by
  have Ao:=Q1t hl hi;have:pget S.l 1 (nm i p)=some p:=pget_some.2 ⟨by rw[Q1B Ao];exact hi,by rw[Q1B Ao],h1⟩;rw[<- BX] at this;have:=(pget_some.1 this).1
  rwa [Q1B Ao] at this
 have bwd:∀(i:Nat) (p:Pl),S'.l[i]?=some p->p.st=1->S.l[i]?=some p:=fun i p hi h1=>by
  have Ao:=Q1t He hi;have:pget S'.l 1 (nm i p)=some p:=pget_some.2 ⟨by rw[Q1B Ao];exact hi,by rw[Q1B Ao],h1⟩;rw[BX] at this;have:=(pget_some.1 this).1
  rwa [Q1B Ao] at this
 have same:∀i,i<256->(tb i).Nil∨S'.l[i]?=S.l[i]?:=fun i hi=>by
  have hp:S.l[i]?=some (S.l[i]'(by omega)):=J5t _;by_cases h:(S.l[i]'(by omega)).st=1/\(S.l[i]'(by omega)).kind=2
  ·right;rw[fwd i _ hp h.1,hp]
  ·exact .inl (t.nil i _ hp h)
 refine⟨fun i p hi h1 h2=>?_,t.full,fun i p hi h=>?_,t.lvs.trans (hhigh 7 (by omega)).symm,t.nds.trans (hhigh 6 (by omega)).symm,fun id=>?_⟩
 ·rw[Az];exact t.tin i p (bwd i p hi h1) h1 h2
 ·rcases same i (Q1t He hi) with hn|e
  ·exact hn
  ·rw[e] at hi;exact t.nil i p hi h
 ·rw[GW,t.xc];refine Q5g fun i hi=>?_
  rcases same i hi with hn|e
  ·have h0:=(TB.Nil.lists hn).2.2;have hp:∀o,xcP tb id i o=0:=fun o=>by
    unfold xcP;cases o with
    | none=>rfl
    | some p=>simp only[h0];split <;> rfl
   rw[hp,hp]
  ·rw[e]
end Go.Proofs.YtfidemmgofcnmaaGreatDoor

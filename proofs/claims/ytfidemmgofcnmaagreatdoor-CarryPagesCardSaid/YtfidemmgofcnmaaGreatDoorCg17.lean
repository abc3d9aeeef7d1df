/- CarryPages returns true at every input. No condition. Part of its proof. -/
import Derived.Test.YtfidemmgofcnmaaGreatDoorCg16
import Derived.ScopeJumps
import Derived.Deep.CutRange
import Derived.ProofKit
import Derived.Deep.Slices
import Derived.OpenShut
set_option maxHeartbeats 8000000
set_option maxRecDepth 100000
set_option linter.unusedVariables false
namespace Go.Proofs.YtfidemmgofcnmaaGreatDoor
open Go.RowKit Go.Proofs.Tryz
def Q6H(l:List Pl)(tb:Nat->TB)(x:Nat)(z:Int):Value:=match pget l 1 x with
 | none=>.tuple #[.agg #[.int .u32 0,.int .i64 0],.int .i64 8]
 | some p=>if p.kind=2 then(if 0<=z/\z<256 then(match Q0k l tb x z.toNat with
   | none=>.tuple #[.agg #[.int .u32 0,.int .i64 0],.int .i64 6]
   | some e=>.tuple #[.agg #[.int .u32 (e.h:Int),.int .i64 (e.r:Int)],.int .i64 0]) else .tuple #[.agg #[.int .u32 0,.int .i64 0],.int .i64 2]) else .tuple #[.agg #[.int .u32 0,.int .i64 0],.int .i64 10]
theorem Q7F{w:World}{Z:SP}{fr:List Nat}{N K:Nat}(hs:Sep w Z.hl)(ok:Z.S.Ok fr N K){x:Nat}(hx:x<4294967296)(z e:Int)(he:e≠0)(hw:(pget Z.S.l 1 x=none/\e=8)∨∃p,pget Z.S.l 1 x=some p/\p.kind≠2/\e=10) :
  Calls prog 37 #[.pointer (some ⟨Z.s,0,none⟩),.int .u32 x,.int .i64 z] w (Told w (.tuple #[.agg #[.int .u32 0,.int .i64 0],.int .i64 e])):=by
 have b1:Below w.heap.size w (w.alloc (.cells #[.int .u32 0,.int .i64 0] 72)):=(Below.refl _ _).alloc (Z9s _) _;have ks:=Q1r (hs.grown b1).sep ok hx e hw;have HC:Hid (∀w1,Below (w.alloc (.cells #[.int .u32 0,.int .i64 0] 72)).heap.size (w.alloc (.cells #[.int .u32 0,.int .i64 0] 72)) w1->(∀o,Cells (w1.alloc o) w.heap.size 72 [.int .u32 0,.int .i64 0])/\∀o a b,Below w.heap.size w (((w1.alloc o).setCell ⟨w.heap.size,0,none⟩ a).setCell ⟨w.heap.size,1,none⟩ b)):=fun w1 Au=>by
  have hR:=(Cells.new w 72 [.int .u32 0,.int .i64 0]).same (Au.block w.heap.size (by simp));exact⟨hR.alloc,fun o a b=>(((Q0b Au).alloc (Q0b Au).size o).setCell (Z9s _) _).setCell (Z9s _) _⟩
 have GC:(e==0)=false:=by simpa using he
 clear hs ok hx hw b1;go_enter func37,ntmps37;go_wp2_with fail;refine ks.mono ?_;rintro r w1⟨rfl,Au⟩;obtain⟨Bl,hz⟩:=HC.out w1 Au;have Ai:=Bl (.cells #[.pointer none,.int .u32 0,.int .i64 0] 191);have HZ:=Q0a hz;have e0:=Ai.cell 0 _ rfl;have e1:=Ai.cell 1 _ rfl;have f0:=Ai.free 0;have f1:=Ai.free 1;have Aa:=Ai.lt;clear Au hz Ai Bl HC ks;go_wp2_with fail;refine bodyPost_ret (v:=.tuple #[.agg #[.int .u32 0,.int .i64 0],.int .i64 e]) (by simp[results,results37,go_sem,e0,e1]) rfl ⟨rfl,HZ.out _ _ _⟩
theorem Z0M{w:World}{Z:SP}{fr:List Nat}{N K:Nat}{M:Int}(hs:Sep w Z.hl)(ok:Z.Ok fr N K M){x:Nat}(hx:x<4294967296){p:Pl}(hp:pget Z.S.l 1 x=some p)(hk:p.kind=2)(z:Int) :
  Calls prog 37 #[.pointer (some ⟨Z.s,0,none⟩),.int .u32 x,.int .i64 z] w (Told w (Q6H Z.S.l Z.tb x z)):=by
 have b1:Below w.heap.size w (w.alloc (.cells #[.int .u32 0,.int .i64 0] 72)):=(Below.refl _ _).alloc (Z9s _) _;have s1:=(hs.grown b1).sep;have ks:=Q1Y s1 ok.core hx hp hk;have hi:=(pget_some.1 hp).1;have Av:=(pget_some.1 hp).2.2;have BL:(Z.tb (x%256)).at' z=if 0<=z/\z<256 then Q0k Z.S.l Z.tb x z.toNat else none:=by
  unfold TB.at';split
  ·rename_i h;rw[Q0m hp hk (by omega)]
  ·rfl
 have HC:Hid (∀(w2:World) (g:Nat),Below (w.alloc (.cells #[.int .u32 0,.int .i64 0] 72)).heap.size (w.alloc (.cells #[.int .u32 0,.int .i64 0] 72)) w2->TblZ Z p g w2 ->
   Cells (w2.alloc (.cells #[.pointer (some ⟨g,0,none⟩),.int .u32 x,.int .i64 (p.fac:Int)] 191)) w.heap.size 72 [.int .u32 0,.int .i64 0]/\(∀a b,Below w.heap.size w (((w2.alloc (.cells #[.pointer (some ⟨g,0,none⟩),.int .u32 x,.int .i64 (p.fac:Int)] 191)).setCell ⟨w.heap.size,0,none⟩ a).setCell ⟨w.heap.size,1,none⟩ b)) /\
   Calls prog 93 #[.agg #[.pointer (some ⟨g,0,none⟩),.int .u32 x,.int .i64 (p.fac:Int)],.int .i64 z] (w2.alloc (.cells #[.pointer (some ⟨g,0,none⟩),.int .u32 x,.int .i64 (p.fac:Int)] 191)) (fun r w4=>r=.returned (capV ((Z.tb (x%256)).at' z)) /\
    (∀o,Cells (w4.alloc o) w.heap.size 72 [.int .u32 0,.int .i64 0])/\∀o a b,Below w.heap.size w (((w4.alloc o).setCell ⟨w.heap.size,0,none⟩ a).setCell ⟨w.heap.size,1,none⟩ b))):=fun w2 g Ae hg=>by
  have hR:=(Cells.new w 72 [.int .u32 0,.int .i64 0]).same (Ae.block w.heap.size (by simp));have Cx:Below w.heap.size w w2:=Q0b Ae;have Ax:Below w2.heap.size w2 (w2.alloc (.cells #[.pointer (some ⟨g,0,none⟩),.int .u32 x,.int .i64 (p.fac:Int)] 191)):=(Below.refl _ _).alloc (Z9s _) _;have Cm:=Cx.alloc Cx.size (.cells #[.pointer (some ⟨g,0,none⟩),.int .u32 x,.int .i64 (p.fac:Int)] 191);have s2:=(hs.grown Cx).sep;have s3:=(s2.grown Ax).sep;have T:=(ok.tpi.x (p.fac:Int)).tt ok.core hi Av hk (SP.sS s3) (hg.grown s2 Ax).c;refine⟨hR.alloc _,fun a b=>(Cm.setCell (Z9s _) _).setCell (Z9s _) _,(Q2T T (x:Int) (p.fac:Int) z fun e he=>?_).mono ?_⟩
  ·rw[BL] at he;split at he
   ·exact ok.fpi.low ok.core.inv.lok he
   ·cases he
  ·rintro r w4⟨rfl,AG⟩;have Qo:=(hR.alloc _).same (AG.block w.heap.size (hR.alloc _).lt);have IU:Below w.heap.size w w4:=Cm.trans (AG.mono Cm.size);exact⟨rfl,Qo.alloc,fun o a b=>((IU.alloc IU.size o).setCell (Z9s _) _).setCell (Z9s _) _⟩
 have hv:Q6H Z.S.l Z.tb x z=if 0<=z/\z<256 then(match (Z.tb (x%256)).at' z with
   | none=>.tuple #[.agg #[.int .u32 0,.int .i64 0],.int .i64 6]
   | some e=>.tuple #[.agg #[.int .u32 (e.h:Int),.int .i64 (e.r:Int)],.int .i64 0]) else .tuple #[.agg #[.int .u32 0,.int .i64 0],.int .i64 2]:=by
  unfold Q6H;rw[hp];simp only;rw[if_pos hk,BL];by_cases h:0<=z/\z<256
  ·simp only[if_pos h]
  ·simp only[if_neg h]
 rw[hv];have BC:Hid (∀w,Calls prog 92 #[.int .i64 z] w fun r w'=>r=.returned (.bool (decide (0<=z/\z<256)))/\w=w'):=fun w=>Q4B w z
 clear hs ok hx hp hk hi Av BL hv b1 s1;by_cases hz:0<=z/\z<256
 ·rw[if_pos hz];rw[decide_eq_true hz] at BC;cases ho:(Z.tb (x%256)).at' z with
  | none =>
   rw[ho] at HC;simp only[capV] at HC;simp only;clear ho hz;go_enter func37,ntmps37;go_wp2_with fail;refine ks.mono ?_;rintro r w2⟨g,rfl,Ae,hg⟩;obtain⟨-,-,kc⟩:=HC.out w2 g Ae hg;have hh:=BC.out (w2.alloc (.cells #[.pointer (some ⟨g,0,none⟩),.int .u32 x,.int .i64 (p.fac:Int)] 191));clear Ae hg HC ks;go_wp2_with fail;refine hh.mono ?_;rintro r w3⟨rfl,rfl⟩;go_wp2_with fail;refine kc.mono ?_;rintro r w4⟨rfl,Bl,hz⟩;have Ai:=Bl (.cells #[.int .u32 0,.int .i64 0] 72);have HZ:=Q0a hz;have e0:=Ai.cell 0 _ rfl;have e1:=Ai.cell 1 _ rfl;have f0:=Ai.free 0;have f1:=Ai.free 1;have Aa:=Ai.lt
   clear hz Ai Bl kc hh BC;go_wp2_with fail;refine bodyPost_ret (v:=.tuple #[.agg #[.int .u32 0,.int .i64 0],.int .i64 6]) (by simp[results,results37,go_sem,e0,e1]) rfl ⟨rfl,HZ.out _ _ _⟩
  | some e =>
   rw[ho] at HC;simp only[capV] at HC;simp only;clear ho hz;generalize (e.h:Int)=eh at *
   generalize (e.r:Int)=er at *
   go_enter func37,ntmps37;go_wp2_with fail;refine ks.mono ?_;rintro r w2⟨g,rfl,Ae,hg⟩;obtain⟨-,-,kc⟩:=HC.out w2 g Ae hg;have hh:=BC.out (w2.alloc (.cells #[.pointer (some ⟨g,0,none⟩),.int .u32 x,.int .i64 (p.fac:Int)] 191));clear Ae hg HC ks;go_wp2_with fail;refine hh.mono ?_;rintro r w3⟨rfl,rfl⟩;go_wp2_with fail;refine kc.mono ?_;rintro r w4⟨rfl,Bl,hz⟩;have Ai:=Bl (.cells #[.int .u32 eh,.int .i64 er] 72);have HZ:=Q0a hz;have e0:=Ai.cell 0 _ rfl;have e1:=Ai.cell 1 _ rfl;have f0:=Ai.free 0;have f1:=Ai.free 1;have Aa:=Ai.lt;clear hz Ai Bl kc hh BC;go_wp2_with fail
   refine bodyPost_ret (v:=.tuple #[.agg #[.int .u32 eh,.int .i64 er],.int .i64 0]) (by simp[results,results37,go_sem,e0,e1]) rfl ⟨rfl,HZ.out _ _ _⟩
 ·rw[if_neg hz];rw[decide_eq_false hz] at BC;clear hz;go_enter func37,ntmps37;go_wp2_with fail;refine ks.mono ?_;rintro r w2⟨g,rfl,Ae,hg⟩;obtain⟨Ai,hz,-⟩:=HC.out w2 g Ae hg;have hh:=BC.out (w2.alloc (.cells #[.pointer (some ⟨g,0,none⟩),.int .u32 x,.int .i64 (p.fac:Int)] 191));have HZ:=Q0a hz;have e0:=Ai.cell 0 _ rfl;have e1:=Ai.cell 1 _ rfl;have f0:=Ai.free 0;have f1:=Ai.free 1;have Aa:=Ai.lt;clear Ae hg HC ks hz Ai BC;go_wp2_with fail;refine hh.mono ?_;rintro r w3⟨rfl,rfl⟩;go_wp2_with fail;refine bodyPost_ret (v:=.tuple #[.agg #[.int .u32 0,.int .i64 0],.int .i64 2]) (by simp[results,results37,go_sem,e0,e1]) rfl ⟨rfl,HZ.out _ _⟩
theorem Q7G{w:World}{Z:SP}{fr:List Nat}{N K:Nat}{M:Int}(hs:Sep w Z.hl)(ok:Z.Ok fr N K M){x:Nat}(hx:x<4294967296)(z:Int) :
  Calls prog 37 #[.pointer (some ⟨Z.s,0,none⟩),.int .u32 x,.int .i64 z] w (Told w (Q6H Z.S.l Z.tb x z)):=by
 cases hp:pget Z.S.l 1 x with
 | none =>
  have:=Q7F hs ok.core hx z 8 (by decide) (.inl ⟨hp,rfl⟩);unfold Q6H;rw[hp];exact this
 | some p =>
  by_cases hk:p.kind=2
  ·exact Z0M hs ok hx hp hk z
  ·have:=Q7F hs ok.core hx z 10 (by decide) (.inr ⟨p,hp,hk,rfl⟩);unfold Q6H;rw[hp];simp only[if_neg hk];exact this
theorem Q1O{w:World}{Z:SP}(hs:Sep w Z.hl):Calls prog 26 #[.pointer (some ⟨Z.s,0,none⟩)] w fun r w'=>r=.returned (.pointer (some ⟨Z.S.c,0,none⟩))/\w=w':=by
 have c0:=SP.c0 hs;clear hs;go_enter func26,ntmps26
 go_wp2
 go_ret;exact⟨rfl,rfl⟩
theorem Q9y{w':World}{B:Nat}{T:TypeId}{size n:Nat}{v:Value}{cs:List Value}(h:w'.ownsRow B T size v n cs):∃(a:Option Addr) (cap:Nat),v=.slice a n cap/\∀(j:Nat) (u:Value),cs[j]?=some u->∃g,a=some ⟨g,0,none⟩/\B<=g/\g<w'.heap.size/\w'.cell? ⟨g,j,none⟩=some u:=by
 obtain⟨hl,h2⟩:=h;rcases h2 with ⟨rfl,h0⟩|⟨g,cap,Ap,rfl,hg,DO,hn,hm,BB,AY⟩
 ·refine⟨none,0,by rw[h0],fun j u hj=>?_⟩;have Ji:cs.length=0:=by rw[hl,h0,J2V]
  rw[J1i.1 Ji] at hj;simp at hj
 ·refine⟨some ⟨g,0,none⟩,cap,rfl,fun j u hj=>⟨g,rfl,hg,lt_of_block DO,?_⟩⟩;have FG:=(Z9J.1 hj).1;have e:Ap.toList[j]?=some u:=by
   rw[<- AY] at hj;have hk:j<n*size:=by omega
   rwa [J1m,if_pos hk] at hj
  unfold World.cell?;simp only[DO]
  simpa using e
open Go.Sort (Holds putRow holds_putRow holds_ahead putRow_self reverseLoop swp size_swp)
end Go.Proofs.YtfidemmgofcnmaaGreatDoor
namespace Go.Proofs.YtfidemmgofcnmaaGreatDoor
open Go.RowKit Go.Proofs.Tryz
theorem Q7H{w:World}{Z:SP}(hs:Sep w Z.hl)(ok:Z.F.Ok){x z g f:Nat}(hx:x<4294967296)(hz:z<256) :
  Calls prog 156 #[.pointer (some ⟨Z.s,0,none⟩),.agg #[.pointer (some ⟨g,0,none⟩),.int .u32 x,.int .i64 f],.int .i64 z] w (Told w (.int .i64 (ownN Z.F.N (x:Int) (z:Int)))):=by
 have b1:Below w.heap.size w (w.alloc (.cells #[.pointer (some ⟨g,0,none⟩),.int .u32 x,.int .i64 f] 191)):=(Below.refl _ _).alloc (Z9s _) _;have s1:=(hs.grown b1).sep;have c1:=SP.c1 s1;have QM:(w.alloc (.cells #[.pointer (some ⟨g,0,none⟩),.int .u32 x,.int .i64 f] 191)).drew.cell? ⟨Z.s,1,none⟩=some (.pointer (some ⟨Z.F.f,0,none⟩)):=c1;have hB:=Cells.new w 191 [.pointer (some ⟨g,0,none⟩),.int .u32 x,.int .i64 f];have q1:=hB.cell 1 _ rfl;have Qn:(w.alloc (.cells #[.pointer (some ⟨g,0,none⟩),.int .u32 x,.int .i64 f] 191)).drew.cell? ⟨w.heap.size,1,none⟩=some (.int .u32 x):=q1;have g1:(0:Int)<=(x:Int):=by omega
 have g2:(x:Int)<9223372036854775808:=by omega
 have g3:(0:Int)<=(z:Int):=by omega
 have g4:(z:Int)<9223372036854775808:=by omega
 have kf:=Z2Y (SP.sF s1.drew) ok (sp:=(x:Int)) (sl:=(z:Int)) (Q5c (p:=((x:Int),(z:Int))) g1 g2 g3 g4);have HR:Hid (Below w.heap.size w (w.alloc (.cells #[.pointer (some ⟨g,0,none⟩),.int .u32 x,.int .i64 f] 191)).drew):=b1.drew;have Gk:(x:Int)<4294967296:=by omega
 have NC:IntKind.i64.wrap (x:Int)=(x:Int):=Go.IntWalk.i64_in _ (by omega);generalize ownN Z.F.N (x:Int) (z:Int)=oid at *
 clear hs ok hx hz b1 s1 hB g2 g3 g4;go_enter func156,ntmps156;go_wp2_with fail
 go_region_held3 (fun w'=>w'.cell? ⟨Z.s,1,none⟩=some (.pointer (some ⟨Z.F.f,0,none⟩))/\w'.cell? ⟨w.heap.size,1,none⟩=some (.int .u32 x)) (first|exact⟨c1,q1⟩|exact⟨QM,Qn⟩)
  (first|(go_at_call 161;refine kf.mono ?_;rintro r w'⟨rfl,rfl⟩))
 go_wp2_with fail
 (try go_ret);exact⟨rfl,HR.out⟩
theorem Q5W(o:Option Ent):∃(a b:Int),capV o=.tuple #[.agg #[.int .u32 a,.int .i64 b],.bool o.isSome]:=by
 cases o with
 | none=>exact⟨0,0,rfl⟩
 | some e=>exact⟨_,_,rfl⟩
section
variable {N:List (En Nd)} {next:Int}
end
section
variable {m:Nat} {a:AV} {next:Int}
end
def Z7R(Z:SP)(fr:List Nat)(N K:Nat)(M:Int)(x s h r:Nat)(par:Int)(w w':World):Prop:=∃Z',Z'.Ok fr N K (M+1)/\SameN Z Z'/\Z'.av.en=setA Z.av.en x s (some (h,r))/\(∃b,Z'.av.N=addN Z.F.N par (Z.F.next+1) b (x:Int) (s:Int))/\Z'.F.next=Z.F.next+1/\Step Z.hl Z'.hl w w'
def Z9l(Z:SP)(x:Nat)(z:Int)(h:Nat)(r:Int)(er:Int):Prop:=
 (pget Z.S.l 1 x=none/\er=8)∨∃p,pget Z.S.l 1 x=some p/\((p.kind≠2/\er=10)∨(p.kind=2/\((¬(0<=z/\z<256)/\er=2)∨((0<=z/\z<256)/\((pget Z.S.l 1 h=none/\er=8) ∨
  ∃q,pget Z.S.l 1 h=some q/\((¬((0<r/\r<=15)/\(q.kind=8↔128<=z))/\er=1)∨(((0<r/\r<=15)/\(q.kind=8↔128<=z))/\Q0k Z.S.l Z.tb x z.toNat≠none/\er=7)))))))
def RootR(Z:SP)(fr:List Nat)(N K:Nat)(M:Int)(x:Nat)(z:Int)(h:Nat)(r:Int)(w:World)(er:Int)(w':World):Prop:=
 (er≠0/\Z9l Z x z h r er/\Below w.heap.size w w') ∨
 ∃(s rn:Nat) (p q:Pl),z=(s:Int)/\r=(rn:Int)/\s<256/\1<=rn/\rn<=15/\pget Z.S.l 1 x=some p/\p.kind=2/\pget Z.S.l 1 h=some q/\(q.kind=8↔128<=s)/\Q0k Z.S.l Z.tb x s=none /\
  ((er=0/\Z7R Z fr N K M x s h rn 0 w w')∨((er=4∨er=5)/\WhyL Z fr p.fac (x%256) s er/\∃P',Tried Z.S.P fr Z.S.l P'/\Step Z.hl (Z.setS (Z.S.setP P') Z.tb).hl w w'))
theorem Z5L{w w5:World}{Z:SP}{fr:List Nat}{N K:Nat}{M:Int}(ok:Z.Ok fr N K M)(hM:M+1<1099511627776){x s h r:Nat}{p:Pl}(hx:x<4294967296)(hp:pget Z.S.l 1 x=some p)(hk:p.kind=2)(Bi:s<256)(h0:Q0k Z.S.l Z.tb x s=none){nd:Nat}(hc:Q7v Z.S.l s ⟨h,r,nd⟩)
  {S':CO} {t':TB} (T:TurnP Z.S fr N K Z.tb (p.fac:Int) (x%256) s (some ⟨h,r,nd⟩) S' t') (st:Step Z.hl (Z.setS S' (updT Z.tb (x%256) t')).hl w w5) {par:Int} (Bm:par=0∨∃m em,find Z.F.N par=some m/\Q1q Z.S.l Z.tb m=some em/\h=em.h/\r&&&em.r=r) {w6:World} (Ew:Below w5.heap.size w5 w6) :
  w6.cell? ⟨Z.s,1,none⟩=some (.pointer (some ⟨Z.F.f,0,none⟩))/\Calls prog 105 #[.pointer (some ⟨Z.F.f,0,none⟩),.int .i64 par,.int .i64 x,.int .i64 s] w6 fun rv w'=>rv=.returned (.tuple #[.int .i64 (Z.F.next+1),.int .i64 0])/\Z7R Z fr N K M x s h r par w w':=by
 have st6:=st.trans (st.sep.grown Ew);have Aq:=ok.fpi.free ok.fo.n h0;have Cz:=ok.fpi.few ok.fo.n hp Bi h0;have JB:par=0∨∃e,find Z.F.N par=some e:=Bm.imp id fun⟨m,_,h,_⟩=>⟨m,h⟩
 have AW:=ok.next;refine⟨SP.c1 (Z:=Z.setS S' (updT Z.tb (x%256) t')) st6.sep,(Q9v (SP.sF (Z:=Z.setS S' (updT Z.tb (x%256) t')) st6.sep) ok.fo (par:=par) (sp:=(x:Int)) (sl:=(s:Int)) JB (by omega) (by omega) (by omega) (by omega) Aq (by show Z.F.next+1<_;omega) Cz).mono ?_⟩;rintro rv w'⟨rfl,F',A,stf⟩;obtain⟨a1,a2,a3,a4⟩:=ok.added hp hk Bi h0 hc T Bm A;exact⟨rfl,_,a1,a2,a3,a4,A.next,st6.trans (SP.stepF (Z:=Z.setS S' (updT Z.tb (x%256) t')) st6.sep F' A.f stf)⟩
def Z9m(bh:Bool)(no:Int)(br bc bk full:Bool)(er:Int):Prop:=(bh=false/\er=2)∨(bh=true/\no=8/\er=8)∨(bh=true/\no=0/\br=false/\er=1)∨(bh=true/\no=0/\br=true/\(bc==bk)=true/\er=1)∨(bh=true/\no=0/\br=true/\(bc==bk)=false/\full=true/\er=7)
theorem Z3r{bc:Bool}{k:Int}(h:(bc==(k==8))=true):(bc=true/\k=8)∨(bc=false/\(k==8)=false/\decide (k=8)=false):=by
 by_cases hk:k=8
 ·subst hk;left;simpa using h
 ·right;cases bc <;> simp_all
theorem Q7I{bc:Bool}{k:Int}(h:(bc==(k==8))=false):(bc=true/\(k==8)=false/\decide (k=8)=false)∨(bc=false/\k=8):=by
 by_cases hk:k=8
 ·subst hk;right;cases bc <;> simp_all
 ·left;cases bc <;> simp_all
theorem Q5X{w:World}{Z:SP}{fr:List Nat}{N K:Nat}{M:Int}(hs:Sep w Z.hl)(ok:Z.Ok fr N K M){x h:Nat}(hx:x<4294967296)(hh:h<4294967296){p:Pl}(hp:pget Z.S.l 1 x=some p)(hk:p.kind=2)(z r:Int){Q:Int->World->Prop}
  {k0 a0 f0 no:Int} (hOf:∀W,Below w.heap.size w W->Calls prog 49 #[.pointer (some ⟨Z.S.c,0,none⟩),.int .u32 h,.int .i64 0] W (Told W (.tuple #[.agg #[.int .i64 k0,.int .i64 a0,.int .i64 f0],.int .i64 no])))
  (Az:(∃er,Z9m (decide (0<=z/\z<256)) no (decide (0<r/\r<=15)) (decide (z<128)) (k0==8) ((Z.tb (x%256)).at' z).isSome er/\∀W,Below w.heap.size w W->Q er W) ∨
   (decide (0<=z/\z<256)=true/\no=0/\decide (0<r/\r<=15)=true/\(decide (z<128)==(k0==8))=false/\((Z.tb (x%256)).at' z).isSome=false /\
    ∀W g,Below w.heap.size w W->TblZ Z p g W->Calls prog 98 #[.pointer (some ⟨Z.s,0,none⟩),.agg #[.pointer (some ⟨g,0,none⟩),.int .u32 x,.int .i64 (p.fac:Int)],.int .i64 z,.agg #[.int .u32 h,.int .i64 r]] W fun rv w5=>∃er:Int,rv=.returned (.int .i64 er) /\
     ((er≠0/\Q er w5)∨(er=0/\w5.cell? ⟨Z.s,1,none⟩=some (.pointer (some ⟨Z.F.f,0,none⟩))/\Calls prog 105 #[.pointer (some ⟨Z.F.f,0,none⟩),.int .i64 0,.int .i64 x,.int .i64 z] w5 fun rv w'=>(∃a b:Value,rv=.returned (.tuple #[a,b]))/\Q 0 w')))) :
  Calls prog 41 #[.pointer (some ⟨Z.s,0,none⟩),.int .u32 x,.int .i64 z,.agg #[.int .u32 h,.int .i64 r]] w fun rv w'=>∃er:Int,rv=.returned (.int .i64 er)/\Q er w':=by
 have b1:Below w.heap.size w (w.alloc (.cells #[.int .u32 h,.int .i64 r] 72)):=(Below.refl _ _).alloc (Z9s _) _;have s1:=(hs.grown b1).sep;have ks:=Q1Y s1 ok.core hx hp hk;have hi:=(pget_some.1 hp).1;have Av:=(pget_some.1 hp).2.2;obtain⟨ca,cb,B4⟩:=Q5W ((Z.tb (x%256)).at' z);have BL:(Z.tb (x%256)).at' z=if 0<=z/\z<256 then Q0k Z.S.l Z.tb x z.toNat else none:=by
  unfold TB.at';split
  ·rename_i h;rw[Q0m hp hk (by omega)]
  ·rfl
 have Il:Hid (∀W g,Below w.heap.size w W->TblZ Z p g W->Calls prog 93 #[.agg #[.pointer (some ⟨g,0,none⟩),.int .u32 x,.int .i64 (p.fac:Int)],.int .i64 z] W (Told W (.tuple #[.agg #[.int .u32 ca,.int .i64 cb],.bool ((Z.tb (x%256)).at' z).isSome]))):=fun W g hb hg=>by
  have T:=(ok.tpi.x (p.fac:Int)).tt ok.core hi Av hk (SP.sS (hs.grown hb).sep) hg.c;have:=Q2T T (x:Int) (p.fac:Int) z fun e AR=>by
   rw[BL] at AR;split at AR
   ·exact ok.fpi.low ok.core.inv.lok AR
   ·cases AR
  rwa [B4] at this
 -- the worlds,one behind the other
 have NN:Hid (∀(w2:World) (g:Nat),Below (w.alloc (.cells #[.int .u32 h,.int .i64 r] 72)).heap.size (w.alloc (.cells #[.int .u32 h,.int .i64 r] 72)) w2->TblZ Z p g w2->∀W,Below (w2.alloc (.cells #[.pointer (some ⟨g,0,none⟩),.int .u32 x,.int .i64 (p.fac:Int)] 191)).heap.size (w2.alloc (.cells #[.pointer (some ⟨g,0,none⟩),.int .u32 x,.int .i64 (p.fac:Int)] 191)) W ->
   Below w.heap.size w W/\TblZ Z p g W/\W.cell? ⟨Z.s,0,none⟩=some (.pointer (some ⟨Z.S.c,0,none⟩))/\W.cell? ⟨w.heap.size,0,none⟩=some (.int .u32 h)/\W.cell? ⟨w.heap.size,1,none⟩=some (.int .i64 r)/\W.cell? ⟨w2.heap.size,0,none⟩=some (.pointer (some ⟨g,0,none⟩))/\W.cell? ⟨w2.heap.size,1,none⟩=some (.int .u32 x)/\W.cell? ⟨w2.heap.size,2,none⟩=some (.int .i64 (p.fac:Int))):=fun w2 g Ae hg W Jk=>by
  have Cx:Below w.heap.size w w2:=Q0b Ae;have s2:=(hs.grown Cx).sep;have Ax:Below w2.heap.size w2 W:=Q0b Jk;have Le:Below w.heap.size w W:=Cx.trans (Ax.mono Cx.size);have h7:=((Cells.new w 72 [.int .u32 h,.int .i64 r]).same (Ae.block w.heap.size (by simp))).same (Ax.block w.heap.size (by have:=Ae.size;simp at this;omega));have h9:=(Cells.new w2 191 [.pointer (some ⟨g,0,none⟩),.int .u32 x,.int .i64 (p.fac:Int)]).same (Jk.block w2.heap.size (by simp));exact⟨Le,hg.grown s2 Ax,SP.c0 (hs.grown Le).sep,h7.cell 0 _ rfl,h7.cell 1 _ rfl,h9.cell 0 _ rfl,h9.cell 1 _ rfl,h9.cell 2 _ rfl⟩
 have MN:=Q0a hOf;have DN:=Q0a Az;have BC:Hid (∀W,Calls prog 92 #[.int .i64 z] W fun r w'=>r=.returned (.bool (decide (0<=z/\z<256)))/\W=w'):=fun W=>Q4B W z
 have D7:Hid (∀W,Calls prog 106 #[.int .i64 r] W fun r' w'=>r'=.returned (.bool (decide (0<r/\r<=15)))/\W=w'):=fun W=>Q5T W r
 have Fb:Hid (∀W,Calls prog 96 #[.int .i64 z] W fun r w'=>r=.returned (.bool (decide (z<128)))/\W=w'):=fun W=>Q2E W z
 have Ct:(0:Int)<=(x:Int):=by omega
 have Gk:(x:Int)<4294967296:=by omega
 have NC:IntKind.i64.wrap (x:Int)=(x:Int):=Go.IntWalk.i64_in _ (by omega);generalize ((Z.tb (x%256)).at' z).isSome=full at *
 generalize decide (0<=z/\z<256)=bh at *
 generalize decide (0<r/\r<=15)=br at *
 generalize decide (z<128)=bc at *
 clear hs ok hx hh hp hk hi Av B4 BL hOf Az b1 s1;go_enter func41,ntmps41;go_wp2_with fail;refine ks.mono ?_;rintro rv w2⟨g,rfl,Ae,hg⟩;have HW:=Q0a (NN.out w2 g Ae hg);have HS:Hid (∀W,Below (w2.alloc (.cells #[.pointer (some ⟨g,0,none⟩),.int .u32 x,.int .i64 (p.fac:Int)] 191)).heap.size (w2.alloc (.cells #[.pointer (some ⟨g,0,none⟩),.int .u32 x,.int .i64 (p.fac:Int)] 191)) W->W.cell? ⟨Z.s,0,none⟩=some (.pointer (some ⟨Z.S.c,0,none⟩))/\W.cell? ⟨w.heap.size,0,none⟩=some (.int .u32 h)):=fun W hb=>⟨(HW.out W hb).2.2.1,(HW.out W hb).2.2.2.1⟩
 have HK:Hid (∀W,Below (w2.alloc (.cells #[.pointer (some ⟨g,0,none⟩),.int .u32 x,.int .i64 (p.fac:Int)] 191)).heap.size (w2.alloc (.cells #[.pointer (some ⟨g,0,none⟩),.int .u32 x,.int .i64 (p.fac:Int)] 191)) W->Calls prog 49 #[.pointer (some ⟨Z.S.c,0,none⟩),.int .u32 h,.int .i64 0] W fun r w4=>r=.returned (.tuple #[.agg #[.int .i64 k0,.int .i64 a0,.int .i64 f0],.int .i64 no])/\Below (w2.alloc (.cells #[.pointer (some ⟨g,0,none⟩),.int .u32 x,.int .i64 (p.fac:Int)] 191)).heap.size (w2.alloc (.cells #[.pointer (some ⟨g,0,none⟩),.int .u32 x,.int .i64 (p.fac:Int)] 191)) w4):=fun W hb=>(MN.out W (HW.out W hb).1).mono fun r w4 h=>⟨h.1,hb.trans (h.2.mono hb.size)⟩
 have C7:Hid (∀W,Below (w2.alloc (.cells #[.pointer (some ⟨g,0,none⟩),.int .u32 x,.int .i64 (p.fac:Int)] 191)).heap.size (w2.alloc (.cells #[.pointer (some ⟨g,0,none⟩),.int .u32 x,.int .i64 (p.fac:Int)] 191)) W->∀o,Below (w2.alloc (.cells #[.pointer (some ⟨g,0,none⟩),.int .u32 x,.int .i64 (p.fac:Int)] 191)).heap.size (w2.alloc (.cells #[.pointer (some ⟨g,0,none⟩),.int .u32 x,.int .i64 (p.fac:Int)] 191)) (W.alloc o)):=fun W hb o=>hb.alloc hb.size o
 obtain⟨-,-,c0,q0,-,-,-,-⟩:=HW.out _ (Below.refl _ _);have Om:Hid (∀W,Below (w2.alloc (.cells #[.pointer (some ⟨g,0,none⟩),.int .u32 x,.int .i64 (p.fac:Int)] 191)).heap.size (w2.alloc (.cells #[.pointer (some ⟨g,0,none⟩),.int .u32 x,.int .i64 (p.fac:Int)] 191)) W->Calls prog 49 #[.pointer (some ⟨Z.S.c,0,none⟩),.int .u32 h,.int .i64 0] W (Told W (.tuple #[.agg #[.int .i64 k0,.int .i64 a0,.int .i64 f0],.int .i64 no]))):=fun W hb=>MN.out W (HW.out W hb).1
 clear Ae hg NN ks MN;go_upto_region 4 with fail
 go_cut [11,12] from 16 to 34 (fun o nn wc=>∃b:Nat,o=.pointer (some ⟨b,0,none⟩)/\nn=.int .i64 no/\Below (w2.alloc (.cells #[.pointer (some ⟨g,0,none⟩),.int .u32 x,.int .i64 (p.fac:Int)] 191)).heap.size (w2.alloc (.cells #[.pointer (some ⟨g,0,none⟩),.int .u32 x,.int .i64 (p.fac:Int)] 191)) wc/\b<wc.heap.size/\wc.cell? ⟨b,0,none⟩=some (.int .i64 k0))
 case first =>
  generalize (w2.alloc (.cells #[.pointer (some ⟨g,0,none⟩),.int .u32 x,.int .i64 (p.fac:Int)] 191))=W3 at *
  clear HW Il DN BC D7 Fb;have cD:W3.drew.cell? ⟨Z.s,0,none⟩=some (.pointer (some ⟨Z.S.c,0,none⟩)):=c0;have qD:W3.drew.cell? ⟨w.heap.size,0,none⟩=some (.int .u32 h):=q0;have Mj:Hid (Calls prog 49 #[.pointer (some ⟨Z.S.c,0,none⟩),.int .u32 h,.int .i64 0] (W3.alloc (.cells #[.int .i64 0,.int .i64 0,.int .i64 0] 54)).drew fun r w4=>r=.returned (.tuple #[.agg #[.int .i64 k0,.int .i64 a0,.int .i64 f0],.int .i64 no])/\Below W3.heap.size W3 w4/\Cells w4 W3.heap.size 54 [.int .i64 0,.int .i64 0,.int .i64 0]):=
   (Om.out _ (C7.out _ (Below.refl _ _).drew _)).mono fun r w4 h=>⟨h.1,((C7.out _ (Below.refl _ _).drew _)).trans (h.2.mono (by simp)),(Cells.new W3 54 [.int .i64 0,.int .i64 0,.int .i64 0]).same (h.2.block _ (by simp))⟩
  have HD:Hid (Below W3.heap.size W3 W3.drew):=(Below.refl _ _).drew
  go_region_held3 (fun w'=>w'.cell? ⟨Z.s,0,none⟩=some (.pointer (some ⟨Z.S.c,0,none⟩))/\w'.cell? ⟨w.heap.size,0,none⟩=some (.int .u32 h))
   (first|exact⟨c0,q0⟩|exact⟨cD,qD⟩|exact HS.out _ (C7.out _ HD.out _)|exact HS.out _ Aj.out|exact HS.out _ (C7.out _ Aj.out _)|exact HS.out _ (Aj.out.setCell (by simp) _)|exact HS.out _ ((Aj.out.setCell (by simp) _).setCell (by simp) _)|exact HS.out _ (((Aj.out.setCell (by simp) _).setCell (by simp) _).setCell (by simp) _))
   (first|(go_at_call 49;refine Mj.out.mono ?_;rintro rv w4⟨rfl,AG,Cf⟩;have Aj:=Q0a AG;have z0:=Cf.cell 0 _ rfl;have z1:=Cf.cell 1 _ rfl;have z2:=Cf.cell 2 _ rfl;have y0:=Cf.free 0;have y1:=Cf.free 1;have y2:=Cf.free 2;have KZ:=Q0a Cf;clear AG Cf)|(go_at_call 49;refine(HK.out _ (by first|exact HD.out|exact C7.out _ HD.out _)).mono ?_;rintro rv w4⟨rfl,AG⟩;have Aj:=Q0a AG;clear AG))
  ·go_wp2_with fail;go_meet;exact⟨_,rfl,rfl,C7.out _ Aj.out _,by simp,(Cells.new w4 54 [.int .i64 k0,.int .i64 a0,.int .i64 f0]).cell 0 _ rfl⟩
  ·go_wp2_with fail;go_meet;exact⟨_,rfl,rfl,((Aj.out.setCell (by simp) _).setCell (by simp) _).setCell (by simp) _,by simpa using KZ.out.lt,(((KZ.out.set 0 (.int .i64 k0)).set 1 (.int .i64 a0)).set 2 (.int .i64 f0)).cell 0 _ rfl⟩
 obtain⟨bo,rfl,rfl,AG,Aa,Bp⟩:=hcut;have h5:=HW.out wc AG;obtain⟨Ay,NR,-,-,-,u0,u1,u2⟩:=h5;have kc:=Il.out _ g Ay NR;have FC:=Q0a Bp;have Aj:=Q0a AG;have Hc:Hid (∀W,Below wc.heap.size wc W->(Below w.heap.size w W/\TblZ Z p g W/\W.cell? ⟨Z.s,0,none⟩=some (.pointer (some ⟨Z.S.c,0,none⟩))/\W.cell? ⟨w.heap.size,0,none⟩=some (.int .u32 h)/\W.cell? ⟨w.heap.size,1,none⟩=some (.int .i64 r)/\W.cell? ⟨w2.heap.size,0,none⟩=some (.pointer (some ⟨g,0,none⟩))/\W.cell? ⟨w2.heap.size,1,none⟩=some (.int .u32 x)/\W.cell? ⟨w2.heap.size,2,none⟩=some (.int .i64 (p.fac:Int)))/\W.cell? ⟨bo,0,none⟩=some (.int .i64 k0)):=fun W hb=>⟨HW.out W (Aj.out.trans (hb.mono Aj.out.size)),(hb.cell (p:=⟨bo,0,none⟩) Aa).trans FC.out⟩
 clear AG Ay NR Aa Bp Il HW HS HK C7 Om c0 q0;go_wp2_with fail;refine kc.mono ?_;rintro rv w6⟨rfl,Ew⟩;go_wp2_with fail;generalize hW7:(w6.alloc (.cells #[.int .u32 ca,.int .i64 cb] 72))=w7;have Fj:Below wc.heap.size wc w7:=by rw[<- hW7];exact Ew.alloc Ew.size _
 have Dw:Hid (∀n,(Below w.heap.size w (w7.drewN n)/\TblZ Z p g (w7.drewN n)/\(w7.drewN n).cell? ⟨Z.s,0,none⟩=some (.pointer (some ⟨Z.S.c,0,none⟩))/\(w7.drewN n).cell? ⟨w.heap.size,0,none⟩=some (.int .u32 h)/\(w7.drewN n).cell? ⟨w.heap.size,1,none⟩=some (.int .i64 r)/\(w7.drewN n).cell? ⟨w2.heap.size,0,none⟩=some (.pointer (some ⟨g,0,none⟩))/\(w7.drewN n).cell? ⟨w2.heap.size,1,none⟩=some (.int .u32 x)/\(w7.drewN n).cell? ⟨w2.heap.size,2,none⟩=some (.int .i64 (p.fac:Int)))/\(w7.drewN n).cell? ⟨bo,0,none⟩=some (.int .i64 k0)):=fun n=>Hc.out _ (Q1f Fj n)
 have CJ:Hid (Below w.heap.size w w7):=(Dw.out 0).1.1;have q1:w7.cell? ⟨w.heap.size,1,none⟩=some (.int .i64 r):=(Dw.out 0).1.2.2.2.2.1;have k8:w7.cell? ⟨bo,0,none⟩=some (.int .i64 k0):=(Dw.out 0).2;have Ch:Hid (∀n,Calls prog 106 #[.int .i64 r] (w7.drewN n) fun e w''=>e=.returned (.bool br)/\∃m,w''=w7.drewN m):=fun n=>(D7.out _).mono fun e w' h=>⟨h.1,n,h.2.symm⟩
 have IH:Hid (∀n,Calls prog 96 #[.int .i64 z] (w7.drewN n) fun e w''=>e=.returned (.bool bc)/\∃m,w''=w7.drewN m):=fun n=>(Fb.out _).mono fun e w' h=>⟨h.1,n,h.2.symm⟩
 have kh:=BC.out w7;clear hW7 Fj Ew kc u0 u1 u2 Hc D7 Fb BC Aj FC;rcases DN.out with ⟨er,hT,hQ⟩|⟨rfl,rfl,rfl,AL,rfl,hl⟩
 ·have HQ:=Q0a hQ;clear hQ DN;rcases hT with ⟨rfl,rfl⟩|⟨rfl,rfl,rfl⟩|⟨rfl,rfl,rfl,rfl⟩|⟨rfl,rfl,rfl,AL,rfl⟩|⟨rfl,rfl,rfl,AL,rfl,rfl⟩
  ·refine kh.mono ?_;rintro rv w'⟨rfl,rfl⟩;go_wp2_with fail
   (try go_ret);exact⟨_,rfl,HQ.out _ CJ.out⟩
  ·refine kh.mono ?_;rintro rv w'⟨rfl,rfl⟩;go_wp2_with fail
   (try go_ret);exact⟨_,rfl,HQ.out _ CJ.out⟩
  ·refine kh.mono ?_;rintro rv w'⟨rfl,rfl⟩;go_wp2_with fail
   go_quiet ((go_at_call 106;exact Ch.out _))
   go_wp2_with fail
   (try go_ret);exact⟨_,rfl,HQ.out _ (Dw.out _).1.1⟩
  ·have hc:=Z3r AL;clear AL;rcases hc with ⟨rfl,rfl⟩|⟨rfl,OL,Nm⟩
   ·refine kh.mono ?_;rintro rv w'⟨rfl,rfl⟩;go_wp2_with fail
    go_quiet (first|(go_at_call 106;exact Ch.out _)|(go_at_call 96;exact IH.out _))
    go_wp2_with fail
    (try go_ret);exact⟨_,rfl,HQ.out _ (Dw.out _).1.1⟩
   ·refine kh.mono ?_;rintro rv w'⟨rfl,rfl⟩;go_wp2_with fail
    go_quiet (first|(go_at_call 106;exact Ch.out _)|(go_at_call 96;exact IH.out _))
    go_wp2_with fail
    (try go_ret);exact⟨_,rfl,HQ.out _ (Dw.out _).1.1⟩
  ·have hc:=Q7I AL;clear AL;rcases hc with ⟨rfl,OL,Nm⟩|⟨rfl,rfl⟩
   ·refine kh.mono ?_;rintro rv w'⟨rfl,rfl⟩;go_wp2_with fail
    go_quiet (first|(go_at_call 106;exact Ch.out _)|(go_at_call 96;exact IH.out _))
    go_wp2_with fail
    (try go_ret);exact⟨_,rfl,HQ.out _ (Dw.out _).1.1⟩
   ·refine kh.mono ?_;rintro rv w'⟨rfl,rfl⟩;go_wp2_with fail
    go_quiet (first|(go_at_call 106;exact Ch.out _)|(go_at_call 96;exact IH.out _))
    go_wp2_with fail
    (try go_ret);exact⟨_,rfl,HQ.out _ (Dw.out _).1.1⟩
 ·have Iz:=Q0a (fun n=>hl (w7.drewN n) g (Dw.out n).1.1 (Dw.out n).1.2.1);obtain⟨⟨-,-,-,q0,-,v0,v1,v2⟩,-⟩:=Dw.out 0;have q0:w7.cell? ⟨w.heap.size,0,none⟩=some (.int .u32 h):=q0;have v0:w7.cell? ⟨w2.heap.size,0,none⟩=some (.pointer (some ⟨g,0,none⟩)):=v0;have v1:w7.cell? ⟨w2.heap.size,1,none⟩=some (.int .u32 x):=v1;have v2:w7.cell? ⟨w2.heap.size,2,none⟩=some (.int .i64 (p.fac:Int)):=v2;clear hl DN;have hc:=Q7I AL;clear AL;rcases hc with ⟨rfl,OL,Nm⟩|⟨rfl,rfl⟩
  ·refine kh.mono ?_;rintro rv w'⟨rfl,rfl⟩;go_wp2_with fail
   go_quiet (first|(go_at_call 106;exact Ch.out _)|(go_at_call 96;exact IH.out _))
   go_wp2_with fail;refine(Iz.out _).mono ?_;rintro rv w5⟨er,rfl,⟨Ab,hq⟩|⟨rfl,PS,B9⟩⟩
   ·have BK:(er != 0)=true:=by simp[Ab]
    have HQ:=Q0a hq;clear hq;go_wp2_with fail
    (try go_ret);exact⟨_,rfl,HQ.out⟩
   ·have Ef:=Q0a B9;clear B9;go_wp2_with fail;refine Ef.out.mono ?_;rintro rv w8⟨⟨ra,rb,rfl⟩,hq⟩;have HQ:=Q0a hq;clear hq;go_wp2_with fail
    (try go_ret);exact⟨_,rfl,HQ.out⟩
  ·refine kh.mono ?_;rintro rv w'⟨rfl,rfl⟩;go_wp2_with fail
   go_quiet (first|(go_at_call 106;exact Ch.out _)|(go_at_call 96;exact IH.out _))
   go_wp2_with fail;refine(Iz.out _).mono ?_;rintro rv w5⟨er,rfl,⟨Ab,hq⟩|⟨rfl,PS,B9⟩⟩
   ·have BK:(er != 0)=true:=by simp[Ab]
    have HQ:=Q0a hq;clear hq;go_wp2_with fail
    (try go_ret);exact⟨_,rfl,HQ.out⟩
   ·have Ef:=Q0a B9;clear B9;go_wp2_with fail;refine Ef.out.mono ?_;rintro rv w8⟨⟨ra,rb,rfl⟩,hq⟩;have HQ:=Q0a hq;clear hq;go_wp2_with fail
    (try go_ret);exact⟨_,rfl,HQ.out⟩
theorem Z3s{l:List Pl}(lok:LOk l){s h:Nat}{q:Pl}(hq:pget l s h=some q):h<4294967295:=by
 have h1:=pget_some.1 hq;have h2:=lok.2 q (Q1i hq);have:nm (h%256) q=h:=h1.2.1;unfold nm at this;omega
theorem Q5Y{w:World}{s x h:Nat}{z r e:Int}(he:e≠0)(hS:Calls prog 90 #[.pointer (some ⟨s,0,none⟩),.int .u32 x] (w.alloc (.cells #[.int .u32 h,.int .i64 r] 72)) (Told (w.alloc (.cells #[.int .u32 h,.int .i64 r] 72)) (.tuple #[.agg #[.pointer none,.int .u32 0,.int .i64 0],.int .i64 e]))) :
  Calls prog 41 #[.pointer (some ⟨s,0,none⟩),.int .u32 x,.int .i64 z,.agg #[.int .u32 h,.int .i64 r]] w (Told w (.int .i64 e)):=by
 have GC:(e != 0)=true:=by simpa using he
 have HB:Hid (∀w1,Below (w.alloc (.cells #[.int .u32 h,.int .i64 r] 72)).heap.size (w.alloc (.cells #[.int .u32 h,.int .i64 r] 72)) w1->∀o,Below w.heap.size w (w1.alloc o)):=fun w1 hb o=>(Q0b hb).alloc (Q0b hb).size o
 go_enter func41,ntmps41;go_wp2_with fail;refine hS.mono ?_;rintro rv w1⟨rfl,hb⟩;have HW:=Q0a (HB.out w1 hb);clear hb HB hS;go_wp2_with fail
 (try go_ret);exact⟨rfl,HW.out _⟩
theorem Q7J{w:World}{Z:SP}{fr:List Nat}{N K:Nat}{M:Int}(hs:Sep w Z.hl)(ok:Z.Ok fr N K M)(hM:M+1<1099511627776){x h:Nat}(hx:x<4294967296)(hh:h<4294967296)(z r:Int) :
  Calls prog 41 #[.pointer (some ⟨Z.s,0,none⟩),.int .u32 x,.int .i64 z,.agg #[.int .u32 h,.int .i64 r]] w fun rv w'=>∃er:Int,rv=.returned (.int .i64 er)/\RootR Z fr N K M x z h r w er w':=by
 have s1:=(hs.grown ((Below.refl w.heap.size w).alloc (Z9s _) (.cells #[.int .u32 h,.int .i64 r] 72))).sep;cases hp:pget Z.S.l 1 x with
 | none =>
  refine(Q5Y (e:=8) (by decide) (Q1r s1 ok.core hx 8 (.inl ⟨hp,rfl⟩))).mono ?_;rintro rv w'⟨rfl,hb⟩;exact⟨_,rfl,.inl ⟨by decide,.inl ⟨hp,rfl⟩,hb⟩⟩
 | some p =>
  by_cases hk:p.kind=2
  case neg =>
   refine(Q5Y (e:=10) (by decide) (Q1r s1 ok.core hx 10 (.inr ⟨p,hp,hk,rfl⟩))).mono ?_;rintro rv w'⟨rfl,hb⟩;exact⟨_,rfl,.inl ⟨by decide,.inr ⟨p,hp,.inl ⟨hk,rfl⟩⟩,hb⟩⟩
  clear s1;cases hq:pget Z.S.l 1 h with
  | none =>
   refine Q5X hs ok hx hh hp hk z r (k0:=0) (a0:=0) (f0:=0) (no:=8) (fun W hb=>Q3E (SP.sS (hs.grown hb).sep) ok.core.inv.lok hh 0 hq) (.inl ?_);by_cases hz:0<=z/\z<256
   ·exact⟨8,.inr (.inl ⟨by simpa using hz,rfl,rfl⟩),fun W hb=>.inl ⟨by decide,.inr ⟨p,hp,.inr ⟨hk,.inr ⟨hz,.inl ⟨hq,rfl⟩⟩⟩⟩,hb⟩⟩
   ·exact⟨2,.inl ⟨decide_eq_false hz,rfl⟩,fun W hb=>.inl ⟨by decide,.inr ⟨p,hp,.inr ⟨hk,.inl ⟨hz,rfl⟩⟩⟩,hb⟩⟩
  | some q =>
   refine Q5X hs ok hx hh hp hk z r (k0:=(q.kind:Int)) (a0:=(q.at_:Int)) (f0:=(q.fac:Int)) (no:=0) (fun W hb=>Q2S (SP.sS (hs.grown hb).sep) ok.core.inv.lok hh 0 hq (.inl rfl)) ?_;by_cases hz:0<=z/\z<256
   case neg=>exact .inl ⟨2,.inl ⟨decide_eq_false hz,rfl⟩,fun W hb=>.inl ⟨by decide,.inr ⟨p,hp,.inr ⟨hk,.inl ⟨hz,rfl⟩⟩⟩,hb⟩⟩
   have KI:decide (0<=z/\z<256)=true:=decide_eq_true hz;by_cases hr:0<r/\r<=15
   case neg=>exact .inl ⟨1,.inr (.inr (.inl ⟨KI,rfl,decide_eq_false hr,rfl⟩)),fun W hb=>.inl ⟨by decide,.inr ⟨p,hp,.inr ⟨hk,.inr ⟨hz,.inr ⟨q,hq,.inl ⟨fun hc=>hr hc.1,rfl⟩⟩⟩⟩⟩,hb⟩⟩
   have LF:decide (0<r/\r<=15)=true:=decide_eq_true hr;by_cases hm:(q.kind=8↔128<=z)
   case neg =>
    refine .inl ⟨1,.inr (.inr (.inr (.inl ⟨KI,rfl,LF,?_,rfl⟩))),fun W hb=>.inl ⟨by decide,.inr ⟨p,hp,.inr ⟨hk,.inr ⟨hz,.inr ⟨q,hq,.inl ⟨fun hc=>hm hc.2,rfl⟩⟩⟩⟩⟩,hb⟩⟩;by_cases h8:q.kind=8
    ·have h9:z<128:=by have:¬128<=z:=fun h=>hm ⟨fun _=>h,fun _=>h8⟩;omega
     simp[h8,h9]
    ·have h9:¬z<128:=by intro h;exact hm ⟨fun h'=>absurd h' h8,fun h'=>by omega⟩
     have KK:¬(q.kind:Int)=8:=by omega
     simp[h9,KK]
   have Ga:(decide (z<128)==((q.kind:Int)==8))=false:=by
    by_cases h8:q.kind=8
    ·have h9:¬z<128:=by have:=hm.1 h8;omega
     simp[h8,h9]
    ·have h9:z<128:=by have:¬128<=z:=fun h=>h8 (hm.2 h);omega
     have KK:¬(q.kind:Int)=8:=by omega
     simp[h9,KK]
   obtain⟨s,rfl⟩:∃s:Nat,z=(s:Int):=⟨z.toNat,by omega⟩
   obtain⟨rn,rfl⟩:∃rn:Nat,r=(rn:Int):=⟨r.toNat,by omega⟩
   have Bi:s<256:=by omega
   have BL:(Z.tb (x%256)).at' (s:Int)=Q0k Z.S.l Z.tb x s:=by
    unfold TB.at';rw[if_pos hz,Q0m hp hk (by omega)];rfl
   cases h0:Q0k Z.S.l Z.tb x s with
   | some e0 =>
    refine .inl ⟨7,.inr (.inr (.inr (.inr ⟨KI,rfl,LF,Ga,by rw[BL,h0];rfl,rfl⟩))),fun W hb=>.inl ⟨by decide,.inr ⟨p,hp,.inr ⟨hk,.inr ⟨hz,.inr ⟨q,hq,.inr ⟨⟨hr,hm⟩,?_,rfl⟩⟩⟩⟩⟩,hb⟩⟩;rw[J0o,h0];exact Option.some_ne_none _
   | none =>
    refine .inr ⟨KI,rfl,LF,Ga,by rw[BL,h0];rfl,fun W g hb hg=>?_⟩;have hi:=(pget_some.1 hp).1;have Av:=(pget_some.1 hp).2.2;have Dd:(Z.tb (x%256)).en s=none:=by rw[<- Q0m hp hk Bi];exact h0
    have Bz:(q.kind=8↔128<=s):=by rw[hm];omega
    have AI:h<4294967295:=Z3s ok.core.inv.lok hq;refine(Q9w (hs.grown hb).sep ok.core ok.tpi (x:=x) hi Av hk Bi Dd AI (by omega:rn<16) hg).mono ?_;rintro rv w5⟨er,rfl,⟨rfl,nd,S',t',T,st⟩|⟨he,Fi,P',tr,st⟩⟩
    ·have Bd:Q7v Z.S.l s ⟨h,rn,nd⟩:=⟨⟨q,hq,Bz⟩,by dsimp only;omega⟩
     obtain⟨c1,k⟩:=Z5L ok hM hx hp hk Bi h0 Bd T ((hs.grown hb).trans st) (par:=0) (.inl rfl) (Below.refl _ _);refine⟨0,rfl,.inr ⟨rfl,c1,k.mono ?_⟩⟩;rintro rv w'⟨rfl,PZ⟩;exact⟨⟨_,_,rfl⟩,.inr ⟨s,rn,p,q,rfl,rfl,Bi,by omega,by omega,hp,hk,hq,Bz,h0,.inl ⟨rfl,PZ⟩⟩⟩
    ·exact⟨er,rfl,.inl ⟨by omega,.inr ⟨s,rn,p,q,rfl,rfl,Bi,by omega,by omega,hp,hk,hq,Bz,h0,.inr ⟨he,Fi,P',tr,(hs.grown hb).trans st⟩⟩⟩⟩
section
variable {Z:SP} {fr fr':List Nat} {N K:Nat} {M:Int}
end
end Go.Proofs.YtfidemmgofcnmaaGreatDoor
namespace Go.Proofs.YtfidemmgofcnmaaGreatDoor
open Go.ChangeShapes Go.WideShapes Go.ChangeAt Go.RowKit Go.Deep Go.Proofs.Tryz
theorem Q8y{w:World}{x:Addr}{v:Value}(h:w.cell? x=some v):x=⟨x.block,x.off,none⟩:=by
 obtain⟨b,o,s⟩:=x;cases s with
 | none=>rfl
 | some s =>
  exfalso;unfold World.cell? at h;split at h <;> simp at h
theorem Z0N(b o j:Nat):(⟨b,o,none⟩:Addr).add j=⟨b,o+j,none⟩:=by
 unfold Addr.add;split
 ·rename_i h;simp
 ·rfl
abbrev I64(x:Int):Prop:=-9223372036854775808<=x/\x<=9223372036854775807
structure Mv where
 src:Int
 dst:Int
 r:Int
 g:Bool
def Mv.cells(x:Mv):List Value:=[.int .i64 x.src,.int .i64 x.dst,.int .i64 x.r,.bool x.g]
structure Mv.Wf(x:Mv):Prop where
 src:I64 x.src
 dst:I64 x.dst
 r:I64 x.r
structure It where
 base:Int
 order:Int
 r:Int
 off:Int
 g:Bool
def It.cells(x:It):List Value:=[.int .i64 x.base,.int .i64 x.order,.int .i64 x.r,.int .i64 x.off,.bool x.g]
structure It.Wf(x:It):Prop where
 base:I64 x.base
 order:I64 x.order
 r:I64 x.r
 off:I64 x.off
structure Wi where
 base:Int
 order:Int
def Wi.cells(x:Wi):List Value:=[.int .i64 x.base,.int .i64 x.order]
structure Wi.Wf(x:Wi):Prop where
 base:I64 x.base
 order:I64 x.order
def IsMv(w:World)(a0:Option Addr)(len:Nat)(A:Nat->Mv):Prop:=∀j,j<len->∃g off,a0=some ⟨g,off,none⟩/\g<w.heap.size/\(∀(i:Nat) (v:Value),(A j).cells[i]?=some v->w.cell? ⟨g,off+j*4+i,none⟩=some v)/\(A j).Wf
theorem IsMv.below{w w':World}{a0:Option Addr}{len:Nat}{A:Nat->Mv}(h:IsMv w a0 len A)(hb:Below w.heap.size w w'):IsMv w' a0 len A:=by
 intro j hj;obtain⟨g,off,h1,h2,h3,h4⟩:=h j hj;have e:=hb.block g h2;exact⟨g,off,h1,Z9u h2 hb.size,fun i v hv=>(World.cell?_of_block (w:=w) e).trans (h3 i v hv),h4⟩
end Go.Proofs.YtfidemmgofcnmaaGreatDoor
namespace Go.Proofs.YtfidemmgofcnmaaGreatDoor
open Go.RowKit Go.Proofs.Tryz
def Mv.clash(o m:Mv):Bool:=(o.dst==m.dst)||((o.src==m.src)&&(o.g||m.g))
def Mv.agg(m:Mv):Value:=.agg #[.int .i64 m.src,.int .i64 m.dst,.int .i64 m.r,.bool m.g]
theorem Z3t(w:World)(o m:Mv)(b:Nat)(hb:b<w.heap.size)(h0:w.cell? ⟨b,0,none⟩=some (.int .i64 m.src))(h1:w.cell? ⟨b,1,none⟩=some (.int .i64 m.dst))(h3:w.cell? ⟨b,3,none⟩=some (.bool m.g)) :
  Calls prog 172 #[o.agg,.pointer (some ⟨b,0,none⟩)] w (Told w (.bool (o.clash m))):=by
 obtain⟨os,od,orr,og⟩:=o;obtain⟨ms,md,mr,mg⟩:=m;unfold Mv.clash Mv.agg;dsimp only at *
 have Ab:b≠w.heap.size:=by omega
 have HB:Hid (∀o,Below w.heap.size w (w.alloc o)):=fun o=>(Below.refl _ _).alloc (Z9s _) o
 have b1:Below w.heap.size w (w.alloc (.cells #[.int .i64 os,.int .i64 od,.int .i64 orr,.bool og] 90)):=HB.out _;have g0:=(b1.cell (p:=⟨b,0,none⟩) hb).trans h0;have g1:=(b1.cell (p:=⟨b,1,none⟩) hb).trans h1;have g3:=(b1.cell (p:=⟨b,3,none⟩) hb).trans h3;clear b1 h0 h1 h3 hb;by_cases e1:od=md
 ·have v1:(od==md)=true:=by simpa using e1
  rw[v1];simp only[Bool.true_or];clear e1;go_enter func172,ntmps172;go_wp2_with fail
  (try go_ret);exact⟨rfl,HB.out _⟩
 ·have v1:(od==md)=false:=by simpa using e1
  have d1:decide (od=md)=false:=decide_eq_false e1;rw[v1];simp only[J2r];by_cases e2:os=ms
  ·have v2:(os==ms)=true:=by simpa using e2
   rw[v2];simp only[J0z];clear e2;cases og
   ·go_enter func172,ntmps172;go_wp2_with fail
    (try go_ret);exact⟨rfl,HB.out _⟩
   ·go_enter func172,ntmps172;go_wp2_with fail
    (try go_ret);exact⟨rfl,HB.out _⟩
  ·have v2:(os==ms)=false:=by simpa using e2
   have d2:decide (os=ms)=false:=decide_eq_false e2;rw[v2];simp only[J3u];go_enter func172,ntmps172;go_wp2_with fail
   (try go_ret);exact⟨rfl,HB.out _⟩
def Z0O(b:Nat):Value:=.func (.func 172) #[] #[.pointer (some ⟨b,0,none⟩)]
def Q9z(w:World)(n:Nat)(A:Nat->Mv)(m:Mv)(e:Ending)(w':World):Prop:=Below w.heap.size w w'/\((∃k:Nat,k<n/\e=.returned (.int .i64 k)/\(A k).clash m=true)∨(e=.returned (.int .i64 (-1))/\∀j,j<n->(A j).clash m=false))
theorem Z0P{w:World}{a0:Option Addr}{len:Nat}{A:Nat->Mv}(h:IsMv w a0 len A){n:Nat}(cap:Nat)(hn:n<=len)(hm:n<=4611686018427387904)(m:Mv)(b:Nat)(hb:b<w.heap.size)(h0:w.cell? ⟨b,0,none⟩=some (.int .i64 m.src))(h1:w.cell? ⟨b,1,none⟩=some (.int .i64 m.dst))(h3:w.cell? ⟨b,3,none⟩=some (.bool m.g)) :
  Calls prog 214 #[.slice a0 n cap,Z0O b] w (Q9z w n A m):=by
 have HP:Hid (∀k wr,k<n->Below w.heap.size w wr->∃g off,a0=some ⟨g,off,none⟩/\wr.cell? ⟨g,off+k*4,none⟩=some (.int .i64 (A k).src)/\wr.cell? ⟨g,off+k*4+1,none⟩=some (.int .i64 (A k).dst)/\wr.cell? ⟨g,off+k*4+2,none⟩=some (.int .i64 (A k).r)/\wr.cell? ⟨g,off+k*4+3,none⟩=some (.bool (A k).g) /\
   Calls prog 172 #[.agg #[.int .i64 (A k).src,.int .i64 (A k).dst,.int .i64 (A k).r,.bool (A k).g],.pointer (some ⟨b,0,none⟩)] wr fun r w'=>r=.returned (.bool ((A k).clash m))/\Below w.heap.size w w'):=fun k wr hk Bb=>by
  obtain⟨g,off,e,_,hc,_⟩:=IsMv.below h Bb k (by omega);exact⟨g,off,e,hc 0 _ rfl,hc 1 _ rfl,hc 2 _ rfl,hc 3 _ rfl,(Z3t wr (A k) m b (Z9u hb Bb.size) ((Bb.cell (p:=⟨b,0,none⟩) hb).trans h0) ((Bb.cell (p:=⟨b,1,none⟩) hb).trans h1) ((Bb.cell (p:=⟨b,3,none⟩) hb).trans h3)).mono fun r w' q=>⟨q.1,Bb.trans (q.2.mono Bb.size)⟩⟩
 have IF:Hid (∀k w',k<n->Below w.heap.size w w'->(A k).clash m=true->Q9z w n A m (.returned (.int .i64 k)) w'):=fun k w' hk Al hc=>⟨Al,.inl ⟨k,hk,rfl,hc⟩⟩
 have CT:Hid (∀w',Below w.heap.size w w'->(∀j,j<n->(A j).clash m=false)->Q9z w n A m (.returned (.int .i64 (-1))) w'):=fun w' Al hc=>⟨Al,.inr ⟨rfl,hc⟩⟩
 clear h h0 h1 h3 hb hn;generalize Q9z w n A m=Q at *
 unfold Z0O;go_enter func214,ntmps214;go_wp2_with fail
 go_loopw [5,8] (fun _ i wr=>∃k:Nat,k<=n/\i=.int .i64 k/\(∀j,j<k->(A j).clash m=false)/\Below w.heap.size w wr) (fun _ i _=>n-(intOf i).toNat)
 case atStart=>exact⟨0,J1l _,rfl,by intro j hj;omega,Below.refl _ _⟩
 case round =>
  obtain⟨k,hk,rfl,Ar,Bb⟩:=hrel;have Hp:=Q0a Ar;have HB:=Q0a Bb;clear Ar Bb;by_cases Aa:k<n
  ·obtain⟨g,off,rfl,c0,c1,c2,c3,AH⟩:=HP.out k wr Aa HB.out;have HC:=Q0a AH;clear AH;cases hv:(A k).clash m with
   | true =>
    have HV:=Q0a hv;rw[hv] at HC;clear hv;go_wp2_with (go_at_call 172;refine HC.out.mono ?_;rintro e w'⟨rfl,Al⟩)
    (try go_ret);exact IF.out k _ Aa Al HV.out
   | false =>
    have HV:=Q0a hv;rw[hv] at HC;clear hv;go_wp2_with (go_at_call 172;refine HC.out.mono ?_;rintro e w'⟨rfl,Al⟩);go_roundw
    case rel =>
     refine⟨k+1,by omega,by go_num,fun j hj=>?_,Al⟩;by_cases e:j=k
     ·rw[e];exact HV.out
     ·exact Hp.out j (by omega)
    case measure=>simp[intOf];omega
  ·obtain rfl:k=n:=by omega
   clear HP;go_wp2_with fail
   (try go_ret);exact CT.out _ HB.out Hp.out
def Q0U(A:Nat->Mv)(n:Nat)(m:Mv):Bool:=(List.range n).any fun k=>(A k).clash m
theorem Q6I{w:World}{a0:Option Addr}{len:Nat}{A:Nat->Mv}(h:IsMv w a0 len A){n:Nat}(cap:Nat)(hn:n<=len)(hm:n<=4611686018427387904)(m:Mv)(b:Nat)(hb:b<w.heap.size)(h0:w.cell? ⟨b,0,none⟩=some (.int .i64 m.src))(h1:w.cell? ⟨b,1,none⟩=some (.int .i64 m.dst))(h3:w.cell? ⟨b,3,none⟩=some (.bool m.g)) :
  Calls prog 171 #[.slice a0 n cap,Z0O b] w (Told w (.bool (Q0U A n m))):=by
 have ki:=Z0P h cap hn hm m b hb h0 h1 h3;clear h h0 h1 h3 hb hn hm;unfold Z0O at *
 go_enter func171,ntmps171;go_wp2_with fail;refine ki.mono ?_;rintro e w'⟨Al,⟨k,hk,rfl,hc⟩|⟨rfl,hc⟩⟩
 ·have hv:Q0U A n m=true:=List.any_eq_true.2 ⟨k,Z9I.2 hk,hc⟩;have HR:Hid (Told w (.bool (Q0U A n m)) (.returned (.bool true)) w'):=⟨by rw[hv],Al⟩
  have Bp:(0:Int)<=(k:Int):=by omega
  clear hv hc Al;generalize Q0U A n m=v at *
  go_wp2_with fail
  (try go_ret);exact HR.out
 ·have hv:Q0U A n m=false:=J3v.2 fun k hk=>by simp[hc k (List.mem_range.1 hk)]
  have HR:Hid (Told w (.bool (Q0U A n m)) (.returned (.bool false)) w'):=⟨by rw[hv],Al⟩
  clear hv hc Al;generalize Q0U A n m=v at *
  go_wp2_with fail
  (try go_ret);exact HR.out
end Go.Proofs.YtfidemmgofcnmaaGreatDoor

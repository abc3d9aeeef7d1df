/- SpaceRights returns true at every input. No condition. Part of its proof. -/
import Derived.Test.YtlakjlmaboioiaaGreatDoorSr01
import Derived.Test.YtlakjlmaboioiaaGreatDoorSr18
import Derived.Deep.CutRange
import Derived.Deep.QuietTactic
import Derived.BigQuiet
set_option maxHeartbeats 8000000
set_option maxRecDepth 100000
set_option linter.unusedVariables false
namespace Go.Proofs.YtlakjlmaboioiaaGreatDoor
open Go.RowKit Go.Proofs.Tryz
theorem Q3H (o:Option Ent):∃(a b:Int),capV o=.tuple #[.agg #[.int .u32 a,.int .i64 b],.bool o.isSome]:=by
 cases o with
 | none=>exact⟨0,0,rfl⟩
 | some e=>exact⟨_,_,rfl⟩
theorem Q5l {w:World} {Z:SP} {fr:List Nat} {N K:Nat} (hs:Sep w Z.hl) (ok:Z.S.Ok fr N K) {x:Nat} (hx:x<4294967296) (z mask:Int) (self:Bool) (e:Int) (he:e≠0) (hw:(pget Z.S.l 1 x=none/\e=8)∨∃p,pget Z.S.l 1 x=some p/\p.kind≠2/\e=10) :
  Calls prog 20 #[.pointer (some ⟨Z.s,0,none⟩),.int .u32 x,.int .i64 z,.int .i64 mask,.bool self] w (Told w (.tuple #[.int .i64 0,.int .i64 e])):=by
 have ks:=Q0I hs ok hx e hw;have hnb:(e==0)=false:=by simpa using he
 have HC:Hid (∀w1,Below w.heap.size w w1->∀o,Below w.heap.size w (w1.alloc o)):=fun w1 hb o=>hb.alloc hb.size o
 clear hs ok hx hw;go_enter func20,ntmps20;go_wp2_with fail;refine ks.mono ?_;rintro r w1 ⟨rfl,hb1⟩;have HQ:=Q0a (HC.out w1 hb1);clear hb1 HC ks;go_wp2_with fail
 first|exact⟨rfl,HQ.out _⟩|(go_ret2;exact⟨rfl,HQ.out _⟩)
theorem Q4e {w:World} {Z:SP} {fr:List Nat} {N K:Nat} {M:Int} (hs:Sep w Z.hl) (ok:Z.Ok fr N K M) {x:Nat} (hx:x<4294967296) {p:Pl} (hp:pget Z.S.l 1 x=some p) (hk:p.kind=2) (z mask:Int) (self:Bool) (e:Int)
  (hw:(¬(0<=z/\z<256)/\e=2)∨((0<=z/\z<256)/\¬(0<mask/\mask<=15)/\e=1)∨((0<=z/\z<256)/\(0<mask/\mask<=15)/\Q0f Z.S.l Z.tb x z.toNat=none/\e=6)) :
  Calls prog 20 #[.pointer (some ⟨Z.s,0,none⟩),.int .u32 x,.int .i64 z,.int .i64 mask,.bool self] w (Told w (.tuple #[.int .i64 0,.int .i64 e])):=by
 have ks:=Q0T hs ok.core hx hp hk;have hi:=(pget_some.1 hp).1;have hst:=(pget_some.1 hp).2.2;have hat:(Z.tb (x%256)).at' z=if 0<=z/\z<256 then Q0f Z.S.l Z.tb x z.toNat else none:=by
  unfold TB.at';split
  ·rename_i h;rw [Q0g hp hk (by omega)]
  ·rfl
 obtain⟨ca,cb,hcv⟩:=Q3H ((Z.tb (x%256)).at' z);have HC:Hid (∀(w2:World) (g:Nat),Below w.heap.size w w2->TblZ Z p g w2->Calls prog 74 #[.agg #[.pointer (some ⟨g,0,none⟩),.int .u32 x,.int .i64 (p.fac:Int)],.int .i64 z] (w2.alloc (.cells #[.pointer (some ⟨g,0,none⟩),.int .u32 x,.int .i64 (p.fac:Int)] 155)) (fun r w4=>r=.returned (.tuple #[.agg #[.int .u32 ca,.int .i64 cb],.bool ((Z.tb (x%256)).at' z).isSome])/\∀o,Below w.heap.size w (w4.alloc o))):=fun w2 g hb2 hg=>by
  have hb3:Below w2.heap.size w2 (w2.alloc (.cells #[.pointer (some ⟨g,0,none⟩),.int .u32 x,.int .i64 (p.fac:Int)] 155)):=(Below.refl _ _).alloc (J1x _) _;have hb3':=hb2.alloc hb2.size (.cells #[.pointer (some ⟨g,0,none⟩),.int .u32 x,.int .i64 (p.fac:Int)] 155);have s2:=(hs.grown hb2).sep;have T:=(ok.tpi.x (p.fac:Int)).tt ok.core hi hst hk (SP.sS (s2.grown hb3).sep) (hg.grown s2 hb3).c;refine (Q1t T (x:Int) (p.fac:Int) z fun e he'=>?_).mono ?_
  ·rw [hat] at he';split at he'
   ·exact ok.fpi.low ok.core.inv.lok he'
   ·cases he'
  ·rw [hcv];rintro r w4 ⟨rfl,hb4⟩;have hb4':Below w.heap.size w w4:=hb3'.trans (hb4.mono hb3'.size);exact⟨rfl,fun o=>hb4'.alloc hb4'.size o⟩
 have hcase:(decide (0<=z/\z<256)=false/\e=2)∨(decide (0<=z/\z<256)=true/\decide (0<mask/\mask<=15)=false/\e=1)∨(decide (0<=z/\z<256)=true/\decide (0<mask/\mask<=15)=true/\((Z.tb (x%256)).at' z).isSome=false/\e=6):=by
  rcases hw with ⟨h1,h2⟩|⟨h1,h2,h3⟩|⟨h1,h2,h3,h4⟩
  ·exact .inl ⟨decide_eq_false h1,h2⟩
  ·exact .inr (.inl ⟨decide_eq_true h1,decide_eq_false h2,h3⟩)
  ·exact .inr (.inr ⟨decide_eq_true h1,decide_eq_true h2,by rw [hat,if_pos h1,h3];rfl,h4⟩)
 have HHas:Hid (∀W,Calls prog 75 #[.int .i64 z] W fun r w'=>r=.returned (.bool (decide (0<=z/\z<256)))/\W=w'):=fun W=>Q2P W z
 have HRight:Hid (∀W,Calls prog 76 #[.int .i64 mask] W fun r w'=>r=.returned (.bool (decide (0<mask/\mask<=15)))/\W=w'):=fun W=>Q3G W mask
 generalize ((Z.tb (x%256)).at' z).isSome=full at *
 generalize decide (0<=z/\z<256)=bh at *
 generalize decide (0<mask/\mask<=15)=br at *
 clear hs ok hx hp hk hw hi hst hat hcv;rcases hcase with ⟨rfl,rfl⟩|⟨rfl,rfl,rfl⟩|⟨rfl,rfl,rfl,rfl⟩
 ·go_enter func20,ntmps20;go_wp2_with fail;refine ks.mono ?_;rintro r w2 ⟨g,rfl,hb2,hg⟩;have kc:=HC.out w2 g hb2 hg;clear hb2 hg HC ks;go_wp2_with fail;refine kc.mono ?_;rintro r w4 ⟨rfl,hz⟩;have HZ:=Q0a (hz (.cells #[.int .u32 ca,.int .i64 cb] 35));have kh:=HHas.out (w4.alloc (.cells #[.int .u32 ca,.int .i64 cb] 35));clear hz kc HHas HRight;go_wp2_with fail;refine kh.mono ?_;rintro r w' ⟨rfl,rfl⟩;go_wp2_with fail
  first|exact⟨rfl,HZ.out⟩|(go_ret2;exact⟨rfl,HZ.out⟩)
 ·go_enter func20,ntmps20;go_wp2_with fail;refine ks.mono ?_;rintro r w2 ⟨g,rfl,hb2,hg⟩;have kc:=HC.out w2 g hb2 hg;clear hb2 hg HC ks;go_wp2_with fail;refine kc.mono ?_;rintro r w4 ⟨rfl,hz⟩;have HZ:=Q0a (hz (.cells #[.int .u32 ca,.int .i64 cb] 35));have kh:=HHas.out (w4.alloc (.cells #[.int .u32 ca,.int .i64 cb] 35));have kr:=HRight.out (w4.alloc (.cells #[.int .u32 ca,.int .i64 cb] 35));clear hz kc HHas HRight;go_wp2_with fail;refine kh.mono ?_;rintro r w' ⟨rfl,rfl⟩;go_wp2_with fail;refine kr.mono ?_;rintro r w' ⟨rfl,rfl⟩;go_wp2_with fail
  first|exact⟨rfl,HZ.out⟩|(go_ret2;exact⟨rfl,HZ.out⟩)
 ·go_enter func20,ntmps20;go_wp2_with fail;refine ks.mono ?_;rintro r w2 ⟨g,rfl,hb2,hg⟩;have kc:=HC.out w2 g hb2 hg;clear hb2 hg HC ks;go_wp2_with fail;refine kc.mono ?_;rintro r w4 ⟨rfl,hz⟩;have HZ:=Q0a (hz (.cells #[.int .u32 ca,.int .i64 cb] 35));have kh:=HHas.out (w4.alloc (.cells #[.int .u32 ca,.int .i64 cb] 35));have kr:=HRight.out (w4.alloc (.cells #[.int .u32 ca,.int .i64 cb] 35));clear hz kc HHas HRight;go_wp2_with fail;refine kh.mono ?_;rintro r w' ⟨rfl,rfl⟩;go_wp2_with fail;refine kr.mono ?_;rintro r w' ⟨rfl,rfl⟩;go_wp2_with fail
  first|exact⟨rfl,HZ.out⟩|(go_ret2;exact⟨rfl,HZ.out⟩)
theorem Q6r {w:World} {Z:SP} {fr:List Nat} {N K:Nat} {M:Int} (hs:Sep w Z.hl) (ok:Z.Ok fr N K M) {x:Nat} (hx:x<4294967296) (z mask:Int) (self:Bool) :
  Calls prog 20 #[.pointer (some ⟨Z.s,0,none⟩),.int .u32 x,.int .i64 z,.int .i64 mask,.bool self] w (RevR Z fr N K M x z mask self w):=by
 cases hp:pget Z.S.l 1 x with
 | none =>
  refine (Q5l hs ok.core hx z mask self 8 (by decide) (.inl ⟨hp,rfl⟩)).mono ?_;rintro r w' ⟨rfl,hb⟩;exact .inl ⟨8,rfl,hb,.inl ⟨hp,rfl⟩⟩
 | some p =>
  by_cases hk:p.kind=2
  ·by_cases hz:0<=z/\z<256
   ·by_cases hm:0<mask/\mask<=15
    ·cases he:Q0f Z.S.l Z.tb x z.toNat with
     | none =>
      refine (Q4e hs ok hx hp hk z mask self 6 (.inr (.inr ⟨hz,hm,he,rfl⟩))).mono ?_;rintro r w' ⟨rfl,hb⟩;exact .inl ⟨6,rfl,hb,.inr ⟨p,hp,.inr (.inr (.inr ⟨hk,hz,hm,he,rfl⟩))⟩⟩
     | some en =>
      have hzn:((z.toNat:Nat):Int)=z:=by omega
      have hmn:((mask.toNat:Nat):Int)=mask:=by omega
      have:=Z2Q (s:=z.toNat) (m:=mask.toNat) hs ok hx hp hk (by omega) (by omega) (by omega) he self;rw [hzn,hmn] at this;exact this
    ·refine (Q4e hs ok hx hp hk z mask self 1 (.inr (.inl ⟨hz,hm,rfl⟩))).mono ?_;rintro r w' ⟨rfl,hb⟩;exact .inl ⟨1,rfl,hb,.inr ⟨p,hp,.inr (.inr (.inl ⟨hk,hz,hm,rfl⟩))⟩⟩
   ·refine (Q4e hs ok hx hp hk z mask self 2 (.inl ⟨hz,rfl⟩)).mono ?_;rintro r w' ⟨rfl,hb⟩;exact .inl ⟨2,rfl,hb,.inr ⟨p,hp,.inr (.inl ⟨hk,hz,rfl⟩)⟩⟩
  ·refine (Q5l hs ok.core hx z mask self 10 (by decide) (.inr ⟨p,hp,hk,rfl⟩)).mono ?_;rintro r w' ⟨rfl,hb⟩;exact .inl ⟨10,rfl,hb,.inr ⟨p,hp,.inl ⟨hk,rfl⟩⟩⟩
def Z9Y (Z:SP) (fr:List Nat) (N K:Nat) (M:Int) (x s h r:Nat) (par:Int) (w w':World):Prop:=∃Z',Z'.Ok fr N K (M+1)/\SameN Z Z'/\Z'.av.en=setA Z.av.en x s (some (h,r))/\(∃b,Z'.av.N=addN Z.F.N par (Z.F.next+1) b (x:Int) (s:Int))/\Z'.F.next=Z.F.next+1/\Step Z.hl Z'.hl w w'
def J1p (Z:SP) (x:Nat) (z:Int) (h:Nat) (r:Int) (er:Int):Prop:=
 (pget Z.S.l 1 x=none/\er=8)∨∃p,pget Z.S.l 1 x=some p/\((p.kind≠2/\er=10)∨(p.kind=2/\((¬(0<=z/\z<256)/\er=2)∨((0<=z/\z<256)/\((pget Z.S.l 1 h=none/\er=8) ∨
  ∃q,pget Z.S.l 1 h=some q/\((¬((0<r/\r<=15)/\(q.kind=8↔128<=z))/\er=1)∨(((0<r/\r<=15)/\(q.kind=8↔128<=z))/\Q0f Z.S.l Z.tb x z.toNat≠none/\er=7)))))))
def RootR (Z:SP) (fr:List Nat) (N K:Nat) (M:Int) (x:Nat) (z:Int) (h:Nat) (r:Int) (w:World) (er:Int) (w':World):Prop:=
 (er≠0/\J1p Z x z h r er/\Below w.heap.size w w') ∨
 ∃(s rn:Nat) (p q:Pl),z=(s:Int)/\r=(rn:Int)/\s<256/\1<=rn/\rn<=15/\pget Z.S.l 1 x=some p/\p.kind=2/\pget Z.S.l 1 h=some q/\(q.kind=8↔128<=s)/\Q0f Z.S.l Z.tb x s=none /\
  ((er=0/\Z9Y Z fr N K M x s h rn 0 w w')∨((er=4∨er=5)/\WhyL Z fr p.fac (x%256) s er/\∃P',Tried Z.S.P fr Z.S.l P'/\Step Z.hl (Z.setS (Z.S.setP P') Z.tb).hl w w'))
theorem Z8d {w w5:World} {Z:SP} {fr:List Nat} {N K:Nat} {M:Int} (ok:Z.Ok fr N K M) (hM:M+1<1099511627776) {x s h r:Nat} {p:Pl} (hx:x<4294967296) (hp:pget Z.S.l 1 x=some p) (hk:p.kind=2) (hs2:s<256) (h0:Q0f Z.S.l Z.tb x s=none) {nd:Nat} (hc:Q6E Z.S.l s ⟨h,r,nd⟩)
  {S':CO} {t':TB} (T:TurnP Z.S fr N K Z.tb (p.fac:Int) (x%256) s (some ⟨h,r,nd⟩) S' t') (st:Step Z.hl (Z.setS S' (updT Z.tb (x%256) t')).hl w w5) {par:Int} (hpar:par=0∨∃m em,find Z.F.N par=some m/\Q0H Z.S.l Z.tb m=some em/\h=em.h/\r&&&em.r=r) {w6:World} (hb6:Below w5.heap.size w5 w6) :
  w6.cell? ⟨Z.s,1,none⟩=some (.pointer (some ⟨Z.F.f,0,none⟩))/\Calls prog 79 #[.pointer (some ⟨Z.F.f,0,none⟩),.int .i64 par,.int .i64 x,.int .i64 s] w6 fun rv w'=>rv=.returned (.tuple #[.int .i64 (Z.F.next+1),.int .i64 0])/\Z9Y Z fr N K M x s h r par w w':=by
 have st6:=st.trans (st.sep.grown hb6);have hno:=ok.fpi.free ok.fo.n h0;have hfew:=ok.fpi.few ok.fo.n hp hs2 h0;have hpar':par=0∨∃e,find Z.F.N par=some e:=hpar.imp id fun ⟨m,_,h,_⟩=>⟨m,h⟩
 have hnx:=ok.next;refine⟨SP.c1 (Z:=Z.setS S' (updT Z.tb (x%256) t')) st6.sep,(Q7T (SP.sF (Z:=Z.setS S' (updT Z.tb (x%256) t')) st6.sep) ok.fo (par:=par) (sp:=(x:Int)) (sl:=(s:Int)) hpar' (by omega) (by omega) (by omega) (by omega) hno (by show Z.F.next+1<_;omega) hfew).mono ?_⟩;rintro rv w' ⟨rfl,F',A,stf⟩;obtain⟨a1,a2,a3,a4⟩:=ok.added hp hk hs2 h0 hc T hpar A;exact⟨rfl,_,a1,a2,a3,a4,A.next,st6.trans (SP.stepF (Z:=Z.setS S' (updT Z.tb (x%256) t')) st6.sep F' A.f stf)⟩
def J1q (bh:Bool) (no:Int) (br bc bk full:Bool) (er:Int):Prop:=(bh=false/\er=2)∨(bh=true/\no=8/\er=8)∨(bh=true/\no=0/\br=false/\er=1)∨(bh=true/\no=0/\br=true/\(bc==bk)=true/\er=1)∨(bh=true/\no=0/\br=true/\(bc==bk)=false/\full=true/\er=7)
theorem Q9i {bc:Bool} {k:Int} (h:(bc==(k==8))=true):(bc=true/\k=8)∨(bc=false/\(k==8)=false/\decide (k=8)=false):=by
 by_cases hk:k=8
 ·subst hk;left;simpa using h
 ·right;cases bc <;> simp_all
theorem Q3m {bc:Bool} {k:Int} (h:(bc==(k==8))=false):(bc=true/\(k==8)=false/\decide (k=8)=false)∨(bc=false/\k=8):=by
 by_cases hk:k=8
 ·subst hk;right;cases bc <;> simp_all
 ·left;cases bc <;> simp_all
theorem Q7n {w:World} {Z:SP} {fr:List Nat} {N K:Nat} {M:Int} (hs:Sep w Z.hl) (ok:Z.Ok fr N K M) {x h:Nat} (hx:x<4294967296) (hh:h<4294967296) {p:Pl} (hp:pget Z.S.l 1 x=some p) (hk:p.kind=2) (z r:Int) {Q:Int->World->Prop}
  {k0 a0 f0 no:Int} (hOf:∀W,Below w.heap.size w W->Calls prog 30 #[.pointer (some ⟨Z.S.c,0,none⟩),.int .u32 h,.int .i64 0] W (Told W (.tuple #[.agg #[.int .i64 k0,.int .i64 a0,.int .i64 f0],.int .i64 no])))
  (hcase:(∃er,J1q (decide (0<=z/\z<256)) no (decide (0<r/\r<=15)) (decide (z<128)) (k0==8) ((Z.tb (x%256)).at' z).isSome er/\∀W,Below w.heap.size w W->Q er W) ∨
   (decide (0<=z/\z<256)=true/\no=0/\decide (0<r/\r<=15)=true/\(decide (z<128)==(k0==8))=false/\((Z.tb (x%256)).at' z).isSome=false /\
    ∀W g,Below w.heap.size w W->TblZ Z p g W->Calls prog 78 #[.pointer (some ⟨Z.s,0,none⟩),.agg #[.pointer (some ⟨g,0,none⟩),.int .u32 x,.int .i64 (p.fac:Int)],.int .i64 z,.agg #[.int .u32 h,.int .i64 r]] W fun rv w5=>∃er:Int,rv=.returned (.int .i64 er) /\
     ((er≠0/\Q er w5)∨(er=0/\w5.cell? ⟨Z.s,1,none⟩=some (.pointer (some ⟨Z.F.f,0,none⟩))/\Calls prog 79 #[.pointer (some ⟨Z.F.f,0,none⟩),.int .i64 0,.int .i64 x,.int .i64 z] w5 fun rv w'=>(∃a b:Value,rv=.returned (.tuple #[a,b]))/\Q 0 w')))) :
  Calls prog 18 #[.pointer (some ⟨Z.s,0,none⟩),.int .u32 x,.int .i64 z,.agg #[.int .u32 h,.int .i64 r]] w fun rv w'=>∃er:Int,rv=.returned (.int .i64 er)/\Q er w':=by
 have b1:Below w.heap.size w (w.alloc (.cells #[.int .u32 h,.int .i64 r] 35)):=(Below.refl _ _).alloc (J1x _) _;have s1:=(hs.grown b1).sep;have ks:=Q0T s1 ok.core hx hp hk;have hi:=(pget_some.1 hp).1;have hst:=(pget_some.1 hp).2.2;obtain⟨ca,cb,hcv⟩:=Q3H ((Z.tb (x%256)).at' z);have hat:(Z.tb (x%256)).at' z=if 0<=z/\z<256 then Q0f Z.S.l Z.tb x z.toNat else none:=by
  unfold TB.at';split
  ·rename_i h;rw [Q0g hp hk (by omega)]
  ·rfl
 have HCap:Hid (∀W g,Below w.heap.size w W->TblZ Z p g W->Calls prog 74 #[.agg #[.pointer (some ⟨g,0,none⟩),.int .u32 x,.int .i64 (p.fac:Int)],.int .i64 z] W (Told W (.tuple #[.agg #[.int .u32 ca,.int .i64 cb],.bool ((Z.tb (x%256)).at' z).isSome]))):=fun W g hb hg=>by
  have T:=(ok.tpi.x (p.fac:Int)).tt ok.core hi hst hk (SP.sS (hs.grown hb).sep) hg.c;have:=Q1t T (x:Int) (p.fac:Int) z fun e he'=>by
   rw [hat] at he';split at he'
   ·exact ok.fpi.low ok.core.inv.lok he'
   ·cases he'
  rwa [hcv] at this
 -- the worlds,one behind the other
 have HW2:Hid (∀(w2:World) (g:Nat),Below (w.alloc (.cells #[.int .u32 h,.int .i64 r] 35)).heap.size (w.alloc (.cells #[.int .u32 h,.int .i64 r] 35)) w2->TblZ Z p g w2->∀W,Below (w2.alloc (.cells #[.pointer (some ⟨g,0,none⟩),.int .u32 x,.int .i64 (p.fac:Int)] 155)).heap.size (w2.alloc (.cells #[.pointer (some ⟨g,0,none⟩),.int .u32 x,.int .i64 (p.fac:Int)] 155)) W ->
   Below w.heap.size w W/\TblZ Z p g W/\W.cell? ⟨Z.s,0,none⟩=some (.pointer (some ⟨Z.S.c,0,none⟩))/\W.cell? ⟨w.heap.size,0,none⟩=some (.int .u32 h)/\W.cell? ⟨w.heap.size,1,none⟩=some (.int .i64 r)/\W.cell? ⟨w2.heap.size,0,none⟩=some (.pointer (some ⟨g,0,none⟩))/\W.cell? ⟨w2.heap.size,1,none⟩=some (.int .u32 x)/\W.cell? ⟨w2.heap.size,2,none⟩=some (.int .i64 (p.fac:Int))):=fun w2 g hb2 hg W hbW=>by
  have hb2':Below w.heap.size w w2:=Q0e hb2;have s2:=(hs.grown hb2').sep;have hb3:Below w2.heap.size w2 W:=Q0e hbW;have hbw:Below w.heap.size w W:=hb2'.trans (hb3.mono hb2'.size);have h7:=((Cells.new w 35 [.int .u32 h,.int .i64 r]).same (hb2.block w.heap.size (by simp))).same (hb3.block w.heap.size (by have:=hb2.size;simp at this;omega));have h9:=(Cells.new w2 155 [.pointer (some ⟨g,0,none⟩),.int .u32 x,.int .i64 (p.fac:Int)]).same (hbW.block w2.heap.size (by simp));exact⟨hbw,hg.grown s2 hb3,SP.c0 (hs.grown hbw).sep,h7.cell 0 _ rfl,h7.cell 1 _ rfl,h9.cell 0 _ rfl,h9.cell 1 _ rfl,h9.cell 2 _ rfl⟩
 have HOf:=Q0a hOf;have HCase:=Q0a hcase;have HHas:Hid (∀W,Calls prog 75 #[.int .i64 z] W fun r w'=>r=.returned (.bool (decide (0<=z/\z<256)))/\W=w'):=fun W=>Q2P W z
 have HRight:Hid (∀W,Calls prog 76 #[.int .i64 r] W fun r' w'=>r'=.returned (.bool (decide (0<r/\r<=15)))/\W=w'):=fun W=>Q3G W r
 have HCaps:Hid (∀W,Calls prog 77 #[.int .i64 z] W fun r w'=>r=.returned (.bool (decide (z<128)))/\W=w'):=fun W=>Q2E W z
 have hx0:(0:Int)<=(x:Int):=by omega
 have hx1:(x:Int)<4294967296:=by omega
 have hwx:IntKind.i64.wrap (x:Int)=(x:Int):=Go.IntWalk.i64_in _ (by omega);generalize ((Z.tb (x%256)).at' z).isSome=full at *
 generalize decide (0<=z/\z<256)=bh at *
 generalize decide (0<r/\r<=15)=br at *
 generalize decide (z<128)=bc at *
 clear hs ok hx hh hp hk hi hst hcv hat hOf hcase b1 s1;go_enter func18,ntmps18;go_wp2_with fail;refine ks.mono ?_;rintro rv w2 ⟨g,rfl,hb2,hg⟩;have HW:=Q0a (HW2.out w2 g hb2 hg);have HS:Hid (∀W,Below (w2.alloc (.cells #[.pointer (some ⟨g,0,none⟩),.int .u32 x,.int .i64 (p.fac:Int)] 155)).heap.size (w2.alloc (.cells #[.pointer (some ⟨g,0,none⟩),.int .u32 x,.int .i64 (p.fac:Int)] 155)) W->W.cell? ⟨Z.s,0,none⟩=some (.pointer (some ⟨Z.S.c,0,none⟩))/\W.cell? ⟨w.heap.size,0,none⟩=some (.int .u32 h)):=fun W hb=>⟨(HW.out W hb).2.2.1,(HW.out W hb).2.2.2.1⟩
 have HK:Hid (∀W,Below (w2.alloc (.cells #[.pointer (some ⟨g,0,none⟩),.int .u32 x,.int .i64 (p.fac:Int)] 155)).heap.size (w2.alloc (.cells #[.pointer (some ⟨g,0,none⟩),.int .u32 x,.int .i64 (p.fac:Int)] 155)) W->Calls prog 30 #[.pointer (some ⟨Z.S.c,0,none⟩),.int .u32 h,.int .i64 0] W fun r w4=>r=.returned (.tuple #[.agg #[.int .i64 k0,.int .i64 a0,.int .i64 f0],.int .i64 no])/\Below (w2.alloc (.cells #[.pointer (some ⟨g,0,none⟩),.int .u32 x,.int .i64 (p.fac:Int)] 155)).heap.size (w2.alloc (.cells #[.pointer (some ⟨g,0,none⟩),.int .u32 x,.int .i64 (p.fac:Int)] 155)) w4):=fun W hb=>(HOf.out W (HW.out W hb).1).mono fun r w4 h=>⟨h.1,hb.trans (h.2.mono hb.size)⟩
 have HBA:Hid (∀W,Below (w2.alloc (.cells #[.pointer (some ⟨g,0,none⟩),.int .u32 x,.int .i64 (p.fac:Int)] 155)).heap.size (w2.alloc (.cells #[.pointer (some ⟨g,0,none⟩),.int .u32 x,.int .i64 (p.fac:Int)] 155)) W->∀o,Below (w2.alloc (.cells #[.pointer (some ⟨g,0,none⟩),.int .u32 x,.int .i64 (p.fac:Int)] 155)).heap.size (w2.alloc (.cells #[.pointer (some ⟨g,0,none⟩),.int .u32 x,.int .i64 (p.fac:Int)] 155)) (W.alloc o)):=fun W hb o=>hb.alloc hb.size o
 obtain⟨-,-,c0,q0,-,-,-,-⟩:=HW.out _ (Below.refl _ _);have HOA:Hid (∀W,Below (w2.alloc (.cells #[.pointer (some ⟨g,0,none⟩),.int .u32 x,.int .i64 (p.fac:Int)] 155)).heap.size (w2.alloc (.cells #[.pointer (some ⟨g,0,none⟩),.int .u32 x,.int .i64 (p.fac:Int)] 155)) W->Calls prog 30 #[.pointer (some ⟨Z.S.c,0,none⟩),.int .u32 h,.int .i64 0] W (Told W (.tuple #[.agg #[.int .i64 k0,.int .i64 a0,.int .i64 f0],.int .i64 no]))):=fun W hb=>HOf.out W (HW.out W hb).1
 clear hb2 hg HW2 ks HOf;go_upto_region 4 with fail
 go_cut [11,12] from 16 to 34 (fun o nn wc=>∃b:Nat,o=.pointer (some ⟨b,0,none⟩)/\nn=.int .i64 no/\Below (w2.alloc (.cells #[.pointer (some ⟨g,0,none⟩),.int .u32 x,.int .i64 (p.fac:Int)] 155)).heap.size (w2.alloc (.cells #[.pointer (some ⟨g,0,none⟩),.int .u32 x,.int .i64 (p.fac:Int)] 155)) wc/\b<wc.heap.size/\wc.cell? ⟨b,0,none⟩=some (.int .i64 k0))
 case first =>
  generalize (w2.alloc (.cells #[.pointer (some ⟨g,0,none⟩),.int .u32 x,.int .i64 (p.fac:Int)] 155))=W3 at *
  clear HW HCap HCase HHas HRight HCaps;have cD:W3.drew.cell? ⟨Z.s,0,none⟩=some (.pointer (some ⟨Z.S.c,0,none⟩)):=c0;have qD:W3.drew.cell? ⟨w.heap.size,0,none⟩=some (.int .u32 h):=q0;have HKA:Hid (Calls prog 30 #[.pointer (some ⟨Z.S.c,0,none⟩),.int .u32 h,.int .i64 0] (W3.alloc (.cells #[.int .i64 0,.int .i64 0,.int .i64 0] 69)).drew fun r w4=>r=.returned (.tuple #[.agg #[.int .i64 k0,.int .i64 a0,.int .i64 f0],.int .i64 no])/\Below W3.heap.size W3 w4/\Cells w4 W3.heap.size 69 [.int .i64 0,.int .i64 0,.int .i64 0]):=
   (HOA.out _ (HBA.out _ (Below.refl _ _).drew _)).mono fun r w4 h=>⟨h.1,((HBA.out _ (Below.refl _ _).drew _)).trans (h.2.mono (by simp)),(Cells.new W3 69 [.int .i64 0,.int .i64 0,.int .i64 0]).same (h.2.block _ (by simp))⟩
  have HD:Hid (Below W3.heap.size W3 W3.drew):=(Below.refl _ _).drew
  go_region_held3 (fun w'=>w'.cell? ⟨Z.s,0,none⟩=some (.pointer (some ⟨Z.S.c,0,none⟩))/\w'.cell? ⟨w.heap.size,0,none⟩=some (.int .u32 h))
   (first|exact⟨c0,q0⟩|exact⟨cD,qD⟩|exact HS.out _ (HBA.out _ HD.out _)|exact HS.out _ HB4.out|exact HS.out _ (HBA.out _ HB4.out _)|exact HS.out _ (HB4.out.setCell (by simp) _)|exact HS.out _ ((HB4.out.setCell (by simp) _).setCell (by simp) _)|exact HS.out _ (((HB4.out.setCell (by simp) _).setCell (by simp) _).setCell (by simp) _))
   (first|(go_at_call 30;refine HKA.out.mono ?_;rintro rv w4 ⟨rfl,hb4,hc4⟩;have HB4:=Q0a hb4;have z0:=hc4.cell 0 _ rfl;have z1:=hc4.cell 1 _ rfl;have z2:=hc4.cell 2 _ rfl;have y0:=hc4.free 0;have y1:=hc4.free 1;have y2:=hc4.free 2;have HC4:=Q0a hc4;clear hb4 hc4)|(go_at_call 30;refine (HK.out _ (by first|exact HD.out|exact HBA.out _ HD.out _)).mono ?_;rintro rv w4 ⟨rfl,hb4⟩;have HB4:=Q0a hb4;clear hb4))
  ·go_wp2_with fail;go_meet;exact⟨_,rfl,rfl,HBA.out _ HB4.out _,by simp,(Cells.new w4 69 [.int .i64 k0,.int .i64 a0,.int .i64 f0]).cell 0 _ rfl⟩
  ·go_wp2_with fail;go_meet;exact⟨_,rfl,rfl,((HB4.out.setCell (by simp) _).setCell (by simp) _).setCell (by simp) _,by simpa using HC4.out.lt,(((HC4.out.set 0 (.int .i64 k0)).set 1 (.int .i64 a0)).set 2 (.int .i64 f0)).cell 0 _ rfl⟩
 obtain⟨bo,rfl,rfl,hb4,hlt,hk0⟩:=hcut;have h5:=HW.out wc hb4;obtain⟨hb5,hg5,-,-,-,u0,u1,u2⟩:=h5;have kc:=HCap.out _ g hb5 hg5;have HK0:=Q0a hk0;have HB4:=Q0a hb4;have HW5:Hid (∀W,Below wc.heap.size wc W->(Below w.heap.size w W/\TblZ Z p g W/\W.cell? ⟨Z.s,0,none⟩=some (.pointer (some ⟨Z.S.c,0,none⟩))/\W.cell? ⟨w.heap.size,0,none⟩=some (.int .u32 h)/\W.cell? ⟨w.heap.size,1,none⟩=some (.int .i64 r)/\W.cell? ⟨w2.heap.size,0,none⟩=some (.pointer (some ⟨g,0,none⟩))/\W.cell? ⟨w2.heap.size,1,none⟩=some (.int .u32 x)/\W.cell? ⟨w2.heap.size,2,none⟩=some (.int .i64 (p.fac:Int)))/\W.cell? ⟨bo,0,none⟩=some (.int .i64 k0)):=fun W hb=>⟨HW.out W (HB4.out.trans (hb.mono HB4.out.size)),(hb.cell (p:=⟨bo,0,none⟩) hlt).trans HK0.out⟩
 clear hb4 hb5 hg5 hlt hk0 HCap HW HS HK HBA HOA c0 q0;go_wp2_with fail;refine kc.mono ?_;rintro rv w6 ⟨rfl,hb6⟩;go_wp2_with fail;generalize hW7:(w6.alloc (.cells #[.int .u32 ca,.int .i64 cb] 35))=w7;have hb7:Below wc.heap.size wc w7:=by rw [<- hW7];exact hb6.alloc hb6.size _
 have HW7:Hid (∀n,(Below w.heap.size w (w7.drewN n)/\TblZ Z p g (w7.drewN n)/\(w7.drewN n).cell? ⟨Z.s,0,none⟩=some (.pointer (some ⟨Z.S.c,0,none⟩))/\(w7.drewN n).cell? ⟨w.heap.size,0,none⟩=some (.int .u32 h)/\(w7.drewN n).cell? ⟨w.heap.size,1,none⟩=some (.int .i64 r)/\(w7.drewN n).cell? ⟨w2.heap.size,0,none⟩=some (.pointer (some ⟨g,0,none⟩))/\(w7.drewN n).cell? ⟨w2.heap.size,1,none⟩=some (.int .u32 x)/\(w7.drewN n).cell? ⟨w2.heap.size,2,none⟩=some (.int .i64 (p.fac:Int)))/\(w7.drewN n).cell? ⟨bo,0,none⟩=some (.int .i64 k0)):=fun n=>HW5.out _ (Q0Y hb7 n)
 have HB7:Hid (Below w.heap.size w w7):=(HW7.out 0).1.1;have q1:w7.cell? ⟨w.heap.size,1,none⟩=some (.int .i64 r):=(HW7.out 0).1.2.2.2.2.1;have k8:w7.cell? ⟨bo,0,none⟩=some (.int .i64 k0):=(HW7.out 0).2;have HRQ:Hid (∀n,Calls prog 76 #[.int .i64 r] (w7.drewN n) fun e w''=>e=.returned (.bool br)/\∃m,w''=w7.drewN m):=fun n=>(HRight.out _).mono fun e w' h=>⟨h.1,n,h.2.symm⟩
 have HCQ:Hid (∀n,Calls prog 77 #[.int .i64 z] (w7.drewN n) fun e w''=>e=.returned (.bool bc)/\∃m,w''=w7.drewN m):=fun n=>(HCaps.out _).mono fun e w' h=>⟨h.1,n,h.2.symm⟩
 have kh:=HHas.out w7;clear hW7 hb7 hb6 kc u0 u1 u2 HW5 HRight HCaps HHas HB4 HK0;rcases HCase.out with ⟨er,hT,hQ⟩|⟨rfl,rfl,rfl,hbk,rfl,hl⟩
 ·have HQ:=Q0a hQ;clear hQ HCase;rcases hT with ⟨rfl,rfl⟩|⟨rfl,rfl,rfl⟩|⟨rfl,rfl,rfl,rfl⟩|⟨rfl,rfl,rfl,hbk,rfl⟩|⟨rfl,rfl,rfl,hbk,rfl,rfl⟩
  ·refine kh.mono ?_;rintro rv w' ⟨rfl,rfl⟩;go_wp2_with fail
   first|exact⟨_,rfl,HQ.out _ HB7.out⟩|(go_ret;exact⟨_,rfl,HQ.out _ HB7.out⟩)
  ·refine kh.mono ?_;rintro rv w' ⟨rfl,rfl⟩;go_wp2_with fail
   first|exact⟨_,rfl,HQ.out _ HB7.out⟩|(go_ret;exact⟨_,rfl,HQ.out _ HB7.out⟩)
  ·refine kh.mono ?_;rintro rv w' ⟨rfl,rfl⟩;go_wp2_with fail
   go_quiet ((go_at_call 76;exact HRQ.out _))
   go_wp2_with fail
   first|exact⟨_,rfl,HQ.out _ (HW7.out _).1.1⟩|(go_ret;exact⟨_,rfl,HQ.out _ (HW7.out _).1.1⟩)
  ·have hc:=Q9i hbk;clear hbk;rcases hc with ⟨rfl,rfl⟩|⟨rfl,hk8,hk9⟩
   ·refine kh.mono ?_;rintro rv w' ⟨rfl,rfl⟩;go_wp2_with fail
    go_quiet (first|(go_at_call 76;exact HRQ.out _)|(go_at_call 77;exact HCQ.out _))
    go_wp2_with fail
    first|exact⟨_,rfl,HQ.out _ (HW7.out _).1.1⟩|(go_ret;exact⟨_,rfl,HQ.out _ (HW7.out _).1.1⟩)
   ·refine kh.mono ?_;rintro rv w' ⟨rfl,rfl⟩;go_wp2_with fail
    go_quiet (first|(go_at_call 76;exact HRQ.out _)|(go_at_call 77;exact HCQ.out _))
    go_wp2_with fail
    first|exact⟨_,rfl,HQ.out _ (HW7.out _).1.1⟩|(go_ret;exact⟨_,rfl,HQ.out _ (HW7.out _).1.1⟩)
  ·have hc:=Q3m hbk;clear hbk;rcases hc with ⟨rfl,hk8,hk9⟩|⟨rfl,rfl⟩
   ·refine kh.mono ?_;rintro rv w' ⟨rfl,rfl⟩;go_wp2_with fail
    go_quiet (first|(go_at_call 76;exact HRQ.out _)|(go_at_call 77;exact HCQ.out _))
    go_wp2_with fail
    first|exact⟨_,rfl,HQ.out _ (HW7.out _).1.1⟩|(go_ret;exact⟨_,rfl,HQ.out _ (HW7.out _).1.1⟩)
   ·refine kh.mono ?_;rintro rv w' ⟨rfl,rfl⟩;go_wp2_with fail
    go_quiet (first|(go_at_call 76;exact HRQ.out _)|(go_at_call 77;exact HCQ.out _))
    go_wp2_with fail
    first|exact⟨_,rfl,HQ.out _ (HW7.out _).1.1⟩|(go_ret;exact⟨_,rfl,HQ.out _ (HW7.out _).1.1⟩)
 ·have HLn:=Q0a (fun n=>hl (w7.drewN n) g (HW7.out n).1.1 (HW7.out n).1.2.1);obtain⟨⟨-,-,-,q0,-,v0,v1,v2⟩,-⟩:=HW7.out 0;have q0:w7.cell? ⟨w.heap.size,0,none⟩=some (.int .u32 h):=q0;have v0:w7.cell? ⟨w2.heap.size,0,none⟩=some (.pointer (some ⟨g,0,none⟩)):=v0;have v1:w7.cell? ⟨w2.heap.size,1,none⟩=some (.int .u32 x):=v1;have v2:w7.cell? ⟨w2.heap.size,2,none⟩=some (.int .i64 (p.fac:Int)):=v2;clear hl HCase;have hc:=Q3m hbk;clear hbk;rcases hc with ⟨rfl,hk8,hk9⟩|⟨rfl,rfl⟩
  ·refine kh.mono ?_;rintro rv w' ⟨rfl,rfl⟩;go_wp2_with fail
   go_quiet (first|(go_at_call 76;exact HRQ.out _)|(go_at_call 77;exact HCQ.out _))
   go_wp2_with fail;refine (HLn.out _).mono ?_;rintro rv w5 ⟨er,rfl,⟨hne,hq⟩|⟨rfl,cs1,hadd⟩⟩
   ·have hne2:(er != 0)=true:=by simp [hne]
    have HQ:=Q0a hq;clear hq;go_wp2_with fail
    first|exact⟨_,rfl,HQ.out⟩|(go_ret;exact⟨_,rfl,HQ.out⟩)
   ·have HAdd:=Q0a hadd;clear hadd;go_wp2_with fail;refine HAdd.out.mono ?_;rintro rv w8 ⟨⟨ra,rb,rfl⟩,hq⟩;have HQ:=Q0a hq;clear hq;go_wp2_with fail
    first|exact⟨_,rfl,HQ.out⟩|(go_ret;exact⟨_,rfl,HQ.out⟩)
  ·refine kh.mono ?_;rintro rv w' ⟨rfl,rfl⟩;go_wp2_with fail
   go_quiet (first|(go_at_call 76;exact HRQ.out _)|(go_at_call 77;exact HCQ.out _))
   go_wp2_with fail;refine (HLn.out _).mono ?_;rintro rv w5 ⟨er,rfl,⟨hne,hq⟩|⟨rfl,cs1,hadd⟩⟩
   ·have hne2:(er != 0)=true:=by simp [hne]
    have HQ:=Q0a hq;clear hq;go_wp2_with fail
    first|exact⟨_,rfl,HQ.out⟩|(go_ret;exact⟨_,rfl,HQ.out⟩)
   ·have HAdd:=Q0a hadd;clear hadd;go_wp2_with fail;refine HAdd.out.mono ?_;rintro rv w8 ⟨⟨ra,rb,rfl⟩,hq⟩;have HQ:=Q0a hq;clear hq;go_wp2_with fail
    first|exact⟨_,rfl,HQ.out⟩|(go_ret;exact⟨_,rfl,HQ.out⟩)
theorem Q9j {l:List Pl} (lok:LOk l) {s h:Nat} {q:Pl} (hq:pget l s h=some q):h<4294967295:=by
 have h1:=pget_some.1 hq;have h2:=lok.2 q (Q0y hq);have:nm (h%256) q=h:=h1.2.1;unfold nm at this;omega
theorem Q7o {w:World} {s x h:Nat} {z r e:Int} (he:e≠0) (hS:Calls prog 73 #[.pointer (some ⟨s,0,none⟩),.int .u32 x] (w.alloc (.cells #[.int .u32 h,.int .i64 r] 35)) (Told (w.alloc (.cells #[.int .u32 h,.int .i64 r] 35)) (.tuple #[.agg #[.pointer none,.int .u32 0,.int .i64 0],.int .i64 e]))) :
  Calls prog 18 #[.pointer (some ⟨s,0,none⟩),.int .u32 x,.int .i64 z,.agg #[.int .u32 h,.int .i64 r]] w (Told w (.int .i64 e)):=by
 have hnb:(e != 0)=true:=by simpa using he
 have HB:Hid (∀w1,Below (w.alloc (.cells #[.int .u32 h,.int .i64 r] 35)).heap.size (w.alloc (.cells #[.int .u32 h,.int .i64 r] 35)) w1->∀o,Below w.heap.size w (w1.alloc o)):=fun w1 hb o=>(Q0e hb).alloc (Q0e hb).size o
 go_enter func18,ntmps18;go_wp2_with fail;refine hS.mono ?_;rintro rv w1 ⟨rfl,hb⟩;have HW:=Q0a (HB.out w1 hb);clear hb HB hS;go_wp2_with fail
 first|exact⟨rfl,HW.out _⟩|(go_ret;exact⟨rfl,HW.out _⟩)
theorem Q9k {w:World} {Z:SP} {fr:List Nat} {N K:Nat} {M:Int} (hs:Sep w Z.hl) (ok:Z.Ok fr N K M) (hM:M+1<1099511627776) {x h:Nat} (hx:x<4294967296) (hh:h<4294967296) (z r:Int) :
  Calls prog 18 #[.pointer (some ⟨Z.s,0,none⟩),.int .u32 x,.int .i64 z,.agg #[.int .u32 h,.int .i64 r]] w fun rv w'=>∃er:Int,rv=.returned (.int .i64 er)/\RootR Z fr N K M x z h r w er w':=by
 have s1:=(hs.grown ((Below.refl w.heap.size w).alloc (J1x _) (.cells #[.int .u32 h,.int .i64 r] 35))).sep;cases hp:pget Z.S.l 1 x with
 | none =>
  refine (Q7o (e:=8) (by decide) (Q0I s1 ok.core hx 8 (.inl ⟨hp,rfl⟩))).mono ?_;rintro rv w' ⟨rfl,hb⟩;exact⟨_,rfl,.inl ⟨by decide,.inl ⟨hp,rfl⟩,hb⟩⟩
 | some p =>
  by_cases hk:p.kind=2
  case neg =>
   refine (Q7o (e:=10) (by decide) (Q0I s1 ok.core hx 10 (.inr ⟨p,hp,hk,rfl⟩))).mono ?_;rintro rv w' ⟨rfl,hb⟩;exact⟨_,rfl,.inl ⟨by decide,.inr ⟨p,hp,.inl ⟨hk,rfl⟩⟩,hb⟩⟩
  clear s1;cases hq:pget Z.S.l 1 h with
  | none =>
   refine Q7n hs ok hx hh hp hk z r (k0:=0) (a0:=0) (f0:=0) (no:=8) (fun W hb=>Q4F (SP.sS (hs.grown hb).sep) ok.core.inv.lok hh 0 hq) (.inl ?_);by_cases hz:0<=z/\z<256
   ·exact⟨8,.inr (.inl ⟨by simpa using hz,rfl,rfl⟩),fun W hb=>.inl ⟨by decide,.inr ⟨p,hp,.inr ⟨hk,.inr ⟨hz,.inl ⟨hq,rfl⟩⟩⟩⟩,hb⟩⟩
   ·exact⟨2,.inl ⟨decide_eq_false hz,rfl⟩,fun W hb=>.inl ⟨by decide,.inr ⟨p,hp,.inr ⟨hk,.inl ⟨hz,rfl⟩⟩⟩,hb⟩⟩
  | some q =>
   refine Q7n hs ok hx hh hp hk z r (k0:=(q.kind:Int)) (a0:=(q.at_:Int)) (f0:=(q.fac:Int)) (no:=0) (fun W hb=>Q2n (SP.sS (hs.grown hb).sep) ok.core.inv.lok hh 0 hq (.inl rfl)) ?_;by_cases hz:0<=z/\z<256
   case neg=>exact .inl ⟨2,.inl ⟨decide_eq_false hz,rfl⟩,fun W hb=>.inl ⟨by decide,.inr ⟨p,hp,.inr ⟨hk,.inl ⟨hz,rfl⟩⟩⟩,hb⟩⟩
   have hdz:decide (0<=z/\z<256)=true:=decide_eq_true hz;by_cases hr:0<r/\r<=15
   case neg=>exact .inl ⟨1,.inr (.inr (.inl ⟨hdz,rfl,decide_eq_false hr,rfl⟩)),fun W hb=>.inl ⟨by decide,.inr ⟨p,hp,.inr ⟨hk,.inr ⟨hz,.inr ⟨q,hq,.inl ⟨fun hc=>hr hc.1,rfl⟩⟩⟩⟩⟩,hb⟩⟩
   have hdr:decide (0<r/\r<=15)=true:=decide_eq_true hr;by_cases hm:(q.kind=8↔128<=z)
   case neg =>
    refine .inl ⟨1,.inr (.inr (.inr (.inl ⟨hdz,rfl,hdr,?_,rfl⟩))),fun W hb=>.inl ⟨by decide,.inr ⟨p,hp,.inr ⟨hk,.inr ⟨hz,.inr ⟨q,hq,.inl ⟨fun hc=>hm hc.2,rfl⟩⟩⟩⟩⟩,hb⟩⟩;by_cases h8:q.kind=8
    ·have h9:z<128:=by have:¬128<=z:=fun h=>hm ⟨fun _=>h,fun _=>h8⟩;omega
     simp [h8,h9]
    ·have h9:¬z<128:=by intro h;exact hm ⟨fun h'=>absurd h' h8,fun h'=>by omega⟩
     have h10:¬(q.kind:Int)=8:=by omega
     simp [h9,h10]
   have hdm:(decide (z<128)==((q.kind:Int)==8))=false:=by
    by_cases h8:q.kind=8
    ·have h9:¬z<128:=by have:=hm.1 h8;omega
     simp [h8,h9]
    ·have h9:z<128:=by have:¬128<=z:=fun h=>h8 (hm.2 h);omega
     have h10:¬(q.kind:Int)=8:=by omega
     simp [h9,h10]
   obtain⟨s,rfl⟩:∃s:Nat,z=(s:Int):=⟨z.toNat,by omega⟩
   obtain⟨rn,rfl⟩:∃rn:Nat,r=(rn:Int):=⟨r.toNat,by omega⟩
   have hs2:s<256:=by omega
   have hat:(Z.tb (x%256)).at' (s:Int)=Q0f Z.S.l Z.tb x s:=by
    unfold TB.at';rw [if_pos hz,Q0g hp hk (by omega)];rfl
   cases h0:Q0f Z.S.l Z.tb x s with
   | some e0 =>
    refine .inl ⟨7,.inr (.inr (.inr (.inr ⟨hdz,rfl,hdr,hdm,by rw [hat,h0];rfl,rfl⟩))),fun W hb=>.inl ⟨by decide,.inr ⟨p,hp,.inr ⟨hk,.inr ⟨hz,.inr ⟨q,hq,.inr ⟨⟨hr,hm⟩,?_,rfl⟩⟩⟩⟩⟩,hb⟩⟩;rw [J2C,h0];exact Option.some_ne_none _
   | none =>
    refine .inr ⟨hdz,rfl,hdr,hdm,by rw [hat,h0];rfl,fun W g hb hg=>?_⟩;have hi:=(pget_some.1 hp).1;have hst:=(pget_some.1 hp).2.2;have h0':(Z.tb (x%256)).en s=none:=by rw [<- Q0g hp hk hs2];exact h0
    have hm':(q.kind=8↔128<=s):=by rw [hm];omega
    have hlow:h<4294967295:=Q9j ok.core.inv.lok hq;refine (Q7U (hs.grown hb).sep ok.core ok.tpi (x:=x) hi hst hk hs2 h0' hlow (by omega:rn<16) hg).mono ?_;rintro rv w5 ⟨er,rfl,⟨rfl,nd,S',t',T,st⟩|⟨he,hwhy,P',tr,st⟩⟩
    ·have hcap:Q6E Z.S.l s ⟨h,rn,nd⟩:=⟨⟨q,hq,hm'⟩,by dsimp only;omega⟩
     obtain⟨c1,k⟩:=Z8d ok hM hx hp hk hs2 h0 hcap T ((hs.grown hb).trans st) (par:=0) (.inl rfl) (Below.refl _ _);refine⟨0,rfl,.inr ⟨rfl,c1,k.mono ?_⟩⟩;rintro rv w' ⟨rfl,PZ⟩;exact⟨⟨_,_,rfl⟩,.inr ⟨s,rn,p,q,rfl,rfl,hs2,by omega,by omega,hp,hk,hq,hm',h0,.inl ⟨rfl,PZ⟩⟩⟩
    ·exact⟨er,rfl,.inl ⟨by omega,.inr ⟨s,rn,p,q,rfl,rfl,hs2,by omega,by omega,hp,hk,hq,hm',h0,.inr ⟨he,hwhy,P',tr,(hs.grown hb).trans st⟩⟩⟩⟩
theorem Z5V (w:World) (k:Int):Calls prog 102 #[.int .i64 k] w fun r w'=>r=.returned (.bool (decide (k=8∨1<=k/\k<=5)))/\w=w':=by
 by_cases h8:k=8
 ·subst h8;go_enter func102,ntmps102;go_wp2_with fail
  first|exact⟨rfl,rfl⟩|(go_ret;exact⟨rfl,rfl⟩)
 ·have b8:(k==8)=false:=by simpa using h8
  have d8:decide (k=8)=false:=decide_eq_false h8;by_cases h1:1<=k
  ·have d1:decide (1<=k)=true:=decide_eq_true h1;by_cases h5:k<=5
   ·have d5:decide (k<=5)=true:=decide_eq_true h5;have hv:decide (k=8∨1<=k/\k<=5)=true:=decide_eq_true (.inr ⟨h1,h5⟩);rw [hv];clear hv;go_enter func102,ntmps102;go_wp2_with fail
    first|exact⟨rfl,rfl⟩|(go_ret;exact⟨rfl,rfl⟩)
   ·have d5:decide (k<=5)=false:=decide_eq_false h5;have hv:decide (k=8∨1<=k/\k<=5)=false:=decide_eq_false (by omega);rw [hv];clear hv;go_enter func102,ntmps102;go_wp2_with fail
    first|exact⟨rfl,rfl⟩|(go_ret;exact⟨rfl,rfl⟩)
  ·have d1:decide (1<=k)=false:=decide_eq_false h1;have hv:decide (k=8∨1<=k/\k<=5)=false:=decide_eq_false (by omega);rw [hv];clear hv;go_enter func102,ntmps102;go_wp2_with fail
   first|exact⟨rfl,rfl⟩|(go_ret;exact⟨rfl,rfl⟩)
theorem Q7p {w:World} {s x y:Nat} {z k lim e:Int} (he:e≠0) (hS:Calls prog 73 #[.pointer (some ⟨s,0,none⟩),.int .u32 x] w (Told w (.tuple #[.agg #[.pointer none,.int .u32 0,.int .i64 0],.int .i64 e]))) :
  Calls prog 38 #[.pointer (some ⟨s,0,none⟩),.int .u32 x,.int .i64 z,.int .u32 y,.int .i64 k,.int .i64 lim] w (Told w (.tuple #[.int .u32 0,.int .i64 e])):=by
 have hnb:(e != 0)=true:=by simpa using he
 have HB:Hid (∀w1,Below w.heap.size w w1->∀o,Below w.heap.size w (w1.alloc o)):=fun w1 hb o=>hb.alloc hb.size o
 go_enter func38,ntmps38;go_wp2_with fail;refine hS.mono ?_;rintro rv w1 ⟨rfl,hb⟩;have HW:=Q0a (HB.out w1 hb);clear hb HB hS;go_wp2_with fail
 first|exact⟨rfl,HW.out _⟩|(go_ret2;exact⟨rfl,HW.out _⟩)
def J1r (bh bm bc bk full:Bool) (er:Int):Prop:=(bh=false/\er=2)∨(bh=true/\bm=false/\er=1)∨(bh=true/\bm=true/\(bc==bk)=true/\er=1)∨(bh=true/\bm=true/\(bc==bk)=false/\full=true/\er=7)
def Z5W (Z:SP) (g x f B:Nat) (w':World):Prop:=w'.cell? ⟨Z.s,0,none⟩=some (.pointer (some ⟨Z.S.c,0,none⟩))/\w'.cell? ⟨Z.s,1,none⟩=some (.pointer (some ⟨Z.F.f,0,none⟩))/\w'.cell? ⟨B,0,none⟩=some (.pointer (some ⟨g,0,none⟩))/\w'.cell? ⟨B,1,none⟩=some (.int .u32 x)/\w'.cell? ⟨B,2,none⟩=some (.int .i64 f)
def Z1D (Z:SP) (g x f B y:Nat) (z k lim:Int) (Q:Nat->Int->World->Prop) (w5:World):Prop:=
 Calls prog 16 #[.pointer (some ⟨Z.S.c,0,none⟩),.int .u32 y,.int .i64 k,.int .i64 lim] w5 fun rv w6=>∃(hh:Nat) (er:Int),rv=.returned (.tuple #[.int .u32 hh,.int .i64 er])/\Z5W Z g x f B w6 /\
  ((er≠0/\Calls prog 81 #[.pointer (some ⟨Z.s,0,none⟩),.agg #[.pointer (some ⟨g,0,none⟩),.int .u32 x,.int .i64 f],.int .i64 z] w6 fun rv w7=>rv=.returned (.tuple #[])/\Q 0 er w7) ∨
   (er=0/\∃a b c:Nat,Calls prog 103 #[.pointer (some ⟨g,0,none⟩),.int .i64 z] w6 (fun rv w7=>rv=.returned (.tuple #[.int .u64 a,.int .u64 b])/\w6=w7) /\
   (∀w8,Below w6.heap.size w6 w8->Z5W Z g x f B w8/\Calls prog 105 #[.agg #[.int .u32 hh,.int .i64 15]] w8 (Told w8 (.int .u64 c)) /\
    Calls prog 104 #[.pointer (some ⟨g,0,none⟩),.int .i64 z,.int .u64 c,.int .u64 b] w8 fun rv w9=>(∃v,rv=.returned (.int .i64 v))/\Z5W Z g x f B w9/\∀n,
    Calls prog 79 #[.pointer (some ⟨Z.F.f,0,none⟩),.int .i64 0,.int .i64 x,.int .i64 z] (w9.drewN n) fun rv w'=>(∃a b:Value,rv=.returned (.tuple #[a,b]))/\Q hh 0 w')))
theorem Z2R {w:World} {Z:SP} {fr:List Nat} {N K:Nat} {M:Int} (hs:Sep w Z.hl) (ok:Z.Ok fr N K M) {x y:Nat} (hx:x<4294967296) {p:Pl} (hp:pget Z.S.l 1 x=some p) (hk:p.kind=2) (z k lim:Int) {Q:Nat->Int->World->Prop}
  (hcase:(∃er,J1r (decide (0<=z/\z<256)) (decide (k=8∨1<=k/\k<=5)) (decide (z<128)) (k==8) ((Z.tb (x%256)).at' z).isSome er/\∀W,Below w.heap.size w W->Q 0 er W) ∨
   (decide (0<=z/\z<256)=true/\decide (k=8∨1<=k/\k<=5)=true/\(decide (z<128)==(k==8))=false/\((Z.tb (x%256)).at' z).isSome=false /\
    ∀W g B,Below w.heap.size w W->TblZ Z p g W->AsideV Z.hl [.pointer (some ⟨g,0,none⟩),.int .u32 x,.int .i64 (p.fac:Int)] (some ⟨B,0,none⟩) W->Calls prog 78 #[.pointer (some ⟨Z.s,0,none⟩),.agg #[.pointer (some ⟨g,0,none⟩),.int .u32 x,.int .i64 (p.fac:Int)],.int .i64 z,.agg #[.int .u32 0,.int .i64 15]] W fun rv w5=>∃er:Int,rv=.returned (.int .i64 er) /\
     ((er≠0/\Q 0 er w5)∨(er=0/\Z5W Z g x p.fac B w5/\Z1D Z g x p.fac B y z k lim Q w5)))) :
  Calls prog 38 #[.pointer (some ⟨Z.s,0,none⟩),.int .u32 x,.int .i64 z,.int .u32 y,.int .i64 k,.int .i64 lim] w fun rv w'=>∃(hh:Nat) (er:Int),rv=.returned (.tuple #[.int .u32 hh,.int .i64 er])/\Q hh er w':=by
 have ks:=Q0T hs ok.core hx hp hk;have hi:=(pget_some.1 hp).1;have hst:=(pget_some.1 hp).2.2;obtain⟨ca,cb,hcv⟩:=Q3H ((Z.tb (x%256)).at' z);have hat:(Z.tb (x%256)).at' z=if 0<=z/\z<256 then Q0f Z.S.l Z.tb x z.toNat else none:=by
  unfold TB.at';split
  ·rename_i h;rw [Q0g hp hk (by omega)]
  ·rfl
 have HCap:Hid (∀W g,Below w.heap.size w W->TblZ Z p g W->Calls prog 74 #[.agg #[.pointer (some ⟨g,0,none⟩),.int .u32 x,.int .i64 (p.fac:Int)],.int .i64 z] W (Told W (.tuple #[.agg #[.int .u32 ca,.int .i64 cb],.bool ((Z.tb (x%256)).at' z).isSome]))):=fun W g hb hg=>by
  have T:=(ok.tpi.x (p.fac:Int)).tt ok.core hi hst hk (SP.sS (hs.grown hb).sep) hg.c;have:=Q1t T (x:Int) (p.fac:Int) z fun e he'=>by
   rw [hat] at he';split at he'
   ·exact ok.fpi.low ok.core.inv.lok he'
   ·cases he'
  rwa [hcv] at this
 have HW2:Hid (∀(w2:World) (g:Nat),Below w.heap.size w w2->TblZ Z p g w2->∀W,Below (w2.alloc (.cells #[.pointer (some ⟨g,0,none⟩),.int .u32 x,.int .i64 (p.fac:Int)] 155)).heap.size (w2.alloc (.cells #[.pointer (some ⟨g,0,none⟩),.int .u32 x,.int .i64 (p.fac:Int)] 155)) W ->
   Below w.heap.size w W/\TblZ Z p g W/\AsideV Z.hl [.pointer (some ⟨g,0,none⟩),.int .u32 x,.int .i64 (p.fac:Int)] (some ⟨w2.heap.size,0,none⟩) W):=fun w2 g hb2 hg W hbW=>by
  have s2:=(hs.grown hb2).sep;have hb3:Below w2.heap.size w2 W:=Q0e hbW;have h9:=(Cells.new w2 155 [.pointer (some ⟨g,0,none⟩),.int .u32 x,.int .i64 (p.fac:Int)]).same (hbW.block w2.heap.size (by simp));refine⟨hb2.trans (hb3.mono hb2.size),hg.grown s2 hb3,fun j v hj=>⟨w2.heap.size,rfl,fun hk=>?_,h9.lt,h9.cell j v hj⟩⟩;exact absurd (s2.lt hk) (Nat.lt_irrefl _)
 have HCase:=Q0a hcase;have HHas:Hid (∀W,Calls prog 75 #[.int .i64 z] W fun r w'=>r=.returned (.bool (decide (0<=z/\z<256)))/\W=w'):=fun W=>Q2P W z
 have HMade:Hid (∀W,Calls prog 102 #[.int .i64 k] W fun r' w'=>r'=.returned (.bool (decide (k=8∨1<=k/\k<=5)))/\W=w'):=fun W=>Z5V W k
 have HCaps:Hid (∀W,Calls prog 77 #[.int .i64 z] W fun r w'=>r=.returned (.bool (decide (z<128)))/\W=w'):=fun W=>Q2E W z
 have hx0:(0:Int)<=(x:Int):=by omega
 have hx1:(x:Int)<4294967296:=by omega
 have hwx:IntKind.i64.wrap (x:Int)=(x:Int):=Go.IntWalk.i64_in _ (by omega);generalize ((Z.tb (x%256)).at' z).isSome=full at *
 generalize decide (0<=z/\z<256)=bh at *
 generalize decide (k=8∨1<=k/\k<=5)=bm at *
 generalize decide (z<128)=bc at *
 clear hs ok hx hp hk hi hst hcv hat hcase;go_enter func38,ntmps38;go_wp2_with fail;refine ks.mono ?_;rintro rv w2 ⟨g,rfl,hb2,hg⟩;have HW:=Q0a (HW2.out w2 g hb2 hg);obtain⟨hb3,hg3,hv3⟩:=HW.out _ (Below.refl _ _);have kc:=HCap.out _ g hb3 hg3;have v0:=hv3.at 0 _ rfl;have v1:=hv3.at 1 _ rfl;have v2:=hv3.at 2 _ rfl;clear hb2 hg HW2 ks HCap hb3 hg3 hv3;go_wp2_with fail;refine kc.mono ?_;rintro rv w6 ⟨rfl,hb6⟩;go_wp2_with fail;generalize hW7:(w6.alloc (.cells #[.int .u32 ca,.int .i64 cb] 35))=w7;have HW7:=Q0a (HW.out w7 (by rw [<- hW7];exact hb6.alloc hb6.size _));have kh:=HHas.out w7;have km:=HMade.out w7
 have kp:=HCaps.out w7;clear hW7 hb6 kc v0 v1 v2 HW HMade HCaps HHas;rcases HCase.out with ⟨er,hT,hQ⟩|⟨rfl,rfl,hbk,rfl,hl⟩
 ·have HQ:=Q0a (hQ _ HW7.out.1);clear hQ HCase;rcases hT with ⟨rfl,rfl⟩|⟨rfl,rfl,rfl⟩|⟨rfl,rfl,hbk,rfl⟩|⟨rfl,rfl,hbk,rfl,rfl⟩
  ·refine kh.mono ?_;rintro rv w' ⟨rfl,rfl⟩;go_wp2_with fail
   first|exact⟨0,_,rfl,HQ.out⟩|(go_ret2;exact⟨0,_,rfl,HQ.out⟩)
  ·refine kh.mono ?_;rintro rv w' ⟨rfl,rfl⟩;go_wp2_with fail;refine km.mono ?_;rintro rv w' ⟨rfl,rfl⟩;go_wp2_with fail
   first|exact⟨0,_,rfl,HQ.out⟩|(go_ret2;exact⟨0,_,rfl,HQ.out⟩)
  ·have hc:=Q9i hbk;clear hbk;rcases hc with ⟨rfl,rfl⟩|⟨rfl,hk8,hk9⟩
   ·refine kh.mono ?_;rintro rv w' ⟨rfl,rfl⟩;go_wp2_with fail;refine km.mono ?_;rintro rv w' ⟨rfl,rfl⟩;go_wp2_with fail;refine kp.mono ?_;rintro rv w' ⟨rfl,rfl⟩;go_wp2_with fail
    first|exact⟨0,_,rfl,HQ.out⟩|(go_ret2;exact⟨0,_,rfl,HQ.out⟩)
   ·refine kh.mono ?_;rintro rv w' ⟨rfl,rfl⟩;go_wp2_with fail;refine km.mono ?_;rintro rv w' ⟨rfl,rfl⟩;go_wp2_with fail;refine kp.mono ?_;rintro rv w' ⟨rfl,rfl⟩;go_wp2_with fail
    first|exact⟨0,_,rfl,HQ.out⟩|(go_ret2;exact⟨0,_,rfl,HQ.out⟩)
  ·have hc:=Q3m hbk;clear hbk;rcases hc with ⟨rfl,hk8,hk9⟩|⟨rfl,rfl⟩
   ·refine kh.mono ?_;rintro rv w' ⟨rfl,rfl⟩;go_wp2_with fail;refine km.mono ?_;rintro rv w' ⟨rfl,rfl⟩;go_wp2_with fail;refine kp.mono ?_;rintro rv w' ⟨rfl,rfl⟩;go_wp2_with fail
    first|exact⟨0,_,rfl,HQ.out⟩|(go_ret2;exact⟨0,_,rfl,HQ.out⟩)
   ·refine kh.mono ?_;rintro rv w' ⟨rfl,rfl⟩;go_wp2_with fail;refine km.mono ?_;rintro rv w' ⟨rfl,rfl⟩;go_wp2_with fail;refine kp.mono ?_;rintro rv w' ⟨rfl,rfl⟩;go_wp2_with fail
    first|exact⟨0,_,rfl,HQ.out⟩|(go_ret2;exact⟨0,_,rfl,HQ.out⟩)
 ·have HL:=Q0a (hl w7 g w2.heap.size HW7.out.1 HW7.out.2.1 HW7.out.2.2);have v0:=HW7.out.2.2.at 0 _ rfl;have v1:=HW7.out.2.2.at 1 _ rfl;have v2:=HW7.out.2.2.at 2 _ rfl;clear hl HCase;have hc:=Q3m hbk;clear hbk;rcases hc with ⟨rfl,hk8,hk9⟩|⟨rfl,rfl⟩
  ·refine kh.mono ?_;rintro rv w' ⟨rfl,rfl⟩;go_wp2_with fail;refine km.mono ?_;rintro rv w' ⟨rfl,rfl⟩;go_wp2_with fail;refine kp.mono ?_;rintro rv w' ⟨rfl,rfl⟩;go_wp2_with fail;refine HL.out.mono ?_;rintro rv w5 ⟨er,rfl,⟨hne,hq⟩|⟨rfl,⟨c0,c1,v0,v1,v2⟩,htail⟩⟩
   ·have hne2:(er != 0)=true:=by simp [hne]
    have HQ:=Q0a hq;clear hq;go_wp2_with fail
    first|exact⟨0,_,rfl,HQ.out⟩|(go_ret2;exact⟨0,_,rfl,HQ.out⟩)
   ·have HT:=Q0a htail;clear htail kh km kp HL;go_wp2_with fail;refine HT.out.mono ?_;clear v0 v1 v2 c0 c1;rintro rv w6 ⟨hh,er,rfl,⟨c0,c1,v0,v1,v2⟩,⟨hne,hb⟩|⟨rfl,a,b,c,kget,h8⟩⟩
    ·have hne2:(er != 0)=true:=by simp [hne]
     have HBr:=Q0a hb;clear hb HT;go_wp2_with fail;refine HBr.out.mono ?_;rintro rv w8 ⟨rfl,hq⟩;have HQ:=Q0a hq;clear hq;go_wp2_with fail
     first|exact⟨0,_,rfl,HQ.out⟩|(go_ret2;exact⟨0,_,rfl,HQ.out⟩)
    ·have H8:=Q0a h8;clear h8 HT;go_wp2_with fail;refine kget.mono ?_;rintro rv w' ⟨rfl,rfl⟩;clear kget;have kpk:=(H8.out w6.drew (Below.refl _ _).drew).2.1;have d0:w6.drew.cell? ⟨w2.heap.size,0,none⟩=some (.pointer (some ⟨g,0,none⟩)):=v0;go_wp2_with fail
     go_region_held3 (fun w'=>w'.cell? ⟨w2.heap.size,0,none⟩=some (.pointer (some ⟨g,0,none⟩))) (first|exact v0|exact d0|exact e0|exact m0)
      (first|(go_at_call 105;refine kpk.mono ?_;rintro rv w8 ⟨rfl,hb8⟩;have h9:=H8.out w8 ((Below.refl w6.heap.size w6).drew.trans (hb8.mono (J1x _)));have e0:=h9.1.2.2.1;have HSet:=Q0a h9.2.2;clear h9 hb8)|(go_at_call 104;refine HSet.out.mono ?_;rintro rv w9 ⟨⟨sv,rfl⟩,⟨-,m1,m0,-,-⟩,hadd⟩;have HAdd:=Q0a hadd;clear hadd))
     go_wp2_with fail;refine (HAdd.out 0).mono ?_;rintro rv w10 ⟨⟨ra,rb,rfl⟩,hq⟩;have HQ:=Q0a hq;clear hq;go_wp2_with fail
     first|exact⟨hh,_,rfl,HQ.out⟩|(go_ret2;exact⟨hh,_,rfl,HQ.out⟩)
  ·refine kh.mono ?_;rintro rv w' ⟨rfl,rfl⟩;go_wp2_with fail;refine km.mono ?_;rintro rv w' ⟨rfl,rfl⟩;go_wp2_with fail;refine kp.mono ?_;rintro rv w' ⟨rfl,rfl⟩;go_wp2_with fail;refine HL.out.mono ?_;rintro rv w5 ⟨er,rfl,⟨hne,hq⟩|⟨rfl,⟨c0,c1,v0,v1,v2⟩,htail⟩⟩
   ·have hne2:(er != 0)=true:=by simp [hne]
    have HQ:=Q0a hq;clear hq;go_wp2_with fail
    first|exact⟨0,_,rfl,HQ.out⟩|(go_ret2;exact⟨0,_,rfl,HQ.out⟩)
   ·have HT:=Q0a htail;clear htail kh km kp HL;go_wp2_with fail;refine HT.out.mono ?_;clear v0 v1 v2 c0 c1;rintro rv w6 ⟨hh,er,rfl,⟨c0,c1,v0,v1,v2⟩,⟨hne,hb⟩|⟨rfl,a,b,c,kget,h8⟩⟩
    ·have hne2:(er != 0)=true:=by simp [hne]
     have HBr:=Q0a hb;clear hb HT;go_wp2_with fail;refine HBr.out.mono ?_;rintro rv w8 ⟨rfl,hq⟩;have HQ:=Q0a hq;clear hq;go_wp2_with fail
     first|exact⟨0,_,rfl,HQ.out⟩|(go_ret2;exact⟨0,_,rfl,HQ.out⟩)
    ·have H8:=Q0a h8;clear h8 HT;go_wp2_with fail;refine kget.mono ?_;rintro rv w' ⟨rfl,rfl⟩;clear kget;have kpk:=(H8.out w6.drew (Below.refl _ _).drew).2.1;have d0:w6.drew.cell? ⟨w2.heap.size,0,none⟩=some (.pointer (some ⟨g,0,none⟩)):=v0;go_wp2_with fail
     go_region_held3 (fun w'=>w'.cell? ⟨w2.heap.size,0,none⟩=some (.pointer (some ⟨g,0,none⟩))) (first|exact v0|exact d0|exact e0|exact m0)
      (first|(go_at_call 105;refine kpk.mono ?_;rintro rv w8 ⟨rfl,hb8⟩;have h9:=H8.out w8 ((Below.refl w6.heap.size w6).drew.trans (hb8.mono (J1x _)));have e0:=h9.1.2.2.1;have HSet:=Q0a h9.2.2;clear h9 hb8)|(go_at_call 104;refine HSet.out.mono ?_;rintro rv w9 ⟨⟨sv,rfl⟩,⟨-,m1,m0,-,-⟩,hadd⟩;have HAdd:=Q0a hadd;clear hadd))
     go_wp2_with fail;refine (HAdd.out 0).mono ?_;rintro rv w10 ⟨⟨ra,rb,rfl⟩,hq⟩;have HQ:=Q0a hq;clear hq;go_wp2_with fail
     first|exact⟨hh,_,rfl,HQ.out⟩|(go_ret2;exact⟨hh,_,rfl,HQ.out⟩)
theorem Q9l {l:List Pl} {i:Nat} {p q:Pl} (hi:l[i]?=some p) (hp:p.st=0) {x:Nat} {r:Pl} (hr:pget l 1 x=some r):pget (l.set i q) 1 x=some r:=by
 obtain⟨a,b,c⟩:=pget_some.1 hr;rw [Q0z q hi,if_neg]
 ·exact hr
 ·intro e;rw [e,hi] at a;cases a;omega
theorem Q7q {l:List Pl} {tb:Nat->TB} {i:Nat} {p q:Pl} (hi:l[i]?=some p) (hn:(tb i).Nil) (h s:Nat):Q0f (l.set i q) tb h s=Q0f l tb h s:=by
 by_cases e:h%256=i
 ·have z:∀l',Q0f l' tb h s=none:=fun l'=>by
   unfold Q0f;split
   ·split
    ·rename_i hc;rw [e];exact hn.2 s hc.2
    ·rfl
   ·rfl
  rw [z,z]
 ·unfold Q0f;rw [Q0z q hi,if_neg e]
section
variable {Z:SP} {fr fr':List Nat} {N K:Nat} {M:Int}
theorem SP.Ok.made_added (ok:Z.Ok fr N K M) {x s:Nat} {p:Pl} (hp:pget Z.S.l 1 x=some p) (hk:p.kind=2) (hs:s<256) (h0:Q0f Z.S.l Z.tb x s=none) {S1:CO} {t1:TB} {e1:Ent} (T1:TurnP Z.S fr N K Z.tb (p.fac:Int) (x%256) s (some e1) S1 t1)
  {f q:Pl} {ef:En Fa} {n a y i:Nat} {lim:Int} {P':PL} (m:MadeOk S1 fr f ef n a lim y i q P' fr') (hi:S1.l[i]?=some q) (hq:q.st=0) {e2:Ent} (hc:Q6E (S1.made f n a y i q P').l s e2)
  {S3:CO} {t3:TB} (T3:TurnP (S1.made f n a y i q P') fr' (N+1) K (updT Z.tb (x%256) t1) (p.fac:Int) (x%256) s (some e2) S3 t3) {F':FO} (A:Z1x Z.F 0 (x:Int) (s:Int) F') :
  ((Z.setF F').setS S3 (updT Z.tb (x%256) t3)).Ok fr' (N+1) K (M+1)/\((Z.setF F').setS S3 (updT Z.tb (x%256) t3)).av.en=setA Z.av.en x s (some (e2.h,e2.r))/\∃b,((Z.setF F').setS S3 (updT Z.tb (x%256) t3)).av.N=addN Z.F.N 0 (Z.F.next+1) b (x:Int) (s:Int):=by
 have hl1:S1.l=Z.S.l:=T1.alt.l;have hl2:(S1.made f n a y i q P').l=Z.S.l.set i ⟨n,a,f.own,1,q.age,y⟩:=by
  show S1.l.set i _=_;rw [hl1]
 have hl3:S3.l=Z.S.l.set i ⟨n,a,f.own,1,q.age,y⟩:=T3.alt.l.trans hl2;have hi0:Z.S.l[i]?=some q:=by rw [<- hl1];exact hi
 have hnil:(Z.tb i).Nil:=ok.tpi.nil i q hi0 (by omega);obtain⟨b,hN⟩:=A.N;have hp2:pget (Z.S.l.set i ⟨n,a,f.own,1,q.age,y⟩) 1 x=some p:=Q9l hi0 hq hp;have h02:Q0f (Z.S.l.set i ⟨n,a,f.own,1,q.age,y⟩) Z.tb x s=none:=by rw [Q7q hi0 hnil];exact h0
 have hen:∀z,t3.en z=if z=s then some e2 else (Z.tb (x%256)).en z:=fun z=>by
  rw [T3.en z,updT_same,T1.en z];split <;> rfl
 have hav:=Q6k Z.F.N F'.N hp2 hk hs hen;have hav2:((Z.setF F').setS S3 (updT Z.tb (x%256) t3)).av=⟨setA Z.av.en x s ((some e2).map Ent.c),F'.N⟩:=by
  show avOf S3.l (updT Z.tb (x%256) t3) F'.N=_;rw [hl3,hav];congr 2;unfold SP.av avOf;funext h' s';simp only;rw [Q7q hi0 hnil]
 have htp:=T3.tpi;rw [Q1b] at htp;refine⟨⟨T3.ok,htp,?_,A.ok,by show F'.next<=M+1;rw [A.next];have:=ok.next;omega⟩,by rw [hav2];rfl,b,by rw [hav2];exact hN⟩;show FPI S3.l _ F'.N;rw [hl3,hN];rw [hl2] at hc;exact (ok.fpi.made (q:=⟨n,a,f.own,1,q.age,y⟩) hi0 hq hnil).add ok.fo.n hp2 hk hs h02 hen hc b (.inl rfl)
end
end Go.Proofs.YtlakjlmaboioiaaGreatDoor

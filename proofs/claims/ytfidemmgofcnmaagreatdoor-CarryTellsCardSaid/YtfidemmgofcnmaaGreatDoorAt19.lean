/- What the laws of spaces share is proved. No condition. Part of a proof. -/
import Derived.Test.YtfidemmgofcnmaaGreatDoorAt18
import Derived.Deep.CutRange
set_option maxHeartbeats 8000000
set_option maxRecDepth 100000
set_option linter.unusedVariables false
namespace Go.Proofs.YtfidemmgofcnmaaGreatDoor
open Go.RowKit Go.Proofs.Tryz
theorem Q5T{w:World}{Z:SP}(hs:Sep w Z.hl)(ok:Z.F.Ok){x z g f:Nat}(hx:x<4294967296)(hz:z<256) :
  Calls prog 156 #[.pointer (some ⟨Z.s,0,none⟩),.agg #[.pointer (some ⟨g,0,none⟩),.int .u32 x,.int .i64 f],.int .i64 z] w (Told w (.int .i64 (ownN Z.F.N (x:Int) (z:Int)))):=by
 have b1:Below w.heap.size w (w.alloc (.cells #[.pointer (some ⟨g,0,none⟩),.int .u32 x,.int .i64 f] 191)):=(Below.refl _ _).alloc (J1E _) _;have s1:=(hs.grown b1).sep;have c1:=SP.c1 s1;have Us:(w.alloc (.cells #[.pointer (some ⟨g,0,none⟩),.int .u32 x,.int .i64 f] 191)).drew.cell? ⟨Z.s,1,none⟩=some (.pointer (some ⟨Z.F.f,0,none⟩)):=c1;have hB:=Cells.new w 191 [.pointer (some ⟨g,0,none⟩),.int .u32 x,.int .i64 f];have q1:=hB.cell 1 _ rfl;have Td:(w.alloc (.cells #[.pointer (some ⟨g,0,none⟩),.int .u32 x,.int .i64 f] 191)).drew.cell? ⟨w.heap.size,1,none⟩=some (.int .u32 x):=q1;have g1:(0:Int)<=(x:Int):=by omega
 have g2:(x:Int)<9223372036854775808:=by omega
 have g3:(0:Int)<=(z:Int):=by omega
 have g4:(z:Int)<9223372036854775808:=by omega
 have kf:=Z5a (SP.sF s1.drew) ok (sp:=(x:Int)) (sl:=(z:Int)) (Q5L (p:=((x:Int),(z:Int))) g1 g2 g3 g4);have HR:Hid (Below w.heap.size w (w.alloc (.cells #[.pointer (some ⟨g,0,none⟩),.int .u32 x,.int .i64 f] 191)).drew):=b1.drew;have Hj:(x:Int)<4294967296:=by omega
 have L1:IntKind.i64.wrap (x:Int)=(x:Int):=Go.IntWalk.i64_in _ (by omega);generalize ownN Z.F.N (x:Int) (z:Int)=oid at *
 clear hs ok hx hz b1 s1 hB g2 g3 g4;go_enter func156,ntmps156;go_wp2_with fail
 go_region_held3 (fun w'=>w'.cell? ⟨Z.s,1,none⟩=some (.pointer (some ⟨Z.F.f,0,none⟩))/\w'.cell? ⟨w.heap.size,1,none⟩=some (.int .u32 x)) (first|exact⟨c1,q1⟩|exact⟨Us,Td⟩)
  (first|(go_at_call 161;refine kf.mono ?_;rintro r w'⟨rfl,rfl⟩))
 go_wp2_with fail
 (try go_ret);exact⟨rfl,HR.out⟩
def revL(q:FO)(id:Int)(self:Bool):List Int:=Q0Q (kdF q.N) (rkF q.next) id++if self=true then [id] else []
theorem Z7R{q:FO}(ok:q.Ok){id:Int}{e:En Nd}(hf:find q.N id=some e)(self:Bool):(revL q id self).length<=65537:=by
 have h:=Z1d ok hf;rw[Q3c ok.n.tree,J2k,List.length_reverse] at h;unfold revL;rw[J2j];split <;> simp <;> omega
theorem Z2B{w:World}{Z:SP}(hs:Sep w Z.hl)(ok:Z.F.Ok){id:Int}{e:En Nd}(hf:find Z.F.N id=some e) :
  Calls prog 157 #[.pointer (some ⟨Z.F.f,0,none⟩),.int .i64 id] w fun r w'=>Below w.heap.size w w'/\∃(a:Option Addr) (cap:Nat),r=.returned (.slice a (Q0Q (kdF Z.F.N) (rkF Z.F.next) id).length cap)/\OutI w w' (.slice a (Q0Q (kdF Z.F.N) (rkF Z.F.next) id).length cap) (Q0Q (kdF Z.F.N) (rkF Z.F.next) id):=by
 refine(Z0a (SP.sF hs) ok hf).mono ?_;rintro r w'⟨v,rfl,h1,h2⟩;obtain⟨a,cap,rfl⟩:=OutI.shape (w:=w) (wr:=w') ⟨h1,h2⟩;exact⟨h2,a,cap,rfl,h1,h2⟩
theorem OutI.aside{w w':World}{H:HL}{v:Value}{L:List Int}(h:OutI w w' v L)(hs:Sep w H):∃(a:Option Addr) (cap:Nat),v=.slice a L.length cap/\AsideV H (L.map encI) a w':=Q6T hs h.1
def RevR(Z:SP)(fr:List Nat)(N K:Nat)(M:Int)(x:Nat)(z mask:Int)(self:Bool)(w:World)(r:Ending)(w':World):Prop:=
 (∃e:Int,r=.returned (.tuple #[.int .i64 0,.int .i64 e])/\Below w.heap.size w w'/\((pget Z.S.l 1 x=none/\e=8)∨∃p,pget Z.S.l 1 x=some p/\((p.kind≠2/\e=10)∨(p.kind=2/\¬(0<=z/\z<256)/\e=2) ∨
  (p.kind=2/\(0<=z/\z<256)/\¬(0<mask/\mask<=15)/\e=1)∨(p.kind=2/\(0<=z/\z<256)/\(0<mask/\mask<=15)/\Q0g Z.S.l Z.tb x z.toNat=none/\e=6)))) ∨
 (∃(s m:Nat) (n:En Nd) (en:Ent),z=(s:Int)/\mask=(m:Int)/\s<256/\1<=m/\m<16/\Q0g Z.S.l Z.tb x s=some en/\n∈Z.F.N/\n.q.sp=(x:Int)/\n.q.sl=(s:Int) /\
  r=.returned (.tuple #[.int .i64 ((Q1C m Z.av (revL Z.F n.id self)).2:Nat),.int .i64 0])/\Q7M Z fr N K M m (revL Z.F n.id self) w w')
theorem Z2C{w:World}{Z:SP}{fr:List Nat}{N K:Nat}{M:Int}(hs:Sep w Z.hl)(ok:Z.Ok fr N K M){x:Nat}(hx:x<4294967296){p:Pl}(hp:pget Z.S.l 1 x=some p)(hk:p.kind=2){s m:Nat}(AG:s<256)(DP:1<=m)(hm:m<16){en:Ent}(he:Q0g Z.S.l Z.tb x s=some en)(self:Bool) :
  Calls prog 81 #[.pointer (some ⟨Z.s,0,none⟩),.int .u32 x,.int .i64 s,.int .i64 m,.bool self] w (RevR Z fr N K M x (s:Int) (m:Int) self w):=by
 have ks:=Q0W hs ok.core hx hp hk;have hi:=(pget_some.1 hp).1;have Aq:=(pget_some.1 hp).2.2;obtain⟨n,hn,n1,n2,Al,Ko⟩:=ok.fpi.own ok.fo.n he;have AW:(Z.tb (x%256)).at' (s:Int)=some en:=by
  unfold TB.at';rw[if_pos ⟨by omega,by omega⟩,J2C,<- Q0h hp hk AG];exact he
 have As:=ok.fpi.low ok.core.inv.lok he;have HC:Hid (∀(w2:World) (g:Nat),Below w.heap.size w w2->TblZ Z p g w2->Calls prog 93 #[.agg #[.pointer (some ⟨g,0,none⟩),.int .u32 x,.int .i64 (p.fac:Int)],.int .i64 s] (w2.alloc (.cells #[.pointer (some ⟨g,0,none⟩),.int .u32 x,.int .i64 (p.fac:Int)] 191)) (fun r w4=>r=.returned (.tuple #[.agg #[.int .u32 (en.h:Int),.int .i64 (en.r:Int)],.bool true]) /\
   ∀o,Below w.heap.size w (w4.alloc o)/\Cells (w4.alloc o) w2.heap.size 191 [.pointer (some ⟨g,0,none⟩),.int .u32 x,.int .i64 (p.fac:Int)])):=fun w2 g Ae hg=>by
  have An:Below w2.heap.size w2 (w2.alloc (.cells #[.pointer (some ⟨g,0,none⟩),.int .u32 x,.int .i64 (p.fac:Int)] 191)):=(Below.refl _ _).alloc (J1E _) _;have AX:=Ae.alloc Ae.size (.cells #[.pointer (some ⟨g,0,none⟩),.int .u32 x,.int .i64 (p.fac:Int)] 191);have s2:=(hs.grown Ae).sep;have T:=(ok.tpi.x (p.fac:Int)).tt ok.core hi Aq hk (SP.sS (s2.grown An).sep) (hg.grown s2 An).c;refine(Q1s T (x:Int) (p.fac:Int) (s:Int) fun e AH=>by rw[AW] at AH;cases AH;exact As).mono ?_;rw[AW];rintro r w4⟨rfl,A2⟩;have Ea:Below w.heap.size w w4:=AX.trans (A2.mono AX.size);have hB:=(Cells.new w2 191 [.pointer (some ⟨g,0,none⟩),.int .u32 x,.int .i64 (p.fac:Int)]).same (A2.block w2.heap.size (by simp))
  exact⟨rfl,fun o=>⟨Ea.alloc Ea.size o,hB.alloc o⟩⟩
 have DH:=fun W=>Q2s W (s:Int)
 rw[decide_eq_true (show 0<=(s:Int)/\(s:Int)<256 from⟨by omega,by omega⟩)] at DH;have EX:=fun W=>Q3g W (m:Int)
 rw[decide_eq_true (show 0<(m:Int)/\(m:Int)<=15 from⟨by omega,by omega⟩)] at EX;have AT:=Q0a DH;have Bb:=Q0a EX;have HN:Hid (∀W g,Below w.heap.size w W->Calls prog 156 #[.pointer (some ⟨Z.s,0,none⟩),.agg #[.pointer (some ⟨g,0,none⟩),.int .u32 x,.int .i64 (p.fac:Int)],.int .i64 s] W fun r w'=>r=.returned (.int .i64 n.id)/\Below w.heap.size w w'/\w'.cell? ⟨Z.s,1,none⟩=some (.pointer (some ⟨Z.F.f,0,none⟩)) /\
   Calls prog 157 #[.pointer (some ⟨Z.F.f,0,none⟩),.int .i64 n.id] w' fun r w5=>∃(a:Option Addr) (cap:Nat),r=.returned (.slice a (Q0Q (kdF Z.F.N) (rkF Z.F.next) n.id).length cap) /\
    (self=false->Calls prog 158 #[.pointer (some ⟨Z.s,0,none⟩),.int .i64 m,.slice a (Q0Q (kdF Z.F.N) (rkF Z.F.next) n.id).length cap] w5 fun r w6=>∃v:Int,r=.returned (.int .i64 v)/\RevR Z fr N K M x (s:Int) (m:Int) self w (.returned (.tuple #[.int .i64 v,.int .i64 0])) w6) /\
    (self=true->∃(a2:Option Addr) (n2 c2:Nat) (w6:World),(Builtin.append_ #[38,38] 38 #[.slice a (Q0Q (kdF Z.F.N) (rkF Z.F.next) n.id).length cap,.slice (some ⟨w5.heap.size,0,none⟩) 1 1]).run prog (w5.alloc (.cells #[.int .i64 n.id] 3))=.ok (.slice a2 n2 c2) w6 /\
     Calls prog 158 #[.pointer (some ⟨Z.s,0,none⟩),.int .i64 m,.slice a2 n2 c2] w6 fun r w7=>∃v:Int,r=.returned (.int .i64 v)/\RevR Z fr N K M x (s:Int) (m:Int) self w (.returned (.tuple #[.int .i64 v,.int .i64 0])) w7)):=fun W g FZ=>by
  have sW:=(hs.grown FZ).sep;refine(Q5T sW ok.fo hx AG).mono ?_;rw[Al];rintro r w'⟨rfl,Aj⟩;have Fw:Below w.heap.size w w':=FZ.trans (Aj.mono FZ.size);have s':=(hs.grown Fw).sep;refine⟨rfl,Fw,SP.c1 s',(Z2B s' ok.fo Ko).mono ?_⟩;rintro r w5⟨Au,a,cap,rfl,By⟩;have Tx:Below w.heap.size w w5:=Fw.trans (Au.mono Fw.size);have Ab:=Z7R ok.fo Ko self;have fin:∀{w6:World} {v:Value} {L:List Int},L=revL Z.F n.id self->OutI w' w6 v L->∃(a:Option Addr) (cap:Nat),v=.slice a L.length cap/\Calls prog 158 #[.pointer (some ⟨Z.s,0,none⟩),.int .i64 m,.slice a L.length cap] w6 fun r w6=>∃v:Int,r=.returned (.int .i64 v)/\RevR Z fr N K M x (s:Int) (m:Int) self w (.returned (.tuple #[.int .i64 v,.int .i64 0])) w6:=fun {w6 v L} hL ho=>by
   obtain⟨a,cap,rfl,has⟩:=ho.aside s';have Ch:Below w.heap.size w w6:=Fw.trans (ho.2.mono Fw.size);refine⟨a,cap,rfl,(Q6r (hs.grown Ch).sep ok m DP hm L a cap (by rw[hL];omega) has ?_).mono ?_⟩
   ·rw[hL];exact Q8F (a:=Z.av) ok.fo.n n.id self
   ·rintro r w7⟨rfl,Z',k1,k2,k3,k4⟩;rw[hL];rw[hL] at k2;exact⟨_,rfl,.inr ⟨s,m,n,en,rfl,rfl,AG,DP,hm,he,hn,n1,n2,rfl,Z',k1,k2,k3,(hs.grown Ch).trans k4⟩⟩
  refine⟨a,cap,rfl,fun GM=>?_,fun GM=>?_⟩
  ·obtain⟨a',CG,hv,hc⟩:=fin (by unfold revL;rw[GM];simp) By;cases hv;exact hc
  ·have GZ:(Q0Q (kdF Z.F.N) (rkF Z.F.next) n.id).length<=16777216:=by
    unfold revL at Ab;rw[J2j] at Ab;omega
   obtain⟨v',w6,AR,MX⟩:=By.app GZ n.id 38;obtain⟨a',CG,rfl,hc⟩:=fin (by unfold revL;rw[GM];simp) MX;exact⟨a',_,CG,w6,AR,hc⟩
 generalize RevR Z fr N K M x (s:Int) (m:Int) self w=Q at *
 generalize (Q0Q (kdF Z.F.N) (rkF Z.F.next) n.id).length=bl at *
 clear hs ok hx hp hk hi Aq he AW As hn n1 n2 Al Ko DH EX DP hm;go_enter func81,ntmps81;go_wp2_with fail;refine ks.mono ?_;rintro r w2⟨g,rfl,Ae,hg⟩;have kc:=HC.out w2 g Ae hg;clear Ae hg HC ks;go_wp2_with fail;refine kc.mono ?_;rintro r w4⟨rfl,hz⟩;obtain⟨A2,Fe⟩:=hz (.cells #[.int .u32 (en.h:Int),.int .i64 (en.r:Int)] 72);have kh:=AT.out (w4.alloc (.cells #[.int .u32 (en.h:Int),.int .i64 (en.r:Int)] 72));have kr:=Bb.out (w4.alloc (.cells #[.int .u32 (en.h:Int),.int .i64 (en.r:Int)] 72));have kn:=HN.out (w4.alloc (.cells #[.int .u32 (en.h:Int),.int .i64 (en.r:Int)] 72)) g A2
 have b0:=Fe.cell 0 _ rfl;have b1:=Fe.cell 1 _ rfl;have b2:=Fe.cell 2 _ rfl;have R7:=Q0a kn;clear hz A2 Fe kc AT Bb HN kn;go_wp2_with fail;refine kh.mono ?_;rintro r w'⟨rfl,rfl⟩;go_wp2_with fail;refine kr.mono ?_;rintro r w'⟨rfl,rfl⟩;go_wp2_with fail;refine R7.out.mono ?_;rintro r w5⟨rfl,Au,c5,kb⟩;have Si:=Q0a kb;clear Au kb R7 kh kr;go_wp2_with fail;refine Si.out.mono ?_;rintro r w6⟨a,cap,rfl,h1,h2⟩;have H1:=Q0a h1;have H2:=Q0a h2;clear h1 h2 Si b0 b1 b2;cases self with
 | false =>
  have kw:=Q0a (H1.out rfl);clear H1 H2;go_wp2_with fail;refine kw.out.mono ?_;rintro r w7⟨v,rfl,hq⟩;have HQ:=Q0a hq;clear hq kw;go_wp2_with fail
  (try go_ret2);exact HQ.out
 | true =>
  obtain⟨a2,n2,c2,w7,AR,Ss⟩:=H2.out rfl;have kw:=Q0a Ss;clear H1 H2 Ss;go_wp2_with (at_builtin;refine Lib.wpList_append_run _ rfl _ _ _ _ rfl _ _ rfl rfl _ _ AR ?_);refine kw.out.mono ?_;rintro r w8⟨v,rfl,hq⟩;have HQ:=Q0a hq;clear hq kw;go_wp2_with fail
  (try go_ret2);exact HQ.out
theorem Q3h(o:Option Ent):∃(a b:Int),capV o=.tuple #[.agg #[.int .u32 a,.int .i64 b],.bool o.isSome]:=by
 cases o with
 | none=>exact⟨0,0,rfl⟩
 | some e=>exact⟨_,_,rfl⟩
theorem Q4P{w:World}{Z:SP}{fr:List Nat}{N K:Nat}(hs:Sep w Z.hl)(ok:Z.S.Ok fr N K){x:Nat}(hx:x<4294967296)(z mask:Int)(self:Bool)(e:Int)(he:e≠0)(hw:(pget Z.S.l 1 x=none/\e=8)∨∃p,pget Z.S.l 1 x=some p/\p.kind≠2/\e=10) :
  Calls prog 81 #[.pointer (some ⟨Z.s,0,none⟩),.int .u32 x,.int .i64 z,.int .i64 mask,.bool self] w (Told w (.tuple #[.int .i64 0,.int .i64 e])):=by
 have ks:=Q0J hs ok hx e hw;have GY:(e==0)=false:=by simpa using he
 have HC:Hid (∀w1,Below w.heap.size w w1->∀o,Below w.heap.size w (w1.alloc o)):=fun w1 hb o=>hb.alloc hb.size o
 clear hs ok hx hw;go_enter func81,ntmps81;go_wp2_with fail;refine ks.mono ?_;rintro r w1⟨rfl,Ar⟩;have HQ:=Q0a (HC.out w1 Ar);clear Ar HC ks;go_wp2_with fail
 (try go_ret2);exact⟨rfl,HQ.out _⟩
theorem Q3F{w:World}{Z:SP}{fr:List Nat}{N K:Nat}{M:Int}(hs:Sep w Z.hl)(ok:Z.Ok fr N K M){x:Nat}(hx:x<4294967296){p:Pl}(hp:pget Z.S.l 1 x=some p)(hk:p.kind=2)(z mask:Int)(self:Bool)(e:Int)
  (hw:(¬(0<=z/\z<256)/\e=2)∨((0<=z/\z<256)/\¬(0<mask/\mask<=15)/\e=1)∨((0<=z/\z<256)/\(0<mask/\mask<=15)/\Q0g Z.S.l Z.tb x z.toNat=none/\e=6)) :
  Calls prog 81 #[.pointer (some ⟨Z.s,0,none⟩),.int .u32 x,.int .i64 z,.int .i64 mask,.bool self] w (Told w (.tuple #[.int .i64 0,.int .i64 e])):=by
 have ks:=Q0W hs ok.core hx hp hk;have hi:=(pget_some.1 hp).1;have Aq:=(pget_some.1 hp).2.2;have AW:(Z.tb (x%256)).at' z=if 0<=z/\z<256 then Q0g Z.S.l Z.tb x z.toNat else none:=by
  unfold TB.at';split
  ·rename_i h;rw[Q0h hp hk (by omega)]
  ·rfl
 obtain⟨ca,cb,B5⟩:=Q3h ((Z.tb (x%256)).at' z);have HC:Hid (∀(w2:World) (g:Nat),Below w.heap.size w w2->TblZ Z p g w2->Calls prog 93 #[.agg #[.pointer (some ⟨g,0,none⟩),.int .u32 x,.int .i64 (p.fac:Int)],.int .i64 z] (w2.alloc (.cells #[.pointer (some ⟨g,0,none⟩),.int .u32 x,.int .i64 (p.fac:Int)] 191)) (fun r w4=>r=.returned (.tuple #[.agg #[.int .u32 ca,.int .i64 cb],.bool ((Z.tb (x%256)).at' z).isSome])/\∀o,Below w.heap.size w (w4.alloc o))):=fun w2 g Ae hg=>by
  have An:Below w2.heap.size w2 (w2.alloc (.cells #[.pointer (some ⟨g,0,none⟩),.int .u32 x,.int .i64 (p.fac:Int)] 191)):=(Below.refl _ _).alloc (J1E _) _;have AX:=Ae.alloc Ae.size (.cells #[.pointer (some ⟨g,0,none⟩),.int .u32 x,.int .i64 (p.fac:Int)] 191);have s2:=(hs.grown Ae).sep;have T:=(ok.tpi.x (p.fac:Int)).tt ok.core hi Aq hk (SP.sS (s2.grown An).sep) (hg.grown s2 An).c;refine(Q1s T (x:Int) (p.fac:Int) z fun e AH=>?_).mono ?_
  ·rw[AW] at AH;split at AH
   ·exact ok.fpi.low ok.core.inv.lok AH
   ·cases AH
  ·rw[B5];rintro r w4⟨rfl,A2⟩;have Ea:Below w.heap.size w w4:=AX.trans (A2.mono AX.size);exact⟨rfl,fun o=>Ea.alloc Ea.size o⟩
 have Az:(decide (0<=z/\z<256)=false/\e=2)∨(decide (0<=z/\z<256)=true/\decide (0<mask/\mask<=15)=false/\e=1)∨(decide (0<=z/\z<256)=true/\decide (0<mask/\mask<=15)=true/\((Z.tb (x%256)).at' z).isSome=false/\e=6):=by
  rcases hw with ⟨h1,h2⟩|⟨h1,h2,h3⟩|⟨h1,h2,h3,h4⟩
  ·exact .inl ⟨decide_eq_false h1,h2⟩
  ·exact .inr (.inl ⟨decide_eq_true h1,decide_eq_false h2,h3⟩)
  ·exact .inr (.inr ⟨decide_eq_true h1,decide_eq_true h2,by rw[AW,if_pos h1,h3];rfl,h4⟩)
 have AT:Hid (∀W,Calls prog 92 #[.int .i64 z] W fun r w'=>r=.returned (.bool (decide (0<=z/\z<256)))/\W=w'):=fun W=>Q2s W z
 have Bb:Hid (∀W,Calls prog 106 #[.int .i64 mask] W fun r w'=>r=.returned (.bool (decide (0<mask/\mask<=15)))/\W=w'):=fun W=>Q3g W mask
 generalize ((Z.tb (x%256)).at' z).isSome=full at *
 generalize decide (0<=z/\z<256)=bh at *
 generalize decide (0<mask/\mask<=15)=br at *
 clear hs ok hx hp hk hw hi Aq AW B5;rcases Az with ⟨rfl,rfl⟩|⟨rfl,rfl,rfl⟩|⟨rfl,rfl,rfl,rfl⟩
 ·go_enter func81,ntmps81;go_wp2_with fail;refine ks.mono ?_;rintro r w2⟨g,rfl,Ae,hg⟩;have kc:=HC.out w2 g Ae hg;clear Ae hg HC ks;go_wp2_with fail;refine kc.mono ?_;rintro r w4⟨rfl,hz⟩;have HZ:=Q0a (hz (.cells #[.int .u32 ca,.int .i64 cb] 72));have kh:=AT.out (w4.alloc (.cells #[.int .u32 ca,.int .i64 cb] 72));clear hz kc AT Bb;go_wp2_with fail;refine kh.mono ?_;rintro r w'⟨rfl,rfl⟩;go_wp2_with fail
  (try go_ret2);exact⟨rfl,HZ.out⟩
 ·go_enter func81,ntmps81;go_wp2_with fail;refine ks.mono ?_;rintro r w2⟨g,rfl,Ae,hg⟩;have kc:=HC.out w2 g Ae hg;clear Ae hg HC ks;go_wp2_with fail;refine kc.mono ?_;rintro r w4⟨rfl,hz⟩;have HZ:=Q0a (hz (.cells #[.int .u32 ca,.int .i64 cb] 72));have kh:=AT.out (w4.alloc (.cells #[.int .u32 ca,.int .i64 cb] 72));have kr:=Bb.out (w4.alloc (.cells #[.int .u32 ca,.int .i64 cb] 72));clear hz kc AT Bb;go_wp2_with fail;refine kh.mono ?_;rintro r w'⟨rfl,rfl⟩;go_wp2_with fail;refine kr.mono ?_;rintro r w'⟨rfl,rfl⟩;go_wp2_with fail
  (try go_ret2);exact⟨rfl,HZ.out⟩
 ·go_enter func81,ntmps81;go_wp2_with fail;refine ks.mono ?_;rintro r w2⟨g,rfl,Ae,hg⟩;have kc:=HC.out w2 g Ae hg;clear Ae hg HC ks;go_wp2_with fail;refine kc.mono ?_;rintro r w4⟨rfl,hz⟩;have HZ:=Q0a (hz (.cells #[.int .u32 ca,.int .i64 cb] 72));have kh:=AT.out (w4.alloc (.cells #[.int .u32 ca,.int .i64 cb] 72));have kr:=Bb.out (w4.alloc (.cells #[.int .u32 ca,.int .i64 cb] 72));clear hz kc AT Bb;go_wp2_with fail;refine kh.mono ?_;rintro r w'⟨rfl,rfl⟩;go_wp2_with fail;refine kr.mono ?_;rintro r w'⟨rfl,rfl⟩;go_wp2_with fail
  (try go_ret2);exact⟨rfl,HZ.out⟩
theorem Z0b{w:World}{Z:SP}{fr:List Nat}{N K:Nat}{M:Int}(hs:Sep w Z.hl)(ok:Z.Ok fr N K M){x:Nat}(hx:x<4294967296)(z mask:Int)(self:Bool) :
  Calls prog 81 #[.pointer (some ⟨Z.s,0,none⟩),.int .u32 x,.int .i64 z,.int .i64 mask,.bool self] w (RevR Z fr N K M x z mask self w):=by
 cases hp:pget Z.S.l 1 x with
 | none =>
  refine(Q4P hs ok.core hx z mask self 8 (by decide) (.inl ⟨hp,rfl⟩)).mono ?_;rintro r w'⟨rfl,hb⟩;exact .inl ⟨8,rfl,hb,.inl ⟨hp,rfl⟩⟩
 | some p =>
  by_cases hk:p.kind=2
  ·by_cases hz:0<=z/\z<256
   ·by_cases hm:0<mask/\mask<=15
    ·cases he:Q0g Z.S.l Z.tb x z.toNat with
     | none =>
      refine(Q3F hs ok hx hp hk z mask self 6 (.inr (.inr ⟨hz,hm,he,rfl⟩))).mono ?_;rintro r w'⟨rfl,hb⟩;exact .inl ⟨6,rfl,hb,.inr ⟨p,hp,.inr (.inr (.inr ⟨hk,hz,hm,he,rfl⟩))⟩⟩
     | some en =>
      have Ot:((z.toNat:Nat):Int)=z:=by omega
      have G6:((mask.toNat:Nat):Int)=mask:=by omega
      have:=Z2C (s:=z.toNat) (m:=mask.toNat) hs ok hx hp hk (by omega) (by omega) (by omega) he self;rw[Ot,G6] at this;exact this
    ·refine(Q3F hs ok hx hp hk z mask self 1 (.inr (.inl ⟨hz,hm,rfl⟩))).mono ?_;rintro r w'⟨rfl,hb⟩;exact .inl ⟨1,rfl,hb,.inr ⟨p,hp,.inr (.inr (.inl ⟨hk,hz,hm,rfl⟩))⟩⟩
   ·refine(Q3F hs ok hx hp hk z mask self 2 (.inl ⟨hz,rfl⟩)).mono ?_;rintro r w'⟨rfl,hb⟩;exact .inl ⟨2,rfl,hb,.inr ⟨p,hp,.inr (.inl ⟨hk,hz,rfl⟩)⟩⟩
  ·refine(Q4P hs ok.core hx z mask self 10 (by decide) (.inr ⟨p,hp,hk,rfl⟩)).mono ?_;rintro r w'⟨rfl,hb⟩;exact .inl ⟨10,rfl,hb,.inr ⟨p,hp,.inl ⟨hk,rfl⟩⟩⟩
section
variable {N:List (En Nd)} {next:Int}
end
section
variable {m:Nat} {a:AV} {next:Int}
end
def J0a(Z:SP)(fr:List Nat)(N K:Nat)(M:Int)(x s h r:Nat)(par:Int)(w w':World):Prop:=∃Z',Z'.Ok fr N K (M+1)/\SameN Z Z'/\Z'.av.en=setA Z.av.en x s (some (h,r))/\(∃b,Z'.av.N=addN Z.F.N par (Z.F.next+1) b (x:Int) (s:Int))/\Z'.F.next=Z.F.next+1/\Step Z.hl Z'.hl w w'
def J1w(Z:SP)(x:Nat)(z:Int)(h:Nat)(r:Int)(er:Int):Prop:=
 (pget Z.S.l 1 x=none/\er=8)∨∃p,pget Z.S.l 1 x=some p/\((p.kind≠2/\er=10)∨(p.kind=2/\((¬(0<=z/\z<256)/\er=2)∨((0<=z/\z<256)/\((pget Z.S.l 1 h=none/\er=8) ∨
  ∃q,pget Z.S.l 1 h=some q/\((¬((0<r/\r<=15)/\(q.kind=8↔128<=z))/\er=1)∨(((0<r/\r<=15)/\(q.kind=8↔128<=z))/\Q0g Z.S.l Z.tb x z.toNat≠none/\er=7)))))))
def RootR(Z:SP)(fr:List Nat)(N K:Nat)(M:Int)(x:Nat)(z:Int)(h:Nat)(r:Int)(w:World)(er:Int)(w':World):Prop:=
 (er≠0/\J1w Z x z h r er/\Below w.heap.size w w') ∨
 ∃(s rn:Nat) (p q:Pl),z=(s:Int)/\r=(rn:Int)/\s<256/\1<=rn/\rn<=15/\pget Z.S.l 1 x=some p/\p.kind=2/\pget Z.S.l 1 h=some q/\(q.kind=8↔128<=s)/\Q0g Z.S.l Z.tb x s=none /\
  ((er=0/\J0a Z fr N K M x s h rn 0 w w')∨((er=4∨er=5)/\WhyL Z fr p.fac (x%256) s er/\∃P',Tried Z.S.P fr Z.S.l P'/\Step Z.hl (Z.setS (Z.S.setP P') Z.tb).hl w w'))
theorem Z7S{w w5:World}{Z:SP}{fr:List Nat}{N K:Nat}{M:Int}(ok:Z.Ok fr N K M)(hM:M+1<1099511627776){x s h r:Nat}{p:Pl}(hx:x<4294967296)(hp:pget Z.S.l 1 x=some p)(hk:p.kind=2)(AG:s<256)(h0:Q0g Z.S.l Z.tb x s=none){nd:Nat}(hc:Q6q Z.S.l s ⟨h,r,nd⟩)
  {S':CO} {t':TB} (T:TurnP Z.S fr N K Z.tb (p.fac:Int) (x%256) s (some ⟨h,r,nd⟩) S' t') (st:Step Z.hl (Z.setS S' (updT Z.tb (x%256) t')).hl w w5) {par:Int} (Bu:par=0∨∃m em,find Z.F.N par=some m/\Q0F Z.S.l Z.tb m=some em/\h=em.h/\r&&&em.r=r) {w6:World} (Ch:Below w5.heap.size w5 w6) :
  w6.cell? ⟨Z.s,1,none⟩=some (.pointer (some ⟨Z.F.f,0,none⟩))/\Calls prog 105 #[.pointer (some ⟨Z.F.f,0,none⟩),.int .i64 par,.int .i64 x,.int .i64 s] w6 fun rv w'=>rv=.returned (.tuple #[.int .i64 (Z.F.next+1),.int .i64 0])/\J0a Z fr N K M x s h r par w w':=by
 have st6:=st.trans (st.sep.grown Ch);have Aw:=ok.fpi.free ok.fo.n h0;have Cm:=ok.fpi.few ok.fo.n hp AG h0;have MU:par=0∨∃e,find Z.F.N par=some e:=Bu.imp id fun⟨m,_,h,_⟩=>⟨m,h⟩
 have Bm:=ok.next;refine⟨SP.c1 (Z:=Z.setS S' (updT Z.tb (x%256) t')) st6.sep,(Q7J (SP.sF (Z:=Z.setS S' (updT Z.tb (x%256) t')) st6.sep) ok.fo (par:=par) (sp:=(x:Int)) (sl:=(s:Int)) MU (by omega) (by omega) (by omega) (by omega) Aw (by show Z.F.next+1<_;omega) Cm).mono ?_⟩;rintro rv w'⟨rfl,F',A,stf⟩;obtain⟨a1,a2,a3,a4⟩:=ok.added hp hk AG h0 hc T Bu A;exact⟨rfl,_,a1,a2,a3,a4,A.next,st6.trans (SP.stepF (Z:=Z.setS S' (updT Z.tb (x%256) t')) st6.sep F' A.f stf)⟩
def J1x(bh:Bool)(no:Int)(br bc bk full:Bool)(er:Int):Prop:=(bh=false/\er=2)∨(bh=true/\no=8/\er=8)∨(bh=true/\no=0/\br=false/\er=1)∨(bh=true/\no=0/\br=true/\(bc==bk)=true/\er=1)∨(bh=true/\no=0/\br=true/\(bc==bk)=false/\full=true/\er=7)
theorem Q8U{bc:Bool}{k:Int}(h:(bc==(k==8))=true):(bc=true/\k=8)∨(bc=false/\(k==8)=false/\decide (k=8)=false):=by
 by_cases hk:k=8
 ·subst hk;left;simpa using h
 ·right;cases bc <;> simp_all
theorem Q2Q{bc:Bool}{k:Int}(h:(bc==(k==8))=false):(bc=true/\(k==8)=false/\decide (k=8)=false)∨(bc=false/\k=8):=by
 by_cases hk:k=8
 ·subst hk;right;cases bc <;> simp_all
 ·left;cases bc <;> simp_all
theorem Q6Y{w:World}{Z:SP}{fr:List Nat}{N K:Nat}{M:Int}(hs:Sep w Z.hl)(ok:Z.Ok fr N K M){x h:Nat}(hx:x<4294967296)(hh:h<4294967296){p:Pl}(hp:pget Z.S.l 1 x=some p)(hk:p.kind=2)(z r:Int){Q:Int->World->Prop}
  {k0 a0 f0 no:Int} (hOf:∀W,Below w.heap.size w W->Calls prog 49 #[.pointer (some ⟨Z.S.c,0,none⟩),.int .u32 h,.int .i64 0] W (Told W (.tuple #[.agg #[.int .i64 k0,.int .i64 a0,.int .i64 f0],.int .i64 no])))
  (Az:(∃er,J1x (decide (0<=z/\z<256)) no (decide (0<r/\r<=15)) (decide (z<128)) (k0==8) ((Z.tb (x%256)).at' z).isSome er/\∀W,Below w.heap.size w W->Q er W) ∨
   (decide (0<=z/\z<256)=true/\no=0/\decide (0<r/\r<=15)=true/\(decide (z<128)==(k0==8))=false/\((Z.tb (x%256)).at' z).isSome=false /\
    ∀W g,Below w.heap.size w W->TblZ Z p g W->Calls prog 98 #[.pointer (some ⟨Z.s,0,none⟩),.agg #[.pointer (some ⟨g,0,none⟩),.int .u32 x,.int .i64 (p.fac:Int)],.int .i64 z,.agg #[.int .u32 h,.int .i64 r]] W fun rv w5=>∃er:Int,rv=.returned (.int .i64 er) /\
     ((er≠0/\Q er w5)∨(er=0/\w5.cell? ⟨Z.s,1,none⟩=some (.pointer (some ⟨Z.F.f,0,none⟩))/\Calls prog 105 #[.pointer (some ⟨Z.F.f,0,none⟩),.int .i64 0,.int .i64 x,.int .i64 z] w5 fun rv w'=>(∃a b:Value,rv=.returned (.tuple #[a,b]))/\Q 0 w')))) :
  Calls prog 41 #[.pointer (some ⟨Z.s,0,none⟩),.int .u32 x,.int .i64 z,.agg #[.int .u32 h,.int .i64 r]] w fun rv w'=>∃er:Int,rv=.returned (.int .i64 er)/\Q er w':=by
 have b1:Below w.heap.size w (w.alloc (.cells #[.int .u32 h,.int .i64 r] 72)):=(Below.refl _ _).alloc (J1E _) _;have s1:=(hs.grown b1).sep;have ks:=Q0W s1 ok.core hx hp hk;have hi:=(pget_some.1 hp).1;have Aq:=(pget_some.1 hp).2.2;obtain⟨ca,cb,B5⟩:=Q3h ((Z.tb (x%256)).at' z);have AW:(Z.tb (x%256)).at' z=if 0<=z/\z<256 then Q0g Z.S.l Z.tb x z.toNat else none:=by
  unfold TB.at';split
  ·rename_i h;rw[Q0h hp hk (by omega)]
  ·rfl
 have F6:Hid (∀W g,Below w.heap.size w W->TblZ Z p g W->Calls prog 93 #[.agg #[.pointer (some ⟨g,0,none⟩),.int .u32 x,.int .i64 (p.fac:Int)],.int .i64 z] W (Told W (.tuple #[.agg #[.int .u32 ca,.int .i64 cb],.bool ((Z.tb (x%256)).at' z).isSome]))):=fun W g hb hg=>by
  have T:=(ok.tpi.x (p.fac:Int)).tt ok.core hi Aq hk (SP.sS (hs.grown hb).sep) hg.c;have:=Q1s T (x:Int) (p.fac:Int) z fun e AH=>by
   rw[AW] at AH;split at AH
   ·exact ok.fpi.low ok.core.inv.lok AH
   ·cases AH
  rwa [B5] at this
 -- the worlds,one behind the other
 have Ix:Hid (∀(w2:World) (g:Nat),Below (w.alloc (.cells #[.int .u32 h,.int .i64 r] 72)).heap.size (w.alloc (.cells #[.int .u32 h,.int .i64 r] 72)) w2->TblZ Z p g w2->∀W,Below (w2.alloc (.cells #[.pointer (some ⟨g,0,none⟩),.int .u32 x,.int .i64 (p.fac:Int)] 191)).heap.size (w2.alloc (.cells #[.pointer (some ⟨g,0,none⟩),.int .u32 x,.int .i64 (p.fac:Int)] 191)) W ->
   Below w.heap.size w W/\TblZ Z p g W/\W.cell? ⟨Z.s,0,none⟩=some (.pointer (some ⟨Z.S.c,0,none⟩))/\W.cell? ⟨w.heap.size,0,none⟩=some (.int .u32 h)/\W.cell? ⟨w.heap.size,1,none⟩=some (.int .i64 r)/\W.cell? ⟨w2.heap.size,0,none⟩=some (.pointer (some ⟨g,0,none⟩))/\W.cell? ⟨w2.heap.size,1,none⟩=some (.int .u32 x)/\W.cell? ⟨w2.heap.size,2,none⟩=some (.int .i64 (p.fac:Int))):=fun w2 g Ae hg W FZ=>by
  have Db:Below w.heap.size w w2:=Q0b Ae;have s2:=(hs.grown Db).sep;have An:Below w2.heap.size w2 W:=Q0b FZ;have Cb:Below w.heap.size w W:=Db.trans (An.mono Db.size);have h7:=((Cells.new w 72 [.int .u32 h,.int .i64 r]).same (Ae.block w.heap.size (by simp))).same (An.block w.heap.size (by have:=Ae.size;simp at this;omega));have h9:=(Cells.new w2 191 [.pointer (some ⟨g,0,none⟩),.int .u32 x,.int .i64 (p.fac:Int)]).same (FZ.block w2.heap.size (by simp));exact⟨Cb,hg.grown s2 An,SP.c0 (hs.grown Cb).sep,h7.cell 0 _ rfl,h7.cell 1 _ rfl,h9.cell 0 _ rfl,h9.cell 1 _ rfl,h9.cell 2 _ rfl⟩
 have Le:=Q0a hOf;have Cr:=Q0a Az;have AT:Hid (∀W,Calls prog 92 #[.int .i64 z] W fun r w'=>r=.returned (.bool (decide (0<=z/\z<256)))/\W=w'):=fun W=>Q2s W z
 have Bb:Hid (∀W,Calls prog 106 #[.int .i64 r] W fun r' w'=>r'=.returned (.bool (decide (0<r/\r<=15)))/\W=w'):=fun W=>Q3g W r
 have Dq:Hid (∀W,Calls prog 96 #[.int .i64 z] W fun r w'=>r=.returned (.bool (decide (z<128)))/\W=w'):=fun W=>Q2e W z
 have CI:(0:Int)<=(x:Int):=by omega
 have Hj:(x:Int)<4294967296:=by omega
 have L1:IntKind.i64.wrap (x:Int)=(x:Int):=Go.IntWalk.i64_in _ (by omega);generalize ((Z.tb (x%256)).at' z).isSome=full at *
 generalize decide (0<=z/\z<256)=bh at *
 generalize decide (0<r/\r<=15)=br at *
 generalize decide (z<128)=bc at *
 clear hs ok hx hh hp hk hi Aq B5 AW hOf Az b1 s1;go_enter func41,ntmps41;go_wp2_with fail;refine ks.mono ?_;rintro rv w2⟨g,rfl,Ae,hg⟩;have HW:=Q0a (Ix.out w2 g Ae hg);have HS:Hid (∀W,Below (w2.alloc (.cells #[.pointer (some ⟨g,0,none⟩),.int .u32 x,.int .i64 (p.fac:Int)] 191)).heap.size (w2.alloc (.cells #[.pointer (some ⟨g,0,none⟩),.int .u32 x,.int .i64 (p.fac:Int)] 191)) W->W.cell? ⟨Z.s,0,none⟩=some (.pointer (some ⟨Z.S.c,0,none⟩))/\W.cell? ⟨w.heap.size,0,none⟩=some (.int .u32 h)):=fun W hb=>⟨(HW.out W hb).2.2.1,(HW.out W hb).2.2.2.1⟩
 have HK:Hid (∀W,Below (w2.alloc (.cells #[.pointer (some ⟨g,0,none⟩),.int .u32 x,.int .i64 (p.fac:Int)] 191)).heap.size (w2.alloc (.cells #[.pointer (some ⟨g,0,none⟩),.int .u32 x,.int .i64 (p.fac:Int)] 191)) W->Calls prog 49 #[.pointer (some ⟨Z.S.c,0,none⟩),.int .u32 h,.int .i64 0] W fun r w4=>r=.returned (.tuple #[.agg #[.int .i64 k0,.int .i64 a0,.int .i64 f0],.int .i64 no])/\Below (w2.alloc (.cells #[.pointer (some ⟨g,0,none⟩),.int .u32 x,.int .i64 (p.fac:Int)] 191)).heap.size (w2.alloc (.cells #[.pointer (some ⟨g,0,none⟩),.int .u32 x,.int .i64 (p.fac:Int)] 191)) w4):=fun W hb=>(Le.out W (HW.out W hb).1).mono fun r w4 h=>⟨h.1,hb.trans (h.2.mono hb.size)⟩
 have Cf:Hid (∀W,Below (w2.alloc (.cells #[.pointer (some ⟨g,0,none⟩),.int .u32 x,.int .i64 (p.fac:Int)] 191)).heap.size (w2.alloc (.cells #[.pointer (some ⟨g,0,none⟩),.int .u32 x,.int .i64 (p.fac:Int)] 191)) W->∀o,Below (w2.alloc (.cells #[.pointer (some ⟨g,0,none⟩),.int .u32 x,.int .i64 (p.fac:Int)] 191)).heap.size (w2.alloc (.cells #[.pointer (some ⟨g,0,none⟩),.int .u32 x,.int .i64 (p.fac:Int)] 191)) (W.alloc o)):=fun W hb o=>hb.alloc hb.size o
 obtain⟨-,-,c0,q0,-,-,-,-⟩:=HW.out _ (Below.refl _ _);have QN:Hid (∀W,Below (w2.alloc (.cells #[.pointer (some ⟨g,0,none⟩),.int .u32 x,.int .i64 (p.fac:Int)] 191)).heap.size (w2.alloc (.cells #[.pointer (some ⟨g,0,none⟩),.int .u32 x,.int .i64 (p.fac:Int)] 191)) W->Calls prog 49 #[.pointer (some ⟨Z.S.c,0,none⟩),.int .u32 h,.int .i64 0] W (Told W (.tuple #[.agg #[.int .i64 k0,.int .i64 a0,.int .i64 f0],.int .i64 no]))):=fun W hb=>Le.out W (HW.out W hb).1
 clear Ae hg Ix ks Le;go_upto_region 4 with fail
 go_cut [11,12] from 16 to 34 (fun o nn wc=>∃b:Nat,o=.pointer (some ⟨b,0,none⟩)/\nn=.int .i64 no/\Below (w2.alloc (.cells #[.pointer (some ⟨g,0,none⟩),.int .u32 x,.int .i64 (p.fac:Int)] 191)).heap.size (w2.alloc (.cells #[.pointer (some ⟨g,0,none⟩),.int .u32 x,.int .i64 (p.fac:Int)] 191)) wc/\b<wc.heap.size/\wc.cell? ⟨b,0,none⟩=some (.int .i64 k0))
 case first =>
  generalize (w2.alloc (.cells #[.pointer (some ⟨g,0,none⟩),.int .u32 x,.int .i64 (p.fac:Int)] 191))=W3 at *
  clear HW F6 Cr AT Bb Dq;have cD:W3.drew.cell? ⟨Z.s,0,none⟩=some (.pointer (some ⟨Z.S.c,0,none⟩)):=c0;have qD:W3.drew.cell? ⟨w.heap.size,0,none⟩=some (.int .u32 h):=q0;have MM:Hid (Calls prog 49 #[.pointer (some ⟨Z.S.c,0,none⟩),.int .u32 h,.int .i64 0] (W3.alloc (.cells #[.int .i64 0,.int .i64 0,.int .i64 0] 54)).drew fun r w4=>r=.returned (.tuple #[.agg #[.int .i64 k0,.int .i64 a0,.int .i64 f0],.int .i64 no])/\Below W3.heap.size W3 w4/\Cells w4 W3.heap.size 54 [.int .i64 0,.int .i64 0,.int .i64 0]):=
   (QN.out _ (Cf.out _ (Below.refl _ _).drew _)).mono fun r w4 h=>⟨h.1,((Cf.out _ (Below.refl _ _).drew _)).trans (h.2.mono (by simp)),(Cells.new W3 54 [.int .i64 0,.int .i64 0,.int .i64 0]).same (h.2.block _ (by simp))⟩
  have HD:Hid (Below W3.heap.size W3 W3.drew):=(Below.refl _ _).drew
  go_region_held3 (fun w'=>w'.cell? ⟨Z.s,0,none⟩=some (.pointer (some ⟨Z.S.c,0,none⟩))/\w'.cell? ⟨w.heap.size,0,none⟩=some (.int .u32 h))
   (first|exact⟨c0,q0⟩|exact⟨cD,qD⟩|exact HS.out _ (Cf.out _ HD.out _)|exact HS.out _ Ak.out|exact HS.out _ (Cf.out _ Ak.out _)|exact HS.out _ (Ak.out.setCell (by simp) _)|exact HS.out _ ((Ak.out.setCell (by simp) _).setCell (by simp) _)|exact HS.out _ (((Ak.out.setCell (by simp) _).setCell (by simp) _).setCell (by simp) _))
   (first|(go_at_call 49;refine MM.out.mono ?_;rintro rv w4⟨rfl,A2,BC⟩;have Ak:=Q0a A2;have z0:=BC.cell 0 _ rfl;have z1:=BC.cell 1 _ rfl;have z2:=BC.cell 2 _ rfl;have y0:=BC.free 0;have y1:=BC.free 1;have y2:=BC.free 2;have Hc:=Q0a BC;clear A2 BC)|(go_at_call 49;refine(HK.out _ (by first|exact HD.out|exact Cf.out _ HD.out _)).mono ?_;rintro rv w4⟨rfl,A2⟩;have Ak:=Q0a A2;clear A2))
  ·go_wp2_with fail;go_meet;exact⟨_,rfl,rfl,Cf.out _ Ak.out _,by simp,(Cells.new w4 54 [.int .i64 k0,.int .i64 a0,.int .i64 f0]).cell 0 _ rfl⟩
  ·go_wp2_with fail;go_meet;exact⟨_,rfl,rfl,((Ak.out.setCell (by simp) _).setCell (by simp) _).setCell (by simp) _,by simpa using Hc.out.lt,(((Hc.out.set 0 (.int .i64 k0)).set 1 (.int .i64 a0)).set 2 (.int .i64 f0)).cell 0 _ rfl⟩
 obtain⟨bo,rfl,rfl,A2,Aa,B4⟩:=hcut;have h5:=HW.out wc A2;obtain⟨Au,Rz,-,-,-,u0,u1,u2⟩:=h5;have kc:=F6.out _ g Au Rz;have Hr:=Q0a B4;have Ak:=Q0a A2;have Ku:Hid (∀W,Below wc.heap.size wc W->(Below w.heap.size w W/\TblZ Z p g W/\W.cell? ⟨Z.s,0,none⟩=some (.pointer (some ⟨Z.S.c,0,none⟩))/\W.cell? ⟨w.heap.size,0,none⟩=some (.int .u32 h)/\W.cell? ⟨w.heap.size,1,none⟩=some (.int .i64 r)/\W.cell? ⟨w2.heap.size,0,none⟩=some (.pointer (some ⟨g,0,none⟩))/\W.cell? ⟨w2.heap.size,1,none⟩=some (.int .u32 x)/\W.cell? ⟨w2.heap.size,2,none⟩=some (.int .i64 (p.fac:Int)))/\W.cell? ⟨bo,0,none⟩=some (.int .i64 k0)):=fun W hb=>⟨HW.out W (Ak.out.trans (hb.mono Ak.out.size)),(hb.cell (p:=⟨bo,0,none⟩) Aa).trans Hr.out⟩
 clear A2 Au Rz Aa B4 F6 HW HS HK Cf QN c0 q0;go_wp2_with fail;refine kc.mono ?_;rintro rv w6⟨rfl,Ch⟩;go_wp2_with fail;generalize hW7:(w6.alloc (.cells #[.int .u32 ca,.int .i64 cb] 72))=w7;have Cl:Below wc.heap.size wc w7:=by rw[<- hW7];exact Ch.alloc Ch.size _
 have CD:Hid (∀n,(Below w.heap.size w (w7.drewN n)/\TblZ Z p g (w7.drewN n)/\(w7.drewN n).cell? ⟨Z.s,0,none⟩=some (.pointer (some ⟨Z.S.c,0,none⟩))/\(w7.drewN n).cell? ⟨w.heap.size,0,none⟩=some (.int .u32 h)/\(w7.drewN n).cell? ⟨w.heap.size,1,none⟩=some (.int .i64 r)/\(w7.drewN n).cell? ⟨w2.heap.size,0,none⟩=some (.pointer (some ⟨g,0,none⟩))/\(w7.drewN n).cell? ⟨w2.heap.size,1,none⟩=some (.int .u32 x)/\(w7.drewN n).cell? ⟨w2.heap.size,2,none⟩=some (.int .i64 (p.fac:Int)))/\(w7.drewN n).cell? ⟨bo,0,none⟩=some (.int .i64 k0)):=fun n=>Ku.out _ (Q0q Cl n)
 have Ir:Hid (Below w.heap.size w w7):=(CD.out 0).1.1;have q1:w7.cell? ⟨w.heap.size,1,none⟩=some (.int .i64 r):=(CD.out 0).1.2.2.2.2.1;have k8:w7.cell? ⟨bo,0,none⟩=some (.int .i64 k0):=(CD.out 0).2;have CE:Hid (∀n,Calls prog 106 #[.int .i64 r] (w7.drewN n) fun e w''=>e=.returned (.bool br)/\∃m,w''=w7.drewN m):=fun n=>(Bb.out _).mono fun e w' h=>⟨h.1,n,h.2.symm⟩
 have KO:Hid (∀n,Calls prog 96 #[.int .i64 z] (w7.drewN n) fun e w''=>e=.returned (.bool bc)/\∃m,w''=w7.drewN m):=fun n=>(Dq.out _).mono fun e w' h=>⟨h.1,n,h.2.symm⟩
 have kh:=AT.out w7;clear hW7 Cl Ch kc u0 u1 u2 Ku Bb Dq AT Ak Hr;rcases Cr.out with ⟨er,hT,hQ⟩|⟨rfl,rfl,rfl,AK,rfl,hl⟩
 ·have HQ:=Q0a hQ;clear hQ Cr;rcases hT with ⟨rfl,rfl⟩|⟨rfl,rfl,rfl⟩|⟨rfl,rfl,rfl,rfl⟩|⟨rfl,rfl,rfl,AK,rfl⟩|⟨rfl,rfl,rfl,AK,rfl,rfl⟩
  ·refine kh.mono ?_;rintro rv w'⟨rfl,rfl⟩;go_wp2_with fail
   (try go_ret);exact⟨_,rfl,HQ.out _ Ir.out⟩
  ·refine kh.mono ?_;rintro rv w'⟨rfl,rfl⟩;go_wp2_with fail
   (try go_ret);exact⟨_,rfl,HQ.out _ Ir.out⟩
  ·refine kh.mono ?_;rintro rv w'⟨rfl,rfl⟩;go_wp2_with fail
   go_quiet ((go_at_call 106;exact CE.out _))
   go_wp2_with fail
   (try go_ret);exact⟨_,rfl,HQ.out _ (CD.out _).1.1⟩
  ·have hc:=Q8U AK;clear AK;rcases hc with ⟨rfl,rfl⟩|⟨rfl,Nj,Nb⟩
   ·refine kh.mono ?_;rintro rv w'⟨rfl,rfl⟩;go_wp2_with fail
    go_quiet (first|(go_at_call 106;exact CE.out _)|(go_at_call 96;exact KO.out _))
    go_wp2_with fail
    (try go_ret);exact⟨_,rfl,HQ.out _ (CD.out _).1.1⟩
   ·refine kh.mono ?_;rintro rv w'⟨rfl,rfl⟩;go_wp2_with fail
    go_quiet (first|(go_at_call 106;exact CE.out _)|(go_at_call 96;exact KO.out _))
    go_wp2_with fail
    (try go_ret);exact⟨_,rfl,HQ.out _ (CD.out _).1.1⟩
  ·have hc:=Q2Q AK;clear AK;rcases hc with ⟨rfl,Nj,Nb⟩|⟨rfl,rfl⟩
   ·refine kh.mono ?_;rintro rv w'⟨rfl,rfl⟩;go_wp2_with fail
    go_quiet (first|(go_at_call 106;exact CE.out _)|(go_at_call 96;exact KO.out _))
    go_wp2_with fail
    (try go_ret);exact⟨_,rfl,HQ.out _ (CD.out _).1.1⟩
   ·refine kh.mono ?_;rintro rv w'⟨rfl,rfl⟩;go_wp2_with fail
    go_quiet (first|(go_at_call 106;exact CE.out _)|(go_at_call 96;exact KO.out _))
    go_wp2_with fail
    (try go_ret);exact⟨_,rfl,HQ.out _ (CD.out _).1.1⟩
 ·have Lb:=Q0a (fun n=>hl (w7.drewN n) g (CD.out n).1.1 (CD.out n).1.2.1);obtain⟨⟨-,-,-,q0,-,v0,v1,v2⟩,-⟩:=CD.out 0;have q0:w7.cell? ⟨w.heap.size,0,none⟩=some (.int .u32 h):=q0;have v0:w7.cell? ⟨w2.heap.size,0,none⟩=some (.pointer (some ⟨g,0,none⟩)):=v0;have v1:w7.cell? ⟨w2.heap.size,1,none⟩=some (.int .u32 x):=v1;have v2:w7.cell? ⟨w2.heap.size,2,none⟩=some (.int .i64 (p.fac:Int)):=v2;clear hl Cr;have hc:=Q2Q AK;clear AK;rcases hc with ⟨rfl,Nj,Nb⟩|⟨rfl,rfl⟩
  ·refine kh.mono ?_;rintro rv w'⟨rfl,rfl⟩;go_wp2_with fail
   go_quiet (first|(go_at_call 106;exact CE.out _)|(go_at_call 96;exact KO.out _))
   go_wp2_with fail;refine(Lb.out _).mono ?_;rintro rv w5⟨er,rfl,⟨Ac,hq⟩|⟨rfl,Ul,Bp⟩⟩
   ·have Bk:(er != 0)=true:=by simp[Ac]
    have HQ:=Q0a hq;clear hq;go_wp2_with fail
    (try go_ret);exact⟨_,rfl,HQ.out⟩
   ·have Df:=Q0a Bp;clear Bp;go_wp2_with fail;refine Df.out.mono ?_;rintro rv w8⟨⟨ra,rb,rfl⟩,hq⟩;have HQ:=Q0a hq;clear hq;go_wp2_with fail
    (try go_ret);exact⟨_,rfl,HQ.out⟩
  ·refine kh.mono ?_;rintro rv w'⟨rfl,rfl⟩;go_wp2_with fail
   go_quiet (first|(go_at_call 106;exact CE.out _)|(go_at_call 96;exact KO.out _))
   go_wp2_with fail;refine(Lb.out _).mono ?_;rintro rv w5⟨er,rfl,⟨Ac,hq⟩|⟨rfl,Ul,Bp⟩⟩
   ·have Bk:(er != 0)=true:=by simp[Ac]
    have HQ:=Q0a hq;clear hq;go_wp2_with fail
    (try go_ret);exact⟨_,rfl,HQ.out⟩
   ·have Df:=Q0a Bp;clear Bp;go_wp2_with fail;refine Df.out.mono ?_;rintro rv w8⟨⟨ra,rb,rfl⟩,hq⟩;have HQ:=Q0a hq;clear hq;go_wp2_with fail
    (try go_ret);exact⟨_,rfl,HQ.out⟩
theorem Q8V{l:List Pl}(lok:LOk l){s h:Nat}{q:Pl}(hq:pget l s h=some q):h<4294967295:=by
 have h1:=pget_some.1 hq;have h2:=lok.2 q (Q1i hq);have:nm (h%256) q=h:=h1.2.1;unfold nm at this;omega
theorem Q6Z{w:World}{s x h:Nat}{z r e:Int}(he:e≠0)(hS:Calls prog 90 #[.pointer (some ⟨s,0,none⟩),.int .u32 x] (w.alloc (.cells #[.int .u32 h,.int .i64 r] 72)) (Told (w.alloc (.cells #[.int .u32 h,.int .i64 r] 72)) (.tuple #[.agg #[.pointer none,.int .u32 0,.int .i64 0],.int .i64 e]))) :
  Calls prog 41 #[.pointer (some ⟨s,0,none⟩),.int .u32 x,.int .i64 z,.agg #[.int .u32 h,.int .i64 r]] w (Told w (.int .i64 e)):=by
 have GY:(e != 0)=true:=by simpa using he
 have HB:Hid (∀w1,Below (w.alloc (.cells #[.int .u32 h,.int .i64 r] 72)).heap.size (w.alloc (.cells #[.int .u32 h,.int .i64 r] 72)) w1->∀o,Below w.heap.size w (w1.alloc o)):=fun w1 hb o=>(Q0b hb).alloc (Q0b hb).size o
 go_enter func41,ntmps41;go_wp2_with fail;refine hS.mono ?_;rintro rv w1⟨rfl,hb⟩;have HW:=Q0a (HB.out w1 hb);clear hb HB hS;go_wp2_with fail
 (try go_ret);exact⟨rfl,HW.out _⟩
theorem Q8W{w:World}{Z:SP}{fr:List Nat}{N K:Nat}{M:Int}(hs:Sep w Z.hl)(ok:Z.Ok fr N K M)(hM:M+1<1099511627776){x h:Nat}(hx:x<4294967296)(hh:h<4294967296)(z r:Int) :
  Calls prog 41 #[.pointer (some ⟨Z.s,0,none⟩),.int .u32 x,.int .i64 z,.agg #[.int .u32 h,.int .i64 r]] w fun rv w'=>∃er:Int,rv=.returned (.int .i64 er)/\RootR Z fr N K M x z h r w er w':=by
 have s1:=(hs.grown ((Below.refl w.heap.size w).alloc (J1E _) (.cells #[.int .u32 h,.int .i64 r] 72))).sep;cases hp:pget Z.S.l 1 x with
 | none =>
  refine(Q6Z (e:=8) (by decide) (Q0J s1 ok.core hx 8 (.inl ⟨hp,rfl⟩))).mono ?_;rintro rv w'⟨rfl,hb⟩;exact⟨_,rfl,.inl ⟨by decide,.inl ⟨hp,rfl⟩,hb⟩⟩
 | some p =>
  by_cases hk:p.kind=2
  case neg =>
   refine(Q6Z (e:=10) (by decide) (Q0J s1 ok.core hx 10 (.inr ⟨p,hp,hk,rfl⟩))).mono ?_;rintro rv w'⟨rfl,hb⟩;exact⟨_,rfl,.inl ⟨by decide,.inr ⟨p,hp,.inl ⟨hk,rfl⟩⟩,hb⟩⟩
  clear s1;cases hq:pget Z.S.l 1 h with
  | none =>
   refine Q6Y hs ok hx hh hp hk z r (k0:=0) (a0:=0) (f0:=0) (no:=8) (fun W hb=>Q3b (SP.sS (hs.grown hb).sep) ok.core.inv.lok hh 0 hq) (.inl ?_);by_cases hz:0<=z/\z<256
   ·exact⟨8,.inr (.inl ⟨by simpa using hz,rfl,rfl⟩),fun W hb=>.inl ⟨by decide,.inr ⟨p,hp,.inr ⟨hk,.inr ⟨hz,.inl ⟨hq,rfl⟩⟩⟩⟩,hb⟩⟩
   ·exact⟨2,.inl ⟨decide_eq_false hz,rfl⟩,fun W hb=>.inl ⟨by decide,.inr ⟨p,hp,.inr ⟨hk,.inl ⟨hz,rfl⟩⟩⟩,hb⟩⟩
  | some q =>
   refine Q6Y hs ok hx hh hp hk z r (k0:=(q.kind:Int)) (a0:=(q.at_:Int)) (f0:=(q.fac:Int)) (no:=0) (fun W hb=>Q2p (SP.sS (hs.grown hb).sep) ok.core.inv.lok hh 0 hq (.inl rfl)) ?_;by_cases hz:0<=z/\z<256
   case neg=>exact .inl ⟨2,.inl ⟨decide_eq_false hz,rfl⟩,fun W hb=>.inl ⟨by decide,.inr ⟨p,hp,.inr ⟨hk,.inl ⟨hz,rfl⟩⟩⟩,hb⟩⟩
   have I6:decide (0<=z/\z<256)=true:=decide_eq_true hz;by_cases hr:0<r/\r<=15
   case neg=>exact .inl ⟨1,.inr (.inr (.inl ⟨I6,rfl,decide_eq_false hr,rfl⟩)),fun W hb=>.inl ⟨by decide,.inr ⟨p,hp,.inr ⟨hk,.inr ⟨hz,.inr ⟨q,hq,.inl ⟨fun hc=>hr hc.1,rfl⟩⟩⟩⟩⟩,hb⟩⟩
   have MA:decide (0<r/\r<=15)=true:=decide_eq_true hr;by_cases hm:(q.kind=8↔128<=z)
   case neg =>
    refine .inl ⟨1,.inr (.inr (.inr (.inl ⟨I6,rfl,MA,?_,rfl⟩))),fun W hb=>.inl ⟨by decide,.inr ⟨p,hp,.inr ⟨hk,.inr ⟨hz,.inr ⟨q,hq,.inl ⟨fun hc=>hm hc.2,rfl⟩⟩⟩⟩⟩,hb⟩⟩;by_cases h8:q.kind=8
    ·have h9:z<128:=by have:¬128<=z:=fun h=>hm ⟨fun _=>h,fun _=>h8⟩;omega
     simp[h8,h9]
    ·have h9:¬z<128:=by intro h;exact hm ⟨fun h'=>absurd h' h8,fun h'=>by omega⟩
     have NA:¬(q.kind:Int)=8:=by omega
     simp[h9,NA]
   have F1:(decide (z<128)==((q.kind:Int)==8))=false:=by
    by_cases h8:q.kind=8
    ·have h9:¬z<128:=by have:=hm.1 h8;omega
     simp[h8,h9]
    ·have h9:z<128:=by have:¬128<=z:=fun h=>h8 (hm.2 h);omega
     have NA:¬(q.kind:Int)=8:=by omega
     simp[h9,NA]
   obtain⟨s,rfl⟩:∃s:Nat,z=(s:Int):=⟨z.toNat,by omega⟩
   obtain⟨rn,rfl⟩:∃rn:Nat,r=(rn:Int):=⟨r.toNat,by omega⟩
   have AG:s<256:=by omega
   have AW:(Z.tb (x%256)).at' (s:Int)=Q0g Z.S.l Z.tb x s:=by
    unfold TB.at';rw[if_pos hz,Q0h hp hk (by omega)];rfl
   cases h0:Q0g Z.S.l Z.tb x s with
   | some e0 =>
    refine .inl ⟨7,.inr (.inr (.inr (.inr ⟨I6,rfl,MA,F1,by rw[AW,h0];rfl,rfl⟩))),fun W hb=>.inl ⟨by decide,.inr ⟨p,hp,.inr ⟨hk,.inr ⟨hz,.inr ⟨q,hq,.inr ⟨⟨hr,hm⟩,?_,rfl⟩⟩⟩⟩⟩,hb⟩⟩;rw[J2C,h0];exact Option.some_ne_none _
   | none =>
    refine .inr ⟨I6,rfl,MA,F1,by rw[AW,h0];rfl,fun W g hb hg=>?_⟩;have hi:=(pget_some.1 hp).1;have Aq:=(pget_some.1 hp).2.2;have Dk:(Z.tb (x%256)).en s=none:=by rw[<- Q0h hp hk AG];exact h0
    have B8:(q.kind=8↔128<=s):=by rw[hm];omega
    have As:h<4294967295:=Q8V ok.core.inv.lok hq;refine(Q7L (hs.grown hb).sep ok.core ok.tpi (x:=x) hi Aq hk AG Dk As (by omega:rn<16) hg).mono ?_;rintro rv w5⟨er,rfl,⟨rfl,nd,S',t',T,st⟩|⟨he,F4,P',tr,st⟩⟩
    ·have AS:Q6q Z.S.l s ⟨h,rn,nd⟩:=⟨⟨q,hq,B8⟩,by dsimp only;omega⟩
     obtain⟨c1,k⟩:=Z7S ok hM hx hp hk AG h0 AS T ((hs.grown hb).trans st) (par:=0) (.inl rfl) (Below.refl _ _);refine⟨0,rfl,.inr ⟨rfl,c1,k.mono ?_⟩⟩;rintro rv w'⟨rfl,PZ⟩;exact⟨⟨_,_,rfl⟩,.inr ⟨s,rn,p,q,rfl,rfl,AG,by omega,by omega,hp,hk,hq,B8,h0,.inl ⟨rfl,PZ⟩⟩⟩
    ·exact⟨er,rfl,.inl ⟨by omega,.inr ⟨s,rn,p,q,rfl,rfl,AG,by omega,by omega,hp,hk,hq,B8,h0,.inr ⟨he,F4,P',tr,(hs.grown hb).trans st⟩⟩⟩⟩
theorem Z5s(w:World)(k:Int):Calls prog 101 #[.int .i64 k] w fun r w'=>r=.returned (.bool (decide (k=8∨1<=k/\k<=5)))/\w=w':=by
 by_cases h8:k=8
 ·subst h8;go_enter func101,ntmps101;go_wp2_with fail
  (try go_ret);exact⟨rfl,rfl⟩
 ·have b8:(k==8)=false:=by simpa using h8
  have d8:decide (k=8)=false:=decide_eq_false h8;by_cases h1:1<=k
  ·have d1:decide (1<=k)=true:=decide_eq_true h1;by_cases h5:k<=5
   ·have d5:decide (k<=5)=true:=decide_eq_true h5;have hv:decide (k=8∨1<=k/\k<=5)=true:=decide_eq_true (.inr ⟨h1,h5⟩);rw[hv];clear hv;go_enter func101,ntmps101;go_wp2_with fail
    (try go_ret);exact⟨rfl,rfl⟩
   ·have d5:decide (k<=5)=false:=decide_eq_false h5;have hv:decide (k=8∨1<=k/\k<=5)=false:=decide_eq_false (by omega);rw[hv];clear hv;go_enter func101,ntmps101;go_wp2_with fail
    (try go_ret);exact⟨rfl,rfl⟩
  ·have d1:decide (1<=k)=false:=decide_eq_false h1;have hv:decide (k=8∨1<=k/\k<=5)=false:=decide_eq_false (by omega);rw[hv];clear hv;go_enter func101,ntmps101;go_wp2_with fail
   (try go_ret);exact⟨rfl,rfl⟩
theorem Q7a{w:World}{s x y:Nat}{z k lim e:Int}(he:e≠0)(hS:Calls prog 90 #[.pointer (some ⟨s,0,none⟩),.int .u32 x] w (Told w (.tuple #[.agg #[.pointer none,.int .u32 0,.int .i64 0],.int .i64 e]))) :
  Calls prog 40 #[.pointer (some ⟨s,0,none⟩),.int .u32 x,.int .i64 z,.int .u32 y,.int .i64 k,.int .i64 lim] w (Told w (.tuple #[.int .u32 0,.int .i64 e])):=by
 have GY:(e != 0)=true:=by simpa using he
 have HB:Hid (∀w1,Below w.heap.size w w1->∀o,Below w.heap.size w (w1.alloc o)):=fun w1 hb o=>hb.alloc hb.size o
 go_enter func40,ntmps40;go_wp2_with fail;refine hS.mono ?_;rintro rv w1⟨rfl,hb⟩;have HW:=Q0a (HB.out w1 hb);clear hb HB hS;go_wp2_with fail
 (try go_ret2);exact⟨rfl,HW.out _⟩
end Go.Proofs.YtfidemmgofcnmaaGreatDoor

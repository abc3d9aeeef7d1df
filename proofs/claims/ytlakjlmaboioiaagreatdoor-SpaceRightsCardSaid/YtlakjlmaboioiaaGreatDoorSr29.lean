/- SpaceRights returns true at every input. No condition. Part of its proof. -/
import Derived.Test.YtlakjlmaboioiaaGreatDoorSr01
import Derived.Test.YtlakjlmaboioiaaGreatDoorSr28
import Derived.Test.YtlakjlmaboioiaaGreatDoorSr24
import Derived.Deep.LoopGhost
import Derived.Deep.QuietTactic
import Derived.BigQuiet
import Derived.Test.YtlakjlmaboioiaaGreatDoorSr26
import Derived.Test.YtlakjlmaboioiaaGreatDoorSr27
set_option maxHeartbeats 8000000
set_option maxRecDepth 100000
set_option linter.unusedVariables false
namespace Go.Proofs.YtlakjlmaboioiaaGreatDoor
open Go.RowKit Go.Proofs.Tryz
def Q5f (Z:SP) (x:Nat) (i:It) (k:Nat):Bool:=(Q0f Z.S.l Z.tb x (i.base.toNat+k)).isSome
def MvsE (Z:SP) (x:Nat) (i:It) (v:Wi) (er:Int):Prop:=(pget Z.S.l 1 x=none/\er=8)∨∃p,pget Z.S.l 1 x=some p/\((p.kind≠2/\er=10)∨(p.kind=2/\((Q4h i v=false/\er=1)∨(Q4h i v=true/\¬(i.off+((2 ^ i.order.toNat:Nat):Int)<=((2 ^ v.order.toNat:Nat):Int))/\er=2))))
def noMv:Mv:=⟨0,0,0,false⟩
def MvsR (Z:SP) (x:Nat) (i:It) (v:Wi) (w:World) (r:Ending) (w':World):Prop:=Below w.heap.size w w' /\
 ((∃er,er≠0/\r=.returned (.tuple #[.slice none 0 0,.int .i64 er])/\MvsE Z x i v er) ∨
  ∃(p:Pl) (a:Option Addr) (cap:Nat) (L:List Mv),pget Z.S.l 1 x=some p/\p.kind=2/\Q4h i v=true/\i.off+((2 ^ i.order.toNat:Nat):Int)<=((2 ^ v.order.toNat:Nat):Int)/\L=movV (Q5f Z x i) i v (2 ^ i.order.toNat)/\r=.returned (.tuple #[.slice a L.length cap,.int .i64 0])/\L.length<=cap/\AsideM Z.hl L.length (fun j=>L.getD j noMv) a w')
theorem Q6C {w:World} {Z:SP} {fr:List Nat} {N K:Nat} (hs:Sep w Z.hl) (ok:Z.S.Ok fr N K) {x:Nat} (hx:x<4294967296) (i:It) (v:Wi) (er:Int) (he:er≠0) (hw:(pget Z.S.l 1 x=none/\er=8)∨∃p,pget Z.S.l 1 x=some p/\p.kind≠2/\er=10) :
  Calls prog 24 #[.pointer (some ⟨Z.s,0,none⟩),.int .u32 x,.agg #[.int .i64 i.base,.int .i64 i.order,.int .i64 i.r,.int .i64 i.off,.bool i.g],.agg #[.int .i64 v.base,.int .i64 v.order]] w fun r w'=>r=.returned (.tuple #[.slice none 0 0,.int .i64 er])/\Below w.heap.size w w':=by
 have hb0:Below w.heap.size w ((w.alloc (.cells #[.int .i64 i.base,.int .i64 i.order,.int .i64 i.r,.int .i64 i.off,.bool i.g] 54)).alloc (.cells #[.int .i64 v.base,.int .i64 v.order] 56)):=((Below.refl w.heap.size w).alloc (J1x _) _).alloc (by simp) _;have ks:=Q0I (hs.grown hb0).sep ok hx er hw;have hnb:(er==0)=false:=by simpa using he
 have HR:Hid (∀w' o,Below ((w.alloc (.cells #[.int .i64 i.base,.int .i64 i.order,.int .i64 i.r,.int .i64 i.off,.bool i.g] 54)).alloc (.cells #[.int .i64 v.base,.int .i64 v.order] 56)).heap.size ((w.alloc (.cells #[.int .i64 i.base,.int .i64 i.order,.int .i64 i.r,.int .i64 i.off,.bool i.g] 54)).alloc (.cells #[.int .i64 v.base,.int .i64 v.order] 56)) w'->Below w.heap.size w (w'.alloc o)):=fun w' o hb=>Q0e (Q0e (hb.alloc hb.size o))
 obtain⟨ib,io,ir,iff,ig⟩:=i;obtain⟨vb,vo⟩:=v;dsimp only at *
 clear hs ok hx hw hb0;go_enter func24,ntmps24;go_wp2_with fail;refine ks.mono ?_;rintro r w1 ⟨rfl,hb⟩;have HQ:Hid (∀o,Below w.heap.size w (w1.alloc o)):=fun o=>HR.out w1 o hb
 clear hb HR ks;go_wp2_with fail
 first|exact⟨rfl,HQ.out _⟩|(go_ret2;exact⟨rfl,HQ.out _⟩)
theorem Z6A {n:Nat} (h:n<=128):wrap64 (n:Int)=(n:Int):=Go.IntWalk.wrap64_in _ (by omega)
theorem Z8M {n:Nat} {x:Int} (h:n<=128) (h0:0<=x) (h1:x<256):wrap64 (x+(n:Int))=x+(n:Int):=Go.IntWalk.wrap64_in _ (by omega)
def Box2 (b:Nat) (i:It) (v:Wi) (W:World):Prop:=(W.cell? ⟨b,0,none⟩=some (.int .i64 i.base)/\W.cell? ⟨b,1,none⟩=some (.int .i64 i.order)/\W.cell? ⟨b,2,none⟩=some (.int .i64 i.r)/\W.cell? ⟨b,3,none⟩=some (.int .i64 i.off)/\W.cell? ⟨b,4,none⟩=some (.bool i.g))/\W.cell? ⟨b+1,0,none⟩=some (.int .i64 v.base)/\W.cell? ⟨b+1,1,none⟩=some (.int .i64 v.order)
theorem box2 {w:World} (i:It) (v:Wi) {W:World} (hb:Below ((w.alloc (.cells #[.int .i64 i.base,.int .i64 i.order,.int .i64 i.r,.int .i64 i.off,.bool i.g] 54)).alloc (.cells #[.int .i64 v.base,.int .i64 v.order] 56)).heap.size ((w.alloc (.cells #[.int .i64 i.base,.int .i64 i.order,.int .i64 i.r,.int .i64 i.off,.bool i.g] 54)).alloc (.cells #[.int .i64 v.base,.int .i64 v.order] 56)) W):Box2 w.heap.size i v W:=by
 have h1:=((Cells.new w 54 i.cells).alloc (.cells #[.int .i64 v.base,.int .i64 v.order] 56)).same (hb.block _ (by simp;omega));have h2:=(Cells.new (w.alloc (.cells #[.int .i64 i.base,.int .i64 i.order,.int .i64 i.r,.int .i64 i.off,.bool i.g] 54)) 56 v.cells).same (hb.block _ (by simp));have e1:(w.alloc (.cells #[.int .i64 i.base,.int .i64 i.order,.int .i64 i.r,.int .i64 i.off,.bool i.g] 54)).heap.size=w.heap.size+1:=by simp
 rw [e1] at h2;exact⟨⟨h1.cell 0 _ rfl,h1.cell 1 _ rfl,h1.cell 2 _ rfl,h1.cell 3 _ rfl,h1.cell 4 _ rfl⟩,h2.cell 0 _ rfl,h2.cell 1 _ rfl⟩
theorem Z0M {w:World} {s x fac:Nat} {i:It} {v:Wi} {T:Nat->World->Prop} {f:Nat->Bool} {Q:Ending->World->Prop}
  (ks:Calls prog 73 #[.pointer (some ⟨s,0,none⟩),.int .u32 x] ((w.alloc (.cells #[.int .i64 i.base,.int .i64 i.order,.int .i64 i.r,.int .i64 i.off,.bool i.g] 54)).alloc (.cells #[.int .i64 v.base,.int .i64 v.order] 56)) fun r w'=>∃g:Nat,r=.returned (.tuple #[.agg #[.pointer (some ⟨g,0,none⟩),.int .u32 x,.int .i64 fac],.int .i64 0])/\Below ((w.alloc (.cells #[.int .i64 i.base,.int .i64 i.order,.int .i64 i.r,.int .i64 i.off,.bool i.g] 54)).alloc (.cells #[.int .i64 v.base,.int .i64 v.order] 56)).heap.size ((w.alloc (.cells #[.int .i64 i.base,.int .i64 i.order,.int .i64 i.r,.int .i64 i.off,.bool i.g] 54)).alloc (.cells #[.int .i64 v.base,.int .i64 v.order] 56)) w'/\T g w')
  (hT:∀g W W',T g W->Below W.heap.size W W'->T g W')
  (hC:∀(g:Nat) (W:World) (k:Nat),Below ((w.alloc (.cells #[.int .i64 i.base,.int .i64 i.order,.int .i64 i.r,.int .i64 i.off,.bool i.g] 54)).alloc (.cells #[.int .i64 v.base,.int .i64 v.order] 56)).heap.size ((w.alloc (.cells #[.int .i64 i.base,.int .i64 i.order,.int .i64 i.r,.int .i64 i.off,.bool i.g] 54)).alloc (.cells #[.int .i64 v.base,.int .i64 v.order] 56)) W->T g W->k<2 ^ i.order.toNat->Q4h i v=true->Calls prog 74 #[.agg #[.pointer (some ⟨g,0,none⟩),.int .u32 x,.int .i64 fac],.int .i64 (i.base+(k:Int))] W fun r w'=>∃a b:Int,r=.returned (.tuple #[.agg #[.int .u32 a,.int .i64 b],.bool (f k)])/\Below W.heap.size W w')
  (hE:∀(er:Int) (w':World),((Q4h i v=false/\er=1)∨(Q4h i v=true/\¬(i.off+((2 ^ i.order.toNat:Nat):Int)<=((2 ^ v.order.toNat:Nat):Int))/\er=2))->Below w.heap.size w w'->Q (.returned (.tuple #[.slice none 0 0,.int .i64 er])) w')
  (hR:Q4h i v=true->i.off+((2 ^ i.order.toNat:Nat):Int)<=((2 ^ v.order.toNat:Nat):Int)->∀(a:Value) (w':World),OutM w w' a (movV f i v (2 ^ i.order.toNat))->Q (.returned (.tuple #[a,.int .i64 0])) w') :
  Calls prog 24 #[.pointer (some ⟨s,0,none⟩),.int .u32 x,.agg #[.int .i64 i.base,.int .i64 i.order,.int .i64 i.r,.int .i64 i.off,.bool i.g],.agg #[.int .i64 v.base,.int .i64 v.order]] w Q:=by
 have HW:Hid (∀W,Below ((w.alloc (.cells #[.int .i64 i.base,.int .i64 i.order,.int .i64 i.r,.int .i64 i.off,.bool i.g] 54)).alloc (.cells #[.int .i64 v.base,.int .i64 v.order] 56)).heap.size ((w.alloc (.cells #[.int .i64 i.base,.int .i64 i.order,.int .i64 i.r,.int .i64 i.off,.bool i.g] 54)).alloc (.cells #[.int .i64 v.base,.int .i64 v.order] 56)) W->Below w.heap.size w W/\Box2 w.heap.size i v W):=fun W hb=>⟨Q0e (Q0e hb),box2 i v hb⟩
 have HC:=Q0a hC;have HTT:=Q0a hT;have HQE:=Q0a hE;have HQR:=Q0a hR;have HMay:Hid (∀W,_):=fun W=>J0t W v
 have HCode:Hid (∀W,_):=fun W=>Z8L W i
 have HK1:Hid (∀W,_):=fun W=>Q2E W i.base
 have HK2:Hid (∀W,_):=fun W=>Q2E W v.base
 have HAr:Hid (Q4h i v=(Q8e i&&(Q2e v.base v.order&&(decide (i.base<128)==decide (v.base<128))))):=rfl;have HP:Hid (Q4h i v=true->Q2e i.base i.order=true/\Q2e v.base v.order=true/\1<=i.r/\i.r<=15/\0<=i.off/\i.off<256):=fun h=>by
  unfold Q4h Q8e at h;simp only [J1S,decide_eq_true_eq] at h;exact⟨h.1.1,h.2.1,h.1.2⟩
 generalize hW0:((w.alloc (.cells #[.int .i64 i.base,.int .i64 i.order,.int .i64 i.r,.int .i64 i.off,.bool i.g] 54)).alloc (.cells #[.int .i64 v.base,.int .i64 v.order] 56))=W0 at *
 obtain⟨ib,io,ir,iff,ig⟩:=i;obtain⟨vb,vo⟩:=v;dsimp only at *
 clear hC hT hE hR;generalize Q4h ⟨ib,io,ir,iff,ig⟩ ⟨vb,vo⟩=ia at *
 go_enter func24,ntmps24;go_wp2_with fail;refine ks.mono ?_;rintro r w1 ⟨g,rfl,hb1,hg1⟩;clear hW0 ks;have hbA:=hb1.alloc hb1.size (.cells #[.pointer (some ⟨g,0,none⟩),.int .u32 x,.int .i64 fac] 155);have hcA:=Cells.new w1 155 [.pointer (some ⟨g,0,none⟩),.int .u32 x,.int .i64 fac];obtain⟨⟨c0,c1,c2,c3,c4⟩,v0,v1⟩:=(HW.out _ hbA).2;go_wp2_with fail;refine (HCode.out _).mono ?_;rintro r w2 ⟨xx,rfl,hb2⟩;have HS:Hid (∀W,Below w2.heap.size w2 W->(Below w.heap.size w W/\Below W0.heap.size W0 W/\T g W)/\Box2 w.heap.size ⟨ib,io,ir,iff,ig⟩ ⟨vb,vo⟩ W/\W.cell? ⟨w1.heap.size,0,none⟩=some (.pointer (some ⟨g,0,none⟩))/\W.cell? ⟨w1.heap.size,1,none⟩=some (.int .u32 x)/\W.cell? ⟨w1.heap.size,2,none⟩=some (.int .i64 fac)):=fun W hb=>by
  have h2:=hbA.trans (hb2.mono hbA.size);have h3:=h2.trans (hb.mono h2.size);have hc:=(hcA.same (hb2.block _ hcA.lt)).same (hb.block _ (J1z hcA.lt hb2.size));exact⟨⟨(HW.out _ h3).1,h3,HTT.out _ _ _ (HTT.out _ _ _ (HTT.out _ _ _ hg1 ((Below.refl _ _).alloc (J1x _) _)) hb2) hb⟩,(HW.out _ h3).2,hc.cell 0 _ rfl,hc.cell 1 _ rfl,hc.cell 2 _ rfl⟩
 generalize w1.heap.size=B at *
 clear hbA hcA hb1 hg1 hb2 c0 c1 c2 c3 c4 v0 v1 HW HTT HCode;obtain⟨-,⟨⟨c0,c1,c2,c3,c4⟩,v0,v1⟩,s0,s1,s2⟩:=HS.out _ (Below.refl _ _);obtain⟨-,⟨⟨d0,d1,d2,d3,d4⟩,e0,e1⟩,-,-,-⟩:=HS.out _ (Below.refl w2.heap.size w2).drew;go_upto_region 5 with fail
 go_cut [32] from 33 to 48 (fun bb wc=>bb=.bool (!ia)/\Below w2.heap.size w2 wc)
 case first =>
  clear HC HP HQE HQR;generalize Q8e ⟨ib,io,ir,iff,ig⟩=cd at *
  generalize Q2e vb vo=av at *
  generalize decide (ib<128)=k1 at *
  generalize decide (vb<128)=k2 at *
  cases cd with
  | false =>
   have HE:Hid (∀n,Below w2.heap.size w2 (w2.drewN n)):=fun n=>Q0Y (Below.refl w2.heap.size w2) n
   obtain rfl:ia=false:=by
    have:=HAr.out;rw [J5X] at this;exact this
   clear HAr HS
   go_quiet (first|(go_at_call 77;exact (HK1.out _)))
   go_wp2_with fail;go_meet;exact⟨rfl,HE.out _⟩
  | true =>
   cases av with
   | false =>
    obtain rfl:ia=false:=by
     have:=HAr.out;rw [J5X,Bool.and_false] at this;exact this
    clear HAr
    first|go_region_with (first|(go_at_call 91;refine (HMay.out _).mono ?_;rintro r w5 ⟨rfl,hb5⟩;have HB5:=Q0a ((Below.refl w2.heap.size w2).drew.trans (hb5.mono (J1x _)));clear hb5))|fail
    all_goals (go_wp2_with fail;go_meet;exact⟨rfl,HB5.out⟩)
   | true =>
    by_cases hk:k1=k2
    ·subst hk;obtain rfl:ia=true:=by
      have:=HAr.out;rw [J2N,J2N,beq_self_eq_true] at this;exact this
     clear HAr
     go_region_held3 (fun W=>W.cell? ⟨w.heap.size,0,none⟩=some (.int .i64 ib)/\W.cell? ⟨w.heap.size+1,0,none⟩=some (.int .i64 vb)/\W.cell? ⟨w.heap.size+1,1,none⟩=some (.int .i64 vo)) (first|exact⟨c0,v0,v1⟩|exact⟨d0,e0,e1⟩|exact hq5)
     (first|(go_at_call 91;refine (HMay.out _).mono ?_;rintro r w5 ⟨rfl,hb5⟩;have hz5:=HS.out w5 ((Below.refl w2.heap.size w2).drew.trans (hb5.mono (J1x _)));have hq5:=(⟨hz5.2.1.1.1,hz5.2.1.2.1,hz5.2.1.2.2⟩:_/\_/\_);have HB5:=Q0a ((Below.refl w2.heap.size w2).drew.trans (hb5.mono (J1x _)));clear hz5 hb5)|(go_at_call_of 77 ib;refine (HK1.out _).mono ?_;rintro r w' ⟨rfl,rfl⟩)|(go_at_call_of 77 vb;refine (HK2.out _).mono ?_;rintro r w' ⟨rfl,rfl⟩))
     all_goals (go_wp2_with fail;go_meet;exact⟨rfl,HB5.out⟩)
    ·obtain rfl:ia=false:=by
      have:=HAr.out;rw [J2N,J2N,beq_false_of_ne hk] at this;exact this
     clear HAr;have hk':(k1 != k2)=true:=bne_iff_ne.2 hk
     go_region_held3 (fun W=>W.cell? ⟨w.heap.size,0,none⟩=some (.int .i64 ib)/\W.cell? ⟨w.heap.size+1,0,none⟩=some (.int .i64 vb)/\W.cell? ⟨w.heap.size+1,1,none⟩=some (.int .i64 vo)) (first|exact⟨c0,v0,v1⟩|exact⟨d0,e0,e1⟩|exact hq5)
     (first|(go_at_call 91;refine (HMay.out _).mono ?_;rintro r w5 ⟨rfl,hb5⟩;have hz5:=HS.out w5 ((Below.refl w2.heap.size w2).drew.trans (hb5.mono (J1x _)));have hq5:=(⟨hz5.2.1.1.1,hz5.2.1.2.1,hz5.2.1.2.2⟩:_/\_/\_);have HB5:=Q0a ((Below.refl w2.heap.size w2).drew.trans (hb5.mono (J1x _)));clear hz5 hb5)|(go_at_call_of 77 ib;refine (HK1.out _).mono ?_;rintro r w' ⟨rfl,rfl⟩)|(go_at_call_of 77 vb;refine (HK2.out _).mono ?_;rintro r w' ⟨rfl,rfl⟩))
     all_goals (go_wp2_with fail;go_meet;exact⟨by simp [beq_false_of_ne hk],HB5.out⟩)
 obtain⟨rfl,hb5⟩:=hcut;clear c0 c1 c2 c3 c4 v0 v1 s0 s1 s2 d0 d1 d2 d3 d4 e0 e1 HAr HMay HK1 HK2;cases ia with
 | false =>
  have HE:=Q0a (HQE.out 1 wc (.inl ⟨rfl,rfl⟩) (HS.out wc hb5).1.1);clear HS HC HP hb5 HQE HQR;go_wp2_with fail
  first|exact HE.out|(go_ret2;exact HE.out)
 | true =>
  obtain⟨pa,pv,hr1,hr2,ho1,ho2⟩:=HP.out rfl;obtain⟨pa1,pa2,pa3,pa4,pa5⟩:=Q2G pa;obtain⟨pv1,pv2,pv3,pv4,pv5⟩:=Q2G pv;have HB5:=Q0a hb5;obtain⟨-,⟨⟨c0,c1,c2,c3,c4⟩,v0,v1⟩,s0,s1,s2⟩:=HS.out wc hb5;obtain⟨-,⟨⟨d0,d1,d2,d3,d4⟩,e0,e1⟩,-,-,-⟩:=HS.out wc.drew hb5.drew;clear HP pa pv hb5;obtain⟨ko,rfl⟩:=J3b pa2;obtain⟨kv,rfl⟩:=J3b pv2;rw [J2C] at *
  rw [J2C] at HQR HQE;have hp0:0<2 ^ ko:=Nat.pow_pos (by omega);go_upto_region 7 with fail;go_region;obtain⟨po,hpo⟩:∃po:Nat,po=2 ^ ko:=⟨_,rfl⟩
  obtain⟨pv,hpv⟩:∃pv:Nat,pv=2 ^ kv:=⟨_,rfl⟩
  have epo:(2:Int) ^ ko=(po:Int):=by rw [hpo];simp
  have epv:(2:Int) ^ kv=(pv:Int):=by rw [hpv];simp
  rw [<- hpo] at hp0 pa4 pa5;rw [<- hpv] at pv4 pv5;have hw1:wrap64 (po:Int)=(po:Int):=Z6A pa5;have hw2:wrap64 (pv:Int)=(pv:Int):=Z6A pv5;have hw3:wrap64 (iff+(po:Int))=iff+(po:Int):=Z8M pa5 ho1 ho2;simp only [epo,epv,hw1,hw2,hw3];have HPost:Hid ((((2 ^ ko:Nat):Int))=(po:Int)/\(((2 ^ kv:Nat):Int))=(pv:Int)/\(2:Int) ^ ko=(po:Int)/\(2:Int) ^ kv=(pv:Int)/\po=2 ^ ko):=⟨by rw [hpo],by rw [hpv],epo,epv,hpo⟩
  have HEpo:=Q0a epo;have HW1:=Q0a hw1;clear epo epv hpo hpv hw1 hw2 hw3;have HD:=Q0a (Below.drew HB5.out);by_cases hfit:iff+(po:Int)<=(pv:Int)
  ·have hnf:¬((pv:Int)<iff+(po:Int)):=by omega
   clear d0 d1 d2 d3 d4 e0 e1 c0 c1 c2 c3 c4 v0 v1 s0 s1 s2;obtain⟨-,⟨⟨d0,d1,d2,d3,d4⟩,e0,e1⟩,-,-,-⟩:=HS.out wc.drew HD.out;go_wp2_with fail;simp only [HEpo.out,HW1.out];clear d0 d1 d2 d3 d4 e0 e1;generalize wc.drew=w3 at *
   have HI:Hid (0<=ib/\ib.toNat+po<=256/\0<=vb/\vb.toNat+pv<=256/\po<=128/\0<=iff/\iff<256):=⟨pa1,pa4,pv1,pv4,pa5,ho1,ho2⟩
   clear pa1 pa3 pa4 pa5 pv1 pv3 pv4 pv5 pa2 pv2 hr1 hr2 ho1 ho2 hp0 hnf HB5
   go_loopg [14,63] po (fun gk ov kk wr=>∃k:Nat,kk=.int .i64 k/\k+gk=po/\OutM w3 wr ov (movV f ⟨ib,(ko:Int),ir,iff,ig⟩ ⟨vb,(kv:Int)⟩ k))
   case atStart=>exact⟨0,rfl,by omega,OutM.nil w3⟩
   case round =>
    obtain⟨k,rfl,hkg,hout⟩:=hrel;have HO:=Q0a hout;have HKG:=Q0a hkg;clear hkg;have hbr:Below w2.heap.size w2 wr:=HD.out.trans (hout.2.mono HD.out.size);by_cases hlt:k<po
    ·obtain⟨⟨-,hbW,hTg⟩,⟨⟨c0,c1,c2,c3,c4⟩,v0,v1⟩,s0,s1,s2⟩:=HS.out wr hbr;have kc:=HC.out g wr k hbW hTg (by have:=HPost.out.2.2.2.2;omega) (by trivial);have HSt:=Q0a (Z6z f ⟨ib,(ko:Int),ir,iff,ig⟩ ⟨vb,(kv:Int)⟩ k);have HBr:=Q0a hbr;have hki:(k:Int)<(po:Int):=by omega
     have HLT:=Q0a hlt;have hk128:(k:Int)<128:=by have:=HI.out;omega
     have hk0:(0:Int)<=(k:Int):=by omega
     have hwk:IntKind.i64.wrap (ib+(k:Int))=ib+(k:Int):=Go.IntWalk.i64_in _ (by have:=HI.out;omega);have hwv:IntKind.i64.wrap (vb+iff)=vb+iff:=Go.IntWalk.i64_in _ (by have:=HI.out;omega);have hwd:IntKind.i64.wrap (vb+iff+(k:Int))=vb+iff+(k:Int):=Go.IntWalk.i64_in _ (by have:=HI.out;omega);have hLn:(movV f ⟨ib,(ko:Int),ir,iff,ig⟩ ⟨vb,(kv:Int)⟩ k).length<=16777216:=by
      have h1:=Z1S f ⟨ib,(ko:Int),ir,iff,ig⟩ ⟨vb,(kv:Int)⟩ k;have h2:=HI.out;omega
     have HLn:=Q0a hLn;obtain⟨fk,hfk⟩:∃b,b=f k:=⟨_,rfl⟩
     rw [<- hfk] at kc HSt;clear hout hbr hbW hTg hfk hLn;go_wp2_with fail;refine kc.mono ?_;rintro r w4 ⟨a,b,rfl,hb4⟩;have HB6:=Q0a (hb4.alloc hb4.size (.cells #[.int .u32 a,.int .i64 b] 35));have HO6:=Q0a (HO.out.below HB6.out);obtain⟨-,⟨⟨d0,d1,d2,d3,d4⟩,e0,e1⟩,-,-,-⟩:=HS.out _ (HBr.out.trans (HB6.out.mono HBr.out.size));clear hb4 kc c0 c1 c2 c3 c4 v0 v1 s0 s1 s2 HO HBr HB6;cases fk with
     | true =>
      obtain⟨v',w',happ,ho'⟩:=HO6.out.app HLn.out (itMv ⟨ib,(ko:Int),ir,iff,ig⟩ ⟨vb,(kv:Int)⟩ k) 58;have HR:Hid (OutM w3 w' v' (movV f ⟨ib,(ko:Int),ir,iff,ig⟩ ⟨vb,(kv:Int)⟩ (k+1))):=by
       rw [HSt.out,if_pos rfl];exact ho'
      have hz6:(w4.alloc (.cells #[.int .u32 a,.int .i64 b] 35)).heap.size=w4.heap.size+1:=by simp
      rw [hz6] at happ;unfold itMv at happ;dsimp only at happ;clear hz6 ho' HSt HO6 HLn;go_wp2_with (at_builtin;refine Lib.wpList_append_run _ rfl _ _ _ _ rfl _ _ rfl rfl _ _ happ ?_);go_roundg (po-(k+1))
      case measure=>have:=HKG.out;omega
      case rel=>exact⟨k+1,by go_num,by have:=HLT.out;omega,HR.out⟩
     | false =>
      have HR:Hid (OutM w3 (w4.alloc (.cells #[.int .u32 a,.int .i64 b] 35)) u14 (movV f ⟨ib,(ko:Int),ir,iff,ig⟩ ⟨vb,(kv:Int)⟩ (k+1))):=by
       rw [HSt.out,if_neg (by decide),J3D];exact HO6.out
      clear HSt HO6 HLn;go_wp2_with fail;go_roundg (po-(k+1))
      case measure=>have:=HKG.out;omega
      case rel=>exact⟨k+1,by go_num,by have:=HLT.out;omega,HR.out⟩
    ·obtain rfl:k=po:=by have:=HKG.out;omega
     have HX:Hid (Q (.returned (.tuple #[u14,.int .i64 0])) wr):=by
      refine HQR.out (by trivial) ?_ _ _ ?_
      ·rw [HPost.out.1,HPost.out.2.1];exact hfit
      ·rw [<- HPost.out.2.2.2.2];have h1:=(HS.out w3 HD.out).1.1;exact⟨Q1I hout.1 h1.size,h1.trans (hout.2.mono h1.size)⟩
     clear hout hbr HO HS HC HQE HQR;go_wp2_with fail
     first|exact HX.out|(go_ret2;exact HX.out)
  ·have hnf:(pv:Int)<iff+(po:Int):=by omega
   have HE:=Q0a (HQE.out 2 wc.drew (.inr ⟨by trivial,by rw [HPost.out.1,HPost.out.2.1];first|exact hfit|omega,rfl⟩) (HS.out wc.drew HD.out).1.1);clear HS HC HB5 HQE HQR;go_wp2_with fail
   first|exact HE.out|(go_ret2;exact HE.out)
theorem Z3E {w:World} {Z:SP} {fr:List Nat} {N K:Nat} {M:Int} (hs:Sep w Z.hl) (ok:Z.Ok fr N K M) {x:Nat} (hx:x<4294967296) (i:It) (v:Wi) (hi:i.Wf) (hv:v.Wf) :
  Calls prog 24 #[.pointer (some ⟨Z.s,0,none⟩),.int .u32 x,.agg #[.int .i64 i.base,.int .i64 i.order,.int .i64 i.r,.int .i64 i.off,.bool i.g],.agg #[.int .i64 v.base,.int .i64 v.order]] w (MvsR Z x i v w):=by
 cases hp:pget Z.S.l 1 x with
 | none =>
  refine (Q6C hs ok.core hx i v 8 (by decide) (.inl ⟨hp,rfl⟩)).mono ?_;rintro r w' ⟨rfl,hb⟩;exact⟨hb,.inl ⟨8,by decide,rfl,.inl ⟨hp,rfl⟩⟩⟩
 | some p =>
  by_cases hk:p.kind=2
  case neg =>
   refine (Q6C hs ok.core hx i v 10 (by decide) (.inr ⟨p,hp,hk,rfl⟩)).mono ?_;rintro r w' ⟨rfl,hb⟩;exact⟨hb,.inl ⟨10,by decide,rfl,.inr ⟨p,hp,.inl ⟨hk,rfl⟩⟩⟩⟩
  have hb0:Below w.heap.size w ((w.alloc (.cells #[.int .i64 i.base,.int .i64 i.order,.int .i64 i.r,.int .i64 i.off,.bool i.g] 54)).alloc (.cells #[.int .i64 v.base,.int .i64 v.order] 56)):=((Below.refl w.heap.size w).alloc (J1x _) _).alloc (by simp) _;have s0:=(hs.grown hb0).sep;have hii:=(pget_some.1 hp).1;have hst:=(pget_some.1 hp).2.2;refine Z0M (fac:=p.fac) (f:=Q5f Z x i) (T:=fun g W=>Sep W Z.hl/\TblZ Z p g W) ?_ ?_ ?_ ?_ ?_
  ·refine (Q0T s0 ok.core hx hp hk).mono ?_;rintro r w' ⟨g,rfl,hb,hg⟩;exact⟨g,rfl,hb,(s0.grown hb).sep,hg⟩
  ·rintro g W W' ⟨h1,h2⟩ hb;exact⟨(h1.grown hb).sep,h2.grown h1 hb⟩
  ·rintro g W k-⟨h1,h2⟩ hlt harg;have hal:Q2e i.base i.order=true:=by
    unfold Q4h Q8e at harg;simp only [J1S,decide_eq_true_eq] at harg;exact harg.1.1
   obtain⟨q1,q2,q3,q4,q5⟩:=Q2G hal;have T:=(ok.tpi.x (p.fac:Int)).tt ok.core hii hst hk (SP.sS h1) h2.c;have hzz:0<=i.base+(k:Int)/\i.base+(k:Int)<256:=by omega
   have hzn:(i.base+(k:Int)).toNat=i.base.toNat+k:=by omega
   have hat:(Z.tb (x%256)).at' (i.base+(k:Int))=Q0f Z.S.l Z.tb x (i.base.toNat+k):=by
    unfold TB.at';rw [if_pos hzz,hzn,Q0g hp hk (by omega)]
   have kc:=Q1t T (x:Int) (p.fac:Int) (i.base+(k:Int)) fun e he=>by
    rw [hat] at he;exact ok.fpi.low ok.core.inv.lok he
   rw [hat] at kc;obtain⟨a,b,hab⟩:=Q3H (Q0f Z.S.l Z.tb x (i.base.toNat+k));rw [hab] at kc;refine kc.mono ?_;rintro r w' ⟨rfl,hb⟩;exact⟨a,b,rfl,hb⟩
  ·intro er w' he hb;refine⟨hb,.inl ⟨er,?_,rfl,.inr ⟨p,hp,.inr ⟨hk,he⟩⟩⟩⟩;rcases he with ⟨_,rfl⟩|⟨_,_,rfl⟩ <;> decide
  ·intro ha hf a w' ho;obtain⟨a0,cap,rfl,hrow⟩:=Q8a ho.1;have hcap:(movV (Q5f Z x i) i v (2 ^ i.order.toNat)).length<=cap:=by
    rcases ho.1.2 with ⟨e,h0⟩|⟨g,c,cur,e,_,_,hn,_⟩
    ·rw [h0];exact J3z _
    ·cases e;exact hn
   refine⟨ho.2,.inr ⟨p,a0,cap,_,hp,hk,ha,hf,rfl,rfl,hcap,?_⟩⟩;have hal:Q2e i.base i.order=true/\Q2e v.base v.order=true/\1<=i.r/\i.r<=15/\0<=i.off/\i.off<256:=by
    unfold Q4h Q8e at ha;simp only [J1S,decide_eq_true_eq] at ha;exact⟨ha.1.1,ha.2.1,ha.1.2⟩
   obtain⟨q1,q2,q3,q4,q5⟩:=Q2G hal.1;obtain⟨r1,r2,r3,r4,r5⟩:=Q2G hal.2.1;refine⟨fun j hj=>?_,fun ad h0 had hkey=>?_⟩
   ·have hLj:(movV (Q5f Z x i) i v (2 ^ i.order.toNat))[j]?=some ((movV (Q5f Z x i) i v (2 ^ i.order.toNat))[j]):=J3O hj;have hgd:(movV (Q5f Z x i) i v (2 ^ i.order.toNat)).getD j noMv=(movV (Q5f Z x i) i v (2 ^ i.order.toNat))[j]:=by rw [J5Z,hLj];rfl
    have hmem:(movV (Q5f Z x i) i v (2 ^ i.order.toNat))[j]∈movV (Q5f Z x i) i v (2 ^ i.order.toNat):=J4T hj;obtain⟨g,hg,_,hlt,_⟩:=hrow (j*4) _ (Q3K _ j 0 _ _ hLj rfl);refine⟨g,0,hg,hlt,fun t u hu=>?_,?_⟩
    ·have hu:((movV (Q5f Z x i) i v (2 ^ i.order.toNat))[j]).cells[t]?=some u:=by rw [<- hgd];exact hu
     obtain⟨g',hg',_,_,hc⟩:=hrow (j*4+t) u (Q3K _ j t _ _ hLj hu);rw [hg] at hg';cases hg';rw [J4b];exact hc
    ·show Mv.Wf ((movV (Q5f Z x i) i v (2 ^ i.order.toNat)).getD j noMv);rw [hgd];unfold movV at hmem;obtain⟨k,hk',e⟩:=J1D.1 hmem;have hk2:=J1N.1 (J1R.1 hk').1;unfold movV;rw [<- e];unfold itMv;exact⟨⟨by dsimp only;omega,by dsimp only;omega⟩,⟨by dsimp only;omega,by dsimp only;omega⟩,⟨by dsimp only;omega,by dsimp only;omega⟩⟩
   ·subst had;have hL:(movV (Q5f Z x i) i v (2 ^ i.order.toNat)).length≠0:=h0;have hj0:0<(movV (Q5f Z x i) i v (2 ^ i.order.toNat)).length:=by omega
    obtain⟨g,hg,hge,_⟩:=hrow (0*4) _ (Q3K _ 0 0 _ _ (J3O hj0) rfl);cases hg;exact absurd (hs.lt hkey) (by dsimp only;omega)
theorem Z6B (f:Nat->Bool) (i:It) (v:Wi) (h:Q4h i v=true):(movV f i v (2 ^ i.order.toNat)).length<=128:=by
 unfold Q4h Q8e at h;simp only [J1S,decide_eq_true_eq] at h;obtain⟨_,_,_,_,q5⟩:=Q2G h.1.1;exact J1y (Z1S _ _ _ _) q5
theorem Z3F (H:HL) (w:World):AsideM H 0 (fun _=>noMv) none w:=⟨fun j hj=>by omega,fun a h _=>absurd rfl h⟩
theorem Z3G {w:World} {Z:SP} {fr:List Nat} {N K:Nat} {M:Int} (hs:Sep w Z.hl) (ok:Z.Ok fr N K M) (hM:M+300<1099511627776) {x y:Nat} (hx:x<4294967296) (hy:y<4294967296) (i:It) (v:Wi) (hi:i.Wf) (hv:v.Wf) :
  Calls prog 24 #[.pointer (some ⟨Z.s,0,none⟩),.int .u32 x,.agg #[.int .i64 i.base,.int .i64 i.order,.int .i64 i.r,.int .i64 i.off,.bool i.g],.agg #[.int .i64 v.base,.int .i64 v.order]] w fun r w1=>∃(a:Option Addr) (n cap:Nat) (er:Int),r=.returned (.tuple #[.slice a n cap,.int .i64 er])/\Below w.heap.size w w1 /\
   Calls prog 19 #[.pointer (some ⟨Z.s,0,none⟩),.int .u32 x,.int .u32 y,.slice a n cap] w1 fun r w'=>(∃er:Int,r=.returned (.int .i64 er))/\GoesZ Z N K (M+256) w w':=by
 refine (Z3E hs ok hx i v hi hv).mono ?_;rintro r w1 ⟨hb,⟨er,_,rfl,_⟩|⟨p,a,cap,L,_,_,ha,_,hL,rfl,hcap,hm⟩⟩
 ·refine⟨none,0,0,er,rfl,hb,?_⟩;refine (Q3o (hs.grown hb).sep ok (by omega) hx hy (by omega) (J1x 0) (Z3F _ _)).mono ?_;rintro r w' ⟨er,rfl,hr⟩;exact⟨⟨er,rfl⟩,GoesZ.at hs hb ((hr.goes ok).mono (J1x _) (J1x _) (by omega))⟩
 ·have hl:L.length<=128:=by rw [hL];exact Z6B _ _ _ ha
  refine⟨a,L.length,cap,0,rfl,hb,?_⟩;refine (Q3o (hs.grown hb).sep ok (by omega) hx hy (by omega) hcap hm).mono ?_;rintro r w' ⟨er,rfl,hr⟩;exact⟨⟨er,rfl⟩,GoesZ.at hs hb ((hr.goes ok).mono (J1x _) (J1x _) (by omega))⟩
theorem Z3H {w:World} {Z:SP} {fr:List Nat} {N K:Nat} {M:Int} (hs:Sep w Z.hl) (ok:Z.Ok fr N K M) (hN:N+1<1048576) (hK:K<1048575) (hM:M+300<1099511627776) (x:A17) (hx:x.Wf) (hll:x.ll<=20) (hmv:AsideM Z.hl x.ll x.L x.la w) :
  Calls prog 92 #[.pointer (some ⟨Z.s,0,none⟩),.agg #[.int .i64 x.kind,.int .i64 x.n,.int .i64 x.k,.int .i64 x.m,.int .i64 x.t,.int .i64 x.u,.int .i64 x.s,.int .i64 x.r,.bool x.self,.slice x.la x.ll x.lc,.int .i64 x.i.base,.int .i64 x.i.order,.int .i64 x.i.r,.int .i64 x.i.off,.bool x.i.g,.int .i64 x.w.base,.int .i64 x.w.order]] w fun r w'=>r=.returned (.tuple #[])/\GoesZ Z (N+1) (K+1) (M+256) w w':=by
 have hlok:=ok.core.inv.lok;have HNth:Hid (∀W,Below w.heap.size w W->∀k n:Int,I64 n->Calls prog 31 #[.pointer (some ⟨Z.s,0,none⟩),.int .i64 k,.int .i64 n] W (Told W (.int .u32 ((nthV Z.S.l k n:Nat):Int)))):=fun W hb k n hn=>J0i (hs.grown hb).sep ok k n hn
 have HObj:Hid (∀W,Below w.heap.size w W->Calls prog 29 #[.pointer (some ⟨Z.s,0,none⟩)] W fun r w'=>r=.returned (.pointer (some ⟨Z.S.c,0,none⟩))/\W=w'):=fun W hb=>Q2o (hs.grown hb).sep
 have HLt:Hid (∀k n,nthV Z.S.l k n<4294967296):=fun k n=>J0h hlok k n
 have H0:Hid (∀W,Below w.heap.size w W->∀y:Nat,y<4294967296->∀k lim:Int,Calls prog 16 #[.pointer (some ⟨Z.S.c,0,none⟩),.int .u32 y,.int .i64 k,.int .i64 lim] W fun r w'=>(∃(a:Nat) (er:Int),r=two a er)/\(∀b,w.heap.size<=b->b<W.heap.size->w'.heap[b]?=W.heap[b]?)/\GoesZ Z (N+1) (K+1) (M+256) w w'):=fun W hb y hy k lim =>
  (Q6w (SP.sS (hs.grown hb).sep) ok.core hN hy k lim).mono fun r w' hr=>by
   obtain⟨h1,h2⟩:=hr.goesZ (hs.grown hb).sep ok;refine⟨h1,?_,GoesZ.at hs hb (h2.mono (J1x _) (by omega) (by omega))⟩;obtain⟨Z',fr',_,_,c⟩:=h2;exact c.keep hs (J1x _)
 have H1:Hid (∀W,Below w.heap.size w W->∀y h:Nat,y<4294967296->h<4294967296->∀z rr:Int,Calls prog 18 #[.pointer (some ⟨Z.s,0,none⟩),.int .u32 y,.int .i64 z,.agg #[.int .u32 h,.int .i64 rr]] W fun r w'=>(∃er:Int,r=.returned (.int .i64 er))/\GoesZ Z (N+1) (K+1) (M+256) w w'):=fun W hb y h hy hh z rr =>
  (Q9k (hs.grown hb).sep ok (by omega) hy hh z rr).mono fun r w' ⟨er,e,hr⟩=>⟨⟨er,e⟩,GoesZ.at hs hb ((hr.goes (hs.grown hb).sep ok).mono (by omega) (by omega) (by omega))⟩
 have H2:Hid (∀W,Below w.heap.size w W->∀y h:Nat,y<4294967296->h<4294967296->Calls prog 19 #[.pointer (some ⟨Z.s,0,none⟩),.int .u32 y,.int .u32 h,.slice x.la x.ll x.lc] W fun r w'=>(∃er:Int,r=.returned (.int .i64 er))/\GoesZ Z (N+1) (K+1) (M+256) w w'):=fun W hb y h hy hh =>
  (Q3o (hs.grown hb).sep ok (by omega) hy hh (by omega) hx.len.1 (hmv.step (hs.grown hb))).mono fun r w' ⟨er,e,hr⟩=>⟨⟨er,e⟩,GoesZ.at hs hb ((hr.goes ok).mono (by omega) (by omega) (by omega))⟩
 have H3:Hid (∀W,Below w.heap.size w W->∀y h:Nat,y<4294967296->h<4294967296->Calls prog 24 #[.pointer (some ⟨Z.s,0,none⟩),.int .u32 y,.agg #[.int .i64 x.i.base,.int .i64 x.i.order,.int .i64 x.i.r,.int .i64 x.i.off,.bool x.i.g],.agg #[.int .i64 x.w.base,.int .i64 x.w.order]] W fun r w1=>∃(a:Option Addr) (n cap:Nat) (er:Int),r=.returned (.tuple #[.slice a n cap,.int .i64 er]) /\
   Calls prog 19 #[.pointer (some ⟨Z.s,0,none⟩),.int .u32 y,.int .u32 h,.slice a n cap] w1 fun r w'=>(∃er:Int,r=.returned (.int .i64 er))/\GoesZ Z (N+1) (K+1) (M+256) w w'):=fun W hb y h hy hh =>
  (Z3G (hs.grown hb).sep ok hM hy hh x.i x.w hx.i hx.w).mono fun r w1 ⟨a,n,cap,er,e,_,hk⟩=>⟨a,n,cap,er,e,hk.mono fun r w' ⟨h1,h2⟩=>⟨h1,GoesZ.at hs hb (h2.mono (by omega) (by omega) (by omega))⟩⟩
 have H4:Hid (∀W,Below w.heap.size w W->∀y:Nat,y<4294967296->∀(z m:Int) (b:Bool),Calls prog 20 #[.pointer (some ⟨Z.s,0,none⟩),.int .u32 y,.int .i64 z,.int .i64 m,.bool b] W fun r w'=>(∃a b:Value,r=.returned (.tuple #[a,b]))/\GoesZ Z (N+1) (K+1) (M+256) w w'):=fun W hb y hy z m b =>
  (Q6r (hs.grown hb).sep ok hy z m b).mono fun r w' hr=>⟨(hr.goes (hs.grown hb).sep ok).1,GoesZ.at hs hb ((hr.goes (hs.grown hb).sep ok).2.mono (by omega) (by omega) (by omega))⟩
 have H5:Hid (∀W,Below w.heap.size w W->∀h:Nat,Calls prog 39 #[.pointer (some ⟨Z.s,0,none⟩),.int .u32 h] W fun r w'=>(∃n:Int,r=.returned (.int .i64 n))/\GoesZ Z (N+1) (K+1) (M+256) w w'):=fun W hb h =>
  (Q7s (hs.grown hb).sep ok h).mono fun r w' ⟨e,Z',a,_,b,c⟩=>⟨⟨_,e⟩,GoesZ.at hs hb ((GoesZ.same a b c).mono (by omega) (by omega) (by omega))⟩
 have H6:Hid (∀W,Below w.heap.size w W->∀y:Nat,y<4294967296->Calls prog 40 #[.pointer (some ⟨Z.s,0,none⟩),.int .u32 y] W fun r w'=>(∃n:Int,r=.returned (.int .i64 n))/\GoesZ Z (N+1) (K+1) (M+256) w w'):=fun W hb y hy =>
  (Q9w (hs.grown hb).sep ok hy).mono fun r w' ⟨e,Z',a,_,b,c⟩=>⟨⟨_,e⟩,GoesZ.at hs hb ((GoesZ.same a b c).mono (by omega) (by omega) (by omega))⟩
 have H7:Hid (∀W,Below w.heap.size w W->∀y:Nat,y<4294967296->Calls prog 35 #[.pointer (some ⟨Z.s,0,none⟩),.int .u32 y] W fun r w'=>(∃a b:Value,r=.returned (.tuple #[a,b]))/\GoesZ Z (N+1) (K+1) (M+256) w w'):=fun W hb y hy =>
  (Q9C (hs.grown hb).sep ok (by omega) hy).mono fun r w' hr=>⟨(hr.goes (hs.grown hb).sep ok).1,GoesZ.at hs hb ((hr.goes (hs.grown hb).sep ok).2.mono (by omega) (by omega) (by omega))⟩
 have H8:Hid (∀W,Below w.heap.size w W->Calls prog 56 #[.pointer (some ⟨Z.S.c,0,none⟩)] W fun r w'=>(∃a:Value,r=.returned a)/\GoesZ Z (N+1) (K+1) (M+256) w w'):=fun W hb =>
  (Z6p (SP.sS (hs.grown hb).sep) ok.core hK).mono fun r w' hr=>⟨(hr.goesZ (hs.grown hb).sep ok).1,GoesZ.at hs hb ((hr.goesZ (hs.grown hb).sep ok).2.mono (by omega) (by omega) (by omega))⟩
 have H9:Hid (∀W,Below w.heap.size w W->∀y h:Nat,y<4294967296->h<4294967296->∀z k lim:Int,Calls prog 38 #[.pointer (some ⟨Z.s,0,none⟩),.int .u32 y,.int .i64 z,.int .u32 h,.int .i64 k,.int .i64 lim] W fun r w'=>(∃(a:Nat) (er:Int),r=two a er)/\GoesZ Z (N+1) (K+1) (M+256) w w'):=fun W hb y h hy hh z k lim =>
  (Z6h (hs.grown hb).sep ok hN (by omega) hy hh z k lim).mono fun r w' ⟨a,er,e,hr⟩=>⟨⟨a,er,e⟩,GoesZ.at hs hb ((hr.goes ok).mono (by omega) (by omega) (by omega))⟩
 have HGo:Hid (∀W,Below w.heap.size w W->GoesZ Z (N+1) (K+1) (M+256) w W):=fun W hb=>(GoesZ.of hs ok hb).mono (by omega) (by omega) (by omega)
 obtain⟨hn,hk,hm,ht,hu,hsl,hrr,-,-,-⟩:=hx;obtain⟨kind,n,k,m,t,u,s,rr,self,la,ll,lc,L,i,v⟩:=x;obtain⟨ib,io,ir,iff,ig⟩:=i;obtain⟨vb,vo⟩:=v;dsimp only at *
 have HC:Hid (∀W,Below (w.alloc (.cells #[.int .i64 kind,.int .i64 n,.int .i64 k,.int .i64 m,.int .i64 t,.int .i64 u,.int .i64 s,.int .i64 rr,.bool self,.slice la ll lc,.int .i64 ib,.int .i64 io,.int .i64 ir,.int .i64 iff,.bool ig,.int .i64 vb,.int .i64 vo] 92)).heap.size (w.alloc (.cells #[.int .i64 kind,.int .i64 n,.int .i64 k,.int .i64 m,.int .i64 t,.int .i64 u,.int .i64 s,.int .i64 rr,.bool self,.slice la ll lc,.int .i64 ib,.int .i64 io,.int .i64 ir,.int .i64 iff,.bool ig,.int .i64 vb,.int .i64 vo] 92)) W->Below w.heap.size w W/\Cells W w.heap.size 92 [.int .i64 kind,.int .i64 n,.int .i64 k,.int .i64 m,.int .i64 t,.int .i64 u,.int .i64 s,.int .i64 rr,.bool self,.slice la ll lc,.int .i64 ib,.int .i64 io,.int .i64 ir,.int .i64 iff,.bool ig,.int .i64 vb,.int .i64 vo]):=fun W hb =>
  ⟨Q0e hb,(Cells.new w 92 [.int .i64 kind,.int .i64 n,.int .i64 k,.int .i64 m,.int .i64 t,.int .i64 u,.int .i64 s,.int .i64 rr,.bool self,.slice la ll lc,.int .i64 ib,.int .i64 io,.int .i64 ir,.int .i64 iff,.bool ig,.int .i64 vb,.int .i64 vo]).same (hb.block _ (by simp))⟩
 generalize hW1:(w.alloc (.cells #[.int .i64 kind,.int .i64 n,.int .i64 k,.int .i64 m,.int .i64 t,.int .i64 u,.int .i64 s,.int .i64 rr,.bool self,.slice la ll lc,.int .i64 ib,.int .i64 io,.int .i64 ir,.int .i64 iff,.bool ig,.int .i64 vb,.int .i64 vo] 92))=W1 at *
 have HI:Hid (I64 t/\I64 u/\I64 n):=⟨ht,hu,hn⟩
 clear hs ok hN hK hM hll hmv hlok ht hu hn hk hm hsl hrr;go_enter func92,ntmps92;go_upto_region 1 with fail
 try rw [hW1]
 clear hW1
 go_cut [4,5,6] from 9 to 20 (fun a b c wc=>a=.int .u32 ((nthV Z.S.l 2 t:Nat):Int)/\b=.int .u32 ((nthV Z.S.l 2 u:Nat):Int)/\c=.int .u32 ((nthV Z.S.l 0 n:Nat):Int)/\Below W1.heap.size W1 wc)
 case first =>
  clear H0 H1 H2 H3 H4 H5 H6 H7 H8 H9 HGo HObj HLt;have HBx:Hid (Below W1.heap.size W1 W1.drew):=(Below.refl _ _).drew;have HB0:Hid (Below W1.heap.size W1 W1):=Below.refl _ _;have HCc:Hid (∀W,Below W1.heap.size W1 W->W.cell? ⟨w.heap.size,4,none⟩=some (.int .i64 t)/\W.cell? ⟨w.heap.size,5,none⟩=some (.int .i64 u)/\W.cell? ⟨w.heap.size,1,none⟩=some (.int .i64 n)):=fun W hb=>⟨(HC.out W hb).2.cell 4 _ rfl,(HC.out W hb).2.cell 5 _ rfl,(HC.out W hb).2.cell 1 _ rfl⟩
  have HNt:Hid (∀W,Below W1.heap.size W1 W->∀k n:Int,I64 n->Calls prog 31 #[.pointer (some ⟨Z.s,0,none⟩),.int .i64 k,.int .i64 n] W (Told W (.int .u32 ((nthV Z.S.l k n:Nat):Int)))):=fun W hb=>HNth.out W (HC.out W hb).1
  clear HC HNth
  go_region_held3 (fun W=>W.cell? ⟨w.heap.size,4,none⟩=some (.int .i64 t)/\W.cell? ⟨w.heap.size,5,none⟩=some (.int .i64 u)/\W.cell? ⟨w.heap.size,1,none⟩=some (.int .i64 n))
   (first|exact HCc.out _ HBx.out|exact HCc.out _ HB0.out)
   (first|(go_at_call 31;refine (HNt.out _ HBx.out _ _ (by first|exact HI.out.1|exact HI.out.2.1|exact HI.out.2.2)).mono ?_;rintro rv w' ⟨rfl,hb⟩;have HBx:=Q0a (HBx.out.trans (hb.mono HBx.out.size));clear hb))
  all_goals (go_wp2_with fail;go_meet;exact⟨rfl,rfl,rfl,HBx.out⟩)
 obtain⟨rfl,rfl,rfl,hb⟩:=hcut;obtain⟨hbw,hcc⟩:=HC.out wc hb;have hT:=HLt.out 2 t;have hU:=HLt.out 2 u;have hH:=HLt.out 0 n;generalize nthV Z.S.l 2 t=T at *
 generalize nthV Z.S.l 2 u=U at *
 generalize nthV Z.S.l 0 n=H at *
 have c0:=hcc.cell 0 _ rfl;have HB:=Q0a hb;have HBw:=Q0a hbw;clear hb hbw;by_cases e0:kind=0
 ·subst e0;have hF:=HLt.out 1 n;have HM0:Hid (∀V,Below wc.heap.size wc V->Calls prog 16 #[.pointer (some ⟨Z.S.c,0,none⟩),.int .u32 ((nthV Z.S.l 1 n:Nat):Int),.int .i64 k,.int .i64 m] V fun r w'=>(∃(a:Nat) (er:Int),r=two a er)/\(∀b,w.heap.size<=b->b<V.heap.size->w'.heap[b]?=V.heap[b]?)/\GoesZ Z (N+1) (K+1) (M+256) w w'):=fun V hb=>H0.out V (HBw.out.trans (hb.mono HBw.out.size)) _ hF k m
  have HNt:Hid (∀V,Below wc.heap.size wc V->Calls prog 31 #[.pointer (some ⟨Z.s,0,none⟩),.int .i64 1,.int .i64 n] V (Told V (.int .u32 ((nthV Z.S.l 1 n:Nat):Int)))):=fun V hb=>HNth.out V (HBw.out.trans (hb.mono HBw.out.size)) 1 n HI.out.2.2
  have HOb:Hid (∀V,Below wc.heap.size wc V->Calls prog 29 #[.pointer (some ⟨Z.s,0,none⟩)] V fun r w'=>r=.returned (.pointer (some ⟨Z.S.c,0,none⟩))/\V=w'):=fun V hb=>HObj.out V (HBw.out.trans (hb.mono HBw.out.size))
  have HCc:Hid (∀V,Below wc.heap.size wc V->V.cell? ⟨w.heap.size,1,none⟩=some (.int .i64 n)/\V.cell? ⟨w.heap.size,2,none⟩=some (.int .i64 k)/\V.cell? ⟨w.heap.size,3,none⟩=some (.int .i64 m)):=fun V hb=>by
   have h:=(HC.out V (HB.out.trans (hb.mono HB.out.size))).2;exact⟨h.cell 1 _ rfl,h.cell 2 _ rfl,h.cell 3 _ rfl⟩
  generalize nthV Z.S.l 1 n=FF at *
  have HBx:Hid (Below wc.heap.size wc wc.drew):=(Below.refl _ _).drew;have HB0:Hid (Below wc.heap.size wc wc):=Below.refl _ _;have HBl:Hid (∀V,Below wc.heap.size wc V->w.heap.size<V.heap.size):=fun V hb=>J1z hcc.lt hb.size
  clear H0 H1 H2 H3 H4 H5 H6 H7 H8 H9 HGo HObj HLt HC hcc HNth;go_upto_region 4 with fail
  go_region_held3 (fun W=>W.cell? ⟨w.heap.size,1,none⟩=some (.int .i64 n)/\W.cell? ⟨w.heap.size,2,none⟩=some (.int .i64 k)/\W.cell? ⟨w.heap.size,3,none⟩=some (.int .i64 m))
   (first|exact HCm.out|exact HCc.out _ HBx.out|exact HCc.out _ HB0.out)
   (first|(go_at_call 29;refine (HOb.out _ HBx.out).mono ?_;rintro rv w' ⟨rfl,rfl⟩)|(go_at_call 31;refine (HNt.out _ HBx.out).mono ?_;rintro rv w' ⟨rfl,hb⟩;have HBx:=Q0a (HBx.out.trans (hb.mono HBx.out.size));clear hb)|(go_at_call 16;refine (HM0.out _ HBx.out).mono ?_;rintro rv w' ⟨⟨a,er,rfl⟩,hkp,hq⟩;unfold two;have hkb:=hkp w.heap.size (J1x _) (HBl.out _ HBx.out);have hc3:=HCc.out _ HBx.out;have HCm:=Q0a (And.intro ((World.cell?_of_block (w:=_) (a:=⟨w.heap.size,1,none⟩) hkb).trans hc3.1) (And.intro ((World.cell?_of_block (w:=_) (a:=⟨w.heap.size,2,none⟩) hkb).trans hc3.2.1) ((World.cell?_of_block (w:=_) (a:=⟨w.heap.size,3,none⟩) hkb).trans hc3.2.2)));have HQ:=Q0a hq;clear hq hkp hkb hc3))
  all_goals (go_wp2_with fail;first|exact⟨rfl,HQ.out⟩|(go_end0;exact⟨rfl,HQ.out⟩))
 by_cases e1:kind=1
 ·subst e1;have kk:=H1.out wc HBw.out T H hT hH s rr;have c6:=hcc.cell 6 _ rfl;have c7:=hcc.cell 7 _ rfl;clear H0 H1 H2 H3 H4 H5 H6 H7 H8 H9 HGo HObj HLt HC hcc;go_wp2_with fail;refine kk.mono ?_;rintro rv w' ⟨⟨er,rfl⟩,hq⟩;have HQ:=Q0a hq;clear hq kk;go_wp2_with fail
  first|exact⟨rfl,HQ.out⟩|(go_end0;exact⟨rfl,HQ.out⟩)
 by_cases e2:kind=2
 ·subst e2;have kk:=H2.out wc HBw.out T U hT hU;have c9:=hcc.cell 9 _ rfl;clear H0 H1 H2 H3 H4 H5 H6 H7 H8 H9 HGo HObj HLt HC hcc;go_wp2_with fail;refine kk.mono ?_;rintro rv w' ⟨⟨er,rfl⟩,hq⟩;have HQ:=Q0a hq;clear hq kk;go_wp2_with fail
  first|exact⟨rfl,HQ.out⟩|(go_end0;exact⟨rfl,HQ.out⟩)
 by_cases e3:kind=3
 ·subst e3;have kk:=H3.out wc HBw.out T U hT hU;have c10:=hcc.cell 10 _ rfl;have c11:=hcc.cell 11 _ rfl;have c12:=hcc.cell 12 _ rfl;have c13:=hcc.cell 13 _ rfl;have c14:=hcc.cell 14 _ rfl;have c15:=hcc.cell 15 _ rfl;have c16:=hcc.cell 16 _ rfl;clear H0 H1 H2 H3 H4 H5 H6 H7 H8 H9 HGo HObj HLt HC hcc;go_wp2_with fail;refine kk.mono ?_;rintro rv w2 ⟨a,nn,cap,er,rfl,k2⟩;clear kk;go_wp2_with fail;refine k2.mono ?_;rintro rv w' ⟨⟨er,rfl⟩,hq⟩;have HQ:=Q0a hq;clear hq k2;go_wp2_with fail
  first|exact⟨rfl,HQ.out⟩|(go_end0;exact⟨rfl,HQ.out⟩)
 by_cases e4:kind=4
 ·subst e4;have kk:=H4.out wc HBw.out T hT s rr self;have c6:=hcc.cell 6 _ rfl;have c7:=hcc.cell 7 _ rfl;have c8:=hcc.cell 8 _ rfl;clear H0 H1 H2 H3 H4 H5 H6 H7 H8 H9 HGo HObj HLt HC hcc;go_wp2_with fail;refine kk.mono ?_;rintro rv w' ⟨⟨a,b,rfl⟩,hq⟩;have HQ:=Q0a hq;clear hq kk;go_wp2_with fail
  first|exact⟨rfl,HQ.out⟩|(go_end0;exact⟨rfl,HQ.out⟩)
 by_cases e5:kind=5
 ·subst e5;have kk:=H5.out wc HBw.out H;clear H0 H1 H2 H3 H4 H5 H6 H7 H8 H9 HGo HObj HLt HC hcc;go_wp2_with fail;refine kk.mono ?_;rintro rv w' ⟨⟨a,rfl⟩,hq⟩;have HQ:=Q0a hq;clear hq kk;go_wp2_with fail
  first|exact⟨rfl,HQ.out⟩|(go_end0;exact⟨rfl,HQ.out⟩)
 by_cases e6:kind=6
 ·subst e6;have kk:=H6.out wc HBw.out T hT;clear H0 H1 H2 H3 H4 H5 H6 H7 H8 H9 HGo HObj HLt HC hcc;go_wp2_with fail;refine kk.mono ?_;rintro rv w' ⟨⟨a,rfl⟩,hq⟩;have HQ:=Q0a hq;clear hq kk;go_wp2_with fail
  first|exact⟨rfl,HQ.out⟩|(go_end0;exact⟨rfl,HQ.out⟩)
 by_cases e7:kind=7
 ·subst e7;have kk:=H7.out wc HBw.out H hH;clear H0 H1 H2 H3 H4 H5 H6 H7 H8 H9 HGo HObj HLt HC hcc;go_wp2_with fail;refine kk.mono ?_;rintro rv w' ⟨⟨a,b,rfl⟩,hq⟩;have HQ:=Q0a hq;clear hq kk;go_wp2_with fail
  first|exact⟨rfl,HQ.out⟩|(go_end0;exact⟨rfl,HQ.out⟩)
 by_cases e8:kind=8
 ·subst e8;have ko:=HObj.out wc HBw.out;have kk:=H8.out wc HBw.out;clear H0 H1 H2 H3 H4 H5 H6 H7 H8 H9 HGo HObj HLt HC hcc;go_wp2_with fail;refine ko.mono ?_;rintro rv w2 ⟨rfl,rfl⟩;go_wp2_with fail;refine kk.mono ?_;rintro rv w' ⟨⟨a,rfl⟩,hq⟩;have HQ:=Q0a hq;clear hq kk ko;go_wp2_with fail
  first|exact⟨rfl,HQ.out⟩|(go_end0;exact⟨rfl,HQ.out⟩)
 by_cases e9:kind=9
 ·subst e9;have kk:=H9.out wc HBw.out T H hT hH s k m;have c6:=hcc.cell 6 _ rfl;have c2:=hcc.cell 2 _ rfl;have c3:=hcc.cell 3 _ rfl;clear H0 H1 H2 H3 H4 H5 H6 H7 H8 H9 HGo HObj HLt HC hcc;go_wp2_with fail;refine kk.mono ?_;rintro rv w' ⟨⟨a,er,rfl⟩,hq⟩;have HQ:=Q0a hq;unfold two;clear hq kk;go_wp2_with fail
  first|exact⟨rfl,HQ.out⟩|(go_end0;exact⟨rfl,HQ.out⟩)
 have f0:(kind==0)=false:=by simpa using e0
 have f1:(kind==1)=false:=by simpa using e1
 have f2:(kind==2)=false:=by simpa using e2
 have f3:(kind==3)=false:=by simpa using e3
 have f4:(kind==4)=false:=by simpa using e4
 have f5:(kind==5)=false:=by simpa using e5
 have f6:(kind==6)=false:=by simpa using e6
 have f7:(kind==7)=false:=by simpa using e7
 have f8:(kind==8)=false:=by simpa using e8
 have f9:(kind==9)=false:=by simpa using e9
 have HQ:=Q0a (HGo.out wc HBw.out);clear H0 H1 H2 H3 H4 H5 H6 H7 H8 H9 HGo HObj HLt HC hcc e0 e1 e2 e3 e4 e5 e6 e7 e8 e9;go_wp2_with fail
 first|exact⟨rfl,HQ.out⟩|(go_end0;exact⟨rfl,HQ.out⟩)
def fewV (A:Nat->A17) (len:Nat):Bool:=decide (len<=60/\∀j,j<len->(A j).ll<=20)
theorem J0u (w:World) (a0:Option Addr) (len cap:Nat) (A:Nat->A17) (hA:IsA17 w a0 len A) :
  Calls prog 26 #[.slice a0 len cap] w fun r w'=>r=.returned (.bool (fewV A len))/\w=w':=by
 have hl0:(0:Int)<=(len:Int):=by omega
 by_cases h60:len<=60
 ·have hd:decide (60<(len:Int))=false:=by simp;omega
  have HA:=Q0a hA;have hl2:(len:Int)<=60:=by omega
  obtain⟨v,hv⟩:∃v,v=fewV A len:=⟨_,rfl⟩
  have HV:=Q0a hv;rw [<- hv];clear hA hv;go_enter func26,ntmps26;go_wp2_with fail
  go_loopg [3] len (fun gk iv wr=>∃k:Nat,iv=.int .i64 k/\k+gk=len/\wr=w/\∀j,j<k->(A j).ll<=20)
  case atStart=>exact⟨0,rfl,by omega,rfl,fun j hj=>by omega⟩
  case round =>
   obtain⟨k,rfl,hkg,rfl,hp⟩:=hrel;have HP:=Q0a hp;have HKG:=Q0a hkg;clear hp hkg;by_cases hlt:k<len
   ·obtain⟨g,off,rfl,hg,hcl,hwf,_⟩:=HA.out k hlt;have c9:wr.cell? ⟨g,off+k*17+9,none⟩=some (.slice (A k).la (A k).ll (A k).lc):=hcl 9 _ rfl;have hlen:=hwf.len;unfold maxLen at hlen;have hki:(k:Int)<(len:Int):=by omega
    have hk0:(0:Int)<=(k:Int):=by omega
    clear hcl hwf;by_cases h20:(A k).ll<=20
    ·have hd2:decide (20<(((A k).ll:Nat):Int))=false:=by simp;omega
     have HP2:Hid (∀j,j<k+1->(A j).ll<=20):=fun j hj=>by
      by_cases e:j=k
      ·rw [e];exact h20
      ·exact HP.out j (by omega)
     go_wp2_with fail;go_roundg (len-(k+1))
     case measure=>have:=HKG.out;omega
     case rel=>exact⟨k+1,by go_num,by have:=HKG.out;omega,rfl,HP2.out⟩
    ·have hd2:decide (20<(((A k).ll:Nat):Int))=true:=by simp;omega
     have hvf:v=false:=by
      rw [HV.out];unfold fewV;exact decide_eq_false fun h=>h20 (h.2 k hlt)
     subst hvf;clear HV;go_wp2_with fail
     first|exact⟨rfl,rfl⟩|(go_ret;exact⟨rfl,rfl⟩)
   ·obtain rfl:k=len:=by have:=HKG.out;omega
    have hvt:v=true:=by
     rw [HV.out];unfold fewV;exact decide_eq_true ⟨h60,HP.out⟩
    subst hvt;clear HV;go_wp2_with fail
    first|exact⟨rfl,rfl⟩|(go_ret;exact⟨rfl,rfl⟩)
 ·have hv:fewV A len=false:=by
   unfold fewV;exact decide_eq_false fun h=>h60 h.1
  have hd:decide (60<(len:Int))=true:=by simp;omega
  rw [hv];clear hA;go_enter func26,ntmps26;go_wp2_with fail
  first|exact⟨rfl,rfl⟩|(go_ret;exact⟨rfl,rfl⟩)
structure BegZ (Z:SP):Prop where
 per:Z.S.period=2
 top:Z.S.P.d.top=6
 root:pget Z.S.l 1 0=some ⟨1,64,0,1,0,0⟩
theorem BegZ.gone {Z Z':SP} (b:BegZ Z) (g:GoneZ Z Z'):BegZ Z':=⟨g.per.trans b.per,g.same.top.trans b.top,g.root.trans b.root⟩
def AtB (s:Nat) (N K:Nat) (M:Int) (w0 wr:World):Prop:=∃(Z:SP) (fr:List Nat),Z.s=s/\Z.Ok fr N K M/\BegZ Z/\Step [] Z.hl w0 wr
theorem J0v {w w1:World} {S:CO} {limit:Int} (f:Q9B S 6 limit 2) (st:Step [] (S.hl++[]) w w1) :
  Calls prog 17 #[.pointer (some ⟨S.c,0,none⟩)] w1 fun r w'=>∃s,r=.returned (.pointer (some ⟨s,0,none⟩))/\AtB s 1 0 0 w w':=by
 have m:=Z1O f;have st':Step [] S.hl w w1:=by rwa [J3D] at st
 refine (Z1N st'.sep (fun _=>TB.emp)).mono ?_;rintro r w' ⟨Z,rfl,hn,st2⟩;refine⟨Z.s,rfl,Z,[],rfl,hn.ok m.ok m.tpi (fun _ _=>TB.emp_nil),⟨by rw [hn.S];exact m.per,by rw [hn.S];exact m.top,by rw [hn.S,m.l];rfl⟩,st'.trans st2⟩
theorem Z8N {w wr:World} {s N K:Nat} {M:Int} (h:AtB s N K M w wr) (hN:N+1<1048576) (hK:K<1048575) (hM:M+300<1099511627776) (x:A17) (hx:x.Wf) (hll:x.ll<=20) (hmv:IsMv w x.la x.ll x.L) :
  Calls prog 92 #[.pointer (some ⟨s,0,none⟩),.agg #[.int .i64 x.kind,.int .i64 x.n,.int .i64 x.k,.int .i64 x.m,.int .i64 x.t,.int .i64 x.u,.int .i64 x.s,.int .i64 x.r,.bool x.self,.slice x.la x.ll x.lc,.int .i64 x.i.base,.int .i64 x.i.order,.int .i64 x.i.r,.int .i64 x.i.off,.bool x.i.g,.int .i64 x.w.base,.int .i64 x.w.order]] wr fun r w'=>r=.returned (.tuple #[])/\AtB s (N+1) (K+1) (M+256) w w':=by
 obtain⟨Z,fr,rfl,ok,b,st⟩:=h;have hmv2:AsideM Z.hl x.ll x.L x.la wr:=⟨hmv.below st.fresh,fun a h0 ha hk=>by
  obtain⟨g,off,hg,hlt,_⟩:=hmv 0 (by omega);rw [ha] at hg;cases hg;rcases st.new _ hk with h|h
  ·cases h
  ·dsimp only at h;omega⟩
 refine (Z3H st.sep ok hN hK hM x hx hll hmv2).mono ?_;rintro r w' ⟨rfl,Z',fr',ok',g,st'⟩;exact⟨rfl,Z',fr',g.s,ok',b.gone g,st.trans st'⟩
theorem Z6C {w:World} (henv:Env w) (limit:Int) (h64:64<=limit) (hle:limit<=65536) (a0:Option Addr) (len cap:Nat) (A:Nat->A17) (hl:len<=60) (hA:IsA17 w a0 len A) (hll:∀j,j<len->(A j).ll<=20) :
  Calls prog 27 #[.int .i64 limit,.slice a0 len cap] w fun r w'=>∃s,r=.returned (.pointer (some ⟨s,0,none⟩))/\AtB s 61 60 15360 w w':=by
 have h16:((2 ^ (6+10):Nat):Int)=65536:=by decide
 have kn:=Z1M (Sep.nil henv) 6 (by omega) (by omega) limit h64 (by rw [h16];exact hle) 2 (by omega) (by omega);rw [h16] at kn;have HA:=Q0a hA;have HLl:=Q0a hll;have hl0:(0:Int)<=(len:Int):=by omega
 have hl2:(len:Int)<=60:=by omega
 clear henv hA hll h16;go_enter func27,ntmps27;go_wp2_with fail;refine kn.mono ?_;rintro r w1 ⟨S,rfl,hf,st⟩;have ks:=J0v hf st;clear kn hf st;go_wp2_with fail;refine ks.mono ?_;rintro r w2 ⟨s,rfl,hat⟩;have HAt:=Q0a hat;clear hat ks;go_wp2_with fail
 go_loopg [6] len (fun gk iv wr=>∃k:Nat,iv=.int .i64 k/\k+gk=len/\AtB s (1+k) k (256*(k:Int)) w wr)
 case atStart=>exact⟨0,rfl,by omega,HAt.out⟩
 case round =>
  obtain⟨k,rfl,hkg,hat⟩:=hrel;have HKG:=Q0a hkg;clear hkg;by_cases hlt:k<len
  ·have kp:=Z8N hat (by omega) (by omega) (by omega) (A k) (HA.out k hlt).choose_spec.choose_spec.2.2.2.1 (HLl.out k hlt) (HA.out k hlt).choose_spec.choose_spec.2.2.2.2;have hb:Below w.heap.size w wr:=by
    obtain⟨Z,fr,_,_,_,st⟩:=hat;exact st.fresh
   obtain⟨g,off,rfl,hg,hcl,_,_⟩:=(HA.out.below hb) k hlt;have c0:wr.cell? ⟨g,off+k*17,none⟩=some (.int .i64 (A k).kind):=hcl 0 _ rfl;have c1:wr.cell? ⟨g,off+k*17+1,none⟩=some (.int .i64 (A k).n):=hcl 1 _ rfl;have c2:wr.cell? ⟨g,off+k*17+2,none⟩=some (.int .i64 (A k).k):=hcl 2 _ rfl;have c3:wr.cell? ⟨g,off+k*17+3,none⟩=some (.int .i64 (A k).m):=hcl 3 _ rfl;have c4:wr.cell? ⟨g,off+k*17+4,none⟩=some (.int .i64 (A k).t):=hcl 4 _ rfl;have c5:wr.cell? ⟨g,off+k*17+5,none⟩=some (.int .i64 (A k).u):=hcl 5 _ rfl;have c6:wr.cell? ⟨g,off+k*17+6,none⟩=some (.int .i64 (A k).s):=hcl 6 _ rfl;have c7:wr.cell? ⟨g,off+k*17+7,none⟩=some (.int .i64 (A k).r):=hcl 7 _ rfl
   have c8:wr.cell? ⟨g,off+k*17+8,none⟩=some (.bool (A k).self):=hcl 8 _ rfl;have c9:wr.cell? ⟨g,off+k*17+9,none⟩=some (.slice (A k).la (A k).ll (A k).lc):=hcl 9 _ rfl;have c10:wr.cell? ⟨g,off+k*17+10,none⟩=some (.int .i64 (A k).i.base):=hcl 10 _ rfl;have c11:wr.cell? ⟨g,off+k*17+11,none⟩=some (.int .i64 (A k).i.order):=hcl 11 _ rfl;have c12:wr.cell? ⟨g,off+k*17+12,none⟩=some (.int .i64 (A k).i.r):=hcl 12 _ rfl;have c13:wr.cell? ⟨g,off+k*17+13,none⟩=some (.int .i64 (A k).i.off):=hcl 13 _ rfl;have c14:wr.cell? ⟨g,off+k*17+14,none⟩=some (.bool (A k).i.g):=hcl 14 _ rfl;have c15:wr.cell? ⟨g,off+k*17+15,none⟩=some (.int .i64 (A k).w.base):=hcl 15 _ rfl
   have c16:wr.cell? ⟨g,off+k*17+16,none⟩=some (.int .i64 (A k).w.order):=hcl 16 _ rfl;have hki:(k:Int)<(len:Int):=by omega
   have hk0:(0:Int)<=(k:Int):=by omega
   clear hcl hat hb HA HLl;go_wp2_with fail;refine kp.mono ?_;rintro r w3 ⟨rfl,hat⟩;have HAt:=Q0a hat;clear hat kp c0 c1 c2 c3 c4 c5 c6 c7 c8 c9 c10 c11 c12 c13 c14 c15 c16;go_wp2_with fail;go_roundg (len-(k+1))
   case measure=>have:=HKG.out;omega
   case rel=>exact⟨k+1,by go_num,by have:=HKG.out;omega,by
    obtain⟨Z,fr,e,ok,b,st⟩:=HAt.out;exact⟨Z,fr,e,ok.mono (by omega) (by omega) (by omega),b,st⟩⟩
  ·obtain rfl:k=len:=by have:=HKG.out;omega
   have HR:Hid (AtB s 61 60 15360 w wr):=by
    obtain⟨Z,fr,e,ok,b,st⟩:=hat;exact⟨Z,fr,e,ok.mono (by omega) (by omega) (by omega),b,st⟩
   clear hat;go_wp2_with fail
   first|exact⟨s,rfl,HR.out⟩|(go_ret;exact⟨s,rfl,HR.out⟩)
theorem Z3I:∀x,x<16->∀y,y<16->x&&&y=x->bits .andNot .i64 ((x:Nat):Int) ((y:Nat):Int)=0:=by decide
theorem Z6D {m:Nat}:(64:Int)+(m:Int).tmod 65473=((64+m%65473:Nat):Int)/\(64:Int)+(m:Int)%65473=((64+m%65473:Nat):Int)/\64<=64+m%65473/\64+m%65473<=65536:=by
 refine⟨?_,by omega,by omega,by omega⟩;rw [J3o (by omega)];omega
section
variable {Z:SP} {fr:List Nat} {N K:Nat} {M:Int}
theorem Q9I {x s:Nat} {e:Ent} (h:Q0f Z.S.l Z.tb x s=some e):Q6F Z.S.l Z.tb x (s:Int)=.tuple #[.agg #[.int .u32 (e.h:Int),.int .i64 (e.r:Int)],.int .i64 0]:=by
 obtain⟨p,hp,hk,hs,_⟩:=Q1T h;unfold Q6F;rw [hp];simp only;rw [if_pos hk,if_pos (by omega),J2C,h]
theorem Z6E (ok:Z.Ok fr N K M) {x s:Nat} {e:Ent} (h:Q0f Z.S.l Z.tb x s=some e):Z2Z Z.F.N (x:Int) (s:Int)=none∨∃(a b:Nat) (e':Ent),Z2Z Z.F.N (x:Int) (s:Int)=some ((a:Int),(b:Int))/\a<4294967296/\Q0f Z.S.l Z.tb a b=some e'/\e'.h=e.h/\e.r&&&e'.r=e.r/\e'.r<16:=by
 obtain⟨n,hn,h1,h2⟩:=ok.fpi.has x s e h;rw [<- h1,<- h2,Z8f ok.fo.n hn];cases hf:find Z.F.N n.q.par with
 | none=>exact .inl rfl
 | some m =>
  right;have hm:=(Q0b hf).1;obtain⟨a,b,p,e',q1,q2,q3,_,_,_,_,q4⟩:=ok.fpi.task ok.fo.n hm;refine⟨a,b,e',by show some (m.q.sp,m.q.sl)=_;rw [q1,q2],q3,q4,?_⟩;have hen:Q0H Z.S.l Z.tb n=some e:=by
   unfold Q0H;rw [h1,h2,J2C,J2C];exact h
  have hem:Q0H Z.S.l Z.tb m=some e':=by
   unfold Q0H;rw [q1,q2,J2C,J2C];exact q4
  obtain⟨u1,u2⟩:=ok.fpi.up n hn m hf e e' hen hem;have:=(ok.fpi.cap a b e' q4).r;exact⟨u1.symm,u2,by omega⟩
theorem Z6F {w:World} (hs:Sep w Z.hl) (ok:Z.Ok fr N K M) {y:Nat} {z:Int} (hz:z∈Q0o Z.S.l Z.tb y) :
  y<4294967296/\∃(h r k8 a f:Nat),1<=r/\r<=15/\0<=z/\z<256/\(((k8:Int)==8)=decide (128<=z)) /\
   (∀W,Below w.heap.size w W->Calls prog 21 #[.pointer (some ⟨Z.s,0,none⟩),.int .u32 y,.int .i64 z] W (Told W (.tuple #[.agg #[.int .u32 h,.int .i64 r],.int .i64 0]))) /\
   (∀W,Below w.heap.size w W->Calls prog 30 #[.pointer (some ⟨Z.S.c,0,none⟩),.int .u32 h,.int .i64 0] W (Told W (.tuple #[.agg #[.int .i64 k8,.int .i64 a,.int .i64 f],.int .i64 0]))) /\
   ((∀W,Below w.heap.size w W->Calls prog 22 #[.pointer (some ⟨Z.s,0,none⟩),.int .u32 y,.int .i64 z] W (Told W (.tuple #[.agg #[.int .i64 0,.int .i64 0],.bool false]))) ∨
    ∃(y2 s2 r2:Nat),y2<4294967296/\bits .andNot .i64 (r:Int) (r2:Int)=0/\(∀W,Below w.heap.size w W->Calls prog 22 #[.pointer (some ⟨Z.s,0,none⟩),.int .u32 y,.int .i64 z] W (Told W (.tuple #[.agg #[.int .i64 y2,.int .i64 s2],.bool true]))) /\
    (∀W,Below w.heap.size w W->Calls prog 21 #[.pointer (some ⟨Z.s,0,none⟩),.int .u32 y2,.int .i64 s2] W (Told W (.tuple #[.agg #[.int .u32 h,.int .i64 r2],.int .i64 0])))):=by
 obtain⟨s,rfl,hs2,e,he⟩:=mem_slotsL.1 hz;obtain⟨p,hp,hk,_,_⟩:=Q1T he;have hlok:=ok.core.inv.lok;have hy:=Q5c hlok hp;obtain⟨⟨q,hq,hq8⟩,hr⟩:=ok.fpi.cap y s e he;refine⟨hy,e.h,e.r,q.kind,q.at_,q.fac,hr.1,hr.2,by omega,by omega,?_,fun W hb=>?_,fun W hb=>Q2n (SP.sS (hs.grown hb).sep) hlok (Q5c hlok hq) 0 hq (.inl rfl),?_⟩
 ·by_cases h8:q.kind=8
  ·have:=hq8.1 h8;rw [h8,decide_eq_true (by omega:(128:Int)<=(s:Int))];rfl
  ·have h9:¬128<=s:=fun h=>h8 (hq8.2 h)
   rw [decide_eq_false (by omega:¬(128:Int)<=(s:Int))];simp;omega
 ·have:=Q6p (hs.grown hb).sep ok hy (s:Int)
  rwa [Q9I he] at this
 ·have hfr:∀W,Below w.heap.size w W->Calls prog 22 #[.pointer (some ⟨Z.s,0,none⟩),.int .u32 y,.int .i64 s] W (Told W (Z0F Z.F.N (y:Int) (s:Int))):=fun W hb=>Q9G (hs.grown hb).sep ok.fo hy hs2
  rcases Z6E ok he with hn|⟨a,b,e',hf,ha,he',hh,hsub,hr'⟩
  ·unfold Z0F at hfr;rw [hn] at hfr;exact .inl hfr
  ·unfold Z0F at hfr;rw [hf] at hfr;refine .inr ⟨a,b,e'.r,ha,Z3I _ (by omega) _ hr' hsub,hfr,fun W hb=>?_⟩;have:=Q6p (hs.grown hb).sep ok ha (b:Int)
   rwa [Q9I he',hh] at this
end
end Go.Proofs.YtlakjlmaboioiaaGreatDoor

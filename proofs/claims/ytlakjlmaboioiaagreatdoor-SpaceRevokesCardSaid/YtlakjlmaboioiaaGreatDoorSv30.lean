/- SpaceRevokes returns true at every input. No condition. Part of its proof. -/
import Derived.Test.YtlakjlmaboioiaaGreatDoorSv29
set_option maxHeartbeats 8000000
set_option maxRecDepth 100000
set_option linter.unusedVariables false
namespace Go.Proofs.YtlakjlmaboioiaaGreatDoor
open Go.RowKit Go.Proofs.Tryz
def Q5m (Z:SP) (x:Nat) (i:It) (k:Nat):Bool:=(Q0f Z.S.l Z.tb x (i.base.toNat+k)).isSome
def MvsE (Z:SP) (x:Nat) (i:It) (v:Wi) (er:Int):Prop:=(pget Z.S.l 1 x=none/\er=8)∨∃p,pget Z.S.l 1 x=some p/\((p.kind≠2/\er=10)∨(p.kind=2/\((Q4j i v=false/\er=1)∨(Q4j i v=true/\¬(i.off+((2 ^ i.order.toNat:Nat):Int)<=((2 ^ v.order.toNat:Nat):Int))/\er=2))))
def noMv:Mv:=⟨0,0,0,false⟩
def MvsR (Z:SP) (x:Nat) (i:It) (v:Wi) (w:World) (r:Ending) (w':World):Prop:=Below w.heap.size w w' /\
 ((∃er,er≠0/\r=.returned (.tuple #[.slice none 0 0,.int .i64 er])/\MvsE Z x i v er) ∨
  ∃(p:Pl) (a:Option Addr) (cap:Nat) (L:List Mv),pget Z.S.l 1 x=some p/\p.kind=2/\Q4j i v=true/\i.off+((2 ^ i.order.toNat:Nat):Int)<=((2 ^ v.order.toNat:Nat):Int)/\L=movV (Q5m Z x i) i v (2 ^ i.order.toNat)/\r=.returned (.tuple #[.slice a L.length cap,.int .i64 0])/\L.length<=cap/\AsideM Z.hl L.length (fun j=>L.getD j noMv) a w')
theorem Q6H {w:World} {Z:SP} {fr:List Nat} {N K:Nat} (hs:Sep w Z.hl) (ok:Z.S.Ok fr N K) {x:Nat} (hx:x<4294967296) (i:It) (v:Wi) (er:Int) (he:er≠0) (hw:(pget Z.S.l 1 x=none/\er=8)∨∃p,pget Z.S.l 1 x=some p/\p.kind≠2/\er=10) :
  Calls prog 24 #[.pointer (some ⟨Z.s,0,none⟩),.int .u32 x,.agg #[.int .i64 i.base,.int .i64 i.order,.int .i64 i.r,.int .i64 i.off,.bool i.g],.agg #[.int .i64 v.base,.int .i64 v.order]] w fun r w'=>r=.returned (.tuple #[.slice none 0 0,.int .i64 er])/\Below w.heap.size w w':=by
 have BK:Below w.heap.size w ((w.alloc (.cells #[.int .i64 i.base,.int .i64 i.order,.int .i64 i.r,.int .i64 i.off,.bool i.g] 54)).alloc (.cells #[.int .i64 v.base,.int .i64 v.order] 56)):=((Below.refl w.heap.size w).alloc (J1L _) _).alloc (by simp) _;have ks:=Q0K (hs.grown BK).sep ok hx er hw;have FX:(er==0)=false:=by simpa using he
 have HR:Hid (∀w' o,Below ((w.alloc (.cells #[.int .i64 i.base,.int .i64 i.order,.int .i64 i.r,.int .i64 i.off,.bool i.g] 54)).alloc (.cells #[.int .i64 v.base,.int .i64 v.order] 56)).heap.size ((w.alloc (.cells #[.int .i64 i.base,.int .i64 i.order,.int .i64 i.r,.int .i64 i.off,.bool i.g] 54)).alloc (.cells #[.int .i64 v.base,.int .i64 v.order] 56)) w'->Below w.heap.size w (w'.alloc o)):=fun w' o hb=>Q0e (Q0e (hb.alloc hb.size o))
 obtain⟨ib,io,ir,iff,ig⟩:=i;obtain⟨vb,vo⟩:=v;dsimp only at *
 clear hs ok hx hw BK;go_enter func24,ntmps24;go_wp2_with fail;refine ks.mono ?_;rintro r w1 ⟨rfl,hb⟩;have HQ:Hid (∀o,Below w.heap.size w (w1.alloc o)):=fun o=>HR.out w1 o hb
 clear hb HR ks;go_wp2_with fail
 first|exact⟨rfl,HQ.out _⟩|(go_ret2;exact⟨rfl,HQ.out _⟩)
theorem Z6O {n:Nat} (h:n<=128):wrap64 (n:Int)=(n:Int):=Go.IntWalk.wrap64_in _ (by omega)
theorem Z8W {n:Nat} {x:Int} (h:n<=128) (h0:0<=x) (h1:x<256):wrap64 (x+(n:Int))=x+(n:Int):=Go.IntWalk.wrap64_in _ (by omega)
def Box2 (b:Nat) (i:It) (v:Wi) (W:World):Prop:=(W.cell? ⟨b,0,none⟩=some (.int .i64 i.base)/\W.cell? ⟨b,1,none⟩=some (.int .i64 i.order)/\W.cell? ⟨b,2,none⟩=some (.int .i64 i.r)/\W.cell? ⟨b,3,none⟩=some (.int .i64 i.off)/\W.cell? ⟨b,4,none⟩=some (.bool i.g))/\W.cell? ⟨b+1,0,none⟩=some (.int .i64 v.base)/\W.cell? ⟨b+1,1,none⟩=some (.int .i64 v.order)
theorem box2 {w:World} (i:It) (v:Wi) {W:World} (hb:Below ((w.alloc (.cells #[.int .i64 i.base,.int .i64 i.order,.int .i64 i.r,.int .i64 i.off,.bool i.g] 54)).alloc (.cells #[.int .i64 v.base,.int .i64 v.order] 56)).heap.size ((w.alloc (.cells #[.int .i64 i.base,.int .i64 i.order,.int .i64 i.r,.int .i64 i.off,.bool i.g] 54)).alloc (.cells #[.int .i64 v.base,.int .i64 v.order] 56)) W):Box2 w.heap.size i v W:=by
 have h1:=((Cells.new w 54 i.cells).alloc (.cells #[.int .i64 v.base,.int .i64 v.order] 56)).same (hb.block _ (by simp;omega));have h2:=(Cells.new (w.alloc (.cells #[.int .i64 i.base,.int .i64 i.order,.int .i64 i.r,.int .i64 i.off,.bool i.g] 54)) 56 v.cells).same (hb.block _ (by simp));have e1:(w.alloc (.cells #[.int .i64 i.base,.int .i64 i.order,.int .i64 i.r,.int .i64 i.off,.bool i.g] 54)).heap.size=w.heap.size+1:=by simp
 rw [e1] at h2;exact⟨⟨h1.cell 0 _ rfl,h1.cell 1 _ rfl,h1.cell 2 _ rfl,h1.cell 3 _ rfl,h1.cell 4 _ rfl⟩,h2.cell 0 _ rfl,h2.cell 1 _ rfl⟩
theorem Z0W {w:World} {s x fac:Nat} {i:It} {v:Wi} {T:Nat->World->Prop} {f:Nat->Bool} {Q:Ending->World->Prop}
  (ks:Calls prog 73 #[.pointer (some ⟨s,0,none⟩),.int .u32 x] ((w.alloc (.cells #[.int .i64 i.base,.int .i64 i.order,.int .i64 i.r,.int .i64 i.off,.bool i.g] 54)).alloc (.cells #[.int .i64 v.base,.int .i64 v.order] 56)) fun r w'=>∃g:Nat,r=.returned (.tuple #[.agg #[.pointer (some ⟨g,0,none⟩),.int .u32 x,.int .i64 fac],.int .i64 0])/\Below ((w.alloc (.cells #[.int .i64 i.base,.int .i64 i.order,.int .i64 i.r,.int .i64 i.off,.bool i.g] 54)).alloc (.cells #[.int .i64 v.base,.int .i64 v.order] 56)).heap.size ((w.alloc (.cells #[.int .i64 i.base,.int .i64 i.order,.int .i64 i.r,.int .i64 i.off,.bool i.g] 54)).alloc (.cells #[.int .i64 v.base,.int .i64 v.order] 56)) w'/\T g w')
  (hT:∀g W W',T g W->Below W.heap.size W W'->T g W')
  (hC:∀(g:Nat) (W:World) (k:Nat),Below ((w.alloc (.cells #[.int .i64 i.base,.int .i64 i.order,.int .i64 i.r,.int .i64 i.off,.bool i.g] 54)).alloc (.cells #[.int .i64 v.base,.int .i64 v.order] 56)).heap.size ((w.alloc (.cells #[.int .i64 i.base,.int .i64 i.order,.int .i64 i.r,.int .i64 i.off,.bool i.g] 54)).alloc (.cells #[.int .i64 v.base,.int .i64 v.order] 56)) W->T g W->k<2 ^ i.order.toNat->Q4j i v=true->Calls prog 74 #[.agg #[.pointer (some ⟨g,0,none⟩),.int .u32 x,.int .i64 fac],.int .i64 (i.base+(k:Int))] W fun r w'=>∃a b:Int,r=.returned (.tuple #[.agg #[.int .u32 a,.int .i64 b],.bool (f k)])/\Below W.heap.size W w')
  (hE:∀(er:Int) (w':World),((Q4j i v=false/\er=1)∨(Q4j i v=true/\¬(i.off+((2 ^ i.order.toNat:Nat):Int)<=((2 ^ v.order.toNat:Nat):Int))/\er=2))->Below w.heap.size w w'->Q (.returned (.tuple #[.slice none 0 0,.int .i64 er])) w')
  (hR:Q4j i v=true->i.off+((2 ^ i.order.toNat:Nat):Int)<=((2 ^ v.order.toNat:Nat):Int)->∀(a:Value) (w':World),OutM w w' a (movV f i v (2 ^ i.order.toNat))->Q (.returned (.tuple #[a,.int .i64 0])) w') :
  Calls prog 24 #[.pointer (some ⟨s,0,none⟩),.int .u32 x,.agg #[.int .i64 i.base,.int .i64 i.order,.int .i64 i.r,.int .i64 i.off,.bool i.g],.agg #[.int .i64 v.base,.int .i64 v.order]] w Q:=by
 have HW:Hid (∀W,Below ((w.alloc (.cells #[.int .i64 i.base,.int .i64 i.order,.int .i64 i.r,.int .i64 i.off,.bool i.g] 54)).alloc (.cells #[.int .i64 v.base,.int .i64 v.order] 56)).heap.size ((w.alloc (.cells #[.int .i64 i.base,.int .i64 i.order,.int .i64 i.r,.int .i64 i.off,.bool i.g] 54)).alloc (.cells #[.int .i64 v.base,.int .i64 v.order] 56)) W->Below w.heap.size w W/\Box2 w.heap.size i v W):=fun W hb=>⟨Q0e (Q0e hb),box2 i v hb⟩
 have HC:=Q0a hC;have Fj:=Q0a hT;have Kp:=Q0a hE;have K6:=Q0a hR;have Ig:Hid (∀W,_):=fun W=>J0E W v
 have IP:Hid (∀W,_):=fun W=>Z8V W i
 have Gy:Hid (∀W,_):=fun W=>Q2H W i.base
 have KO:Hid (∀W,_):=fun W=>Q2H W v.base
 have Hy:Hid (Q4j i v=(Q8k i&&(Q2h v.base v.order&&(decide (i.base<128)==decide (v.base<128))))):=rfl;have HP:Hid (Q4j i v=true->Q2h i.base i.order=true/\Q2h v.base v.order=true/\1<=i.r/\i.r<=15/\0<=i.off/\i.off<256):=fun h=>by
  unfold Q4j Q8k at h;simp only [J2g,decide_eq_true_eq] at h;exact⟨h.1.1,h.2.1,h.1.2⟩
 generalize hW0:((w.alloc (.cells #[.int .i64 i.base,.int .i64 i.order,.int .i64 i.r,.int .i64 i.off,.bool i.g] 54)).alloc (.cells #[.int .i64 v.base,.int .i64 v.order] 56))=W0 at *
 obtain⟨ib,io,ir,iff,ig⟩:=i;obtain⟨vb,vo⟩:=v;dsimp only at *
 clear hC hT hE hR;generalize Q4j ⟨ib,io,ir,iff,ig⟩ ⟨vb,vo⟩=ia at *
 go_enter func24,ntmps24;go_wp2_with fail;refine ks.mono ?_;rintro r w1 ⟨g,rfl,Ax,C5⟩;clear hW0 ks;have Ni:=Ax.alloc Ax.size (.cells #[.pointer (some ⟨g,0,none⟩),.int .u32 x,.int .i64 fac] 155);have Nh:=Cells.new w1 155 [.pointer (some ⟨g,0,none⟩),.int .u32 x,.int .i64 fac];obtain⟨⟨c0,c1,c2,c3,c4⟩,v0,v1⟩:=(HW.out _ Ni).2;go_wp2_with fail;refine (IP.out _).mono ?_;rintro r w2 ⟨xx,rfl,Af⟩;have HS:Hid (∀W,Below w2.heap.size w2 W->(Below w.heap.size w W/\Below W0.heap.size W0 W/\T g W)/\Box2 w.heap.size ⟨ib,io,ir,iff,ig⟩ ⟨vb,vo⟩ W/\W.cell? ⟨w1.heap.size,0,none⟩=some (.pointer (some ⟨g,0,none⟩))/\W.cell? ⟨w1.heap.size,1,none⟩=some (.int .u32 x)/\W.cell? ⟨w1.heap.size,2,none⟩=some (.int .i64 fac)):=fun W hb=>by
  have h2:=Ni.trans (Af.mono Ni.size);have h3:=h2.trans (hb.mono h2.size);have hc:=(Nh.same (Af.block _ Nh.lt)).same (hb.block _ (J1N Nh.lt Af.size));exact⟨⟨(HW.out _ h3).1,h3,Fj.out _ _ _ (Fj.out _ _ _ (Fj.out _ _ _ C5 ((Below.refl _ _).alloc (J1L _) _)) Af) hb⟩,(HW.out _ h3).2,hc.cell 0 _ rfl,hc.cell 1 _ rfl,hc.cell 2 _ rfl⟩
 generalize w1.heap.size=B at *
 clear Ni Nh Ax C5 Af c0 c1 c2 c3 c4 v0 v1 HW Fj IP;obtain⟨-,⟨⟨c0,c1,c2,c3,c4⟩,v0,v1⟩,s0,s1,s2⟩:=HS.out _ (Below.refl _ _);obtain⟨-,⟨⟨d0,d1,d2,d3,d4⟩,e0,e1⟩,-,-,-⟩:=HS.out _ (Below.refl w2.heap.size w2).drew;go_upto_region 5 with fail
 go_cut [32] from 33 to 48 (fun bb wc=>bb=.bool (!ia)/\Below w2.heap.size w2 wc)
 case first =>
  clear HC HP Kp K6;generalize Q8k ⟨ib,io,ir,iff,ig⟩=cd at *
  generalize Q2h vb vo=av at *
  generalize decide (ib<128)=k1 at *
  generalize decide (vb<128)=k2 at *
  cases cd with
  | false =>
   have HE:Hid (∀n,Below w2.heap.size w2 (w2.drewN n)):=fun n=>Q1n (Below.refl w2.heap.size w2) n
   obtain rfl:ia=false:=by
    have:=Hy.out;rw [J6n] at this;exact this
   clear Hy HS
   go_quiet (first|(go_at_call 77;exact (Gy.out _)))
   go_wp2_with fail;go_meet;exact⟨rfl,HE.out _⟩
  | true =>
   cases av with
   | false =>
    obtain rfl:ia=false:=by
     have:=Hy.out;rw [J6n,Bool.and_false] at this;exact this
    clear Hy
    first|go_region_with (first|(go_at_call 91;refine (Ig.out _).mono ?_;rintro r w5 ⟨rfl,AD⟩;have Dt:=Q0a ((Below.refl w2.heap.size w2).drew.trans (AD.mono (J1L _)));clear AD))|fail
    all_goals (go_wp2_with fail;go_meet;exact⟨rfl,Dt.out⟩)
   | true =>
    by_cases hk:k1=k2
    ·subst hk;obtain rfl:ia=true:=by
      have:=Hy.out;rw [J3c,J3c,beq_self_eq_true] at this;exact this
     clear Hy
     go_region_held3 (fun W=>W.cell? ⟨w.heap.size,0,none⟩=some (.int .i64 ib)/\W.cell? ⟨w.heap.size+1,0,none⟩=some (.int .i64 vb)/\W.cell? ⟨w.heap.size+1,1,none⟩=some (.int .i64 vo)) (first|exact⟨c0,v0,v1⟩|exact⟨d0,e0,e1⟩|exact Pm)
     (first|(go_at_call 91;refine (Ig.out _).mono ?_;rintro r w5 ⟨rfl,AD⟩;have Hc:=HS.out w5 ((Below.refl w2.heap.size w2).drew.trans (AD.mono (J1L _)));have Pm:=(⟨Hc.2.1.1.1,Hc.2.1.2.1,Hc.2.1.2.2⟩:_/\_/\_);have Dt:=Q0a ((Below.refl w2.heap.size w2).drew.trans (AD.mono (J1L _)));clear Hc AD)|(go_at_call_of 77 ib;refine (Gy.out _).mono ?_;rintro r w' ⟨rfl,rfl⟩)|(go_at_call_of 77 vb;refine (KO.out _).mono ?_;rintro r w' ⟨rfl,rfl⟩))
     all_goals (go_wp2_with fail;go_meet;exact⟨rfl,Dt.out⟩)
    ·obtain rfl:ia=false:=by
      have:=Hy.out;rw [J3c,J3c,beq_false_of_ne hk] at this;exact this
     clear Hy;have Bz:(k1 != k2)=true:=bne_iff_ne.2 hk
     go_region_held3 (fun W=>W.cell? ⟨w.heap.size,0,none⟩=some (.int .i64 ib)/\W.cell? ⟨w.heap.size+1,0,none⟩=some (.int .i64 vb)/\W.cell? ⟨w.heap.size+1,1,none⟩=some (.int .i64 vo)) (first|exact⟨c0,v0,v1⟩|exact⟨d0,e0,e1⟩|exact Pm)
     (first|(go_at_call 91;refine (Ig.out _).mono ?_;rintro r w5 ⟨rfl,AD⟩;have Hc:=HS.out w5 ((Below.refl w2.heap.size w2).drew.trans (AD.mono (J1L _)));have Pm:=(⟨Hc.2.1.1.1,Hc.2.1.2.1,Hc.2.1.2.2⟩:_/\_/\_);have Dt:=Q0a ((Below.refl w2.heap.size w2).drew.trans (AD.mono (J1L _)));clear Hc AD)|(go_at_call_of 77 ib;refine (Gy.out _).mono ?_;rintro r w' ⟨rfl,rfl⟩)|(go_at_call_of 77 vb;refine (KO.out _).mono ?_;rintro r w' ⟨rfl,rfl⟩))
     all_goals (go_wp2_with fail;go_meet;exact⟨by simp [beq_false_of_ne hk],Dt.out⟩)
 obtain⟨rfl,AD⟩:=hcut;clear c0 c1 c2 c3 c4 v0 v1 s0 s1 s2 d0 d1 d2 d3 d4 e0 e1 Hy Ig Gy KO;cases ia with
 | false =>
  have HE:=Q0a (Kp.out 1 wc (.inl ⟨rfl,rfl⟩) (HS.out wc AD).1.1);clear HS HC HP AD Kp K6;go_wp2_with fail
  first|exact HE.out|(go_ret2;exact HE.out)
 | true =>
  obtain⟨pa,pv,IX,Ky,NS,K9⟩:=HP.out rfl;obtain⟨pa1,pa2,pa3,pa4,pa5⟩:=Q2K pa;obtain⟨pv1,pv2,pv3,pv4,pv5⟩:=Q2K pv;have Dt:=Q0a AD;obtain⟨-,⟨⟨c0,c1,c2,c3,c4⟩,v0,v1⟩,s0,s1,s2⟩:=HS.out wc AD;obtain⟨-,⟨⟨d0,d1,d2,d3,d4⟩,e0,e1⟩,-,-,-⟩:=HS.out wc.drew AD.drew;clear HP pa pv AD;obtain⟨ko,rfl⟩:=J3q pa2;obtain⟨kv,rfl⟩:=J3q pv2;rw [J2R] at *
  rw [J2R] at K6 Kp;have EC:0<2 ^ ko:=Nat.pow_pos (by omega);go_upto_region 7 with fail;go_region;obtain⟨po,Ha⟩:∃po:Nat,po=2 ^ ko:=⟨_,rfl⟩
  obtain⟨pv,Kz⟩:∃pv:Nat,pv=2 ^ kv:=⟨_,rfl⟩
  have epo:(2:Int) ^ ko=(po:Int):=by rw [Ha];simp
  have epv:(2:Int) ^ kv=(pv:Int):=by rw [Kz];simp
  rw [<- Ha] at EC pa4 pa5;rw [<- Kz] at pv4 pv5;have Dk:wrap64 (po:Int)=(po:Int):=Z6O pa5;have EE:wrap64 (pv:Int)=(pv:Int):=Z6O pv5;have Iv:wrap64 (iff+(po:Int))=iff+(po:Int):=Z8W pa5 NS K9;simp only [epo,epv,Dk,EE,Iv];have Du:Hid ((((2 ^ ko:Nat):Int))=(po:Int)/\(((2 ^ kv:Nat):Int))=(pv:Int)/\(2:Int) ^ ko=(po:Int)/\(2:Int) ^ kv=(pv:Int)/\po=2 ^ ko):=⟨by rw [Ha],by rw [Kz],epo,epv,Ha⟩
  have Px:=Q0a epo;have MR:=Q0a Dk;clear epo epv Ha Kz Dk EE Iv;have HD:=Q0a (Below.drew Dt.out);by_cases Am:iff+(po:Int)<=(pv:Int)
  ·have KG:¬((pv:Int)<iff+(po:Int)):=by omega
   clear d0 d1 d2 d3 d4 e0 e1 c0 c1 c2 c3 c4 v0 v1 s0 s1 s2;obtain⟨-,⟨⟨d0,d1,d2,d3,d4⟩,e0,e1⟩,-,-,-⟩:=HS.out wc.drew HD.out;go_wp2_with fail;simp only [Px.out,MR.out];clear d0 d1 d2 d3 d4 e0 e1;generalize wc.drew=w3 at *
   have HI:Hid (0<=ib/\ib.toNat+po<=256/\0<=vb/\vb.toNat+pv<=256/\po<=128/\0<=iff/\iff<256):=⟨pa1,pa4,pv1,pv4,pa5,NS,K9⟩
   clear pa1 pa3 pa4 pa5 pv1 pv3 pv4 pv5 pa2 pv2 IX Ky NS K9 EC KG Dt
   go_loopg [14,63] po (fun gk ov kk wr=>∃k:Nat,kk=.int .i64 k/\k+gk=po/\OutM w3 wr ov (movV f ⟨ib,(ko:Int),ir,iff,ig⟩ ⟨vb,(kv:Int)⟩ k))
   case atStart=>exact⟨0,rfl,by omega,OutM.nil w3⟩
   case round =>
    obtain⟨k,rfl,AL,Au⟩:=hrel;have HO:=Q0a Au;have BW:=Q0a AL;clear AL;have B3:Below w2.heap.size w2 wr:=HD.out.trans (Au.2.mono HD.out.size);by_cases Ab:k<po
    ·obtain⟨⟨-,FN,QB⟩,⟨⟨c0,c1,c2,c3,c4⟩,v0,v1⟩,s0,s1,s2⟩:=HS.out wr B3;have kc:=HC.out g wr k FN QB (by have:=Du.out.2.2.2.2;omega) (by trivial);have BO:=Q0a (Z6N f ⟨ib,(ko:Int),ir,iff,ig⟩ ⟨vb,(kv:Int)⟩ k);have EJ:=Q0a B3;have C4:(k:Int)<(po:Int):=by omega
     have QV:=Q0a Ab;have Q6:(k:Int)<128:=by have:=HI.out;omega
     have Bx:(0:Int)<=(k:Int):=by omega
     have K0:IntKind.i64.wrap (ib+(k:Int))=ib+(k:Int):=Go.IntWalk.i64_in _ (by have:=HI.out;omega);have Vz:IntKind.i64.wrap (vb+iff)=vb+iff:=Go.IntWalk.i64_in _ (by have:=HI.out;omega);have Ob:IntKind.i64.wrap (vb+iff+(k:Int))=vb+iff+(k:Int):=Go.IntWalk.i64_in _ (by have:=HI.out;omega);have LE:(movV f ⟨ib,(ko:Int),ir,iff,ig⟩ ⟨vb,(kv:Int)⟩ k).length<=16777216:=by
      have h1:=Z2f f ⟨ib,(ko:Int),ir,iff,ig⟩ ⟨vb,(kv:Int)⟩ k;have h2:=HI.out;omega
     have EP:=Q0a LE;obtain⟨fk,Dj⟩:∃b,b=f k:=⟨_,rfl⟩
     rw [<- Dj] at kc BO;clear Au B3 FN QB Dj LE;go_wp2_with fail;refine kc.mono ?_;rintro r w4 ⟨a,b,rfl,Az⟩;have IU:=Q0a (Az.alloc Az.size (.cells #[.int .u32 a,.int .i64 b] 35));have Nq:=Q0a (HO.out.below IU.out);obtain⟨-,⟨⟨d0,d1,d2,d3,d4⟩,e0,e1⟩,-,-,-⟩:=HS.out _ (EJ.out.trans (IU.out.mono EJ.out.size));clear Az kc c0 c1 c2 c3 c4 v0 v1 s0 s1 s2 HO EJ IU;cases fk with
     | true =>
      obtain⟨v',w',Bn,M7⟩:=Nq.out.app EP.out (itMv ⟨ib,(ko:Int),ir,iff,ig⟩ ⟨vb,(kv:Int)⟩ k) 58;have HR:Hid (OutM w3 w' v' (movV f ⟨ib,(ko:Int),ir,iff,ig⟩ ⟨vb,(kv:Int)⟩ (k+1))):=by
       rw [BO.out,if_pos rfl];exact M7
      have Lz:(w4.alloc (.cells #[.int .u32 a,.int .i64 b] 35)).heap.size=w4.heap.size+1:=by simp
      rw [Lz] at Bn;unfold itMv at Bn;dsimp only at Bn;clear Lz M7 BO Nq EP;go_wp2_with (at_builtin;refine Lib.wpList_append_run _ rfl _ _ _ _ rfl _ _ rfl rfl _ _ Bn ?_);go_roundg (po-(k+1))
      case measure=>have:=BW.out;omega
      case rel=>exact⟨k+1,by go_num,by have:=QV.out;omega,HR.out⟩
     | false =>
      have HR:Hid (OutM w3 (w4.alloc (.cells #[.int .u32 a,.int .i64 b] 35)) u14 (movV f ⟨ib,(ko:Int),ir,iff,ig⟩ ⟨vb,(kv:Int)⟩ (k+1))):=by
       rw [BO.out,if_neg (by decide),J3S];exact Nq.out
      clear BO Nq EP;go_wp2_with fail;go_roundg (po-(k+1))
      case measure=>have:=BW.out;omega
      case rel=>exact⟨k+1,by go_num,by have:=QV.out;omega,HR.out⟩
    ·obtain rfl:k=po:=by have:=BW.out;omega
     have HX:Hid (Q (.returned (.tuple #[u14,.int .i64 0])) wr):=by
      refine K6.out (by trivial) ?_ _ _ ?_
      ·rw [Du.out.1,Du.out.2.1];exact Am
      ·rw [<- Du.out.2.2.2.2];have h1:=(HS.out w3 HD.out).1.1;exact⟨Q2r Au.1 h1.size,h1.trans (Au.2.mono h1.size)⟩
     clear Au B3 HO HS HC Kp K6;go_wp2_with fail
     first|exact HX.out|(go_ret2;exact HX.out)
  ·have KG:(pv:Int)<iff+(po:Int):=by omega
   have HE:=Q0a (Kp.out 2 wc.drew (.inr ⟨by trivial,by rw [Du.out.1,Du.out.2.1];first|exact Am|omega,rfl⟩) (HS.out wc.drew HD.out).1.1);clear HS HC Dt Kp K6;go_wp2_with fail
   first|exact HE.out|(go_ret2;exact HE.out)
theorem Z3Q {w:World} {Z:SP} {fr:List Nat} {N K:Nat} {M:Int} (hs:Sep w Z.hl) (ok:Z.Ok fr N K M) {x:Nat} (hx:x<4294967296) (i:It) (v:Wi) (hi:i.Wf) (hv:v.Wf) :
  Calls prog 24 #[.pointer (some ⟨Z.s,0,none⟩),.int .u32 x,.agg #[.int .i64 i.base,.int .i64 i.order,.int .i64 i.r,.int .i64 i.off,.bool i.g],.agg #[.int .i64 v.base,.int .i64 v.order]] w (MvsR Z x i v w):=by
 cases hp:pget Z.S.l 1 x with
 | none =>
  refine (Q6H hs ok.core hx i v 8 (by decide) (.inl ⟨hp,rfl⟩)).mono ?_;rintro r w' ⟨rfl,hb⟩;exact⟨hb,.inl ⟨8,by decide,rfl,.inl ⟨hp,rfl⟩⟩⟩
 | some p =>
  by_cases hk:p.kind=2
  case neg =>
   refine (Q6H hs ok.core hx i v 10 (by decide) (.inr ⟨p,hp,hk,rfl⟩)).mono ?_;rintro r w' ⟨rfl,hb⟩;exact⟨hb,.inl ⟨10,by decide,rfl,.inr ⟨p,hp,.inl ⟨hk,rfl⟩⟩⟩⟩
  have BK:Below w.heap.size w ((w.alloc (.cells #[.int .i64 i.base,.int .i64 i.order,.int .i64 i.r,.int .i64 i.off,.bool i.g] 54)).alloc (.cells #[.int .i64 v.base,.int .i64 v.order] 56)):=((Below.refl w.heap.size w).alloc (J1L _) _).alloc (by simp) _;have s0:=(hs.grown BK).sep;have Up:=(pget_some.1 hp).1;have Ao:=(pget_some.1 hp).2.2;refine Z0W (fac:=p.fac) (f:=Q5m Z x i) (T:=fun g W=>Sep W Z.hl/\TblZ Z p g W) ?_ ?_ ?_ ?_ ?_
  ·refine (Q0U s0 ok.core hx hp hk).mono ?_;rintro r w' ⟨g,rfl,hb,hg⟩;exact⟨g,rfl,hb,(s0.grown hb).sep,hg⟩
  ·rintro g W W' ⟨h1,h2⟩ hb;exact⟨(h1.grown hb).sep,h2.grown h1 hb⟩
  ·rintro g W k-⟨h1,h2⟩ Ab G8;have DQ:Q2h i.base i.order=true:=by
    unfold Q4j Q8k at G8;simp only [J2g,decide_eq_true_eq] at G8;exact G8.1.1
   obtain⟨q1,q2,q3,q4,q5⟩:=Q2K DQ;have T:=(ok.tpi.x (p.fac:Int)).tt ok.core Up Ao hk (SP.sS h1) h2.c;have SS:0<=i.base+(k:Int)/\i.base+(k:Int)<256:=by omega
   have NF:(i.base+(k:Int)).toNat=i.base.toNat+k:=by omega
   have AB:(Z.tb (x%256)).at' (i.base+(k:Int))=Q0f Z.S.l Z.tb x (i.base.toNat+k):=by
    unfold TB.at';rw [if_pos SS,NF,Q0h hp hk (by omega)]
   have kc:=Q1u T (x:Int) (p.fac:Int) (i.base+(k:Int)) fun e he=>by
    rw [AB] at he;exact ok.fpi.low ok.core.inv.lok he
   rw [AB] at kc;obtain⟨a,b,CF⟩:=Q3K (Q0f Z.S.l Z.tb x (i.base.toNat+k));rw [CF] at kc;refine kc.mono ?_;rintro r w' ⟨rfl,hb⟩;exact⟨a,b,rfl,hb⟩
  ·intro er w' he hb;refine⟨hb,.inl ⟨er,?_,rfl,.inr ⟨p,hp,.inr ⟨hk,he⟩⟩⟩⟩;rcases he with ⟨_,rfl⟩|⟨_,_,rfl⟩ <;> decide
  ·intro ha hf a w' ho;obtain⟨a0,cap,rfl,A0⟩:=Q4R ho.1;have AH:(movV (Q5m Z x i) i v (2 ^ i.order.toNat)).length<=cap:=by
    rcases ho.1.2 with ⟨e,h0⟩|⟨g,c,Ah,e,_,_,hn,_⟩
    ·rw [h0];exact J3O _
    ·cases e;exact hn
   refine⟨ho.2,.inr ⟨p,a0,cap,_,hp,hk,ha,hf,rfl,rfl,AH,?_⟩⟩;have DQ:Q2h i.base i.order=true/\Q2h v.base v.order=true/\1<=i.r/\i.r<=15/\0<=i.off/\i.off<256:=by
    unfold Q4j Q8k at ha;simp only [J2g,decide_eq_true_eq] at ha;exact⟨ha.1.1,ha.2.1,ha.1.2⟩
   obtain⟨q1,q2,q3,q4,q5⟩:=Q2K DQ.1;obtain⟨r1,r2,r3,r4,r5⟩:=Q2K DQ.2.1;refine⟨fun j hj=>?_,fun ad h0 Nu EI=>?_⟩
   ·have Pd:(movV (Q5m Z x i) i v (2 ^ i.order.toNat))[j]?=some ((movV (Q5m Z x i) i v (2 ^ i.order.toNat))[j]):=J4d hj;have KM:(movV (Q5m Z x i) i v (2 ^ i.order.toNat)).getD j noMv=(movV (Q5m Z x i) i v (2 ^ i.order.toNat))[j]:=by rw [J6p,Pd];rfl
    have Ay:(movV (Q5m Z x i) i v (2 ^ i.order.toNat))[j]∈movV (Q5m Z x i) i v (2 ^ i.order.toNat):=J5i hj;obtain⟨g,hg,_,Ab,_⟩:=A0 (j*4) _ (Q3M _ j 0 _ _ Pd rfl);refine⟨g,0,hg,Ab,fun t u hu=>?_,?_⟩
    ·have hu:((movV (Q5m Z x i) i v (2 ^ i.order.toNat))[j]).cells[t]?=some u:=by rw [<- KM];exact hu
     obtain⟨g',Fe,_,_,hc⟩:=A0 (j*4+t) u (Q3M _ j t _ _ Pd hu);rw [hg] at Fe;cases Fe;rw [J4q];exact hc
    ·show Mv.Wf ((movV (Q5m Z x i) i v (2 ^ i.order.toNat)).getD j noMv);rw [KM];unfold movV at Ay;obtain⟨k,Bz,e⟩:=J1R.1 Ay;have A3:=J2b.1 (J2f.1 Bz).1;unfold movV;rw [<- e];unfold itMv;exact⟨⟨by dsimp only;omega,by dsimp only;omega⟩,⟨by dsimp only;omega,by dsimp only;omega⟩,⟨by dsimp only;omega,by dsimp only;omega⟩⟩
   ·subst Nu;have hL:(movV (Q5m Z x i) i v (2 ^ i.order.toNat)).length≠0:=h0;have Fq:0<(movV (Q5m Z x i) i v (2 ^ i.order.toNat)).length:=by omega
    obtain⟨g,hg,Jv,_⟩:=A0 (0*4) _ (Q3M _ 0 0 _ _ (J4d Fq) rfl);cases hg;exact absurd (hs.lt EI) (by dsimp only;omega)
theorem Z6P (f:Nat->Bool) (i:It) (v:Wi) (h:Q4j i v=true):(movV f i v (2 ^ i.order.toNat)).length<=128:=by
 unfold Q4j Q8k at h;simp only [J2g,decide_eq_true_eq] at h;obtain⟨_,_,_,_,q5⟩:=Q2K h.1.1;exact J1M (Z2f _ _ _ _) q5
theorem Z3R (H:HL) (w:World):AsideM H 0 (fun _=>noMv) none w:=⟨fun j hj=>by omega,fun a h _=>absurd rfl h⟩
theorem Z3S {w:World} {Z:SP} {fr:List Nat} {N K:Nat} {M:Int} (hs:Sep w Z.hl) (ok:Z.Ok fr N K M) (hM:M+300<1099511627776) {x y:Nat} (hx:x<4294967296) (hy:y<4294967296) (i:It) (v:Wi) (hi:i.Wf) (hv:v.Wf) :
  Calls prog 24 #[.pointer (some ⟨Z.s,0,none⟩),.int .u32 x,.agg #[.int .i64 i.base,.int .i64 i.order,.int .i64 i.r,.int .i64 i.off,.bool i.g],.agg #[.int .i64 v.base,.int .i64 v.order]] w fun r w1=>∃(a:Option Addr) (n cap:Nat) (er:Int),r=.returned (.tuple #[.slice a n cap,.int .i64 er])/\Below w.heap.size w w1 /\
   Calls prog 19 #[.pointer (some ⟨Z.s,0,none⟩),.int .u32 x,.int .u32 y,.slice a n cap] w1 fun r w'=>(∃er:Int,r=.returned (.int .i64 er))/\GoesZ Z N K (M+256) w w':=by
 refine (Z3Q hs ok hx i v hi hv).mono ?_;rintro r w1 ⟨hb,⟨er,_,rfl,_⟩|⟨p,a,cap,L,_,_,ha,_,hL,rfl,AH,hm⟩⟩
 ·refine⟨none,0,0,er,rfl,hb,?_⟩;refine (Q3t (hs.grown hb).sep ok (by omega) hx hy (by omega) (J1L 0) (Z3R _ _)).mono ?_;rintro r w' ⟨er,rfl,hr⟩;exact⟨⟨er,rfl⟩,GoesZ.at hs hb ((hr.goes ok).mono (J1L _) (J1L _) (by omega))⟩
 ·have hl:L.length<=128:=by rw [hL];exact Z6P _ _ _ ha
  refine⟨a,L.length,cap,0,rfl,hb,?_⟩;refine (Q3t (hs.grown hb).sep ok (by omega) hx hy (by omega) AH hm).mono ?_;rintro r w' ⟨er,rfl,hr⟩;exact⟨⟨er,rfl⟩,GoesZ.at hs hb ((hr.goes ok).mono (J1L _) (J1L _) (by omega))⟩
theorem Z3T {w:World} {Z:SP} {fr:List Nat} {N K:Nat} {M:Int} (hs:Sep w Z.hl) (ok:Z.Ok fr N K M) (hN:N+1<1048576) (hK:K<1048575) (hM:M+300<1099511627776) (x:A17) (hx:x.Wf) (hll:x.ll<=20) (BY:AsideM Z.hl x.ll x.L x.la w) :
  Calls prog 92 #[.pointer (some ⟨Z.s,0,none⟩),.agg #[.int .i64 x.kind,.int .i64 x.n,.int .i64 x.k,.int .i64 x.m,.int .i64 x.t,.int .i64 x.u,.int .i64 x.s,.int .i64 x.r,.bool x.self,.slice x.la x.ll x.lc,.int .i64 x.i.base,.int .i64 x.i.order,.int .i64 x.i.r,.int .i64 x.i.off,.bool x.i.g,.int .i64 x.w.base,.int .i64 x.w.order]] w fun r w'=>r=.returned (.tuple #[])/\GoesZ Z (N+1) (K+1) (M+256) w w':=by
 have Ba:=ok.core.inv.lok;have Hr:Hid (∀W,Below w.heap.size w W->∀k n:Int,I64 n->Calls prog 31 #[.pointer (some ⟨Z.s,0,none⟩),.int .i64 k,.int .i64 n] W (Told W (.int .u32 ((nthV Z.S.l k n:Nat):Int)))):=fun W hb k n hn=>Z6M (hs.grown hb).sep ok k n hn
 have BC:Hid (∀W,Below w.heap.size w W->Calls prog 29 #[.pointer (some ⟨Z.s,0,none⟩)] W fun r w'=>r=.returned (.pointer (some ⟨Z.S.c,0,none⟩))/\W=w'):=fun W hb=>Q5t (hs.grown hb).sep
 have E7:Hid (∀k n,nthV Z.S.l k n<4294967296):=fun k n=>Z6L Ba k n
 have H0:Hid (∀W,Below w.heap.size w W->∀y:Nat,y<4294967296->∀k lim:Int,Calls prog 16 #[.pointer (some ⟨Z.S.c,0,none⟩),.int .u32 y,.int .i64 k,.int .i64 lim] W fun r w'=>(∃(a:Nat) (er:Int),r=two a er)/\(∀b,w.heap.size<=b->b<W.heap.size->w'.heap[b]?=W.heap[b]?)/\GoesZ Z (N+1) (K+1) (M+256) w w'):=fun W hb y hy k lim =>
  (Q6e (SP.sS (hs.grown hb).sep) ok.core hN hy k lim).mono fun r w' hr=>by
   obtain⟨h1,h2⟩:=hr.goesZ (hs.grown hb).sep ok;refine⟨h1,?_,GoesZ.at hs hb (h2.mono (J1L _) (by omega) (by omega))⟩;obtain⟨Z',fr',_,_,c⟩:=h2;exact c.keep hs (J1L _)
 have H1:Hid (∀W,Below w.heap.size w W->∀y h:Nat,y<4294967296->h<4294967296->∀z rr:Int,Calls prog 18 #[.pointer (some ⟨Z.s,0,none⟩),.int .u32 y,.int .i64 z,.agg #[.int .u32 h,.int .i64 rr]] W fun r w'=>(∃er:Int,r=.returned (.int .i64 er))/\GoesZ Z (N+1) (K+1) (M+256) w w'):=fun W hb y h hy hh z rr =>
  (Q9z (hs.grown hb).sep ok (by omega) hy hh z rr).mono fun r w' ⟨er,e,hr⟩=>⟨⟨er,e⟩,GoesZ.at hs hb ((hr.goes (hs.grown hb).sep ok).mono (by omega) (by omega) (by omega))⟩
 have H2:Hid (∀W,Below w.heap.size w W->∀y h:Nat,y<4294967296->h<4294967296->Calls prog 19 #[.pointer (some ⟨Z.s,0,none⟩),.int .u32 y,.int .u32 h,.slice x.la x.ll x.lc] W fun r w'=>(∃er:Int,r=.returned (.int .i64 er))/\GoesZ Z (N+1) (K+1) (M+256) w w'):=fun W hb y h hy hh =>
  (Q3t (hs.grown hb).sep ok (by omega) hy hh (by omega) hx.len.1 (BY.step (hs.grown hb))).mono fun r w' ⟨er,e,hr⟩=>⟨⟨er,e⟩,GoesZ.at hs hb ((hr.goes ok).mono (by omega) (by omega) (by omega))⟩
 have H3:Hid (∀W,Below w.heap.size w W->∀y h:Nat,y<4294967296->h<4294967296->Calls prog 24 #[.pointer (some ⟨Z.s,0,none⟩),.int .u32 y,.agg #[.int .i64 x.i.base,.int .i64 x.i.order,.int .i64 x.i.r,.int .i64 x.i.off,.bool x.i.g],.agg #[.int .i64 x.w.base,.int .i64 x.w.order]] W fun r w1=>∃(a:Option Addr) (n cap:Nat) (er:Int),r=.returned (.tuple #[.slice a n cap,.int .i64 er]) /\
   Calls prog 19 #[.pointer (some ⟨Z.s,0,none⟩),.int .u32 y,.int .u32 h,.slice a n cap] w1 fun r w'=>(∃er:Int,r=.returned (.int .i64 er))/\GoesZ Z (N+1) (K+1) (M+256) w w'):=fun W hb y h hy hh =>
  (Z3S (hs.grown hb).sep ok hM hy hh x.i x.w hx.i hx.w).mono fun r w1 ⟨a,n,cap,er,e,_,hk⟩=>⟨a,n,cap,er,e,hk.mono fun r w' ⟨h1,h2⟩=>⟨h1,GoesZ.at hs hb (h2.mono (by omega) (by omega) (by omega))⟩⟩
 have H4:Hid (∀W,Below w.heap.size w W->∀y:Nat,y<4294967296->∀(z m:Int) (b:Bool),Calls prog 20 #[.pointer (some ⟨Z.s,0,none⟩),.int .u32 y,.int .i64 z,.int .i64 m,.bool b] W fun r w'=>(∃a b:Value,r=.returned (.tuple #[a,b]))/\GoesZ Z (N+1) (K+1) (M+256) w w'):=fun W hb y hy z m b =>
  (Q2W (hs.grown hb).sep ok hy z m b).mono fun r w' hr=>⟨(hr.goes (hs.grown hb).sep ok).1,GoesZ.at hs hb ((hr.goes (hs.grown hb).sep ok).2.mono (by omega) (by omega) (by omega))⟩
 have H5:Hid (∀W,Below w.heap.size w W->∀h:Nat,Calls prog 39 #[.pointer (some ⟨Z.s,0,none⟩),.int .u32 h] W fun r w'=>(∃n:Int,r=.returned (.int .i64 n))/\GoesZ Z (N+1) (K+1) (M+256) w w'):=fun W hb h =>
  (Q7s (hs.grown hb).sep ok h).mono fun r w' ⟨e,Z',a,_,b,c⟩=>⟨⟨_,e⟩,GoesZ.at hs hb ((GoesZ.same a b c).mono (by omega) (by omega) (by omega))⟩
 have H6:Hid (∀W,Below w.heap.size w W->∀y:Nat,y<4294967296->Calls prog 40 #[.pointer (some ⟨Z.s,0,none⟩),.int .u32 y] W fun r w'=>(∃n:Int,r=.returned (.int .i64 n))/\GoesZ Z (N+1) (K+1) (M+256) w w'):=fun W hb y hy =>
  (Q9s (hs.grown hb).sep ok hy).mono fun r w' ⟨e,Z',a,_,b,c⟩=>⟨⟨_,e⟩,GoesZ.at hs hb ((GoesZ.same a b c).mono (by omega) (by omega) (by omega))⟩
 have H7:Hid (∀W,Below w.heap.size w W->∀y:Nat,y<4294967296->Calls prog 35 #[.pointer (some ⟨Z.s,0,none⟩),.int .u32 y] W fun r w'=>(∃a b:Value,r=.returned (.tuple #[a,b]))/\GoesZ Z (N+1) (K+1) (M+256) w w'):=fun W hb y hy =>
  (Q9w (hs.grown hb).sep ok (by omega) hy).mono fun r w' hr=>⟨(hr.goes (hs.grown hb).sep ok).1,GoesZ.at hs hb ((hr.goes (hs.grown hb).sep ok).2.mono (by omega) (by omega) (by omega))⟩
 have H8:Hid (∀W,Below w.heap.size w W->Calls prog 56 #[.pointer (some ⟨Z.S.c,0,none⟩)] W fun r w'=>(∃a:Value,r=.returned a)/\GoesZ Z (N+1) (K+1) (M+256) w w'):=fun W hb =>
  (Z5R (SP.sS (hs.grown hb).sep) ok.core hK).mono fun r w' hr=>⟨(hr.goesZ (hs.grown hb).sep ok).1,GoesZ.at hs hb ((hr.goesZ (hs.grown hb).sep ok).2.mono (by omega) (by omega) (by omega))⟩
 have H9:Hid (∀W,Below w.heap.size w W->∀y h:Nat,y<4294967296->h<4294967296->∀z k lim:Int,Calls prog 38 #[.pointer (some ⟨Z.s,0,none⟩),.int .u32 y,.int .i64 z,.int .u32 h,.int .i64 k,.int .i64 lim] W fun r w'=>(∃(a:Nat) (er:Int),r=two a er)/\GoesZ Z (N+1) (K+1) (M+256) w w'):=fun W hb y h hy hh z k lim =>
  (Z6K (hs.grown hb).sep ok hN (by omega) hy hh z k lim).mono fun r w' ⟨a,er,e,hr⟩=>⟨⟨a,er,e⟩,GoesZ.at hs hb ((hr.goes ok).mono (by omega) (by omega) (by omega))⟩
 have ES:Hid (∀W,Below w.heap.size w W->GoesZ Z (N+1) (K+1) (M+256) w W):=fun W hb=>(GoesZ.of hs ok hb).mono (by omega) (by omega) (by omega)
 obtain⟨hn,hk,hm,ht,hu,Fl,Lg,-,-,-⟩:=hx;obtain⟨kind,n,k,m,t,u,s,rr,self,la,ll,lc,L,i,v⟩:=x;obtain⟨ib,io,ir,iff,ig⟩:=i;obtain⟨vb,vo⟩:=v;dsimp only at *
 have HC:Hid (∀W,Below (w.alloc (.cells #[.int .i64 kind,.int .i64 n,.int .i64 k,.int .i64 m,.int .i64 t,.int .i64 u,.int .i64 s,.int .i64 rr,.bool self,.slice la ll lc,.int .i64 ib,.int .i64 io,.int .i64 ir,.int .i64 iff,.bool ig,.int .i64 vb,.int .i64 vo] 92)).heap.size (w.alloc (.cells #[.int .i64 kind,.int .i64 n,.int .i64 k,.int .i64 m,.int .i64 t,.int .i64 u,.int .i64 s,.int .i64 rr,.bool self,.slice la ll lc,.int .i64 ib,.int .i64 io,.int .i64 ir,.int .i64 iff,.bool ig,.int .i64 vb,.int .i64 vo] 92)) W->Below w.heap.size w W/\Cells W w.heap.size 92 [.int .i64 kind,.int .i64 n,.int .i64 k,.int .i64 m,.int .i64 t,.int .i64 u,.int .i64 s,.int .i64 rr,.bool self,.slice la ll lc,.int .i64 ib,.int .i64 io,.int .i64 ir,.int .i64 iff,.bool ig,.int .i64 vb,.int .i64 vo]):=fun W hb =>
  ⟨Q0e hb,(Cells.new w 92 [.int .i64 kind,.int .i64 n,.int .i64 k,.int .i64 m,.int .i64 t,.int .i64 u,.int .i64 s,.int .i64 rr,.bool self,.slice la ll lc,.int .i64 ib,.int .i64 io,.int .i64 ir,.int .i64 iff,.bool ig,.int .i64 vb,.int .i64 vo]).same (hb.block _ (by simp))⟩
 generalize hW1:(w.alloc (.cells #[.int .i64 kind,.int .i64 n,.int .i64 k,.int .i64 m,.int .i64 t,.int .i64 u,.int .i64 s,.int .i64 rr,.bool self,.slice la ll lc,.int .i64 ib,.int .i64 io,.int .i64 ir,.int .i64 iff,.bool ig,.int .i64 vb,.int .i64 vo] 92))=W1 at *
 have HI:Hid (I64 t/\I64 u/\I64 n):=⟨ht,hu,hn⟩
 clear hs ok hN hK hM hll BY Ba ht hu hn hk hm Fl Lg;go_enter func92,ntmps92;go_upto_region 1 with fail
 try rw [hW1]
 clear hW1
 go_cut [4,5,6] from 9 to 20 (fun a b c wc=>a=.int .u32 ((nthV Z.S.l 2 t:Nat):Int)/\b=.int .u32 ((nthV Z.S.l 2 u:Nat):Int)/\c=.int .u32 ((nthV Z.S.l 0 n:Nat):Int)/\Below W1.heap.size W1 wc)
 case first =>
  clear H0 H1 H2 H3 H4 H5 H6 H7 H8 H9 ES BC E7;have CY:Hid (Below W1.heap.size W1 W1.drew):=(Below.refl _ _).drew;have Gc:Hid (Below W1.heap.size W1 W1):=Below.refl _ _;have DL:Hid (∀W,Below W1.heap.size W1 W->W.cell? ⟨w.heap.size,4,none⟩=some (.int .i64 t)/\W.cell? ⟨w.heap.size,5,none⟩=some (.int .i64 u)/\W.cell? ⟨w.heap.size,1,none⟩=some (.int .i64 n)):=fun W hb=>⟨(HC.out W hb).2.cell 4 _ rfl,(HC.out W hb).2.cell 5 _ rfl,(HC.out W hb).2.cell 1 _ rfl⟩
  have OJ:Hid (∀W,Below W1.heap.size W1 W->∀k n:Int,I64 n->Calls prog 31 #[.pointer (some ⟨Z.s,0,none⟩),.int .i64 k,.int .i64 n] W (Told W (.int .u32 ((nthV Z.S.l k n:Nat):Int)))):=fun W hb=>Hr.out W (HC.out W hb).1
  clear HC Hr
  go_region_held3 (fun W=>W.cell? ⟨w.heap.size,4,none⟩=some (.int .i64 t)/\W.cell? ⟨w.heap.size,5,none⟩=some (.int .i64 u)/\W.cell? ⟨w.heap.size,1,none⟩=some (.int .i64 n))
   (first|exact DL.out _ CY.out|exact DL.out _ Gc.out)
   (first|(go_at_call 31;refine (OJ.out _ CY.out _ _ (by first|exact HI.out.1|exact HI.out.2.1|exact HI.out.2.2)).mono ?_;rintro rv w' ⟨rfl,hb⟩;have CY:=Q0a (CY.out.trans (hb.mono CY.out.size));clear hb))
  all_goals (go_wp2_with fail;go_meet;exact⟨rfl,rfl,rfl,CY.out⟩)
 obtain⟨rfl,rfl,rfl,hb⟩:=hcut;obtain⟨DA,A8⟩:=HC.out wc hb;have hT:=E7.out 2 t;have hU:=E7.out 2 u;have hH:=E7.out 0 n;generalize nthV Z.S.l 2 t=T at *
 generalize nthV Z.S.l 2 u=U at *
 generalize nthV Z.S.l 0 n=H at *
 have c0:=A8.cell 0 _ rfl;have HB:=Q0a hb;have C0:=Q0a DA;clear hb DA;by_cases e0:kind=0
 ·subst e0;have hF:=E7.out 1 n;have Ta:Hid (∀V,Below wc.heap.size wc V->Calls prog 16 #[.pointer (some ⟨Z.S.c,0,none⟩),.int .u32 ((nthV Z.S.l 1 n:Nat):Int),.int .i64 k,.int .i64 m] V fun r w'=>(∃(a:Nat) (er:Int),r=two a er)/\(∀b,w.heap.size<=b->b<V.heap.size->w'.heap[b]?=V.heap[b]?)/\GoesZ Z (N+1) (K+1) (M+256) w w'):=fun V hb=>H0.out V (C0.out.trans (hb.mono C0.out.size)) _ hF k m
  have OJ:Hid (∀V,Below wc.heap.size wc V->Calls prog 31 #[.pointer (some ⟨Z.s,0,none⟩),.int .i64 1,.int .i64 n] V (Told V (.int .u32 ((nthV Z.S.l 1 n:Nat):Int)))):=fun V hb=>Hr.out V (C0.out.trans (hb.mono C0.out.size)) 1 n HI.out.2.2
  have Sm:Hid (∀V,Below wc.heap.size wc V->Calls prog 29 #[.pointer (some ⟨Z.s,0,none⟩)] V fun r w'=>r=.returned (.pointer (some ⟨Z.S.c,0,none⟩))/\V=w'):=fun V hb=>BC.out V (C0.out.trans (hb.mono C0.out.size))
  have DL:Hid (∀V,Below wc.heap.size wc V->V.cell? ⟨w.heap.size,1,none⟩=some (.int .i64 n)/\V.cell? ⟨w.heap.size,2,none⟩=some (.int .i64 k)/\V.cell? ⟨w.heap.size,3,none⟩=some (.int .i64 m)):=fun V hb=>by
   have h:=(HC.out V (HB.out.trans (hb.mono HB.out.size))).2;exact⟨h.cell 1 _ rfl,h.cell 2 _ rfl,h.cell 3 _ rfl⟩
  generalize nthV Z.S.l 1 n=FF at *
  have CY:Hid (Below wc.heap.size wc wc.drew):=(Below.refl _ _).drew;have Gc:Hid (Below wc.heap.size wc wc):=Below.refl _ _;have No:Hid (∀V,Below wc.heap.size wc V->w.heap.size<V.heap.size):=fun V hb=>J1N A8.lt hb.size
  clear H0 H1 H2 H3 H4 H5 H6 H7 H8 H9 ES BC E7 HC A8 Hr;go_upto_region 4 with fail
  go_region_held3 (fun W=>W.cell? ⟨w.heap.size,1,none⟩=some (.int .i64 n)/\W.cell? ⟨w.heap.size,2,none⟩=some (.int .i64 k)/\W.cell? ⟨w.heap.size,3,none⟩=some (.int .i64 m))
   (first|exact Sg.out|exact DL.out _ CY.out|exact DL.out _ Gc.out)
   (first|(go_at_call 29;refine (Sm.out _ CY.out).mono ?_;rintro rv w' ⟨rfl,rfl⟩)|(go_at_call 31;refine (OJ.out _ CY.out).mono ?_;rintro rv w' ⟨rfl,hb⟩;have CY:=Q0a (CY.out.trans (hb.mono CY.out.size));clear hb)|(go_at_call 16;refine (Ta.out _ CY.out).mono ?_;rintro rv w' ⟨⟨a,er,rfl⟩,Hg,hq⟩;unfold two;have FW:=Hg w.heap.size (J1L _) (No.out _ CY.out);have Gr:=DL.out _ CY.out;have Sg:=Q0a (And.intro ((World.cell?_of_block (w:=_) (a:=⟨w.heap.size,1,none⟩) FW).trans Gr.1) (And.intro ((World.cell?_of_block (w:=_) (a:=⟨w.heap.size,2,none⟩) FW).trans Gr.2.1) ((World.cell?_of_block (w:=_) (a:=⟨w.heap.size,3,none⟩) FW).trans Gr.2.2)));have HQ:=Q0a hq;clear hq Hg FW Gr))
  all_goals (go_wp2_with fail;first|exact⟨rfl,HQ.out⟩|(go_end0;exact⟨rfl,HQ.out⟩))
 by_cases e1:kind=1
 ·subst e1;have kk:=H1.out wc C0.out T H hT hH s rr;have c6:=A8.cell 6 _ rfl;have c7:=A8.cell 7 _ rfl;clear H0 H1 H2 H3 H4 H5 H6 H7 H8 H9 ES BC E7 HC A8;go_wp2_with fail;refine kk.mono ?_;rintro rv w' ⟨⟨er,rfl⟩,hq⟩;have HQ:=Q0a hq;clear hq kk;go_wp2_with fail
  first|exact⟨rfl,HQ.out⟩|(go_end0;exact⟨rfl,HQ.out⟩)
 by_cases e2:kind=2
 ·subst e2;have kk:=H2.out wc C0.out T U hT hU;have c9:=A8.cell 9 _ rfl;clear H0 H1 H2 H3 H4 H5 H6 H7 H8 H9 ES BC E7 HC A8;go_wp2_with fail;refine kk.mono ?_;rintro rv w' ⟨⟨er,rfl⟩,hq⟩;have HQ:=Q0a hq;clear hq kk;go_wp2_with fail
  first|exact⟨rfl,HQ.out⟩|(go_end0;exact⟨rfl,HQ.out⟩)
 by_cases e3:kind=3
 ·subst e3;have kk:=H3.out wc C0.out T U hT hU;have Q5:=A8.cell 10 _ rfl;have Q9:=A8.cell 11 _ rfl;have Rn:=A8.cell 12 _ rfl;have Qp:=A8.cell 13 _ rfl;have RT:=A8.cell 14 _ rfl;have KN:=A8.cell 15 _ rfl;have Rp:=A8.cell 16 _ rfl;clear H0 H1 H2 H3 H4 H5 H6 H7 H8 H9 ES BC E7 HC A8;go_wp2_with fail;refine kk.mono ?_;rintro rv w2 ⟨a,nn,cap,er,rfl,k2⟩;clear kk;go_wp2_with fail;refine k2.mono ?_;rintro rv w' ⟨⟨er,rfl⟩,hq⟩;have HQ:=Q0a hq;clear hq k2;go_wp2_with fail
  first|exact⟨rfl,HQ.out⟩|(go_end0;exact⟨rfl,HQ.out⟩)
 by_cases e4:kind=4
 ·subst e4;have kk:=H4.out wc C0.out T hT s rr self;have c6:=A8.cell 6 _ rfl;have c7:=A8.cell 7 _ rfl;have c8:=A8.cell 8 _ rfl;clear H0 H1 H2 H3 H4 H5 H6 H7 H8 H9 ES BC E7 HC A8;go_wp2_with fail;refine kk.mono ?_;rintro rv w' ⟨⟨a,b,rfl⟩,hq⟩;have HQ:=Q0a hq;clear hq kk;go_wp2_with fail
  first|exact⟨rfl,HQ.out⟩|(go_end0;exact⟨rfl,HQ.out⟩)
 by_cases e5:kind=5
 ·subst e5;have kk:=H5.out wc C0.out H;clear H0 H1 H2 H3 H4 H5 H6 H7 H8 H9 ES BC E7 HC A8;go_wp2_with fail;refine kk.mono ?_;rintro rv w' ⟨⟨a,rfl⟩,hq⟩;have HQ:=Q0a hq;clear hq kk;go_wp2_with fail
  first|exact⟨rfl,HQ.out⟩|(go_end0;exact⟨rfl,HQ.out⟩)
 by_cases e6:kind=6
 ·subst e6;have kk:=H6.out wc C0.out T hT;clear H0 H1 H2 H3 H4 H5 H6 H7 H8 H9 ES BC E7 HC A8;go_wp2_with fail;refine kk.mono ?_;rintro rv w' ⟨⟨a,rfl⟩,hq⟩;have HQ:=Q0a hq;clear hq kk;go_wp2_with fail
  first|exact⟨rfl,HQ.out⟩|(go_end0;exact⟨rfl,HQ.out⟩)
 by_cases e7:kind=7
 ·subst e7;have kk:=H7.out wc C0.out H hH;clear H0 H1 H2 H3 H4 H5 H6 H7 H8 H9 ES BC E7 HC A8;go_wp2_with fail;refine kk.mono ?_;rintro rv w' ⟨⟨a,b,rfl⟩,hq⟩;have HQ:=Q0a hq;clear hq kk;go_wp2_with fail
  first|exact⟨rfl,HQ.out⟩|(go_end0;exact⟨rfl,HQ.out⟩)
 by_cases e8:kind=8
 ·subst e8;have ko:=BC.out wc C0.out;have kk:=H8.out wc C0.out;clear H0 H1 H2 H3 H4 H5 H6 H7 H8 H9 ES BC E7 HC A8;go_wp2_with fail;refine ko.mono ?_;rintro rv w2 ⟨rfl,rfl⟩;go_wp2_with fail;refine kk.mono ?_;rintro rv w' ⟨⟨a,rfl⟩,hq⟩;have HQ:=Q0a hq;clear hq kk ko;go_wp2_with fail
  first|exact⟨rfl,HQ.out⟩|(go_end0;exact⟨rfl,HQ.out⟩)
 by_cases e9:kind=9
 ·subst e9;have kk:=H9.out wc C0.out T H hT hH s k m;have c6:=A8.cell 6 _ rfl;have c2:=A8.cell 2 _ rfl;have c3:=A8.cell 3 _ rfl;clear H0 H1 H2 H3 H4 H5 H6 H7 H8 H9 ES BC E7 HC A8;go_wp2_with fail;refine kk.mono ?_;rintro rv w' ⟨⟨a,er,rfl⟩,hq⟩;have HQ:=Q0a hq;unfold two;clear hq kk;go_wp2_with fail
  first|exact⟨rfl,HQ.out⟩|(go_end0;exact⟨rfl,HQ.out⟩)
 have f0:(kind==0)=false:=by simpa using e0
 have f1:(kind==1)=false:=by simpa using e1
 have f2:(kind==2)=false:=by simpa using e2
 have f3:(kind==3)=false:=by simpa using e3
 have f4:(kind==4)=false:=by simpa using e4
 have f5:(kind==5)=false:=by simpa using e5
 have f6:(kind==6)=false:=by simpa using e6
 have f7:(kind==7)=false:=by simpa using e7
 have f8:(kind==8)=false:=by simpa using e8
 have f9:(kind==9)=false:=by simpa using e9
 have HQ:=Q0a (ES.out wc C0.out);clear H0 H1 H2 H3 H4 H5 H6 H7 H8 H9 ES BC E7 HC A8 e0 e1 e2 e3 e4 e5 e6 e7 e8 e9;go_wp2_with fail
 first|exact⟨rfl,HQ.out⟩|(go_end0;exact⟨rfl,HQ.out⟩)
def fewV (A:Nat->A17) (len:Nat):Bool:=decide (len<=60/\∀j,j<len->(A j).ll<=20)
theorem J0F (w:World) (a0:Option Addr) (len cap:Nat) (A:Nat->A17) (hA:IsA17 w a0 len A) :
  Calls prog 26 #[.slice a0 len cap] w fun r w'=>r=.returned (.bool (fewV A len))/\w=w':=by
 have ON:(0:Int)<=(len:Int):=by omega
 by_cases Rr:len<=60
 ·have hd:decide (60<(len:Int))=false:=by simp;omega
  have HA:=Q0a hA;have E8:(len:Int)<=60:=by omega
  obtain⟨v,hv⟩:∃v,v=fewV A len:=⟨_,rfl⟩
  have HV:=Q0a hv;rw [<- hv];clear hA hv;go_enter func26,ntmps26;go_wp2_with fail
  go_loopg [3] len (fun gk iv wr=>∃k:Nat,iv=.int .i64 k/\k+gk=len/\wr=w/\∀j,j<k->(A j).ll<=20)
  case atStart=>exact⟨0,rfl,by omega,rfl,fun j hj=>by omega⟩
  case round =>
   obtain⟨k,rfl,AL,rfl,hp⟩:=hrel;have HP:=Q0a hp;have BW:=Q0a AL;clear hp AL;by_cases Ab:k<len
   ·obtain⟨g,off,rfl,hg,AK,R8,_⟩:=HA.out k Ab;have c9:wr.cell? ⟨g,off+k*17+9,none⟩=some (.slice (A k).la (A k).ll (A k).lc):=AK 9 _ rfl;have Ac:=R8.len;unfold maxLen at Ac;have C4:(k:Int)<(len:Int):=by omega
    have Bx:(0:Int)<=(k:Int):=by omega
    clear AK R8;by_cases R5:(A k).ll<=20
    ·have Gg:decide (20<(((A k).ll:Nat):Int))=false:=by simp;omega
     have RZ:Hid (∀j,j<k+1->(A j).ll<=20):=fun j hj=>by
      by_cases e:j=k
      ·rw [e];exact R5
      ·exact HP.out j (by omega)
     go_wp2_with fail;go_roundg (len-(k+1))
     case measure=>have:=BW.out;omega
     case rel=>exact⟨k+1,by go_num,by have:=BW.out;omega,rfl,RZ.out⟩
    ·have Gg:decide (20<(((A k).ll:Nat):Int))=true:=by simp;omega
     have TE:v=false:=by
      rw [HV.out];unfold fewV;exact decide_eq_false fun h=>R5 (h.2 k Ab)
     subst TE;clear HV;go_wp2_with fail
     first|exact⟨rfl,rfl⟩|(go_ret;exact⟨rfl,rfl⟩)
   ·obtain rfl:k=len:=by have:=BW.out;omega
    have S0:v=true:=by
     rw [HV.out];unfold fewV;exact decide_eq_true ⟨Rr,HP.out⟩
    subst S0;clear HV;go_wp2_with fail
    first|exact⟨rfl,rfl⟩|(go_ret;exact⟨rfl,rfl⟩)
 ·have hv:fewV A len=false:=by
   unfold fewV;exact decide_eq_false fun h=>Rr h.1
  have hd:decide (60<(len:Int))=true:=by simp;omega
  rw [hv];clear hA;go_enter func26,ntmps26;go_wp2_with fail
  first|exact⟨rfl,rfl⟩|(go_ret;exact⟨rfl,rfl⟩)
structure BegZ (Z:SP):Prop where
 per:Z.S.period=2
 top:Z.S.P.d.top=6
 root:pget Z.S.l 1 0=some ⟨1,64,0,1,0,0⟩
theorem BegZ.gone {Z Z':SP} (b:BegZ Z) (g:GoneZ Z Z'):BegZ Z':=⟨g.per.trans b.per,g.same.top.trans b.top,g.root.trans b.root⟩
def AtB (s:Nat) (N K:Nat) (M:Int) (w0 wr:World):Prop:=∃(Z:SP) (fr:List Nat),Z.s=s/\Z.Ok fr N K M/\BegZ Z/\Step [] Z.hl w0 wr
theorem J0G {w w1:World} {S:CO} {limit:Int} (f:Q8S S 6 limit 2) (st:Step [] (S.hl++[]) w w1) :
  Calls prog 17 #[.pointer (some ⟨S.c,0,none⟩)] w1 fun r w'=>∃s,r=.returned (.pointer (some ⟨s,0,none⟩))/\AtB s 1 0 0 w w':=by
 have m:=Z1Z f;have st':Step [] S.hl w w1:=by rwa [J3S] at st
 refine (Z1P st'.sep (fun _=>TB.emp)).mono ?_;rintro r w' ⟨Z,rfl,hn,st2⟩;refine⟨Z.s,rfl,Z,[],rfl,hn.ok m.ok m.tpi (fun _ _=>TB.emp_nil),⟨by rw [hn.S];exact m.per,by rw [hn.S];exact m.top,by rw [hn.S,m.l];rfl⟩,st'.trans st2⟩
theorem Z8X {w wr:World} {s N K:Nat} {M:Int} (h:AtB s N K M w wr) (hN:N+1<1048576) (hK:K<1048575) (hM:M+300<1099511627776) (x:A17) (hx:x.Wf) (hll:x.ll<=20) (BY:IsMv w x.la x.ll x.L) :
  Calls prog 92 #[.pointer (some ⟨s,0,none⟩),.agg #[.int .i64 x.kind,.int .i64 x.n,.int .i64 x.k,.int .i64 x.m,.int .i64 x.t,.int .i64 x.u,.int .i64 x.s,.int .i64 x.r,.bool x.self,.slice x.la x.ll x.lc,.int .i64 x.i.base,.int .i64 x.i.order,.int .i64 x.i.r,.int .i64 x.i.off,.bool x.i.g,.int .i64 x.w.base,.int .i64 x.w.order]] wr fun r w'=>r=.returned (.tuple #[])/\AtB s (N+1) (K+1) (M+256) w w':=by
 obtain⟨Z,fr,rfl,ok,b,st⟩:=h;have OI:AsideM Z.hl x.ll x.L x.la wr:=⟨BY.below st.fresh,fun a h0 ha hk=>by
  obtain⟨g,off,hg,Ab,_⟩:=BY 0 (by omega);rw [ha] at hg;cases hg;rcases st.new _ hk with h|h
  ·cases h
  ·dsimp only at h;omega⟩
 refine (Z3T st.sep ok hN hK hM x hx hll OI).mono ?_;rintro r w' ⟨rfl,Z',fr',ok',g,st'⟩;exact⟨rfl,Z',fr',g.s,ok',b.gone g,st.trans st'⟩
theorem Z6Q {w:World} (D3:Env w) (limit:Int) (Dw:64<=limit) (Dr:limit<=65536) (a0:Option Addr) (len cap:Nat) (A:Nat->A17) (hl:len<=60) (hA:IsA17 w a0 len A) (hll:∀j,j<len->(A j).ll<=20) :
  Calls prog 27 #[.int .i64 limit,.slice a0 len cap] w fun r w'=>∃s,r=.returned (.pointer (some ⟨s,0,none⟩))/\AtB s 61 60 15360 w w':=by
 have Ki:((2 ^ (6+10):Nat):Int)=65536:=by decide
 have kn:=Z1H (Sep.nil D3) 6 (by omega) (by omega) limit Dw (by rw [Ki];exact Dr) 2 (by omega) (by omega);rw [Ki] at kn;have HA:=Q0a hA;have GQ:=Q0a hll;have ON:(0:Int)<=(len:Int):=by omega
 have E8:(len:Int)<=60:=by omega
 clear D3 hA hll Ki;go_enter func27,ntmps27;go_wp2_with fail;refine kn.mono ?_;rintro r w1 ⟨S,rfl,hf,st⟩;have ks:=J0G hf st;clear kn hf st;go_wp2_with fail;refine ks.mono ?_;rintro r w2 ⟨s,rfl,AB⟩;have IT:=Q0a AB;clear AB ks;go_wp2_with fail
 go_loopg [6] len (fun gk iv wr=>∃k:Nat,iv=.int .i64 k/\k+gk=len/\AtB s (1+k) k (256*(k:Int)) w wr)
 case atStart=>exact⟨0,rfl,by omega,IT.out⟩
 case round =>
  obtain⟨k,rfl,AL,AB⟩:=hrel;have BW:=Q0a AL;clear AL;by_cases Ab:k<len
  ·have kp:=Z8X AB (by omega) (by omega) (by omega) (A k) (HA.out k Ab).choose_spec.choose_spec.2.2.2.1 (GQ.out k Ab) (HA.out k Ab).choose_spec.choose_spec.2.2.2.2;have hb:Below w.heap.size w wr:=by
    obtain⟨Z,fr,_,_,_,st⟩:=AB;exact st.fresh
   obtain⟨g,off,rfl,hg,AK,_,_⟩:=(HA.out.below hb) k Ab;have c0:wr.cell? ⟨g,off+k*17,none⟩=some (.int .i64 (A k).kind):=AK 0 _ rfl;have c1:wr.cell? ⟨g,off+k*17+1,none⟩=some (.int .i64 (A k).n):=AK 1 _ rfl;have c2:wr.cell? ⟨g,off+k*17+2,none⟩=some (.int .i64 (A k).k):=AK 2 _ rfl;have c3:wr.cell? ⟨g,off+k*17+3,none⟩=some (.int .i64 (A k).m):=AK 3 _ rfl;have c4:wr.cell? ⟨g,off+k*17+4,none⟩=some (.int .i64 (A k).t):=AK 4 _ rfl;have c5:wr.cell? ⟨g,off+k*17+5,none⟩=some (.int .i64 (A k).u):=AK 5 _ rfl;have c6:wr.cell? ⟨g,off+k*17+6,none⟩=some (.int .i64 (A k).s):=AK 6 _ rfl;have c7:wr.cell? ⟨g,off+k*17+7,none⟩=some (.int .i64 (A k).r):=AK 7 _ rfl
   have c8:wr.cell? ⟨g,off+k*17+8,none⟩=some (.bool (A k).self):=AK 8 _ rfl;have c9:wr.cell? ⟨g,off+k*17+9,none⟩=some (.slice (A k).la (A k).ll (A k).lc):=AK 9 _ rfl;have Q5:wr.cell? ⟨g,off+k*17+10,none⟩=some (.int .i64 (A k).i.base):=AK 10 _ rfl;have Q9:wr.cell? ⟨g,off+k*17+11,none⟩=some (.int .i64 (A k).i.order):=AK 11 _ rfl;have Rn:wr.cell? ⟨g,off+k*17+12,none⟩=some (.int .i64 (A k).i.r):=AK 12 _ rfl;have Qp:wr.cell? ⟨g,off+k*17+13,none⟩=some (.int .i64 (A k).i.off):=AK 13 _ rfl;have RT:wr.cell? ⟨g,off+k*17+14,none⟩=some (.bool (A k).i.g):=AK 14 _ rfl;have KN:wr.cell? ⟨g,off+k*17+15,none⟩=some (.int .i64 (A k).w.base):=AK 15 _ rfl
   have Rp:wr.cell? ⟨g,off+k*17+16,none⟩=some (.int .i64 (A k).w.order):=AK 16 _ rfl;have C4:(k:Int)<(len:Int):=by omega
   have Bx:(0:Int)<=(k:Int):=by omega
   clear AK AB hb HA GQ;go_wp2_with fail;refine kp.mono ?_;rintro r w3 ⟨rfl,AB⟩;have IT:=Q0a AB;clear AB kp c0 c1 c2 c3 c4 c5 c6 c7 c8 c9 Q5 Q9 Rn Qp RT KN Rp;go_wp2_with fail;go_roundg (len-(k+1))
   case measure=>have:=BW.out;omega
   case rel=>exact⟨k+1,by go_num,by have:=BW.out;omega,by
    obtain⟨Z,fr,e,ok,b,st⟩:=IT.out;exact⟨Z,fr,e,ok.mono (by omega) (by omega) (by omega),b,st⟩⟩
  ·obtain rfl:k=len:=by have:=BW.out;omega
   have HR:Hid (AtB s 61 60 15360 w wr):=by
    obtain⟨Z,fr,e,ok,b,st⟩:=AB;exact⟨Z,fr,e,ok.mono (by omega) (by omega) (by omega),b,st⟩
   clear AB;go_wp2_with fail
   first|exact⟨s,rfl,HR.out⟩|(go_ret;exact⟨s,rfl,HR.out⟩)
theorem Z6R {m:Nat}:(64:Int)+(m:Int).tmod 65473=((64+m%65473:Nat):Int)/\(64:Int)+(m:Int)%65473=((64+m%65473:Nat):Int)/\64<=64+m%65473/\64+m%65473<=65536:=by
 refine⟨?_,by omega,by omega,by omega⟩;rw [J3D (by omega)];omega
section
variable {Z:SP} {fr:List Nat} {N K:Nat} {M:Int}
theorem Z6S {x s:Nat} {e:Ent} (h:Q0f Z.S.l Z.tb x s=some e):Q5i Z.S.l Z.tb x (s:Int)=.tuple #[.agg #[.int .u32 (e.h:Int),.int .i64 (e.r:Int)],.int .i64 0]:=by
 obtain⟨p,hp,hk,hs,_⟩:=Q1s h;unfold Q5i;rw [hp];simp only;rw [if_pos hk,if_pos (by omega),J2R,h]
end
end Go.Proofs.YtlakjlmaboioiaaGreatDoor

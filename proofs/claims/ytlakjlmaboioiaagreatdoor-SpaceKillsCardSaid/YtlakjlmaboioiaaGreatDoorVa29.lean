/- What the laws of spaces share is proved. No condition. Part of a proof. -/
import Derived.Test.YtlakjlmaboioiaaGreatDoorVa28
set_option maxHeartbeats 8000000
set_option maxRecDepth 100000
set_option linter.unusedVariables false
namespace Go.Proofs.YtlakjlmaboioiaaGreatDoor
open Go.RowKit Go.Proofs.Tryz
def Q5r (Z:SP) (x:Nat) (i:It) (k:Nat):Bool:=(Q0f Z.S.l Z.tb x (i.base.toNat+k)).isSome
def MvsE (Z:SP) (x:Nat) (i:It) (v:Wi) (er:Int):Prop:=(pget Z.S.l 1 x=none/\er=8)∨∃p,pget Z.S.l 1 x=some p/\((p.kind≠2/\er=10)∨(p.kind=2/\((Q4q i v=false/\er=1)∨(Q4q i v=true/\¬(i.off+((2 ^ i.order.toNat:Nat):Int)<=((2 ^ v.order.toNat:Nat):Int))/\er=2))))
def noMv:Mv:=⟨0,0,0,false⟩
def MvsR (Z:SP) (x:Nat) (i:It) (v:Wi) (w:World) (r:Ending) (w':World):Prop:=Below w.heap.size w w' /\
 ((∃er,er≠0/\r=.returned (.tuple #[.slice none 0 0,.int .i64 er])/\MvsE Z x i v er) ∨
  ∃(p:Pl) (a:Option Addr) (cap:Nat) (L:List Mv),pget Z.S.l 1 x=some p/\p.kind=2/\Q4q i v=true/\i.off+((2 ^ i.order.toNat:Nat):Int)<=((2 ^ v.order.toNat:Nat):Int)/\L=movV (Q5r Z x i) i v (2 ^ i.order.toNat)/\r=.returned (.tuple #[.slice a L.length cap,.int .i64 0])/\L.length<=cap/\AsideM Z.hl L.length (fun j=>L.getD j noMv) a w')
theorem Q6W {w:World} {Z:SP} {fr:List Nat} {N K:Nat} (hs:Sep w Z.hl) (ok:Z.S.Ok fr N K) {x:Nat} (hx:x<4294967296) (i:It) (v:Wi) (er:Int) (he:er≠0) (hw:(pget Z.S.l 1 x=none/\er=8)∨∃p,pget Z.S.l 1 x=some p/\p.kind≠2/\er=10) :
  Calls prog 24 #[.pointer (some ⟨Z.s,0,none⟩),.int .u32 x,.agg #[.int .i64 i.base,.int .i64 i.order,.int .i64 i.r,.int .i64 i.off,.bool i.g],.agg #[.int .i64 v.base,.int .i64 v.order]] w fun r w'=>r=.returned (.tuple #[.slice none 0 0,.int .i64 er])/\Below w.heap.size w w':=by
 have Bz:Below w.heap.size w ((w.alloc (.cells #[.int .i64 i.base,.int .i64 i.order,.int .i64 i.r,.int .i64 i.off,.bool i.g] 54)).alloc (.cells #[.int .i64 v.base,.int .i64 v.order] 56)):=((Below.refl w.heap.size w).alloc (J2h _) _).alloc (by simp) _;have ks:=Q0J (hs.grown Bz).sep ok hx er hw;have Gt:(er==0)=false:=by simpa using he
 have HR:Hid (∀w' o,Below ((w.alloc (.cells #[.int .i64 i.base,.int .i64 i.order,.int .i64 i.r,.int .i64 i.off,.bool i.g] 54)).alloc (.cells #[.int .i64 v.base,.int .i64 v.order] 56)).heap.size ((w.alloc (.cells #[.int .i64 i.base,.int .i64 i.order,.int .i64 i.r,.int .i64 i.off,.bool i.g] 54)).alloc (.cells #[.int .i64 v.base,.int .i64 v.order] 56)) w'->Below w.heap.size w (w'.alloc o)):=fun w' o hb=>Q0e (Q0e (hb.alloc hb.size o))
 obtain⟨ib,io,ir,iff,ig⟩:=i;obtain⟨vb,vo⟩:=v;dsimp only at *
 clear hs ok hx hw Bz;go_enter func24,ntmps24;go_wp2_with fail;refine ks.mono ?_;rintro r w1 ⟨rfl,hb⟩;have HQ:Hid (∀o,Below w.heap.size w (w1.alloc o)):=fun o=>HR.out w1 o hb
 clear hb HR ks;go_wp2_with fail
 first|exact⟨rfl,HQ.out _⟩|(go_ret2;exact⟨rfl,HQ.out _⟩)
theorem Z6X {n:Nat} (h:n<=128):wrap64 (n:Int)=(n:Int):=Go.IntWalk.wrap64_in _ (by omega)
theorem Z9u {n:Nat} {x:Int} (h:n<=128) (h0:0<=x) (h1:x<256):wrap64 (x+(n:Int))=x+(n:Int):=Go.IntWalk.wrap64_in _ (by omega)
def Box2 (b:Nat) (i:It) (v:Wi) (W:World):Prop:=(W.cell? ⟨b,0,none⟩=some (.int .i64 i.base)/\W.cell? ⟨b,1,none⟩=some (.int .i64 i.order)/\W.cell? ⟨b,2,none⟩=some (.int .i64 i.r)/\W.cell? ⟨b,3,none⟩=some (.int .i64 i.off)/\W.cell? ⟨b,4,none⟩=some (.bool i.g))/\W.cell? ⟨b+1,0,none⟩=some (.int .i64 v.base)/\W.cell? ⟨b+1,1,none⟩=some (.int .i64 v.order)
theorem box2 {w:World} (i:It) (v:Wi) {W:World} (hb:Below ((w.alloc (.cells #[.int .i64 i.base,.int .i64 i.order,.int .i64 i.r,.int .i64 i.off,.bool i.g] 54)).alloc (.cells #[.int .i64 v.base,.int .i64 v.order] 56)).heap.size ((w.alloc (.cells #[.int .i64 i.base,.int .i64 i.order,.int .i64 i.r,.int .i64 i.off,.bool i.g] 54)).alloc (.cells #[.int .i64 v.base,.int .i64 v.order] 56)) W):Box2 w.heap.size i v W:=by
 have h1:=((Cells.new w 54 i.cells).alloc (.cells #[.int .i64 v.base,.int .i64 v.order] 56)).same (hb.block _ (by simp;omega));have h2:=(Cells.new (w.alloc (.cells #[.int .i64 i.base,.int .i64 i.order,.int .i64 i.r,.int .i64 i.off,.bool i.g] 54)) 56 v.cells).same (hb.block _ (by simp));have e1:(w.alloc (.cells #[.int .i64 i.base,.int .i64 i.order,.int .i64 i.r,.int .i64 i.off,.bool i.g] 54)).heap.size=w.heap.size+1:=by simp
 rw [e1] at h2;exact⟨⟨h1.cell 0 _ rfl,h1.cell 1 _ rfl,h1.cell 2 _ rfl,h1.cell 3 _ rfl,h1.cell 4 _ rfl⟩,h2.cell 0 _ rfl,h2.cell 1 _ rfl⟩
theorem Z1l {w:World} {s x fac:Nat} {i:It} {v:Wi} {T:Nat->World->Prop} {f:Nat->Bool} {Q:Ending->World->Prop}
  (ks:Calls prog 73 #[.pointer (some ⟨s,0,none⟩),.int .u32 x] ((w.alloc (.cells #[.int .i64 i.base,.int .i64 i.order,.int .i64 i.r,.int .i64 i.off,.bool i.g] 54)).alloc (.cells #[.int .i64 v.base,.int .i64 v.order] 56)) fun r w'=>∃g:Nat,r=.returned (.tuple #[.agg #[.pointer (some ⟨g,0,none⟩),.int .u32 x,.int .i64 fac],.int .i64 0])/\Below ((w.alloc (.cells #[.int .i64 i.base,.int .i64 i.order,.int .i64 i.r,.int .i64 i.off,.bool i.g] 54)).alloc (.cells #[.int .i64 v.base,.int .i64 v.order] 56)).heap.size ((w.alloc (.cells #[.int .i64 i.base,.int .i64 i.order,.int .i64 i.r,.int .i64 i.off,.bool i.g] 54)).alloc (.cells #[.int .i64 v.base,.int .i64 v.order] 56)) w'/\T g w')
  (hT:∀g W W',T g W->Below W.heap.size W W'->T g W')
  (hC:∀(g:Nat) (W:World) (k:Nat),Below ((w.alloc (.cells #[.int .i64 i.base,.int .i64 i.order,.int .i64 i.r,.int .i64 i.off,.bool i.g] 54)).alloc (.cells #[.int .i64 v.base,.int .i64 v.order] 56)).heap.size ((w.alloc (.cells #[.int .i64 i.base,.int .i64 i.order,.int .i64 i.r,.int .i64 i.off,.bool i.g] 54)).alloc (.cells #[.int .i64 v.base,.int .i64 v.order] 56)) W->T g W->k<2 ^ i.order.toNat->Q4q i v=true->Calls prog 74 #[.agg #[.pointer (some ⟨g,0,none⟩),.int .u32 x,.int .i64 fac],.int .i64 (i.base+(k:Int))] W fun r w'=>∃a b:Int,r=.returned (.tuple #[.agg #[.int .u32 a,.int .i64 b],.bool (f k)])/\Below W.heap.size W w')
  (hE:∀(er:Int) (w':World),((Q4q i v=false/\er=1)∨(Q4q i v=true/\¬(i.off+((2 ^ i.order.toNat:Nat):Int)<=((2 ^ v.order.toNat:Nat):Int))/\er=2))->Below w.heap.size w w'->Q (.returned (.tuple #[.slice none 0 0,.int .i64 er])) w')
  (hR:Q4q i v=true->i.off+((2 ^ i.order.toNat:Nat):Int)<=((2 ^ v.order.toNat:Nat):Int)->∀(a:Value) (w':World),OutM w w' a (movV f i v (2 ^ i.order.toNat))->Q (.returned (.tuple #[a,.int .i64 0])) w') :
  Calls prog 24 #[.pointer (some ⟨s,0,none⟩),.int .u32 x,.agg #[.int .i64 i.base,.int .i64 i.order,.int .i64 i.r,.int .i64 i.off,.bool i.g],.agg #[.int .i64 v.base,.int .i64 v.order]] w Q:=by
 have HW:Hid (∀W,Below ((w.alloc (.cells #[.int .i64 i.base,.int .i64 i.order,.int .i64 i.r,.int .i64 i.off,.bool i.g] 54)).alloc (.cells #[.int .i64 v.base,.int .i64 v.order] 56)).heap.size ((w.alloc (.cells #[.int .i64 i.base,.int .i64 i.order,.int .i64 i.r,.int .i64 i.off,.bool i.g] 54)).alloc (.cells #[.int .i64 v.base,.int .i64 v.order] 56)) W->Below w.heap.size w W/\Box2 w.heap.size i v W):=fun W hb=>⟨Q0e (Q0e hb),box2 i v hb⟩
 have HC:=Q0a hC;have F9:=Q0a hT;have Lf:=Q0a hE;have L5:=Q0a hR;have I6:Hid (∀W,_):=fun W=>J1a W v
 have J9:Hid (∀W,_):=fun W=>Z9t W i
 have G5:Hid (∀W,_):=fun W=>Q2I W i.base
 have Il:Hid (∀W,_):=fun W=>Q2I W v.base
 have II:Hid (Q4q i v=(Q8B i&&(Q2i v.base v.order&&(decide (i.base<128)==decide (v.base<128))))):=rfl;have HP:Hid (Q4q i v=true->Q2i i.base i.order=true/\Q2i v.base v.order=true/\1<=i.r/\i.r<=15/\0<=i.off/\i.off<256):=fun h=>by
  unfold Q4q Q8B at h;simp only [J2C,decide_eq_true_eq] at h;exact⟨h.1.1,h.2.1,h.1.2⟩
 generalize hW0:((w.alloc (.cells #[.int .i64 i.base,.int .i64 i.order,.int .i64 i.r,.int .i64 i.off,.bool i.g] 54)).alloc (.cells #[.int .i64 v.base,.int .i64 v.order] 56))=W0 at *
 obtain⟨ib,io,ir,iff,ig⟩:=i;obtain⟨vb,vo⟩:=v;dsimp only at *
 clear hC hT hE hR;generalize Q4q ⟨ib,io,ir,iff,ig⟩ ⟨vb,vo⟩=ia at *
 go_enter func24,ntmps24;go_wp2_with fail;refine ks.mono ?_;rintro r w1 ⟨g,rfl,Av,Cz⟩;clear hW0 ks;have JT:=Av.alloc Av.size (.cells #[.pointer (some ⟨g,0,none⟩),.int .u32 x,.int .i64 fac] 155);have NI:=Cells.new w1 155 [.pointer (some ⟨g,0,none⟩),.int .u32 x,.int .i64 fac];obtain⟨⟨c0,c1,c2,c3,c4⟩,v0,v1⟩:=(HW.out _ JT).2;go_wp2_with fail;refine (J9.out _).mono ?_;rintro r w2 ⟨xx,rfl,Af⟩;have HS:Hid (∀W,Below w2.heap.size w2 W->(Below w.heap.size w W/\Below W0.heap.size W0 W/\T g W)/\Box2 w.heap.size ⟨ib,io,ir,iff,ig⟩ ⟨vb,vo⟩ W/\W.cell? ⟨w1.heap.size,0,none⟩=some (.pointer (some ⟨g,0,none⟩))/\W.cell? ⟨w1.heap.size,1,none⟩=some (.int .u32 x)/\W.cell? ⟨w1.heap.size,2,none⟩=some (.int .i64 fac)):=fun W hb=>by
  have h2:=JT.trans (Af.mono JT.size);have h3:=h2.trans (hb.mono h2.size);have hc:=(NI.same (Af.block _ NI.lt)).same (hb.block _ (J2j NI.lt Af.size));exact⟨⟨(HW.out _ h3).1,h3,F9.out _ _ _ (F9.out _ _ _ (F9.out _ _ _ Cz ((Below.refl _ _).alloc (J2h _) _)) Af) hb⟩,(HW.out _ h3).2,hc.cell 0 _ rfl,hc.cell 1 _ rfl,hc.cell 2 _ rfl⟩
 generalize w1.heap.size=B at *
 clear JT NI Av Cz Af c0 c1 c2 c3 c4 v0 v1 HW F9 J9;obtain⟨-,⟨⟨c0,c1,c2,c3,c4⟩,v0,v1⟩,s0,s1,s2⟩:=HS.out _ (Below.refl _ _);obtain⟨-,⟨⟨d0,d1,d2,d3,d4⟩,e0,e1⟩,-,-,-⟩:=HS.out _ (Below.refl w2.heap.size w2).drew;go_upto_region 5 with fail
 go_cut [32] from 33 to 48 (fun bb wc=>bb=.bool (!ia)/\Below w2.heap.size w2 wc)
 case first =>
  clear HC HP Lf L5;generalize Q8B ⟨ib,io,ir,iff,ig⟩=cd at *
  generalize Q2i vb vo=av at *
  generalize decide (ib<128)=k1 at *
  generalize decide (vb<128)=k2 at *
  cases cd with
  | false =>
   have HE:Hid (∀n,Below w2.heap.size w2 (w2.drewN n)):=fun n=>Q1n (Below.refl w2.heap.size w2) n
   obtain rfl:ia=false:=by
    have:=II.out;rw [J6H] at this;exact this
   clear II HS
   go_quiet (first|(go_at_call 77;exact (G5.out _)))
   go_wp2_with fail;go_meet;exact⟨rfl,HE.out _⟩
  | true =>
   cases av with
   | false =>
    obtain rfl:ia=false:=by
     have:=II.out;rw [J6H,Bool.and_false] at this;exact this
    clear II
    first|go_region_with (first|(go_at_call 91;refine (I6.out _).mono ?_;rintro r w5 ⟨rfl,AH⟩;have EU:=Q0a ((Below.refl w2.heap.size w2).drew.trans (AH.mono (J2h _)));clear AH))|fail
    all_goals (go_wp2_with fail;go_meet;exact⟨rfl,EU.out⟩)
   | true =>
    by_cases hk:k1=k2
    ·subst hk;obtain rfl:ia=true:=by
      have:=II.out;rw [J3x,J3x,beq_self_eq_true] at this;exact this
     clear II
     go_region_held3 (fun W=>W.cell? ⟨w.heap.size,0,none⟩=some (.int .i64 ib)/\W.cell? ⟨w.heap.size+1,0,none⟩=some (.int .i64 vb)/\W.cell? ⟨w.heap.size+1,1,none⟩=some (.int .i64 vo)) (first|exact⟨c0,v0,v1⟩|exact⟨d0,e0,e1⟩|exact Iz)
     (first|(go_at_call 91;refine (I6.out _).mono ?_;rintro r w5 ⟨rfl,AH⟩;have Jc:=HS.out w5 ((Below.refl w2.heap.size w2).drew.trans (AH.mono (J2h _)));have Iz:=(⟨Jc.2.1.1.1,Jc.2.1.2.1,Jc.2.1.2.2⟩:_/\_/\_);have EU:=Q0a ((Below.refl w2.heap.size w2).drew.trans (AH.mono (J2h _)));clear Jc AH)|(go_at_call_of 77 ib;refine (G5.out _).mono ?_;rintro r w' ⟨rfl,rfl⟩)|(go_at_call_of 77 vb;refine (Il.out _).mono ?_;rintro r w' ⟨rfl,rfl⟩))
     all_goals (go_wp2_with fail;go_meet;exact⟨rfl,EU.out⟩)
    ·obtain rfl:ia=false:=by
      have:=II.out;rw [J3x,J3x,beq_false_of_ne hk] at this;exact this
     clear II;have BC:(k1 != k2)=true:=bne_iff_ne.2 hk
     go_region_held3 (fun W=>W.cell? ⟨w.heap.size,0,none⟩=some (.int .i64 ib)/\W.cell? ⟨w.heap.size+1,0,none⟩=some (.int .i64 vb)/\W.cell? ⟨w.heap.size+1,1,none⟩=some (.int .i64 vo)) (first|exact⟨c0,v0,v1⟩|exact⟨d0,e0,e1⟩|exact Iz)
     (first|(go_at_call 91;refine (I6.out _).mono ?_;rintro r w5 ⟨rfl,AH⟩;have Jc:=HS.out w5 ((Below.refl w2.heap.size w2).drew.trans (AH.mono (J2h _)));have Iz:=(⟨Jc.2.1.1.1,Jc.2.1.2.1,Jc.2.1.2.2⟩:_/\_/\_);have EU:=Q0a ((Below.refl w2.heap.size w2).drew.trans (AH.mono (J2h _)));clear Jc AH)|(go_at_call_of 77 ib;refine (G5.out _).mono ?_;rintro r w' ⟨rfl,rfl⟩)|(go_at_call_of 77 vb;refine (Il.out _).mono ?_;rintro r w' ⟨rfl,rfl⟩))
     all_goals (go_wp2_with fail;go_meet;exact⟨by simp [beq_false_of_ne hk],EU.out⟩)
 obtain⟨rfl,AH⟩:=hcut;clear c0 c1 c2 c3 c4 v0 v1 s0 s1 s2 d0 d1 d2 d3 d4 e0 e1 II I6 G5 Il;cases ia with
 | false =>
  have HE:=Q0a (Lf.out 1 wc (.inl ⟨rfl,rfl⟩) (HS.out wc AH).1.1);clear HS HC HP AH Lf L5;go_wp2_with fail
  first|exact HE.out|(go_ret2;exact HE.out)
 | true =>
  obtain⟨pa,pv,Kz,LP,QA,LH⟩:=HP.out rfl;obtain⟨pa1,pa2,pa3,pa4,pa5⟩:=Q2M pa;obtain⟨pv1,pv2,pv3,pv4,pv5⟩:=Q2M pv;have EU:=Q0a AH;obtain⟨-,⟨⟨c0,c1,c2,c3,c4⟩,v0,v1⟩,s0,s1,s2⟩:=HS.out wc AH;obtain⟨-,⟨⟨d0,d1,d2,d3,d4⟩,e0,e1⟩,-,-,-⟩:=HS.out wc.drew AH.drew;clear HP pa pv AH;obtain⟨ko,rfl⟩:=J3L pa2;obtain⟨kv,rfl⟩:=J3L pv2;rw [J3m] at *
  rw [J3m] at L5 Lf;have ET:0<2 ^ ko:=Nat.pow_pos (by omega);go_upto_region 7 with fail;go_region;obtain⟨po,Ip⟩:∃po:Nat,po=2 ^ ko:=⟨_,rfl⟩
  obtain⟨pv,Jr⟩:∃pv:Nat,pv=2 ^ kv:=⟨_,rfl⟩
  have epo:(2:Int) ^ ko=(po:Int):=by rw [Ip];simp
  have epv:(2:Int) ^ kv=(pv:Int):=by rw [Jr];simp
  rw [<- Ip] at ET pa4 pa5;rw [<- Jr] at pv4 pv5;have Dt:wrap64 (po:Int)=(po:Int):=Z6X pa5;have ES:wrap64 (pv:Int)=(pv:Int):=Z6X pv5;have Je:wrap64 (iff+(po:Int))=iff+(po:Int):=Z9u pa5 QA LH;simp only [epo,epv,Dt,ES,Je];have D7:Hid ((((2 ^ ko:Nat):Int))=(po:Int)/\(((2 ^ kv:Nat):Int))=(pv:Int)/\(2:Int) ^ ko=(po:Int)/\(2:Int) ^ kv=(pv:Int)/\po=2 ^ ko):=⟨by rw [Ip],by rw [Jr],epo,epv,Ip⟩
  have PH:=Q0a epo;have NK:=Q0a Dt;clear epo epv Ip Jr Dt ES Je;have HD:=Q0a (Below.drew EU.out);by_cases Am:iff+(po:Int)<=(pv:Int)
  ·have Lv:¬((pv:Int)<iff+(po:Int)):=by omega
   clear d0 d1 d2 d3 d4 e0 e1 c0 c1 c2 c3 c4 v0 v1 s0 s1 s2;obtain⟨-,⟨⟨d0,d1,d2,d3,d4⟩,e0,e1⟩,-,-,-⟩:=HS.out wc.drew HD.out;go_wp2_with fail;simp only [PH.out,NK.out];clear d0 d1 d2 d3 d4 e0 e1;generalize wc.drew=w3 at *
   have HI:Hid (0<=ib/\ib.toNat+po<=256/\0<=vb/\vb.toNat+pv<=256/\po<=128/\0<=iff/\iff<256):=⟨pa1,pa4,pv1,pv4,pa5,QA,LH⟩
   clear pa1 pa3 pa4 pa5 pv1 pv3 pv4 pv5 pa2 pv2 Kz LP QA LH ET Lv EU
   go_loopg [14,63] po (fun gk ov kk wr=>∃k:Nat,kk=.int .i64 k/\k+gk=po/\OutM w3 wr ov (movV f ⟨ib,(ko:Int),ir,iff,ig⟩ ⟨vb,(kv:Int)⟩ k))
   case atStart=>exact⟨0,rfl,by omega,OutM.nil w3⟩
   case round =>
    obtain⟨k,rfl,A7,Aq⟩:=hrel;have HO:=Q0a Aq;have Bi:=Q0a A7;clear A7;have B3:Below w2.heap.size w2 wr:=HD.out.trans (Aq.2.mono HD.out.size);by_cases Ab:k<po
    ·obtain⟨⟨-,Gn,T9⟩,⟨⟨c0,c1,c2,c3,c4⟩,v0,v1⟩,s0,s1,s2⟩:=HS.out wr B3;have kc:=HC.out g wr k Gn T9 (by have:=D7.out.2.2.2.2;omega) (by trivial);have Bq:=Q0a (Z6W f ⟨ib,(ko:Int),ir,iff,ig⟩ ⟨vb,(kv:Int)⟩ k);have EY:=Q0a B3;have CE:(k:Int)<(po:Int):=by omega
     have RW:=Q0a Ab;have TE:(k:Int)<128:=by have:=HI.out;omega
     have By:(0:Int)<=(k:Int):=by omega
     have L8:IntKind.i64.wrap (ib+(k:Int))=ib+(k:Int):=Go.IntWalk.i64_in _ (by have:=HI.out;omega);have WZ:IntKind.i64.wrap (vb+iff)=vb+iff:=Go.IntWalk.i64_in _ (by have:=HI.out;omega);have Mc:IntKind.i64.wrap (vb+iff+(k:Int))=vb+iff+(k:Int):=Go.IntWalk.i64_in _ (by have:=HI.out;omega);have JR:(movV f ⟨ib,(ko:Int),ir,iff,ig⟩ ⟨vb,(kv:Int)⟩ k).length<=16777216:=by
      have h1:=Z2s f ⟨ib,(ko:Int),ir,iff,ig⟩ ⟨vb,(kv:Int)⟩ k;have h2:=HI.out;omega
     have DZ:=Q0a JR;obtain⟨fk,Dp⟩:∃b,b=f k:=⟨_,rfl⟩
     rw [<- Dp] at kc Bq;clear Aq B3 Gn T9 Dp JR;go_wp2_with fail;refine kc.mono ?_;rintro r w4 ⟨a,b,rfl,A5⟩;have Gy:=Q0a (A5.alloc A5.size (.cells #[.int .u32 a,.int .i64 b] 35));have O7:=Q0a (HO.out.below Gy.out);obtain⟨-,⟨⟨d0,d1,d2,d3,d4⟩,e0,e1⟩,-,-,-⟩:=HS.out _ (EY.out.trans (Gy.out.mono EY.out.size));clear A5 kc c0 c1 c2 c3 c4 v0 v1 s0 s1 s2 HO EY Gy;cases fk with
     | true =>
      obtain⟨v',w',Br,JA⟩:=O7.out.app DZ.out (itMv ⟨ib,(ko:Int),ir,iff,ig⟩ ⟨vb,(kv:Int)⟩ k) 58;have HR:Hid (OutM w3 w' v' (movV f ⟨ib,(ko:Int),ir,iff,ig⟩ ⟨vb,(kv:Int)⟩ (k+1))):=by
       rw [Bq.out,if_pos rfl];exact JA
      have Nz:(w4.alloc (.cells #[.int .u32 a,.int .i64 b] 35)).heap.size=w4.heap.size+1:=by simp
      rw [Nz] at Br;unfold itMv at Br;dsimp only at Br;clear Nz JA Bq O7 DZ;go_wp2_with (at_builtin;refine Lib.wpList_append_run _ rfl _ _ _ _ rfl _ _ rfl rfl _ _ Br ?_);go_roundg (po-(k+1))
      case measure=>have:=Bi.out;omega
      case rel=>exact⟨k+1,by go_num,by have:=RW.out;omega,HR.out⟩
     | false =>
      have HR:Hid (OutM w3 (w4.alloc (.cells #[.int .u32 a,.int .i64 b] 35)) u14 (movV f ⟨ib,(ko:Int),ir,iff,ig⟩ ⟨vb,(kv:Int)⟩ (k+1))):=by
       rw [Bq.out,if_neg (by decide),J4n];exact O7.out
      clear Bq O7 DZ;go_wp2_with fail;go_roundg (po-(k+1))
      case measure=>have:=Bi.out;omega
      case rel=>exact⟨k+1,by go_num,by have:=RW.out;omega,HR.out⟩
    ·obtain rfl:k=po:=by have:=Bi.out;omega
     have HX:Hid (Q (.returned (.tuple #[u14,.int .i64 0])) wr):=by
      refine L5.out (by trivial) ?_ _ _ ?_
      ·rw [D7.out.1,D7.out.2.1];exact Am
      ·rw [<- D7.out.2.2.2.2];have h1:=(HS.out w3 HD.out).1.1;exact⟨Q1L Aq.1 h1.size,h1.trans (Aq.2.mono h1.size)⟩
     clear Aq B3 HO HS HC Lf L5;go_wp2_with fail
     first|exact HX.out|(go_ret2;exact HX.out)
  ·have Lv:(pv:Int)<iff+(po:Int):=by omega
   have HE:=Q0a (Lf.out 2 wc.drew (.inr ⟨by trivial,by rw [D7.out.1,D7.out.2.1];first|exact Am|omega,rfl⟩) (HS.out wc.drew HD.out).1.1);clear HS HC EU Lf L5;go_wp2_with fail
   first|exact HE.out|(go_ret2;exact HE.out)
theorem Z4c {w:World} {Z:SP} {fr:List Nat} {N K:Nat} {M:Int} (hs:Sep w Z.hl) (ok:Z.Ok fr N K M) {x:Nat} (hx:x<4294967296) (i:It) (v:Wi) (hi:i.Wf) (hv:v.Wf) :
  Calls prog 24 #[.pointer (some ⟨Z.s,0,none⟩),.int .u32 x,.agg #[.int .i64 i.base,.int .i64 i.order,.int .i64 i.r,.int .i64 i.off,.bool i.g],.agg #[.int .i64 v.base,.int .i64 v.order]] w (MvsR Z x i v w):=by
 cases hp:pget Z.S.l 1 x with
 | none =>
  refine (Q6W hs ok.core hx i v 8 (by decide) (.inl ⟨hp,rfl⟩)).mono ?_;rintro r w' ⟨rfl,hb⟩;exact⟨hb,.inl ⟨8,by decide,rfl,.inl ⟨hp,rfl⟩⟩⟩
 | some p =>
  by_cases hk:p.kind=2
  case neg =>
   refine (Q6W hs ok.core hx i v 10 (by decide) (.inr ⟨p,hp,hk,rfl⟩)).mono ?_;rintro r w' ⟨rfl,hb⟩;exact⟨hb,.inl ⟨10,by decide,rfl,.inr ⟨p,hp,.inl ⟨hk,rfl⟩⟩⟩⟩
  have Bz:Below w.heap.size w ((w.alloc (.cells #[.int .i64 i.base,.int .i64 i.order,.int .i64 i.r,.int .i64 i.off,.bool i.g] 54)).alloc (.cells #[.int .i64 v.base,.int .i64 v.order] 56)):=((Below.refl w.heap.size w).alloc (J2h _) _).alloc (by simp) _;have s0:=(hs.grown Bz).sep;have V7:=(pget_some.1 hp).1;have Ap:=(pget_some.1 hp).2.2;refine Z1l (fac:=p.fac) (f:=Q5r Z x i) (T:=fun g W=>Sep W Z.hl/\TblZ Z p g W) ?_ ?_ ?_ ?_ ?_
  ·refine (Q0U s0 ok.core hx hp hk).mono ?_;rintro r w' ⟨g,rfl,hb,hg⟩;exact⟨g,rfl,hb,(s0.grown hb).sep,hg⟩
  ·rintro g W W' ⟨h1,h2⟩ hb;exact⟨(h1.grown hb).sep,h2.grown h1 hb⟩
  ·rintro g W k-⟨h1,h2⟩ Ab Hv;have DU:Q2i i.base i.order=true:=by
    unfold Q4q Q8B at Hv;simp only [J2C,decide_eq_true_eq] at Hv;exact Hv.1.1
   obtain⟨q1,q2,q3,q4,q5⟩:=Q2M DU;have T:=(ok.tpi.x (p.fac:Int)).tt ok.core V7 Ap hk (SP.sS h1) h2.c;have MJ:0<=i.base+(k:Int)/\i.base+(k:Int)<256:=by omega
   have Qj:(i.base+(k:Int)).toNat=i.base.toNat+k:=by omega
   have AC:(Z.tb (x%256)).at' (i.base+(k:Int))=Q0f Z.S.l Z.tb x (i.base.toNat+k):=by
    unfold TB.at';rw [if_pos MJ,Qj,Q0h hp hk (by omega)]
   have kc:=Q1w T (x:Int) (p.fac:Int) (i.base+(k:Int)) fun e he=>by
    rw [AC] at he;exact ok.fpi.low ok.core.inv.lok he
   rw [AC] at kc;obtain⟨a,b,Dh⟩:=Q3O (Q0f Z.S.l Z.tb x (i.base.toNat+k));rw [Dh] at kc;refine kc.mono ?_;rintro r w' ⟨rfl,hb⟩;exact⟨a,b,rfl,hb⟩
  ·intro er w' he hb;refine⟨hb,.inl ⟨er,?_,rfl,.inr ⟨p,hp,.inr ⟨hk,he⟩⟩⟩⟩;rcases he with ⟨_,rfl⟩|⟨_,_,rfl⟩ <;> decide
  ·intro ha hf a w' ho;obtain⟨a0,cap,rfl,Az⟩:=Q5S ho.1;have AM:(movV (Q5r Z x i) i v (2 ^ i.order.toNat)).length<=cap:=by
    rcases ho.1.2 with ⟨e,h0⟩|⟨g,c,Ag,e,_,_,hn,_⟩
    ·rw [h0];exact J4j _
    ·cases e;exact hn
   refine⟨ho.2,.inr ⟨p,a0,cap,_,hp,hk,ha,hf,rfl,rfl,AM,?_⟩⟩;have DU:Q2i i.base i.order=true/\Q2i v.base v.order=true/\1<=i.r/\i.r<=15/\0<=i.off/\i.off<256:=by
    unfold Q4q Q8B at ha;simp only [J2C,decide_eq_true_eq] at ha;exact⟨ha.1.1,ha.2.1,ha.1.2⟩
   obtain⟨q1,q2,q3,q4,q5⟩:=Q2M DU.1;obtain⟨r1,r2,r3,r4,r5⟩:=Q2M DU.2.1;refine⟨fun j hj=>?_,fun ad h0 Ox Fw=>?_⟩
   ·have PC:(movV (Q5r Z x i) i v (2 ^ i.order.toNat))[j]?=some ((movV (Q5r Z x i) i v (2 ^ i.order.toNat))[j]):=J4y hj;have Lp:(movV (Q5r Z x i) i v (2 ^ i.order.toNat)).getD j noMv=(movV (Q5r Z x i) i v (2 ^ i.order.toNat))[j]:=by rw [J6J,PC];rfl
    have Aw:(movV (Q5r Z x i) i v (2 ^ i.order.toNat))[j]∈movV (Q5r Z x i) i v (2 ^ i.order.toNat):=J5D hj;obtain⟨g,hg,_,Ab,_⟩:=Az (j*4) _ (Q3R _ j 0 _ _ PC rfl);refine⟨g,0,hg,Ab,fun t u hu=>?_,?_⟩
    ·have hu:((movV (Q5r Z x i) i v (2 ^ i.order.toNat))[j]).cells[t]?=some u:=by rw [<- Lp];exact hu
     obtain⟨g',Gx,_,_,hc⟩:=Az (j*4+t) u (Q3R _ j t _ _ PC hu);rw [hg] at Gx;cases Gx;rw [J4L];exact hc
    ·show Mv.Wf ((movV (Q5r Z x i) i v (2 ^ i.order.toNat)).getD j noMv);rw [Lp];unfold movV at Aw;obtain⟨k,BC,e⟩:=J2n.1 Aw;have A2:=J2x.1 (J2B.1 BC).1;unfold movV;rw [<- e];unfold itMv;exact⟨⟨by dsimp only;omega,by dsimp only;omega⟩,⟨by dsimp only;omega,by dsimp only;omega⟩,⟨by dsimp only;omega,by dsimp only;omega⟩⟩
   ·subst Ox;have hL:(movV (Q5r Z x i) i v (2 ^ i.order.toNat)).length≠0:=h0;have G0:0<(movV (Q5r Z x i) i v (2 ^ i.order.toNat)).length:=by omega
    obtain⟨g,hg,Im,_⟩:=Az (0*4) _ (Q3R _ 0 0 _ _ (J4y G0) rfl);cases hg;exact absurd (hs.lt Fw) (by dsimp only;omega)
def isK (l:List Pl) (k:Int) (h:Nat):Bool:=match pget l 1 h with
 | some p=>decide (k=0∨(p.kind:Int)=k)
 | none=>false
def Q1h (l:List Pl) (k:Int) (T:List Nat):List Nat:=T.filter (isK l k)
def nthV (l:List Pl) (k n:Int):Nat:=if (Q1h l k (allL l 1)).length=0∨n<0 then 0 else (Q1h l k (allL l 1)).getD (n%((Q1h l k (allL l 1)).length:Int)).toNat 0
theorem Q7T (l:List Pl) (k:Int) (T:List Nat) (y:Nat):Q1h l k (T++[y])=Q1h l k T++if isK l k y=true then [y] else []:=by
 unfold Q1h;rw [J4e];cases h:isK l k y <;> simp [h]
theorem Q4W (l:List Pl) (k:Int) (T:List Nat):(Q1h l k T).length<=T.length:=J4w _ _
theorem isK_iff {l:List Pl} {k:Int} {h:Nat}:isK l k h=true↔∃p,pget l 1 h=some p/\(k=0∨(p.kind:Int)=k):=by
 unfold isK;cases pget l 1 h with
 | none=>simp
 | some p=>simp
theorem Q5T {l:List Pl} (h:l.length=256):(allL l 1).length<=256:=by
 have:=Q1Y l 1 l.length;unfold allL;rw [h] at this ⊢;exact this
theorem Q7U {l:List Pl} {k n:Int}:nthV l k n=0∨(∃p,pget l 1 (nthV l k n)=some p/\(k=0∨(p.kind:Int)=k)):=by
 unfold nthV;split
 ·exact .inl rfl
 ·rename_i h;have h1:=Int.emod_nonneg n (b:=((Q1h l k (allL l 1)).length:Int)) (by omega);have h2:=Int.emod_lt_of_pos n (b:=((Q1h l k (allL l 1)).length:Int)) (by omega);have Ab:(n%((Q1h l k (allL l 1)).length:Int)).toNat<(Q1h l k (allL l 1)).length:=by omega
  refine .inr ?_;rw [J6J,J4y Ab,J4Z];have hm:=J5D Ab;unfold Q1h at hm;exact isK_iff.1 (J2B.1 hm).2
theorem Q4r {l:List Pl} (lok:LOk l) {s h:Nat} {q:Pl} (hq:pget l s h=some q):h<4294967296:=by
 have h1:=pget_some.1 hq;have h2:=lok.2 q (Q0z hq);have:nm (h%256) q=h:=h1.2.1;unfold nm at this;omega
theorem Q8C {l:List Pl} (lok:LOk l) (k n:Int):nthV l k n<4294967296:=by
 rcases Q7U (l:=l) (k:=k) (n:=n) with h|⟨p,hp,_⟩
 ·rw [h];omega
 ·exact Q4r lok hp
theorem Q8D {w:World} {Z:SP} {fr:List Nat} {N K:Nat} {M:Int} (hs:Sep w Z.hl) (ok:Z.Ok fr N K M) (k n:Int) (hn:I64 n) :
  Calls prog 31 #[.pointer (some ⟨Z.s,0,none⟩),.int .i64 k,.int .i64 n] w (Told w (.int .u32 ((nthV Z.S.l k n:Nat):Int))):=by
 have A4:=ok.core.inv.lok;have Bv:Hid (∀W,Below w.heap.size w W->Calls prog 29 #[.pointer (some ⟨Z.s,0,none⟩)] W fun r w'=>r=.returned (.pointer (some ⟨Z.S.c,0,none⟩))/\W=w'):=fun W hb=>Q2r (hs.grown hb).sep
 have E7:Hid (∀W,Below w.heap.size w W->Calls prog 32 #[.pointer (some ⟨Z.S.c,0,none⟩)] W (NewHs W (allL Z.S.l 1))):=fun W hb=>Q2F (SP.sS (hs.grown hb).sep) A4
 have FB:Hid (∀y,y∈allL Z.S.l 1->∃a b c er:Int,((er==0)=isK Z.S.l k y)/\∀W,Below w.heap.size w W->Calls prog 30 #[.pointer (some ⟨Z.S.c,0,none⟩),.int .u32 y,.int .i64 k] W (Told W (.tuple #[.agg #[.int .i64 a,.int .i64 b,.int .i64 c],.int .i64 er]))):=fun y hy=>by
  obtain⟨p,hp⟩:=(Q1t (by rw [A4.1];omega)).1 hy;have Ab:=Q4r A4 hp;by_cases hk:k=0∨(p.kind:Int)=k
  ·refine⟨_,_,_,0,?_,fun W hb=>Q1F (SP.sS (hs.grown hb).sep) A4 Ab k hp hk⟩;rw [isK_iff.2 ⟨p,hp,hk⟩];rfl
  ·refine⟨_,_,_,10,?_,fun W hb=>Q2E (SP.sS (hs.grown hb).sep) A4 Ab k hp (by omega) (by omega)⟩;unfold isK;rw [hp];show ((10:Int)==0)=decide (_∨_);rw [decide_eq_false hk];rfl
 have Hl:=Q0a (Q5T A4.1);obtain⟨Dq,Iu⟩:=hn;have HV:Hid (nthV Z.S.l k n=if (Q1h Z.S.l k (allL Z.S.l 1)).length=0∨n<0 then 0 else (Q1h Z.S.l k (allL Z.S.l 1)).getD (n%((Q1h Z.S.l k (allL Z.S.l 1)).length:Int)).toNat 0):=rfl;clear hs ok A4;generalize nthV Z.S.l k n=nv at *
 generalize hT:allL Z.S.l 1=T at *
 go_enter func31,ntmps31;go_wp2_with fail;refine (Bv.out _ (Below.refl _ _)).mono ?_;rintro rv w0 ⟨rfl,rfl⟩;go_wp2_with fail;refine (E7.out _ (Below.refl _ _)).mono ?_;intro rv w1 Dg;obtain⟨a0,Li,rfl,Av,FE⟩:=Dg.shape;have Bg:=Q0a Av;have FV:=Q0a FE;clear Dg Av FE E7;go_wp2_with fail
 go_loopg [7,9] T.length (fun gk ov iv wr=>∃j:Nat,iv=.int .i64 j/\j+gk=T.length/\OutH w1 wr ov (Q1h Z.S.l k (T.take j)))
 case atStart=>exact⟨0,rfl,J4L _,OutH.nil w1⟩
 case round =>
  obtain⟨j,rfl,A7,Aq⟩:=hrel;have HO:=Q0a Aq;have Bi:=Q0a A7;clear Aq;by_cases Ab:j<T.length
  ·obtain⟨y,hy⟩:∃y,T[j]?=some y:=⟨_,J4y Ab⟩
   obtain⟨g0,rfl,Ln,Dm,Ah⟩:=(FV.out.below HO.out.2).at' j y hy;obtain⟨a,b,c,er,Co,Ne⟩:=FB.out y (J4v hy);have CN:Below w.heap.size w wr:=Bg.out.trans (HO.out.2.mono Bg.out.size);have AJ:Hid (Q1h Z.S.l k (T.take (j+1))=Q1h Z.S.l k (T.take j)++if isK Z.S.l k y=true then [y] else []):=by
    rw [J4d,hy];exact Q7T _ _ _ _
   have HY:=Q0a hy;have Fu:Hid (∀W,Below wr.heap.size wr W->Calls prog 30 #[.pointer (some ⟨Z.S.c,0,none⟩),.int .u32 y,.int .i64 k] W (Told W (.tuple #[.agg #[.int .i64 a,.int .i64 b,.int .i64 c],.int .i64 er]))):=fun W hb=>Ne W (CN.trans (hb.mono CN.size))
   have Hr:Hid (∀W,Below wr.heap.size wr W->Calls prog 29 #[.pointer (some ⟨Z.s,0,none⟩)] W fun r w'=>r=.returned (.pointer (some ⟨Z.S.c,0,none⟩))/\W=w'):=fun W hb=>Bv.out W (CN.trans (hb.mono CN.size))
   have D9:Hid (∀W,Below wr.heap.size wr W->W.cell? ⟨g0,j,none⟩=some (.int .u32 y)):=fun W hb=>(World.cell?_of_block (w:=wr) (hb.block g0 Dm)).trans Ah
   have Lg:Hid (∀W,Below wr.heap.size wr W->OutH w1 W u7 (Q1h Z.S.l k (T.take j))):=fun W hb=>HO.out.below hb
   have JR:(Q1h Z.S.l k (T.take j)).length<=16777216:=by
    have h1:=Q4W Z.S.l k (T.take j);rw [J4A] at h1;have:=Hl.out;omega
   have DZ:=Q0a JR;have IF:=Q0a Co;have B5:Hid (∀W,Below wr.heap.size wr W->∀o,Below wr.heap.size wr (W.alloc o)):=fun W hb o=>hb.alloc hb.size o
   have HD:Hid (Below wr.heap.size wr wr.drew):=(Below.refl _ _).drew;have FP:(j:Int)<256:=by have:=Hl.out;omega
   have By:(0:Int)<=(j:Int):=by omega
   clear hy A7 Co Ne CN HO Bv FB Ln Dm JR;go_upto_region 6 with fail
   go_cut [11] from 22 to 31 (fun nn wc=>nn=.int .i64 er/\Below wr.heap.size wr wc)
   case first =>
    clear AJ Lg DZ IF HV FV;have cD:wr.drew.cell? ⟨g0,j,none⟩=some (.int .u32 y):=Ah;have IP:Hid (Calls prog 30 #[.pointer (some ⟨Z.S.c,0,none⟩),.int .u32 y,.int .i64 k] (wr.alloc (.cells #[.int .i64 0,.int .i64 0,.int .i64 0] 69)).drew fun r w4=>r=.returned (.tuple #[.agg #[.int .i64 a,.int .i64 b,.int .i64 c],.int .i64 er])/\Below wr.heap.size wr w4/\Cells w4 wr.heap.size 69 [.int .i64 0,.int .i64 0,.int .i64 0]):=
     (Fu.out _ (B5.out _ (Below.refl _ _).drew _)).mono fun r w4 h=>⟨h.1,((B5.out _ (Below.refl _ _).drew _)).trans (h.2.mono (by simp)),(Cells.new wr 69 [.int .i64 0,.int .i64 0,.int .i64 0]).same (h.2.block _ (by simp))⟩
    go_region_held3 (fun w'=>w'.cell? ⟨g0,j,none⟩=some (.int .u32 y))
     (first|exact Ah|exact cD|exact D9.out _ (B5.out _ HD.out _)|exact D9.out _ Ao.out|exact D9.out _ (B5.out _ Ao.out _)|exact D9.out _ (Ao.out.setCell (by simp) _)|exact D9.out _ ((Ao.out.setCell (by simp) _).setCell (by simp) _)|exact D9.out _ (((Ao.out.setCell (by simp) _).setCell (by simp) _).setCell (by simp) _))
     (first|(go_at_call 29;refine (Hr.out _ (by first|exact HD.out|exact B5.out _ HD.out _)).mono ?_;rintro rv w' ⟨rfl,rfl⟩)|(go_at_call 30;refine IP.out.mono ?_;rintro rv w4 ⟨rfl,A5,Bs⟩;have Ao:=Q0a A5;have z0:=Bs.cell 0 _ rfl;have z1:=Bs.cell 1 _ rfl;have z2:=Bs.cell 2 _ rfl;have y0:=Bs.free 0;have y1:=Bs.free 1;have y2:=Bs.free 2;have J0:=Q0a Bs;clear A5 Bs)|(go_at_call 30;refine (Fu.out _ (by first|exact HD.out|exact B5.out _ HD.out _)).mono ?_;rintro rv w4 ⟨rfl,A5⟩;have Ao:=Q0a (HD.out.trans (A5.mono HD.out.size));clear A5))
    all_goals (go_wp2_with fail;go_meet;first|exact⟨rfl,B5.out _ Ao.out _⟩|exact⟨rfl,((Ao.out.setCell (by simp) _).setCell (by simp) _).setCell (by simp) _⟩|exact⟨rfl,Ao.out⟩)
   obtain⟨rfl,Ge⟩:=hcut;have P6:=Q0a Ge;have Kr:=Q0a (Lg.out wc Ge);have Db:=D9.out wc Ge;clear Ge Ah D9 Lg Fu Hr B5 HD;have MZ:=IF.out;cases D6:isK Z.S.l k y with
   | true =>
    rw [D6] at MZ;have Bq:=AJ.out;rw [D6,if_pos rfl] at Bq;obtain⟨v',w',Br,JA⟩:=Kr.out.app DZ.out y 66;have Py:=Q0a JA;have CK:=Q0a Bq;clear JA Bq AJ IF Kr;go_wp2_with (at_builtin;refine Lib.wpList_append_run _ rfl _ _ _ _ rfl _ _ rfl rfl _ _ Br ?_);go_roundg (T.length-(j+1))
    case measure=>have:=Bi.out;omega
    case rel=>exact⟨j+1,by go_num,by omega,by rw [CK.out];exact Py.out⟩
   | false =>
    rw [D6] at MZ;have Bq:=AJ.out;rw [D6,if_neg (by decide),J4n] at Bq;have CK:=Q0a Bq;clear Bq AJ IF;go_wp2_with fail;go_roundg (T.length-(j+1))
    case measure=>have:=Bi.out;omega
    case rel=>exact⟨j+1,by go_num,by omega,by rw [CK.out];exact Kr.out⟩
  ·have Fz:j=T.length:=by have:=Bi.out;omega
   have Aq:=HO.out;rw [Fz,J6q] at Aq;have CF:Hid (Below w.heap.size w wr):=Bg.out.trans (Aq.2.mono Bg.out.size);have O1:Hid ((Q1h Z.S.l k T).length<=256):=J2i (Q4W _ _ _) Hl.out;clear HO Bv FB FV Bg A7;generalize Q1h Z.S.l k T=L at *
   obtain⟨aL,cL,rfl⟩:=Aq.shape;have HO:=Q0a Aq;clear Aq;by_cases h0:L.length=0
   ·have hv:nv=0:=by rw [HV.out,if_pos (.inl h0)]
    subst hv;have hz:((L.length:Nat):Int)=0:=by omega
    have Bp:(((L.length:Nat):Int)==0)=true:=by rw [hz];rfl
    clear HV;go_wp2_with fail
    first|exact⟨rfl,CF.out⟩|(go_ret;exact⟨rfl,CF.out⟩)
   ·have Bp:(((L.length:Nat):Int)==0)=false:=by rw [beq_eq_false_iff_ne];omega
    have WK:((L.length:Nat):Int)≠0:=by omega
    have QF:(0:Int)<((L.length:Nat):Int):=by omega
    by_cases Dw:n<0
    ·have hv:nv=0:=by rw [HV.out,if_pos (.inr Dw)]
     subst hv;have hd:decide (n<0)=true:=decide_eq_true Dw;clear HV;go_wp2_with fail
     first|exact⟨rfl,CF.out⟩|(go_ret;exact⟨rfl,CF.out⟩)
    ·have hd:decide (n<0)=false:=decide_eq_false Dw;have h1:=Int.emod_nonneg n (b:=(L.length:Int)) (by omega);have h2:=Int.emod_lt_of_pos n (b:=(L.length:Int)) (by omega);have Vj:n.tmod (L.length:Int)=(((n%(L.length:Int)).toNat:Nat):Int):=by
      rw [J3Y (by omega),Int.toNat_of_nonneg h1]
     have hv:nv=L.getD (n%(L.length:Int)).toNat 0:=by rw [HV.out,if_neg (by omega)]
     have hi:(n%(L.length:Int)).toNat<L.length:=by omega
     generalize (n%(L.length:Int)).toNat=i at *
     rw [J6J,J4y hi,J4Z] at hv;have Ss:L[i]?=some nv:=by rw [hv];exact J4y hi
     clear hv HV h1 h2;have Aa:L≠[]:=fun e=>h0 (by rw [e];rfl)
     obtain⟨gL,WV,eL⟩:=HO.out.shape1 Aa;cases eL;obtain⟨AR,-,-⟩:=HO.out.cellAt Ss;have Dt:IntKind.i64.wrap ((i:Nat):Int)=(i:Int):=Go.IntWalk.i64_in _ (by have:=O1.out;omega);have Pp:(i:Int)<(L.length:Int):=by omega
     have G0:(0:Int)<=(i:Int):=by omega
     clear Ss Aa HO;go_wp2_with fail
     first|exact⟨rfl,CF.out⟩|(go_ret;exact⟨rfl,CF.out⟩)
theorem Z6Y {w:World} {Z:SP} {fr:List Nat} {N K:Nat} {M:Int} (hs:Sep w Z.hl) (ok:Z.Ok fr N K M) :
  Calls prog 28 #[.pointer (some ⟨Z.s,0,none⟩)] w (NewHs w (Q1h Z.S.l 2 (allL Z.S.l 1))):=by
 have A4:=ok.core.inv.lok;have Bv:Hid (∀W,Below w.heap.size w W->Calls prog 29 #[.pointer (some ⟨Z.s,0,none⟩)] W fun r w'=>r=.returned (.pointer (some ⟨Z.S.c,0,none⟩))/\W=w'):=fun W hb=>Q2r (hs.grown hb).sep
 have E7:Hid (∀W,Below w.heap.size w W->Calls prog 32 #[.pointer (some ⟨Z.S.c,0,none⟩)] W (NewHs W (allL Z.S.l 1))):=fun W hb=>Q2F (SP.sS (hs.grown hb).sep) A4
 have FB:Hid (∀y,y∈allL Z.S.l 1->∃a b c er:Int,((er==0)=isK Z.S.l 2 y)/\∀W,Below w.heap.size w W->Calls prog 30 #[.pointer (some ⟨Z.S.c,0,none⟩),.int .u32 y,.int .i64 2] W (Told W (.tuple #[.agg #[.int .i64 a,.int .i64 b,.int .i64 c],.int .i64 er]))):=fun y hy=>by
  obtain⟨p,hp⟩:=(Q1t (by rw [A4.1];omega)).1 hy;have Ab:=Q4r A4 hp;by_cases hk:(2:Int)=0∨(p.kind:Int)=2
  ·refine⟨_,_,_,0,?_,fun W hb=>Q1F (SP.sS (hs.grown hb).sep) A4 Ab 2 hp hk⟩;rw [isK_iff.2 ⟨p,hp,hk⟩];rfl
  ·refine⟨_,_,_,10,?_,fun W hb=>Q2E (SP.sS (hs.grown hb).sep) A4 Ab 2 hp (by omega) (by omega)⟩;unfold isK;rw [hp];show ((10:Int)==0)=decide (_∨_);rw [decide_eq_false hk];rfl
 have Hl:=Q0a (Q5T A4.1);clear hs ok A4;generalize hT:allL Z.S.l 1=T at *
 go_enter func28,ntmps28;go_wp2_with fail;refine (Bv.out _ (Below.refl _ _)).mono ?_;rintro rv w0 ⟨rfl,rfl⟩;go_wp2_with fail;refine (E7.out _ (Below.refl _ _)).mono ?_;intro rv w1 Dg;obtain⟨a0,Li,rfl,Av,FE⟩:=Dg.shape;have Bg:=Q0a Av;have FV:=Q0a FE;clear Dg Av FE E7;go_wp2_with fail
 go_loopg [3,5] T.length (fun gk ov iv wr=>∃j:Nat,iv=.int .i64 j/\j+gk=T.length/\OutH w1 wr ov (Q1h Z.S.l 2 (T.take j)))
 case atStart=>exact⟨0,rfl,J4L _,OutH.nil w1⟩
 case round =>
  obtain⟨j,rfl,A7,Aq⟩:=hrel;have HO:=Q0a Aq;have Bi:=Q0a A7;clear Aq;by_cases Ab:j<T.length
  ·obtain⟨y,hy⟩:∃y,T[j]?=some y:=⟨_,J4y Ab⟩
   obtain⟨g0,rfl,Ln,Dm,Ah⟩:=(FV.out.below HO.out.2).at' j y hy;obtain⟨a,b,c,er,Co,Ne⟩:=FB.out y (J4v hy);have CN:Below w.heap.size w wr:=Bg.out.trans (HO.out.2.mono Bg.out.size);have AJ:Hid (Q1h Z.S.l 2 (T.take (j+1))=Q1h Z.S.l 2 (T.take j)++if isK Z.S.l 2 y=true then [y] else []):=by
    rw [J4d,hy];exact Q7T _ _ _ _
   have HY:=Q0a hy;have Fu:Hid (∀W,Below wr.heap.size wr W->Calls prog 30 #[.pointer (some ⟨Z.S.c,0,none⟩),.int .u32 y,.int .i64 2] W (Told W (.tuple #[.agg #[.int .i64 a,.int .i64 b,.int .i64 c],.int .i64 er]))):=fun W hb=>Ne W (CN.trans (hb.mono CN.size))
   have Hr:Hid (∀W,Below wr.heap.size wr W->Calls prog 29 #[.pointer (some ⟨Z.s,0,none⟩)] W fun r w'=>r=.returned (.pointer (some ⟨Z.S.c,0,none⟩))/\W=w'):=fun W hb=>Bv.out W (CN.trans (hb.mono CN.size))
   have D9:Hid (∀W,Below wr.heap.size wr W->W.cell? ⟨g0,j,none⟩=some (.int .u32 y)):=fun W hb=>(World.cell?_of_block (w:=wr) (hb.block g0 Dm)).trans Ah
   have Lg:Hid (∀W,Below wr.heap.size wr W->OutH w1 W u3 (Q1h Z.S.l 2 (T.take j))):=fun W hb=>HO.out.below hb
   have JR:(Q1h Z.S.l 2 (T.take j)).length<=16777216:=by
    have h1:=Q4W Z.S.l 2 (T.take j);rw [J4A] at h1;have:=Hl.out;omega
   have DZ:=Q0a JR;have IF:=Q0a Co;have B5:Hid (∀W,Below wr.heap.size wr W->∀o,Below wr.heap.size wr (W.alloc o)):=fun W hb o=>hb.alloc hb.size o
   have HD:Hid (Below wr.heap.size wr wr.drew):=(Below.refl _ _).drew;have FP:(j:Int)<256:=by have:=Hl.out;omega
   have By:(0:Int)<=(j:Int):=by omega
   clear hy A7 Co Ne CN HO Bv FB Ln Dm JR;go_upto_region 6 with fail
   go_cut [7] from 18 to 26 (fun nn wc=>nn=.int .i64 er/\Below wr.heap.size wr wc)
   case first =>
    clear AJ Lg DZ IF FV;have cD:wr.drew.cell? ⟨g0,j,none⟩=some (.int .u32 y):=Ah;have IP:Hid (Calls prog 30 #[.pointer (some ⟨Z.S.c,0,none⟩),.int .u32 y,.int .i64 2] (wr.alloc (.cells #[.int .i64 0,.int .i64 0,.int .i64 0] 69)).drew fun r w4=>r=.returned (.tuple #[.agg #[.int .i64 a,.int .i64 b,.int .i64 c],.int .i64 er])/\Below wr.heap.size wr w4/\Cells w4 wr.heap.size 69 [.int .i64 0,.int .i64 0,.int .i64 0]):=
     (Fu.out _ (B5.out _ (Below.refl _ _).drew _)).mono fun r w4 h=>⟨h.1,((B5.out _ (Below.refl _ _).drew _)).trans (h.2.mono (by simp)),(Cells.new wr 69 [.int .i64 0,.int .i64 0,.int .i64 0]).same (h.2.block _ (by simp))⟩
    go_region_held3 (fun w'=>w'.cell? ⟨g0,j,none⟩=some (.int .u32 y))
     (first|exact Ah|exact cD|exact D9.out _ (B5.out _ HD.out _)|exact D9.out _ Ao.out|exact D9.out _ (B5.out _ Ao.out _)|exact D9.out _ (Ao.out.setCell (by simp) _)|exact D9.out _ ((Ao.out.setCell (by simp) _).setCell (by simp) _)|exact D9.out _ (((Ao.out.setCell (by simp) _).setCell (by simp) _).setCell (by simp) _))
     (first|(go_at_call 29;refine (Hr.out _ (by first|exact HD.out|exact B5.out _ HD.out _)).mono ?_;rintro rv w' ⟨rfl,rfl⟩)|(go_at_call 30;refine IP.out.mono ?_;rintro rv w4 ⟨rfl,A5,Bs⟩;have Ao:=Q0a A5;have z0:=Bs.cell 0 _ rfl;have z1:=Bs.cell 1 _ rfl;have z2:=Bs.cell 2 _ rfl;have y0:=Bs.free 0;have y1:=Bs.free 1;have y2:=Bs.free 2;have J0:=Q0a Bs;clear A5 Bs)|(go_at_call 30;refine (Fu.out _ (by first|exact HD.out|exact B5.out _ HD.out _)).mono ?_;rintro rv w4 ⟨rfl,A5⟩;have Ao:=Q0a (HD.out.trans (A5.mono HD.out.size));clear A5))
    all_goals (go_wp2_with fail;go_meet;first|exact⟨rfl,B5.out _ Ao.out _⟩|exact⟨rfl,((Ao.out.setCell (by simp) _).setCell (by simp) _).setCell (by simp) _⟩|exact⟨rfl,Ao.out⟩)
   obtain⟨rfl,Ge⟩:=hcut;have P6:=Q0a Ge;have Kr:=Q0a (Lg.out wc Ge);have Db:=D9.out wc Ge;clear Ge Ah D9 Lg Fu Hr B5 HD;have MZ:=IF.out;cases D6:isK Z.S.l 2 y with
   | true =>
    rw [D6] at MZ;have Bq:=AJ.out;rw [D6,if_pos rfl] at Bq;obtain⟨v',w',Br,JA⟩:=Kr.out.app DZ.out y 66;have Py:=Q0a JA;have CK:=Q0a Bq;clear JA Bq AJ IF Kr;go_wp2_with (at_builtin;refine Lib.wpList_append_run _ rfl _ _ _ _ rfl _ _ rfl rfl _ _ Br ?_);go_roundg (T.length-(j+1))
    case measure=>have:=Bi.out;omega
    case rel=>exact⟨j+1,by go_num,by omega,by rw [CK.out];exact Py.out⟩
   | false =>
    rw [D6] at MZ;have Bq:=AJ.out;rw [D6,if_neg (by decide),J4n] at Bq;have CK:=Q0a Bq;clear Bq AJ IF;go_wp2_with fail;go_roundg (T.length-(j+1))
    case measure=>have:=Bi.out;omega
    case rel=>exact⟨j+1,by go_num,by omega,by rw [CK.out];exact Kr.out⟩
  ·have Fz:j=T.length:=by have:=Bi.out;omega
   have Aq:=HO.out;rw [Fz,J6q] at Aq;have HR:Hid (NewHs w (Q1h Z.S.l 2 T) (.returned u3) wr):=⟨u3,rfl,Q1L Aq.1 Bg.out.size,Bg.out.trans (Aq.2.mono Bg.out.size)⟩
   clear Aq HO Bv FB FV Bg A7;go_wp2_with fail
   first|exact HR.out|(go_ret;exact HR.out)
end Go.Proofs.YtlakjlmaboioiaaGreatDoor

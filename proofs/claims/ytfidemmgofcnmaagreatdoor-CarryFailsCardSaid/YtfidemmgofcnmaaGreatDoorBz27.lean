/- What the laws of spaces share is proved. No condition. Part of a proof. -/
import Derived.Test.YtfidemmgofcnmaaGreatDoorBz26
set_option maxHeartbeats 8000000
set_option maxRecDepth 100000
set_option linter.unusedVariables false
namespace Go.Proofs.YtfidemmgofcnmaaGreatDoor
open Go.RowKit Go.Proofs.Tryz
def Q1W(Z:SP)(x:Nat)(i:It)(k:Nat):Bool:=(Q0f Z.S.l Z.tb x (i.base.toNat+k)).isSome
def MvsE(Z:SP)(x:Nat)(i:It)(v:Wi)(er:Int):Prop:=(pget Z.S.l 1 x=none/\er=8)∨∃p,pget Z.S.l 1 x=some p/\((p.kind≠2/\er=10)∨(p.kind=2/\((Q3g i v=false/\er=1)∨(Q3g i v=true/\¬(i.off+((2 ^ i.order.toNat:Nat):Int)<=((2 ^ v.order.toNat:Nat):Int))/\er=2))))
def noMv:Mv:=⟨0,0,0,false⟩
def MvsR(Z:SP)(x:Nat)(i:It)(v:Wi)(w:World)(r:Ending)(w':World):Prop:=Below w.heap.size w w' /\
 ((∃er,er≠0/\r=.returned (.tuple #[.slice none 0 0,.int .i64 er])/\MvsE Z x i v er) ∨
  ∃(p:Pl) (a:Option Addr) (cap:Nat) (L:List Mv),pget Z.S.l 1 x=some p/\p.kind=2/\Q3g i v=true/\i.off+((2 ^ i.order.toNat:Nat):Int)<=((2 ^ v.order.toNat:Nat):Int)/\L=movV (Q1W Z x i) i v (2 ^ i.order.toNat)/\r=.returned (.tuple #[.slice a L.length cap,.int .i64 0])/\L.length<=cap/\AsideM Z.hl L.length (fun j=>L.getD j noMv) a w')
theorem Q6u{w:World}{Z:SP}{fr:List Nat}{N K:Nat}(hs:Sep w Z.hl)(ok:Z.S.Ok fr N K){x:Nat}(hx:x<4294967296)(i:It)(v:Wi)(er:Int)(he:er≠0)(hw:(pget Z.S.l 1 x=none/\er=8)∨∃p,pget Z.S.l 1 x=some p/\p.kind≠2/\er=10) :
  Calls prog 38 #[.pointer (some ⟨Z.s,0,none⟩),.int .u32 x,.agg #[.int .i64 i.base,.int .i64 i.order,.int .i64 i.r,.int .i64 i.off,.bool i.g],.agg #[.int .i64 v.base,.int .i64 v.order]] w fun r w'=>r=.returned (.tuple #[.slice none 0 0,.int .i64 er])/\Below w.heap.size w w':=by
 have Bv:Below w.heap.size w ((w.alloc (.cells #[.int .i64 i.base,.int .i64 i.order,.int .i64 i.r,.int .i64 i.off,.bool i.g] 63)).alloc (.cells #[.int .i64 v.base,.int .i64 v.order] 65)):=((Below.refl w.heap.size w).alloc (J3h _) _).alloc (by simp) _;have ks:=Q0K (hs.grown Bv).sep ok hx er hw;have Ib:(er==0)=false:=by simpa using he
 have HR:Hid (∀w' o,Below ((w.alloc (.cells #[.int .i64 i.base,.int .i64 i.order,.int .i64 i.r,.int .i64 i.off,.bool i.g] 63)).alloc (.cells #[.int .i64 v.base,.int .i64 v.order] 65)).heap.size ((w.alloc (.cells #[.int .i64 i.base,.int .i64 i.order,.int .i64 i.r,.int .i64 i.off,.bool i.g] 63)).alloc (.cells #[.int .i64 v.base,.int .i64 v.order] 65)) w'->Below w.heap.size w (w'.alloc o)):=fun w' o hb=>Q0b (Q0b (hb.alloc hb.size o))
 obtain⟨ib,io,ir,iff,ig⟩:=i;obtain⟨vb,vo⟩:=v;dsimp only at *
 clear hs ok hx hw Bv;go_enter func38,ntmps38;go_wp2_with fail;refine ks.mono ?_;rintro r w1⟨rfl,hb⟩;have HQ:Hid (∀o,Below w.heap.size w (w1.alloc o)):=fun o=>HR.out w1 o hb
 clear hb HR ks;go_wp2_with fail
 (try go_ret2);exact⟨rfl,HQ.out _⟩
theorem Z7j{n:Nat}(h:n<=128):wrap64 (n:Int)=(n:Int):=Go.IntWalk.wrap64_in _ (by omega)
theorem Z9G{n:Nat}{x:Int}(h:n<=128)(h0:0<=x)(h1:x<256):wrap64 (x+(n:Int))=x+(n:Int):=Go.IntWalk.wrap64_in _ (by omega)
def Box2(b:Nat)(i:It)(v:Wi)(W:World):Prop:=(W.cell? ⟨b,0,none⟩=some (.int .i64 i.base)/\W.cell? ⟨b,1,none⟩=some (.int .i64 i.order)/\W.cell? ⟨b,2,none⟩=some (.int .i64 i.r)/\W.cell? ⟨b,3,none⟩=some (.int .i64 i.off)/\W.cell? ⟨b,4,none⟩=some (.bool i.g))/\W.cell? ⟨b+1,0,none⟩=some (.int .i64 v.base)/\W.cell? ⟨b+1,1,none⟩=some (.int .i64 v.order)
theorem box2{w:World}(i:It)(v:Wi){W:World}(hb:Below ((w.alloc (.cells #[.int .i64 i.base,.int .i64 i.order,.int .i64 i.r,.int .i64 i.off,.bool i.g] 63)).alloc (.cells #[.int .i64 v.base,.int .i64 v.order] 65)).heap.size ((w.alloc (.cells #[.int .i64 i.base,.int .i64 i.order,.int .i64 i.r,.int .i64 i.off,.bool i.g] 63)).alloc (.cells #[.int .i64 v.base,.int .i64 v.order] 65)) W):Box2 w.heap.size i v W:=by
 have h1:=((Cells.new w 63 i.cells).alloc (.cells #[.int .i64 v.base,.int .i64 v.order] 65)).same (hb.block _ (by simp;omega));have h2:=(Cells.new (w.alloc (.cells #[.int .i64 i.base,.int .i64 i.order,.int .i64 i.r,.int .i64 i.off,.bool i.g] 63)) 65 v.cells).same (hb.block _ (by simp));have e1:(w.alloc (.cells #[.int .i64 i.base,.int .i64 i.order,.int .i64 i.r,.int .i64 i.off,.bool i.g] 63)).heap.size=w.heap.size+1:=by simp
 rw[e1] at h2;exact⟨⟨h1.cell 0 _ rfl,h1.cell 1 _ rfl,h1.cell 2 _ rfl,h1.cell 3 _ rfl,h1.cell 4 _ rfl⟩,h2.cell 0 _ rfl,h2.cell 1 _ rfl⟩
theorem Z0V{w:World}{s x fac:Nat}{i:It}{v:Wi}{T:Nat->World->Prop}{f:Nat->Bool}{Q:Ending->World->Prop}
  (ks:Calls prog 90 #[.pointer (some ⟨s,0,none⟩),.int .u32 x] ((w.alloc (.cells #[.int .i64 i.base,.int .i64 i.order,.int .i64 i.r,.int .i64 i.off,.bool i.g] 63)).alloc (.cells #[.int .i64 v.base,.int .i64 v.order] 65)) fun r w'=>∃g:Nat,r=.returned (.tuple #[.agg #[.pointer (some ⟨g,0,none⟩),.int .u32 x,.int .i64 fac],.int .i64 0])/\Below ((w.alloc (.cells #[.int .i64 i.base,.int .i64 i.order,.int .i64 i.r,.int .i64 i.off,.bool i.g] 63)).alloc (.cells #[.int .i64 v.base,.int .i64 v.order] 65)).heap.size ((w.alloc (.cells #[.int .i64 i.base,.int .i64 i.order,.int .i64 i.r,.int .i64 i.off,.bool i.g] 63)).alloc (.cells #[.int .i64 v.base,.int .i64 v.order] 65)) w'/\T g w')
  (hT:∀g W W',T g W->Below W.heap.size W W'->T g W')
  (hC:∀(g:Nat) (W:World) (k:Nat),Below ((w.alloc (.cells #[.int .i64 i.base,.int .i64 i.order,.int .i64 i.r,.int .i64 i.off,.bool i.g] 63)).alloc (.cells #[.int .i64 v.base,.int .i64 v.order] 65)).heap.size ((w.alloc (.cells #[.int .i64 i.base,.int .i64 i.order,.int .i64 i.r,.int .i64 i.off,.bool i.g] 63)).alloc (.cells #[.int .i64 v.base,.int .i64 v.order] 65)) W->T g W->k<2 ^ i.order.toNat->Q3g i v=true->Calls prog 93 #[.agg #[.pointer (some ⟨g,0,none⟩),.int .u32 x,.int .i64 fac],.int .i64 (i.base+(k:Int))] W fun r w'=>∃a b:Int,r=.returned (.tuple #[.agg #[.int .u32 a,.int .i64 b],.bool (f k)])/\Below W.heap.size W w')
  (hE:∀(er:Int) (w':World),((Q3g i v=false/\er=1)∨(Q3g i v=true/\¬(i.off+((2 ^ i.order.toNat:Nat):Int)<=((2 ^ v.order.toNat:Nat):Int))/\er=2))->Below w.heap.size w w'->Q (.returned (.tuple #[.slice none 0 0,.int .i64 er])) w')
  (hR:Q3g i v=true->i.off+((2 ^ i.order.toNat:Nat):Int)<=((2 ^ v.order.toNat:Nat):Int)->∀(a:Value) (w':World),OutM w w' a (movV f i v (2 ^ i.order.toNat))->Q (.returned (.tuple #[a,.int .i64 0])) w') :
  Calls prog 38 #[.pointer (some ⟨s,0,none⟩),.int .u32 x,.agg #[.int .i64 i.base,.int .i64 i.order,.int .i64 i.r,.int .i64 i.off,.bool i.g],.agg #[.int .i64 v.base,.int .i64 v.order]] w Q:=by
 have HW:Hid (∀W,Below ((w.alloc (.cells #[.int .i64 i.base,.int .i64 i.order,.int .i64 i.r,.int .i64 i.off,.bool i.g] 63)).alloc (.cells #[.int .i64 v.base,.int .i64 v.order] 65)).heap.size ((w.alloc (.cells #[.int .i64 i.base,.int .i64 i.order,.int .i64 i.r,.int .i64 i.off,.bool i.g] 63)).alloc (.cells #[.int .i64 v.base,.int .i64 v.order] 65)) W->Below w.heap.size w W/\Box2 w.heap.size i v W):=fun W hb=>⟨Q0b (Q0b hb),box2 i v hb⟩
 have HC:=Q0a hC;have F9:=Q0a hT;have KA:=Q0a hE;have LI:=Q0a hR;have EI:Hid (∀W,_):=fun W=>Z0Q W v
 have Jy:Hid (∀W,_):=fun W=>Z2d W i
 have FJ:Hid (∀W,_):=fun W=>Q2s W i.base
 have LD:Hid (∀W,_):=fun W=>Q2s W v.base
 have Jg:Hid (Q3g i v=(Q0W i&&(Q0v v.base v.order&&(decide (i.base<128)==decide (v.base<128))))):=rfl;have HP:Hid (Q3g i v=true->Q0v i.base i.order=true/\Q0v v.base v.order=true/\1<=i.r/\i.r<=15/\0<=i.off/\i.off<256):=fun h=>by
  unfold Q3g Q0W at h;simp only[J3C,decide_eq_true_eq] at h;exact⟨h.1.1,h.2.1,h.1.2⟩
 generalize hW0:((w.alloc (.cells #[.int .i64 i.base,.int .i64 i.order,.int .i64 i.r,.int .i64 i.off,.bool i.g] 63)).alloc (.cells #[.int .i64 v.base,.int .i64 v.order] 65))=W0 at *
 obtain⟨ib,io,ir,iff,ig⟩:=i;obtain⟨vb,vo⟩:=v;dsimp only at *
 clear hC hT hE hR;generalize Q3g ⟨ib,io,ir,iff,ig⟩ ⟨vb,vo⟩=ia at *
 go_enter func38,ntmps38;go_wp2_with fail;refine ks.mono ?_;rintro r w1⟨g,rfl,Aq,BS⟩;clear hW0 ks;have Jn:=Aq.alloc Aq.size (.cells #[.pointer (some ⟨g,0,none⟩),.int .u32 x,.int .i64 fac] 191);have Gx:=Cells.new w1 191 [.pointer (some ⟨g,0,none⟩),.int .u32 x,.int .i64 fac];obtain⟨⟨c0,c1,c2,c3,c4⟩,v0,v1⟩:=(HW.out _ Jn).2;go_wp2_with fail;refine(Jy.out _).mono ?_;rintro r w2⟨xx,rfl,Ae⟩;have HS:Hid (∀W,Below w2.heap.size w2 W->(Below w.heap.size w W/\Below W0.heap.size W0 W/\T g W)/\Box2 w.heap.size ⟨ib,io,ir,iff,ig⟩ ⟨vb,vo⟩ W/\W.cell? ⟨w1.heap.size,0,none⟩=some (.pointer (some ⟨g,0,none⟩))/\W.cell? ⟨w1.heap.size,1,none⟩=some (.int .u32 x)/\W.cell? ⟨w1.heap.size,2,none⟩=some (.int .i64 fac)):=fun W hb=>by
  have h2:=Jn.trans (Ae.mono Jn.size);have h3:=h2.trans (hb.mono h2.size);have hc:=(Gx.same (Ae.block _ Gx.lt)).same (hb.block _ (J3j Gx.lt Ae.size));exact⟨⟨(HW.out _ h3).1,h3,F9.out _ _ _ (F9.out _ _ _ (F9.out _ _ _ BS ((Below.refl _ _).alloc (J3h _) _)) Ae) hb⟩,(HW.out _ h3).2,hc.cell 0 _ rfl,hc.cell 1 _ rfl,hc.cell 2 _ rfl⟩
 generalize w1.heap.size=B at *
 clear Jn Gx Aq BS Ae c0 c1 c2 c3 c4 v0 v1 HW F9 Jy;obtain⟨-,⟨⟨c0,c1,c2,c3,c4⟩,v0,v1⟩,s0,s1,s2⟩:=HS.out _ (Below.refl _ _);obtain⟨-,⟨⟨d0,d1,d2,d3,d4⟩,e0,e1⟩,-,-,-⟩:=HS.out _ (Below.refl w2.heap.size w2).drew;go_upto_region 5 with fail
 go_cut [32] from 33 to 48 (fun bb wc=>bb=.bool (!ia)/\Below w2.heap.size w2 wc)
 case first =>
  clear HC HP KA LI;generalize Q0W ⟨ib,io,ir,iff,ig⟩=cd at *
  generalize Q0v vb vo=av at *
  generalize decide (ib<128)=k1 at *
  generalize decide (vb<128)=k2 at *
  cases cd with
  | false =>
   have HE:Hid (∀n,Below w2.heap.size w2 (w2.drewN n)):=fun n=>Q0D (Below.refl w2.heap.size w2) n
   obtain rfl:ia=false:=by
    have:=Jg.out;rw[J7w] at this;exact this
   clear Jg HS
   go_quiet (first|(go_at_call 96;exact(FJ.out _)))
   go_wp2_with fail;go_meet;exact⟨rfl,HE.out _⟩
  | true =>
   cases av with
   | false =>
    obtain rfl:ia=false:=by
     have:=Jg.out;rw[J7w,Bool.and_false] at this;exact this
    clear Jg
    first|go_region_with (first|(go_at_call 95;refine(EI.out _).mono ?_;rintro r w5⟨rfl,As⟩;have BQ:=Q0a ((Below.refl w2.heap.size w2).drew.trans (As.mono (J3h _)));clear As))|fail
    all_goals (go_wp2_with fail;go_meet;exact⟨rfl,BQ.out⟩)
   | true =>
    by_cases hk:k1=k2
    ·subst hk;obtain rfl:ia=true:=by
      have:=Jg.out;rw[J4r,J4r,beq_self_eq_true] at this;exact this
     clear Jg
     go_region_held3 (fun W=>W.cell? ⟨w.heap.size,0,none⟩=some (.int .i64 ib)/\W.cell? ⟨w.heap.size+1,0,none⟩=some (.int .i64 vb)/\W.cell? ⟨w.heap.size+1,1,none⟩=some (.int .i64 vo)) (first|exact⟨c0,v0,v1⟩|exact⟨d0,e0,e1⟩|exact Q3)
     (first|(go_at_call 95;refine(EI.out _).mono ?_;rintro r w5⟨rfl,As⟩;have I3:=HS.out w5 ((Below.refl w2.heap.size w2).drew.trans (As.mono (J3h _)));have Q3:=(⟨I3.2.1.1.1,I3.2.1.2.1,I3.2.1.2.2⟩:_/\_/\_);have BQ:=Q0a ((Below.refl w2.heap.size w2).drew.trans (As.mono (J3h _)));clear I3 As)|(go_at_call_of 96 ib;refine(FJ.out _).mono ?_;rintro r w'⟨rfl,rfl⟩)|(go_at_call_of 96 vb;refine(LD.out _).mono ?_;rintro r w'⟨rfl,rfl⟩))
     all_goals (go_wp2_with fail;go_meet;exact⟨rfl,BQ.out⟩)
    ·obtain rfl:ia=false:=by
      have:=Jg.out;rw[J4r,J4r,beq_false_of_ne hk] at this;exact this
     clear Jg;have BC:(k1 != k2)=true:=bne_iff_ne.2 hk
     go_region_held3 (fun W=>W.cell? ⟨w.heap.size,0,none⟩=some (.int .i64 ib)/\W.cell? ⟨w.heap.size+1,0,none⟩=some (.int .i64 vb)/\W.cell? ⟨w.heap.size+1,1,none⟩=some (.int .i64 vo)) (first|exact⟨c0,v0,v1⟩|exact⟨d0,e0,e1⟩|exact Q3)
     (first|(go_at_call 95;refine(EI.out _).mono ?_;rintro r w5⟨rfl,As⟩;have I3:=HS.out w5 ((Below.refl w2.heap.size w2).drew.trans (As.mono (J3h _)));have Q3:=(⟨I3.2.1.1.1,I3.2.1.2.1,I3.2.1.2.2⟩:_/\_/\_);have BQ:=Q0a ((Below.refl w2.heap.size w2).drew.trans (As.mono (J3h _)));clear I3 As)|(go_at_call_of 96 ib;refine(FJ.out _).mono ?_;rintro r w'⟨rfl,rfl⟩)|(go_at_call_of 96 vb;refine(LD.out _).mono ?_;rintro r w'⟨rfl,rfl⟩))
     all_goals (go_wp2_with fail;go_meet;exact⟨by simp[beq_false_of_ne hk],BQ.out⟩)
 obtain⟨rfl,As⟩:=hcut;clear c0 c1 c2 c3 c4 v0 v1 s0 s1 s2 d0 d1 d2 d3 d4 e0 e1 Jg EI FJ LD;cases ia with
 | false =>
  have HE:=Q0a (KA.out 1 wc (.inl ⟨rfl,rfl⟩) (HS.out wc As).1.1);clear HS HC HP As KA LI;go_wp2_with fail
  (try go_ret2);exact HE.out
 | true =>
  obtain⟨pa,pv,G6,Ei,Qf,FW⟩:=HP.out rfl;obtain⟨pa1,pa2,pa3,pa4,pa5⟩:=Q0L pa;obtain⟨pv1,pv2,pv3,pv4,pv5⟩:=Q0L pv;have BQ:=Q0a As;obtain⟨-,⟨⟨c0,c1,c2,c3,c4⟩,v0,v1⟩,s0,s1,s2⟩:=HS.out wc As;obtain⟨-,⟨⟨d0,d1,d2,d3,d4⟩,e0,e1⟩,-,-,-⟩:=HS.out wc.drew As.drew;clear HP pa pv As;obtain⟨ko,rfl⟩:=J4F pa2;obtain⟨kv,rfl⟩:=J4F pv2;rw[J4g] at *
  rw[J4g] at LI KA;have EV:0<2 ^ ko:=Nat.pow_pos (by omega);go_upto_region 7 with fail;go_region;obtain⟨po,El⟩:∃po:Nat,po=2 ^ ko:=⟨_,rfl⟩
  obtain⟨pv,Ly⟩:∃pv:Nat,pv=2 ^ kv:=⟨_,rfl⟩
  have epo:(2:Int) ^ ko=(po:Int):=by rw[El];simp
  have epv:(2:Int) ^ kv=(pv:Int):=by rw[Ly];simp
  rw[<- El] at EV pa4 pa5;rw[<- Ly] at pv4 pv5;have CU:wrap64 (po:Int)=(po:Int):=Z7j pa5;have E3:wrap64 (pv:Int)=(pv:Int):=Z7j pv5;have FY:wrap64 (iff+(po:Int))=iff+(po:Int):=Z9G pa5 Qf FW;simp only[epo,epv,CU,E3,FY];have DJ:Hid ((((2 ^ ko:Nat):Int))=(po:Int)/\(((2 ^ kv:Nat):Int))=(pv:Int)/\(2:Int) ^ ko=(po:Int)/\(2:Int) ^ kv=(pv:Int)/\po=2 ^ ko):=⟨by rw[El],by rw[Ly],epo,epv,El⟩
  have QC:=Q0a epo;have OE:=Q0a CU;clear epo epv El Ly CU E3 FY;have HD:=Q0a (Below.drew BQ.out);by_cases Af:iff+(po:Int)<=(pv:Int)
  ·have OC:¬((pv:Int)<iff+(po:Int)):=by omega
   clear d0 d1 d2 d3 d4 e0 e1 c0 c1 c2 c3 c4 v0 v1 s0 s1 s2;obtain⟨-,⟨⟨d0,d1,d2,d3,d4⟩,e0,e1⟩,-,-,-⟩:=HS.out wc.drew HD.out;go_wp2_with fail;simp only[QC.out,OE.out];clear d0 d1 d2 d3 d4 e0 e1;generalize wc.drew=w3 at *
   have HI:Hid (0<=ib/\ib.toNat+po<=256/\0<=vb/\vb.toNat+pv<=256/\po<=128/\0<=iff/\iff<256):=⟨pa1,pa4,pv1,pv4,pa5,Qf,FW⟩
   clear pa1 pa3 pa4 pa5 pv1 pv3 pv4 pv5 pa2 pv2 G6 Ei Qf FW EV OC BQ
   go_loopg [14,63] po (fun gk ov kk wr=>∃k:Nat,kk=.int .i64 k/\k+gk=po/\OutM w3 wr ov (movV f ⟨ib,(ko:Int),ir,iff,ig⟩ ⟨vb,(kv:Int)⟩ k))
   case atStart=>exact⟨0,rfl,by omega,OutM.nil w3⟩
   case round =>
    obtain⟨k,rfl,BR,AS⟩:=hrel;have HO:=Q0a AS;have Dz:=Q0a BR;clear BR;have BA:Below w2.heap.size w2 wr:=HD.out.trans (AS.2.mono HD.out.size);by_cases Aa:k<po
    ·obtain⟨⟨-,Gw,Sb⟩,⟨⟨c0,c1,c2,c3,c4⟩,v0,v1⟩,s0,s1,s2⟩:=HS.out wr BA;have kc:=HC.out g wr k Gw Sb (by have:=DJ.out.2.2.2.2;omega) (by trivial);have CH:=Q0a (movV_succ f ⟨ib,(ko:Int),ir,iff,ig⟩ ⟨vb,(kv:Int)⟩ k);have Dl:=Q0a BA;have CG:(k:Int)<(po:Int):=by omega
     have Du:=Q0a Aa;have Ty:(k:Int)<128:=by have:=HI.out;omega
     have BE:(0:Int)<=(k:Int):=by omega
     have LY:IntKind.i64.wrap (ib+(k:Int))=ib+(k:Int):=Go.IntWalk.i64_in _ (by have:=HI.out;omega);have Pt:IntKind.i64.wrap (vb+iff)=vb+iff:=Go.IntWalk.i64_in _ (by have:=HI.out;omega);have X8:IntKind.i64.wrap (vb+iff+(k:Int))=vb+iff+(k:Int):=Go.IntWalk.i64_in _ (by have:=HI.out;omega);have Po:(movV f ⟨ib,(ko:Int),ir,iff,ig⟩ ⟨vb,(kv:Int)⟩ k).length<=16777216:=by
      have h1:=Z2j f ⟨ib,(ko:Int),ir,iff,ig⟩ ⟨vb,(kv:Int)⟩ k;have h2:=HI.out;omega
     have Fm:=Q0a Po;obtain⟨fk,DH⟩:∃b,b=f k:=⟨_,rfl⟩
     rw[<- DH] at kc CH;clear AS BA Gw Sb DH Po;go_wp2_with fail;refine kc.mono ?_;rintro r w4⟨a,b,rfl,Av⟩;have IO:=Q0a (Av.alloc Av.size (.cells #[.int .u32 a,.int .i64 b] 72));have Pm:=Q0a (HO.out.below IO.out);obtain⟨-,⟨⟨d0,d1,d2,d3,d4⟩,e0,e1⟩,-,-,-⟩:=HS.out _ (Dl.out.trans (IO.out.mono Dl.out.size));clear Av kc c0 c1 c2 c3 c4 v0 v1 s0 s1 s2 HO Dl IO;cases fk with
     | true =>
      obtain⟨v',w',AK,Sg⟩:=Pm.out.app Fm.out (itMv ⟨ib,(ko:Int),ir,iff,ig⟩ ⟨vb,(kv:Int)⟩ k) 61;have HR:Hid (OutM w3 w' v' (movV f ⟨ib,(ko:Int),ir,iff,ig⟩ ⟨vb,(kv:Int)⟩ (k+1))):=by
       rw[CH.out,if_pos rfl];exact Sg
      have J1:(w4.alloc (.cells #[.int .u32 a,.int .i64 b] 72)).heap.size=w4.heap.size+1:=by simp
      rw[J1] at AK;unfold itMv at AK;dsimp only at AK;clear J1 Sg CH Pm Fm;go_wp2_with (at_builtin;refine Lib.wpList_append_run _ rfl _ _ _ _ rfl _ _ rfl rfl _ _ AK ?_);go_roundg (po-(k+1))
      case measure=>have:=Dz.out;omega
      case rel=>exact⟨k+1,by go_num,by have:=Du.out;omega,HR.out⟩
     | false =>
      have HR:Hid (OutM w3 (w4.alloc (.cells #[.int .u32 a,.int .i64 b] 72)) u14 (movV f ⟨ib,(ko:Int),ir,iff,ig⟩ ⟨vb,(kv:Int)⟩ (k+1))):=by
       rw[CH.out,if_neg (by decide),J5h];exact Pm.out
      clear CH Pm Fm;go_wp2_with fail;go_roundg (po-(k+1))
      case measure=>have:=Dz.out;omega
      case rel=>exact⟨k+1,by go_num,by have:=Du.out;omega,HR.out⟩
    ·obtain rfl:k=po:=by have:=Dz.out;omega
     have HX:Hid (Q (.returned (.tuple #[u14,.int .i64 0])) wr):=by
      refine LI.out (by trivial) ?_ _ _ ?_
      ·rw[DJ.out.1,DJ.out.2.1];exact Af
      ·rw[<- DJ.out.2.2.2.2];have h1:=(HS.out w3 HD.out).1.1;exact⟨Q4V AS.1 h1.size,h1.trans (AS.2.mono h1.size)⟩
     clear AS BA HO HS HC KA LI;go_wp2_with fail
     (try go_ret2);exact HX.out
  ·have OC:(pv:Int)<iff+(po:Int):=by omega
   have HE:=Q0a (KA.out 2 wc.drew (.inr ⟨by trivial,by rw[DJ.out.1,DJ.out.2.1];first|exact Af|omega,rfl⟩) (HS.out wc.drew HD.out).1.1);clear HS HC BQ KA LI;go_wp2_with fail
   (try go_ret2);exact HE.out
theorem Z3S{w:World}{Z:SP}{fr:List Nat}{N K:Nat}{M:Int}(hs:Sep w Z.hl)(ok:Z.Ok fr N K M){x:Nat}(hx:x<4294967296)(i:It)(v:Wi)(hi:i.Wf)(hv:v.Wf) :
  Calls prog 38 #[.pointer (some ⟨Z.s,0,none⟩),.int .u32 x,.agg #[.int .i64 i.base,.int .i64 i.order,.int .i64 i.r,.int .i64 i.off,.bool i.g],.agg #[.int .i64 v.base,.int .i64 v.order]] w (MvsR Z x i v w):=by
 cases hp:pget Z.S.l 1 x with
 | none =>
  refine(Q6u hs ok.core hx i v 8 (by decide) (.inl ⟨hp,rfl⟩)).mono ?_;rintro r w'⟨rfl,hb⟩;exact⟨hb,.inl ⟨8,by decide,rfl,.inl ⟨hp,rfl⟩⟩⟩
 | some p =>
  by_cases hk:p.kind=2
  case neg =>
   refine(Q6u hs ok.core hx i v 10 (by decide) (.inr ⟨p,hp,hk,rfl⟩)).mono ?_;rintro r w'⟨rfl,hb⟩;exact⟨hb,.inl ⟨10,by decide,rfl,.inr ⟨p,hp,.inl ⟨hk,rfl⟩⟩⟩⟩
  have Bv:Below w.heap.size w ((w.alloc (.cells #[.int .i64 i.base,.int .i64 i.order,.int .i64 i.r,.int .i64 i.off,.bool i.g] 63)).alloc (.cells #[.int .i64 v.base,.int .i64 v.order] 65)):=((Below.refl w.heap.size w).alloc (J3h _) _).alloc (by simp) _;have s0:=(hs.grown Bv).sep;have Ff:=(pget_some.1 hp).1;have Ao:=(pget_some.1 hp).2.2;refine Z0V (fac:=p.fac) (f:=Q1W Z x i) (T:=fun g W=>Sep W Z.hl/\TblZ Z p g W) ?_ ?_ ?_ ?_ ?_
  ·refine(Q0Y s0 ok.core hx hp hk).mono ?_;rintro r w'⟨g,rfl,hb,hg⟩;exact⟨g,rfl,hb,(s0.grown hb).sep,hg⟩
  ·rintro g W W'⟨h1,h2⟩ hb;exact⟨(h1.grown hb).sep,h2.grown h1 hb⟩
  ·rintro g W k-⟨h1,h2⟩ Aa GI;have AQ:Q0v i.base i.order=true:=by
    unfold Q3g Q0W at GI;simp only[J3C,decide_eq_true_eq] at GI;exact GI.1.1
   obtain⟨q1,q2,q3,q4,q5⟩:=Q0L AQ;have T:=(ok.tpi.x (p.fac:Int)).tt ok.core Ff Ao hk (SP.sS h1) h2.c;have Oc:0<=i.base+(k:Int)/\i.base+(k:Int)<256:=by omega
   have Rh:(i.base+(k:Int)).toNat=i.base.toNat+k:=by omega
   have Bb:(Z.tb (x%256)).at' (i.base+(k:Int))=Q0f Z.S.l Z.tb x (i.base.toNat+k):=by
    unfold TB.at';rw[if_pos Oc,Rh,Q0h hp hk (by omega)]
   have kc:=Q1y T (x:Int) (p.fac:Int) (i.base+(k:Int)) fun e he=>by
    rw[Bb] at he;exact ok.fpi.low ok.core.inv.lok he
   rw[Bb] at kc;obtain⟨a,b,Dx⟩:=Q3t (Q0f Z.S.l Z.tb x (i.base.toNat+k));rw[Dx] at kc;refine kc.mono ?_;rintro r w'⟨rfl,hb⟩;exact⟨a,b,rfl,hb⟩
  ·intro er w' he hb;refine⟨hb,.inl ⟨er,?_,rfl,.inr ⟨p,hp,.inr ⟨hk,he⟩⟩⟩⟩;rcases he with ⟨_,rfl⟩|⟨_,_,rfl⟩ <;> decide
  ·intro ha hf a w' ho;obtain⟨a0,cap,rfl,AL⟩:=Z1W ho.1;have AW:(movV (Q1W Z x i) i v (2 ^ i.order.toNat)).length<=cap:=by
    rcases ho.1.2 with ⟨e,h0⟩|⟨g,c,Ak,e,_,_,hn,_⟩
    ·rw[h0];exact J5d _
    ·cases e;exact hn
   refine⟨ho.2,.inr ⟨p,a0,cap,_,hp,hk,ha,hf,rfl,rfl,AW,?_⟩⟩;have AQ:Q0v i.base i.order=true/\Q0v v.base v.order=true/\1<=i.r/\i.r<=15/\0<=i.off/\i.off<256:=by
    unfold Q3g Q0W at ha;simp only[J3C,decide_eq_true_eq] at ha;exact⟨ha.1.1,ha.2.1,ha.1.2⟩
   obtain⟨q1,q2,q3,q4,q5⟩:=Q0L AQ.1;obtain⟨r1,r2,r3,r4,r5⟩:=Q0L AQ.2.1;refine⟨fun j hj=>?_,fun ad h0 JI DV=>?_⟩
   ·have KN:(movV (Q1W Z x i) i v (2 ^ i.order.toNat))[j]?=some ((movV (Q1W Z x i) i v (2 ^ i.order.toNat))[j]):=J5s hj;have Gn:(movV (Q1W Z x i) i v (2 ^ i.order.toNat)).getD j noMv=(movV (Q1W Z x i) i v (2 ^ i.order.toNat))[j]:=by rw[J7y,KN];rfl
    have A2:(movV (Q1W Z x i) i v (2 ^ i.order.toNat))[j]∈movV (Q1W Z x i) i v (2 ^ i.order.toNat):=J6z hj;obtain⟨g,hg,_,Aa,_⟩:=AL (j*4) _ (Q1k _ j 0 _ _ KN rfl);refine⟨g,0,hg,Aa,fun t u hu=>?_,?_⟩
    ·have hu:((movV (Q1W Z x i) i v (2 ^ i.order.toNat))[j]).cells[t]?=some u:=by rw[<- Gn];exact hu
     obtain⟨g',FE,_,_,hc⟩:=AL (j*4+t) u (Q1k _ j t _ _ KN hu);rw[hg] at FE;cases FE;rw[J5F];exact hc
    ·show Mv.Wf ((movV (Q1W Z x i) i v (2 ^ i.order.toNat)).getD j noMv);rw[Gn];unfold movV at A2;obtain⟨k,BC,e⟩:=J3n.1 A2;have Ax:=J3x.1 (J3B.1 BC).1;unfold movV;rw[<- e];unfold itMv;exact⟨⟨by dsimp only;omega,by dsimp only;omega⟩,⟨by dsimp only;omega,by dsimp only;omega⟩,⟨by dsimp only;omega,by dsimp only;omega⟩⟩
   ·subst JI;have hL:(movV (Q1W Z x i) i v (2 ^ i.order.toNat)).length≠0:=h0;have Gz:0<(movV (Q1W Z x i) i v (2 ^ i.order.toNat)).length:=by omega
    obtain⟨g,hg,Mj,_⟩:=AL (0*4) _ (Q1k _ 0 0 _ _ (J5s Gz) rfl);cases hg;exact absurd (hs.lt DV) (by dsimp only;omega)
theorem OutM.aside{w w':World}{v:Value}{L:List Mv}{H:HL}(hs:Sep w H)(h:OutM w w' v L)(Gt:∀m∈L,m.Wf):∃(a:Option Addr) (cap:Nat),v=.slice a L.length cap/\L.length<=cap/\AsideM H L.length (fun j=>L.getD j noMv) a w':=by
 obtain⟨a0,cap,rfl,AL⟩:=Z1W h.1;have AW:L.length<=cap:=by
  rcases h.1.2 with ⟨e,h0⟩|⟨g,c,Ak,e,_,_,hn,_⟩
  ·rw[h0];exact J5d _
  ·cases e;exact hn
 refine⟨a0,cap,rfl,AW,fun j hj=>?_,fun ad h0 JI DV=>?_⟩
 ·have KN:L[j]?=some L[j]:=J5s hj;have Gn:L.getD j noMv=L[j]:=by rw[J7y,KN];rfl
  obtain⟨g,hg,_,Aa,_⟩:=AL (j*4) _ (Q1k _ j 0 _ _ KN rfl);refine⟨g,0,hg,Aa,fun t u hu=>?_,?_⟩
  ·have hu:(L[j]).cells[t]?=some u:=by rw[<- Gn];exact hu
   obtain⟨g',FE,_,_,hc⟩:=AL (j*4+t) u (Q1k _ j t _ _ KN hu);rw[hg] at FE;cases FE;rw[J5F];exact hc
  ·show Mv.Wf (L.getD j noMv);rw[Gn];exact Gt _ (J6z hj)
 ·subst JI;have Gz:0<L.length:=by omega
  obtain⟨g,hg,Mj,_⟩:=AL (0*4) _ (Q1k _ 0 0 _ _ (J5s Gz) rfl);cases hg;exact absurd (hs.lt DV) (by dsimp only;omega)
def mvL(A:Nat->Mv)(n:Nat):List Mv:=(List.range n).map A
theorem Z7k(A:Nat->Mv)(n:Nat):(mvL A n).length=n:=by simp[mvL]
theorem J0n(A:Nat->Mv){n j:Nat}(h:j<n):(mvL A n)[j]?=some (A j):=by simp[mvL,h]
theorem Q6v:∀(L:List Mv),∀u∈L.flatMap Mv.cells,u.oneCell'=true
 | [],u,h=>by cases h
 | m::r,u,h=>by
  rw[J3E] at h;rcases J3Q.1 h with h|h
  ·simp only[Mv.cells,J3m,List.mem_nil_iff,or_false] at h;rcases h with rfl|rfl|rfl|rfl <;> rfl
  ·exact Q6v r u h
theorem Q6w{w:World}(base:Nat)(t ty e:TypeId)(i:TypeInfo)(size:Nat)(ht:prog.underlying t=some (.slice e))(hi:prog.info? e=some i)
  (v:Value) (n c:Nat) (xs:List Value) (An:w.ownsRow base e size v n xs):(Builtin.append_ #[t,t] ty #[v,.slice none 0 c]).run prog w=.ok v w:=by
 rcases An.2 with ⟨rfl,rfl⟩|⟨g,cap,Ak,rfl,_,_,Tq,_⟩
 ·simp[Builtin.append_,run_underlying ht,sizeOf,typeInfo,hi,Builtin.lenOf,Builtin.firstCells]
 ·simp[Builtin.append_,run_underlying ht,sizeOf,typeInfo,hi,Builtin.lenOf,Builtin.firstCells,Tq,storeCells]
theorem OutM.put{w wr:World}{v:Value}{L:List Mv}(h:OutM w wr v L){n cap:Nat}{A:Nat->Mv}{a:Option Addr}(hM:IsMv wr a n A)(hl:L.length+n<=65536)(ty:TypeId) :
  ∃v' w',(Builtin.append_ #[61,61] ty #[v,.slice a n cap]).run prog wr=.ok v' w'/\OutM w w' v' (L++mvL A n)/\(∀b,b<wr.heap.size->v.ownBlock≠some b->w'.heap[b]?=wr.heap[b]?)/\wr.heap.size<=w'.heap.size:=by
 obtain⟨i0,hi,Bu,AT,Bk⟩:=info_parts J0m;have GW:=Z7k A n;by_cases ha:a=none
 ·subst ha;have hn:n=0:=by
   refine Classical.byContradiction fun hc=>?_
   obtain⟨g,off,e,_⟩:=hM 0 (by omega);cases e
  subst hn;refine⟨v,wr,Q6w w.heap.size 61 ty 90 i0 4 underlying61 hi v _ _ _ h.1,?_,fun _ _ _=>rfl,J3h _⟩;have:mvL A 0=[]:=rfl;rw[this,J5h];exact h
 ·obtain⟨ad,rfl⟩:=J7n.1 ha;obtain⟨v',w',hr,q1,q2,_,q4⟩:=run_append_own_at (P:=prog) wr w.heap.size 61 ty 90 i0 (.agg #[.int .i64 0,.int .i64 0,.int .i64 0,.bool false]) 4 32 underlying61 hi Bu AT Bk rfl (by decide) v L.length (L.flatMap Mv.cells) h.1 ad n cap ((mvL A n).flatMap Mv.cells) (by rw[Q2J,GW]) (by
   intro j u hj;have Gy:j<n*4:=by
    have:=(J3y.1 hj).1
    rwa [Q2J,GW] at this
   have hd:j/4<n:=by omega
   obtain⟨g,off,e,hg,hc,_⟩:=hM (j/4) hd;cases e;have PM:j%4<4:=J6h _ (by omega);have Bi:(A (j/4)).cells.length=4:=rfl;have Ue:(A (j/4)).cells[j%4]?=some ((A (j/4)).cells[j%4]'(by rw[Bi];exact PM)):=J5s _;have hx:=Q1k (mvL A n) (j/4) (j%4) _ _ (J0n A hd) Ue;rw[show j/4*4+j%4=j by omega,hj] at hx;have hv:=hc (j%4) _ Ue;rw[<- J3Y hx] at hv;have e:(⟨g,off,none⟩:Addr).add j=⟨g,off+j,none⟩:=by unfold Addr.add;split <;> simp_all
   rw[e,show off+j=off+j/4*4+j%4 by omega];exact hv) (Q6v _) (by unfold maxLen;omega) (by omega) h.2.size
  refine⟨v',w',hr,⟨?_,?_⟩,fun b hb Ac=>q2.block b hb (fun e=>Ac e.symm),q2.size⟩
  ·rw[J3N,GW,J3M];exact q1
  ·exact(Below.refl _ _).trans (h.2.trans ((Below.refl _ _).mono h.2.size |>.grown q2 h.2.size (fun b hb=>(h.1.lt b hb).1)))
def Q5e(Z:SP)(x:Nat)(v:Wi)(i:It):Prop:=∃p,pget Z.S.l 1 x=some p/\p.kind=2/\Q3g i v=true/\i.off+((2 ^ i.order.toNat:Nat):Int)<=((2 ^ v.order.toNat:Nat):Int)
def Q1g(Z:SP)(x:Nat)(v:Wi)(its:List It):List Mv:=its.flatMap fun i=>movV (Q1W Z x i) i v (2 ^ i.order.toNat)
def CMvR(Z:SP)(x:Nat)(v:Wi)(its:List It)(w:World)(r:Ending)(w':World):Prop:=
 (∃er i,er≠0/\i∈its/\MvsE Z x i v er/\r=.returned (.tuple #[.slice none 0 0,.int .i64 er])/\Below w.heap.size w w') ∨
 ((∀i∈its,Q5e Z x v i)/\∃ov,r=.returned (.tuple #[ov,.int .i64 0])/\OutM w w' ov (Q1g Z x v its))
theorem Z9H(L:List Mv):mvL (fun j=>L.getD j noMv) L.length=L:=by
 apply J4J
 intro j;by_cases h:j<L.length
 ·rw[J0n _ h,J7y,J5s h];rfl
 ·rw[J4Q (by rw[Z7k];omega),J4Q (by omega)]
theorem Q7F(Z:SP)(x:Nat)(v:Wi){its:List It}{k:Nat}{i:It}(h:its[k]?=some i):Q1g Z x v (its.take (k+1))=Q1g Z x v (its.take k)++movV (Q1W Z x i) i v (2 ^ i.order.toNat):=by
 rw[J4X,h];simp[Q1g]
theorem Q4u(Z:SP)(x:Nat)(v:Wi):∀its:List It,(∀i∈its,Q5e Z x v i)->(Q1g Z x v its).length<=128*its.length
 | [],_=>by simp[Q1g]
 | i::r,h=>by
  have h1:=Q4u Z x v r fun j hj=>h j (J7q _ hj)
  obtain⟨p,_,_,ha,_⟩:=h i (by simp);have AQ:Q0v i.base i.order=true:=by
   unfold Q3g Q0W at ha;simp only[J3C] at ha;exact ha.1.1
  have h2:=Z2j (Q1W Z x i) i v (2 ^ i.order.toNat);have h3:=(Q0L AQ).2.2.2.2;have e:Q1g Z x v (i::r)=movV (Q1W Z x i) i v (2 ^ i.order.toNat)++Q1g Z x v r:=rfl;rw[e,J3N,J3O];omega
theorem MvsR.shape{Z:SP}{x:Nat}{i:It}{v:Wi}{w w':World}{r:Ending}(h:MvsR Z x i v w r w'):Below w.heap.size w w'/\∃(a:Option Addr) (n cap:Nat) (er:Int),r=.returned (.tuple #[.slice a n cap,.int .i64 er]) /\
  ((er≠0/\MvsE Z x i v er)∨(er=0/\Q5e Z x v i/\n=(movV (Q1W Z x i) i v (2 ^ i.order.toNat)).length/\IsMv w' a n (fun j=>(movV (Q1W Z x i) i v (2 ^ i.order.toNat)).getD j noMv))):=by
 obtain⟨hb,hr⟩:=h;rcases hr with ⟨er,h0,rfl,he⟩|⟨p,a,cap,L,hp,hk,ha,hf,rfl,rfl,_,hA⟩
 ·exact⟨hb,none,0,0,er,rfl,.inl ⟨h0,he⟩⟩
 ·exact⟨hb,a,_,cap,0,rfl,.inr ⟨rfl,⟨p,hp,hk,ha,hf⟩,rfl,hA.1⟩⟩
theorem Z0W{w:World}{Z:SP}{fr:List Nat}{N K:Nat}{M:Int}(ok:Z.Ok fr N K M)(h:Sep w Z.hl){c k:Nat}(hc:CarC Z c k w){x:Nat}(hx:x<4294967296)(v:Wi)(hv:v.Wf){its:List It}{ia:Option Addr}(ic:Nat)(Ff:IsI w ia its)(Gt:∀i∈its,i.Wf)(hl:its.length<=20) :
  Calls prog 118 #[.pointer (some ⟨c,0,none⟩),.int .u32 x,.agg #[.int .i64 v.base,.int .i64 v.order],.slice ia its.length ic] w (CMvR Z x v its w):=by
 have b0:Below w.heap.size w (w.alloc (.cells #[.int .i64 v.base,.int .i64 v.order] 65)):=(Below.refl _ _).alloc (J3h _) _;have cw:=Cells.new w 65 [.int .i64 v.base,.int .i64 v.order];have HV:Hid (∀V,Below (w.alloc (.cells #[.int .i64 v.base,.int .i64 v.order] 65)).heap.size (w.alloc (.cells #[.int .i64 v.base,.int .i64 v.order] 65)) V->((V.cell? ⟨c,0,none⟩=some (.pointer (some ⟨k,0,none⟩))/\V.cell? ⟨k,0,none⟩=some (.pointer (some ⟨Z.s,0,none⟩)))/\V.cell? ⟨w.heap.size,0,none⟩=some (.int .i64 v.base)/\V.cell? ⟨w.heap.size,1,none⟩=some (.int .i64 v.order))/\IsI V ia its /\
   ∀i∈its,Calls prog 38 #[.pointer (some ⟨Z.s,0,none⟩),.int .u32 x,.agg #[.int .i64 i.base,.int .i64 i.order,.int .i64 i.r,.int .i64 i.off,.bool i.g],.agg #[.int .i64 v.base,.int .i64 v.order]] V (MvsR Z x i v V)):=fun V hV=>by
  have hb:=Q0b hV;have s1:=h.grown hb;have cv:=cw.same (hV.block _ cw.lt);exact⟨⟨(hc.step rfl s1).cells,cv.cell 0 _ rfl,cv.cell 1 _ rfl⟩,Ff.below hb,fun i hi=>Z3S s1.sep ok hx i v (Gt i hi) hv⟩
 have HE:Hid (∀V er i,er≠0->i∈its->MvsE Z x i v er->Below (w.alloc (.cells #[.int .i64 v.base,.int .i64 v.order] 65)).heap.size (w.alloc (.cells #[.int .i64 v.base,.int .i64 v.order] 65)) V->CMvR Z x v its w (.returned (.tuple #[.slice none 0 0,.int .i64 er])) V):=fun V er i h0 hi he hV=>.inl ⟨er,i,h0,hi,he,rfl,Q0b hV⟩
 have HD:Hid (∀V ov,(∀i∈its,Q5e Z x v i)->OutM (w.alloc (.cells #[.int .i64 v.base,.int .i64 v.order] 65)) V ov (Q1g Z x v its)->CMvR Z x v its w (.returned (.tuple #[ov,.int .i64 0])) V):=fun V ov hf ho=>.inr ⟨hf,ov,rfl,Q4V ho.1 b0.size,b0.trans (ho.2.mono b0.size)⟩
 generalize CMvR Z x v its w=Q at *
 obtain⟨vb,vo⟩:=v;dsimp only at *
 obtain⟨nI,I5⟩:∃n,n=its.length:=⟨_,rfl⟩
 have HN:=Q0a I5;rw[<- I5] at hl;rw[<- I5];have X3:(nI:Int)<=20:=by omega
 clear ok h hc hx Ff Gt b0 cw I5 hv;go_enter func118,ntmps118;go_wp2_with fail;generalize hW0:(w.alloc (.cells #[.int .i64 vb,.int .i64 vo] 65))=W0 at *
 have Bu:w.heap.size<W0.heap.size:=by rw[<- hW0];simp
 clear hW0
 go_loopg [10,17] nI (fun gk ov iv wr=>∃j:Nat,iv=.int .i64 j/\j+gk=nI/\OutM W0 wr ov (Q1g Z x ⟨vb,vo⟩ (its.take j))/\∀i∈its.take j,Q5e Z x ⟨vb,vo⟩ i)
 case atStart=>exact⟨0,rfl,by omega,OutM.nil W0,by simp⟩
 case round =>
  obtain⟨j,rfl,EN,AS,Ep⟩:=hrel;have Gh:=Q0a EN;have HO:=Q0a AS;have HF:=Q0a Ep;have BA:=AS.2;clear EN;by_cases Aa:j<nI
  ·obtain⟨i,D2⟩:∃i,its[j]?=some i:=⟨_,J5s (by rw[<- HN.out];exact Aa)⟩
   obtain⟨g',o',rfl,FE,Ap⟩:=(HV.out wr BA).2.1 j i D2;have i0:wr.cell? ⟨g',o'+j*5,none⟩=some (.int .i64 i.base):=Ap 0 _ rfl;have i1:wr.cell? ⟨g',o'+j*5+1,none⟩=some (.int .i64 i.order):=Ap 1 _ rfl;have i2:wr.cell? ⟨g',o'+j*5+2,none⟩=some (.int .i64 i.r):=Ap 2 _ rfl;have i3:wr.cell? ⟨g',o'+j*5+3,none⟩=some (.int .i64 i.off):=Ap 3 _ rfl;have i4:wr.cell? ⟨g',o'+j*5+4,none⟩=some (.bool i.g):=Ap 4 _ rfl;have NM:(j:Int)<(nI:Int):=by omega
   have Gz:(0:Int)<=(j:Int):=by omega
   have Ag:=Q0a (BA.alloc BA.size (.cells #[.int .i64 i.base,.int .i64 i.order,.int .i64 i.r,.int .i64 i.off,.bool i.g] 63));have cI:=Cells.new wr 63 [.int .i64 i.base,.int .i64 i.order,.int .i64 i.r,.int .i64 i.off,.bool i.g];have Rl:wr.heap.size<(wr.alloc (.cells #[.int .i64 i.base,.int .i64 i.order,.int .i64 i.r,.int .i64 i.off,.bool i.g] 63)).heap.size:=by simp
   have HS:Hid (∀V,Below (wr.alloc (.cells #[.int .i64 i.base,.int .i64 i.order,.int .i64 i.r,.int .i64 i.off,.bool i.g] 63)).heap.size (wr.alloc (.cells #[.int .i64 i.base,.int .i64 i.order,.int .i64 i.r,.int .i64 i.off,.bool i.g] 63)) V->((V.cell? ⟨c,0,none⟩=some (.pointer (some ⟨k,0,none⟩))/\V.cell? ⟨k,0,none⟩=some (.pointer (some ⟨Z.s,0,none⟩)))/\V.cell? ⟨w.heap.size,0,none⟩=some (.int .i64 vb)/\V.cell? ⟨w.heap.size,1,none⟩=some (.int .i64 vo))/\V.cell? ⟨wr.heap.size,0,none⟩=some (.int .i64 i.base)/\V.cell? ⟨wr.heap.size,1,none⟩=some (.int .i64 i.order)/\V.cell? ⟨wr.heap.size,2,none⟩=some (.int .i64 i.r)/\V.cell? ⟨wr.heap.size,3,none⟩=some (.int .i64 i.off)/\V.cell? ⟨wr.heap.size,4,none⟩=some (.bool i.g)):=fun V hV=>by
    have ci:=cI.same (hV.block _ cI.lt);exact⟨(HV.out V (Ag.out.trans (hV.mono Ag.out.size))).1,ci.cell 0 _ rfl,ci.cell 1 _ rfl,ci.cell 2 _ rfl,ci.cell 3 _ rfl,ci.cell 4 _ rfl⟩
   have HK:=Q0a ((HV.out _ Ag.out.drew).2.2 i (J5p D2));have Du:=Q0a Aa;have Ox:=Q0a D2;have CH:Hid (∀w5,Below (wr.alloc (.cells #[.int .i64 i.base,.int .i64 i.order,.int .i64 i.r,.int .i64 i.off,.bool i.g] 63)).drew.heap.size (wr.alloc (.cells #[.int .i64 i.base,.int .i64 i.order,.int .i64 i.r,.int .i64 i.off,.bool i.g] 63)).drew w5->Below W0.heap.size W0 w5/\Below (wr.alloc (.cells #[.int .i64 i.base,.int .i64 i.order,.int .i64 i.r,.int .i64 i.off,.bool i.g] 63)).heap.size (wr.alloc (.cells #[.int .i64 i.base,.int .i64 i.order,.int .i64 i.r,.int .i64 i.off,.bool i.g] 63)) w5/\OutM W0 w5 u10 (Q1g Z x ⟨vb,vo⟩ (its.take j))):=fun w5 h5=>by
    have e1:Below (wr.alloc (.cells #[.int .i64 i.base,.int .i64 i.order,.int .i64 i.r,.int .i64 i.off,.bool i.g] 63)).heap.size (wr.alloc (.cells #[.int .i64 i.base,.int .i64 i.order,.int .i64 i.r,.int .i64 i.off,.bool i.g] 63)) w5:=(Below.refl _ _).drew.trans (h5.mono (J3h _));exact⟨Ag.out.trans (e1.mono Ag.out.size),e1,HO.out.below (Q0b e1)⟩
   obtain⟨ib,io,ir,iff,ig⟩:=i;dsimp only at *
   have s0:=HS.out _ (Below.refl _ _);have s1:=HS.out _ (Below.refl (wr.alloc (.cells #[.int .i64 ib,.int .i64 io,.int .i64 ir,.int .i64 iff,.bool ig] 63)).heap.size (wr.alloc (.cells #[.int .i64 ib,.int .i64 io,.int .i64 ir,.int .i64 iff,.bool ig] 63))).drew;have S0:=Q0a s0;have S1:=Q0a s1;clear AS Ep BA Ap FE D2 cI s0 s1 HO Ag HV;go_upto_region 5 with fail
   go_region_held3 (fun V=>((V.cell? ⟨c,0,none⟩=some (.pointer (some ⟨k,0,none⟩))/\V.cell? ⟨k,0,none⟩=some (.pointer (some ⟨Z.s,0,none⟩)))/\V.cell? ⟨w.heap.size,0,none⟩=some (.int .i64 vb)/\V.cell? ⟨w.heap.size,1,none⟩=some (.int .i64 vo))/\V.cell? ⟨wr.heap.size,0,none⟩=some (.int .i64 ib)/\V.cell? ⟨wr.heap.size,1,none⟩=some (.int .i64 io)/\V.cell? ⟨wr.heap.size,2,none⟩=some (.int .i64 ir)/\V.cell? ⟨wr.heap.size,3,none⟩=some (.int .i64 iff)/\V.cell? ⟨wr.heap.size,4,none⟩=some (.bool ig)) (first|exact S0.out|exact S1.out|exact S5.out) (first|(go_at_call 38;refine HK.out.mono ?_;intro r w5 hm;obtain⟨As,a5,n5,c5,e5,rfl,Tb⟩:=hm.shape;have H5:=Q0a (CH.out w5 As);have S5:=Q0a (HS.out w5 H5.out.2.1);have Jr:=Q0a Tb;clear hm As Tb))
   all_goals
    clear CH HS HK S0 S1;by_cases he:e5=0
    case neg =>
     have Ac:(e5 != 0)=true:=by simp[he]
     have HR:=Q0a (HE.out w5 e5 ⟨ib,io,ir,iff,ig⟩ he (J5p Ox.out) (by rcases Jr.out with ⟨_,h⟩|⟨h,_⟩;exact h;exact(he h).elim) H5.out.1);clear HE HD Jr H5 S5;go_wp2_with fail
     (try go_ret2);exact HR.out
    case pos =>
     subst he;obtain⟨CE,O0,BI⟩:Q5e Z x ⟨vb,vo⟩ ⟨ib,io,ir,iff,ig⟩/\n5=_/\_:=by
      rcases Jr.out with ⟨h,_⟩|⟨_,h⟩
      ·exact(h rfl).elim
      ·exact h
     have Fu:∀i∈its.take (j+1),Q5e Z x ⟨vb,vo⟩ i:=by
      rw[J4X,Ox.out];intro i hi;rcases J3Q.1 hi with hi|hi
      ·exact HF.out i hi
      ·simp at hi;subst hi;exact CE
     have Le:=Q0a Fu;have Ab:(Q1g Z x ⟨vb,vo⟩ (its.take j)).length+n5<=65536:=by
      have h1:=Q4u Z x ⟨vb,vo⟩ _ Fu;rw[Q7F Z x ⟨vb,vo⟩ Ox.out,J3N,<- O0,J5u] at h1;have h2:=hl;omega
     obtain⟨v',w9,AK,QF,_⟩:=(H5.out.2.2).put (cap:=c5) BI Ab 61;have UZ:Hid (OutM W0 w9 v' (Q1g Z x ⟨vb,vo⟩ (its.take (j+1)))):=by
      refine Q0a ?_;rw[Q7F Z x ⟨vb,vo⟩ Ox.out];rw[O0,Z9H] at QF;exact QF
     clear CE O0 BI Fu Ab QF Jr HF H5 S5 HE;go_wp2_with (at_builtin;refine Lib.wpList_append_run _ rfl _ _ _ _ rfl _ _ rfl rfl _ _ AK ?_);go_roundg (nI-(j+1))
     case measure=>have:=Gh.out;have:=Du.out;omega
     case rel=>exact⟨j+1,by go_num,by have:=Du.out;omega,UZ.out,Le.out⟩
  ·obtain rfl:j=nI:=by have:=Gh.out;omega
   have AU:its.take j=its:=J4Z (by rw[<- HN.out];exact J3h _);rw[AU] at AS Ep;have HR:=Q0a (HD.out wr _ Ep AS);clear AS Ep BA HV HE HD HO HF;go_wp2_with fail
   (try go_ret2);exact HR.out
structure J1N(Z Z':SP):Prop where
 s:Z'.s=Z.s
 f:Z'.F.f=Z.F.f
 c:Z'.S.c=Z.S.c
 per:Z'.S.period=Z.S.period
 same:SameP Z.S.P Z'.S.P
 root:pget Z'.S.l 1 0=pget Z.S.l 1 0
theorem SameN.gone{Z Z':SP}(h:SameN Z Z'):J1N Z Z':=⟨h.s,h.f,h.alt.c,h.alt.per,h.alt.same,by rw[h.alt.l]⟩
theorem Z7l{l l':List Pl}(h:l'[0]?=l[0]?):pget l' 1 0=pget l 1 0:=by
 unfold pget;rw[show 0%256=0 from rfl,h]
theorem Tried.alt{S:CO}{fr:List Nat}{P':PL}(h:Tried S.P fr S.l P')(own:Int):Alt S (S.setP P') own:=
 ⟨rfl,rfl,rfl,rfl,rfl,rfl,rfl,rfl,h.same,by show P'.q.next=_;rw[h.q],fun id e he=>⟨e,by show find P'.q.E id=_;rw[h.q];exact he,rfl,fun _=>rfl⟩,by show P'.q.E.map En.id=_;rw[h.q],fun r hr A4 _=>h.mem r hr A4⟩
theorem MakeR.cases{S:CO}{fr:List Nat}{N K:Nat}(ok:S.Ok fr N K){y:Nat}{k lim:Int}{w w':World}{r:Ending}(m:MakeR S fr y k lim w r w') :
  (∃(er:Int) (P':PL),er≠0/\r=two 0 er/\Tried S.P fr S.l P'/\Step S.hl (S.setP P').hl w w') ∨
  (∃(f:Pl) (n:Nat) (e:En Fa) (i:Nat) (q:Pl) (a v:Nat) (P':PL) (fr':List Nat),pget S.l 1 y=some f/\f.kind=1/\k=(n:Int)/\(n=8∨1<=n/\n<=5)/\find S.P.q.E f.own=some e/\S.l[i]?=some q/\q.st=0/\r=two (nm i q) 0/\MadeOk S fr f e n a lim v i q P' fr'/\Step S.hl (S.made f n a v i q P').hl w w'):=by
 have same:∀er:Int,er≠0->r=two 0 er->Step S.hl S.hl w w'->(∃(er:Int) (P':PL),er≠0/\r=two 0 er/\Tried S.P fr S.l P'/\Step S.hl (S.setP P').hl w w'):=fun er h1 h2 h3=>⟨er,S.P,h1,h2,Tried.refl ok.inv.mem.pool _,h3⟩
 rcases m with ⟨_,rfl,st⟩|⟨f,hf,⟨_,rfl,st⟩|⟨_,_,rfl,st⟩|⟨n,e,hn,hk,G7,_,he,hm⟩⟩
 ·exact .inl (same 8 (by decide) rfl st)
 ·exact .inl (same 10 (by decide) rfl st)
 ·exact .inl (same 1 (by decide) rfl st)
 ·rcases hm with ⟨_,rfl,st⟩|⟨_,_,rfl,st⟩|⟨_,er,P',Cv,tr,rfl,st⟩|⟨i,q,a,v,P',fr',hi,hq,_,_,rfl,mk,st⟩
  ·exact .inl (same 5 (by decide) rfl st)
  ·exact .inl (same 4 (by decide) rfl st)
  ·refine .inl ⟨er,P',?_,rfl,tr,st⟩;rcases Cv with ⟨rfl,_⟩|⟨rfl,_⟩ <;> decide
  ·exact .inr ⟨f,n,e,i,q,a,v,P',fr',hf,hk,hn,G7,he,hi,hq,rfl,mk,st⟩
theorem Q4v{Z Z1:SP}{g x f B:Nat}{w:World}(es:Z1.s=Z.s)(ec:Z1.S.c=Z.S.c)(ef:Z1.F.f=Z.F.f)(sep:Sep w Z1.hl)(bx:AsideV Z1.hl [.pointer (some ⟨g,0,none⟩),.int .u32 x,.int .i64 f] (some ⟨B,0,none⟩) w):Z6G Z g x f B w:=by
 have c0:=SP.c0 sep;have c1:=SP.c1 sep;rw[es,ec] at c0;rw[es,ef] at c1;exact⟨c0,c1,bx.at 0 _ rfl,bx.at 1 _ rfl,bx.at 2 _ rfl⟩
def MkR(Z:SP)(fr:List Nat)(N K:Nat)(M:Int)(x:Nat)(z k:Int)(w:World)(hh:Nat)(er:Int)(w':World):Prop:=
 (er≠0/\hh=0/\∃own,BackZ Z fr N K x own w w') ∨
 (er=0/\∃(Z':SP) (fr':List Nat) (s i:Nat) (q q':Pl),z=(s:Int)/\s<256/\Z.S.l[i]?=some q/\q.st=0/\hh=nm i q/\(q'.kind:Int)=k/\q'.st=1/\q'.age=q.age/\Z'.Ok fr' (N+1) K (M+1)/\J1N Z Z'/\Z'.S.l=Z.S.l.set i q'/\Z'.av.en=setA Z.av.en x s (some (hh,15))/\Step Z.hl Z'.hl w w')
section
variable {Z:SP} {fr:List Nat} {N K:Nat} {M:Int}
theorem Z7m(ok:Z.Ok fr N K M){x s:Nat}{p:Pl}(hp:pget Z.S.l 1 x=some p)(hk:p.kind=2)(hs:s<256)(h0:(Z.tb (x%256)).en s=none){S1 S2 S3:CO}{t1 t3:TB}{e1:Ent}{own:Int}(T1:TurnP Z.S fr N K Z.tb own (x%256) s (some e1) S1 t1)(al:Alt S1 S2 own)
  (T3:TurnP S2 fr N K (updT Z.tb (x%256) t1) own (x%256) s none S3 t3) {w w':World} (st:Step Z.hl (Z.setS S3 (updT Z.tb (x%256) t3)).hl w w'):BackZ Z fr N K x own w w':=by
 have hi:=(pget_some.1 hp).1;have h1:=(pget_some.1 hp).2.2;have al3:=(T1.alt.trans al).trans T3.alt;have BF:∀q,t3.en q=(Z.tb (x%256)).en q:=fun q=>by
  rw[T3.en,updT_same,T1.en];split
  ·rename_i e;rw[e,h0]
  ·rfl
 have Kd:=T3.tpi;have lf1:∀q,q<16->(Z.tb (x%256)).lf q≠0->t1.lf q=(Z.tb (x%256)).lf q:=
  LaidP.lf_keep (own:=own) (S1:=Z.S) (t1:=Z.tb (x%256)) (J6h _ (by omega)) (ok.tpi.full _ (J6h _ (by omega))) hi h1 hk (by rw[Q1c];exact T1.tpi) T1.alt.l
   (fun q hq=>by
    rw[T1.en];split
    ·exact Option.some_ne_none _
    ·exact hq) (fun _ _ _=>rfl) (by rw[Q1c];exact T1.lf)
 have lf3:∀q,q<16->(Z.tb (x%256)).lf q≠0->t3.lf q=(Z.tb (x%256)).lf q:=
  LaidP.lf_keep (own:=own) (S1:=Z.S) (J6h _ (by omega)) (ok.tpi.full _ (J6h _ (by omega))) hi h1 hk Kd al3.l (fun q hq=>by rw[BF];exact hq) lf1 T3.lf
 rw[Q0V] at Kd;refine⟨S3,t3,T3.ok,Kd,al3,fun q hq=>?_,BF,st⟩;by_cases hz:(Z.tb (x%256)).lf q=0
 ·rw[hz];refine Classical.byContradiction fun Ac=>?_
  have FC:=Kd.full (x%256) (J6h _ (by omega));rw[updT_same] at FC;obtain⟨r,hr,WF,Tx⟩:=FC q hq Ac;rw[BF r] at Tx;exact Tx ((ok.tpi.tin (x%256) p hi h1 hk).hole r hr (by rw[WF];exact hz))
 ·exact lf3 q hq hz
theorem Z7n{w w5:World}(ok:Z.Ok fr N K M)(hN:N+1<1048576)(hM:M+1<1099511627776){x y s g B nd:Nat}{p:Pl}(hx:x<4294967296)(hy:y<4294967296)(hp:pget Z.S.l 1 x=some p)(hk:p.kind=2)(hs:s<256)(h0:Q0f Z.S.l Z.tb x s=none)(k lim:Int)(RI:k=8↔128<=s)
  {S1:CO} {t1:TB} (T1:TurnP Z.S fr N K Z.tb (p.fac:Int) (x%256) s (some ⟨0,15,nd⟩) S1 t1) (st:Step Z.hl (Z.setS S1 (updT Z.tb (x%256) t1)).hl w w5) (hg:TblZ (Z.setS S1 (updT Z.tb (x%256) t1)) p g w5)
  (bx:AsideV (Z.setS S1 (updT Z.tb (x%256) t1)).hl [.pointer (some ⟨g,0,none⟩),.int .u32 x,.int .i64 (p.fac:Int)] (some ⟨B,0,none⟩) w5) :
  Z1Z Z g x p.fac B y (s:Int) k lim (fun hh er w'=>MkR Z fr N K M x (s:Int) k w hh er w') w5:=by
 have hi:=(pget_some.1 hp).1;have Ao:=(pget_some.1 hp).2.2;have D1:(Z.tb (x%256)).en s=none:=by rw[<- Q0h hp hk hs];exact h0
 have D7:=T1.alt.l;have Eh:(updT Z.tb (x%256) t1 (x%256)).en s=some ⟨0,15,nd⟩:=by rw[updT_same,T1.en,if_pos rfl]
 have km:=Q9c (S:=S1) (SP.sS (Z:=Z.setS S1 (updT Z.tb (x%256) t1)) st.sep) T1.ok hN hy k lim;rw[T1.alt.c] at km;refine km.mono ?_;rintro rv w6 hm;rcases hm.cases T1.ok with ⟨er,P',Ac,rfl,tr,st2⟩|⟨f,n,e,i,q,a,v,P',fr',hf,DH,rfl,hn,he,J0,hq,rfl,mk,st2⟩
 ·have al2:=tr.alt (S:=S1) (p.fac:Int);have AC:Step (Z.setS S1 (updT Z.tb (x%256) t1)).hl (Z.setS (S1.setP P') (updT Z.tb (x%256) t1)).hl w5 w6:=SP.stepS st.sep (S1.setP P') (updT Z.tb (x%256) t1) rfl st2;have bx2:=bx.step AC;have BB:TblZ (Z.setS (S1.setP P') (updT Z.tb (x%256) t1)) p g w6:=hg.step AC tr.same.p;refine⟨0,er,rfl,Q4v (Z1:=Z.setS (S1.setP P') (updT Z.tb (x%256) t1)) rfl T1.alt.c rfl AC.sep bx2,.inl ⟨Ac,?_⟩⟩;refine(Q4q (Z:=Z.setS (S1.setP P') (updT Z.tb (x%256) t1)) (x:=x) AC.sep (T1.ok.tried tr) (T1.tpi.tried T1.ok tr) (i:=x%256) (by show S1.l[x%256]?=_;rw[D7];exact hi) Ao hk hs Eh BB).mono ?_
  rintro rv w7⟨rfl,S3,t3,T3,st3⟩;refine⟨rfl,.inl ⟨Ac,rfl,_,Z7m ok hp hk hs D1 T1 al2 T3 ?_⟩⟩;have h3:=(st.trans AC).trans st3;have e:((Z.setS (S1.setP P') (updT Z.tb (x%256) t1)).setS S3 (updT (updT Z.tb (x%256) t1) (x%256) t3))=Z.setS S3 (updT Z.tb (x%256) t3):=by rw[Q0V];rfl
  have h4:Step Z.hl ((Z.setS (S1.setP P') (updT Z.tb (x%256) t1)).setS S3 (updT (updT Z.tb (x%256) t1) (x%256) t3)).hl w w7:=h3
  rwa [e] at h4
 ·have ok2:=mk.ok T1.ok J0;have tp2:=T1.tpi.made T1.ok mk J0 hq;have wn2:=mk.went T1.ok J0 hq;have Ar:=Q1C T1.ok.inv.len J0;have AC:Step (Z.setS S1 (updT Z.tb (x%256) t1)).hl (Z.setS (S1.made f n a v i q P') (updT Z.tb (x%256) t1)).hl w5 w6:=SP.stepS st.sep (S1.made f n a v i q P') (updT Z.tb (x%256) t1) rfl st2;have bx2:=bx.step AC;have BB:TblZ (Z.setS (S1.made f n a v i q P') (updT Z.tb (x%256) t1)) p g w6:=hg.step AC wn2.same.p;have D3:(S1.made f n a v i q P').l=S1.l.set i ⟨n,a,f.own,1,q.age,v⟩:=rfl;have Az:pget (S1.made f n a v i q P').l 1 x=some p:=by rw[D3];exact Q9B J0 hq (by rw[D7];exact hp)
  have DQ:=(pget_some.1 Az).1;have DU:pget (S1.made f n a v i q P').l 1 (nm i q)=some ⟨n,a,f.own,1,q.age,v⟩:=by
   rw[D3,Q2B _ J0,if_pos (Q6N Ar q),if_pos ⟨rfl,rfl⟩]
  have Au:nm i q<4294967295:=Q9z ok2.inv.lok DU;have AW:Q6D (S1.made f n a v i q P').l s ⟨nm i q,15,nd⟩:=⟨⟨_,DU,by show n=8↔_;rw[<- RI];omega⟩,by dsimp only;omega⟩
  have UC:=Q4v (Z:=Z) (Z1:=Z.setS (S1.made f n a v i q P') (updT Z.tb (x%256) t1)) rfl T1.alt.c rfl AC.sep bx2;refine⟨nm i q,0,rfl,UC,.inr ⟨rfl,(⟨0,15,nd⟩:Ent).a,nd,(⟨nm i q,15,0⟩:Ent).a,?_,fun w8 FS=>?_⟩⟩
  ·have T:=(tp2.x (p.fac:Int)).tt ok2 DQ Ao hk (SP.sS AC.sep) BB.c;refine(Q4o T (s:Int)).mono ?_;rintro rv w7⟨rfl,rfl⟩;refine⟨?_,rfl⟩;unfold getV TB.at';rw[if_pos (by omega),J4g,Eh];rfl
  ·have st8:=AC.sep.grown FS;have bx8:=bx2.step st8;have Wn:=BB.step st8 rfl;refine⟨Q4v (Z1:=Z.setS (S1.made f n a v i q P') (updT Z.tb (x%256) t1)) rfl T1.alt.c rfl st8.sep bx8,Q6d w8 (nm i q) 15 Au (by omega),?_⟩;refine(Q7q (S:=S1.made f n a v i q P') (tb:=updT Z.tb (x%256) t1) ok2 tp2 DQ Ao hk hs (e2:=⟨nm i q,15,nd⟩) Eh rfl ⟨Au,by show 15<16;omega⟩ (SP.sS st8.sep) Wn.c).mono ?_;rintro rv w9⟨rfl,S3,t3,T3,st9⟩;have OZ:Step (Z.setS (S1.made f n a v i q P') (updT Z.tb (x%256) t1)).hl (Z.setS S3 (updT (updT Z.tb (x%256) t1) (x%256) t3)).hl w8 w9:=SP.stepS st8.sep S3 (updT (updT Z.tb (x%256) t1) (x%256) t3) T3.alt.c st9
   have bx9:=bx8.step OZ;refine⟨⟨0,rfl⟩,Q4v (Z1:=Z.setS S3 (updT (updT Z.tb (x%256) t1) (x%256) t3)) rfl (T3.alt.c.trans T1.alt.c) rfl OZ.sep bx9,fun m=>?_⟩;have std:=OZ.trans (OZ.sep.grown (Q0D (Below.refl w9.heap.size w9) m));have A9:=((st.trans AC).trans st8).trans std;have Cy:Z.F.N.length<65536:=ok.fpi.few ok.fo.n hp hs h0;refine(Q8f (q:=Z.F) (SP.sF (Z:=Z.setS S3 (updT (updT Z.tb (x%256) t1) (x%256) t3)) std.sep) ok.fo (.inl rfl) (by omega) (by omega) (by omega) (by omega) (ok.fpi.free ok.fo.n h0) (by have:=ok.next;omega) Cy).mono ?_;rintro rv w'⟨rfl,F',AF,stF⟩;refine⟨⟨_,_,rfl⟩,.inr ⟨rfl,?_⟩⟩
   obtain⟨okz,BF,-⟩:=ok.made_added hp hk hs h0 T1 mk J0 hq AW T3 AF;have stZ:Step (Z.setS S3 (updT (updT Z.tb (x%256) t1) (x%256) t3)).hl ((Z.setF F').setS S3 (updT Z.tb (x%256) t3)).hl (w9.drewN m) w':=by
    have:=SP.stepF (Z:=Z.setS S3 (updT (updT Z.tb (x%256) t1) (x%256) t3)) std.sep F' AF.f stF;have e:((Z.setS S3 (updT (updT Z.tb (x%256) t1) (x%256) t3)).setF F')=(Z.setF F').setS S3 (updT Z.tb (x%256) t3):=by rw[Q0V];rfl
    rwa [e] at this
   refine⟨(Z.setF F').setS S3 (updT Z.tb (x%256) t3),fr',s,i,q,⟨n,a,f.own,1,q.age,v⟩,rfl,hs,by rw[<- D7];exact J0,hq,rfl,rfl,rfl,rfl,okz,⟨rfl,AF.f,(T3.alt.c.trans T1.alt.c),T3.alt.per.trans (wn2.per.trans T1.alt.per),(T1.alt.same.trans wn2.same).trans T3.alt.same,?_⟩,?_,BF,A9.trans stZ⟩
   ·show pget S3.l 1 0=_;rw[T3.alt.l,Z7l wn2.root,D7]
   ·show S3.l=_;rw[T3.alt.l,D3,D7]
theorem Z7o{w:World}(hs:Sep w Z.hl)(ok:Z.Ok fr N K M)(hN:N+1<1048576)(hM:M+1<1099511627776){x y:Nat}(hx:x<4294967296)(hy:y<4294967296)(z k lim:Int) :
  Calls prog 40 #[.pointer (some ⟨Z.s,0,none⟩),.int .u32 x,.int .i64 z,.int .u32 y,.int .i64 k,.int .i64 lim] w fun rv w'=>∃(hh:Nat) (er:Int),rv=.returned (.tuple #[.int .u32 hh,.int .i64 er])/\MkR Z fr N K M x z k w hh er w':=by
 have bad:∀(er:Int) (W:World),er≠0->Below w.heap.size w W->MkR Z fr N K M x z k w 0 er W:=fun er W he hb=>.inl ⟨he,rfl,0,BackZ.of 0 hs ok hb⟩
 cases hp:pget Z.S.l 1 x with
 | none =>
  refine(Q7t (y:=y) (z:=z) (k:=k) (lim:=lim) (e:=8) (by decide) (Q0K hs ok.core hx 8 (.inl ⟨hp,rfl⟩))).mono ?_;rintro rv w'⟨rfl,hb⟩;exact⟨0,8,rfl,bad 8 _ (by decide) hb⟩
 | some p =>
  by_cases hk:p.kind=2
  case neg =>
   refine(Q7t (y:=y) (z:=z) (k:=k) (lim:=lim) (e:=10) (by decide) (Q0K hs ok.core hx 10 (.inr ⟨p,hp,hk,rfl⟩))).mono ?_;rintro rv w'⟨rfl,hb⟩;exact⟨0,10,rfl,bad 10 _ (by decide) hb⟩
  refine Z3A hs ok hx hp hk z k lim ?_;by_cases hz:0<=z/\z<256
  case neg=>exact .inl ⟨2,.inl ⟨decide_eq_false hz,rfl⟩,fun W hb=>bad 2 W (by decide) hb⟩
  have IP:decide (0<=z/\z<256)=true:=decide_eq_true hz;by_cases hm:k=8∨1<=k/\k<=5
  case neg=>exact .inl ⟨1,.inr (.inl ⟨IP,decide_eq_false hm,rfl⟩),fun W hb=>bad 1 W (by decide) hb⟩
  have FU:decide (k=8∨1<=k/\k<=5)=true:=decide_eq_true hm;cases AJ:(decide (z<128)==(k==8)) with
  | true=>exact .inl ⟨1,.inr (.inr (.inl ⟨IP,FU,AJ,rfl⟩)),fun W hb=>bad 1 W (by decide) hb⟩
  | false =>
   obtain⟨s,rfl⟩:∃s:Nat,z=(s:Int):=⟨z.toNat,by omega⟩
   have AC:s<256:=by omega
   have RI:k=8↔128<=s:=by
    rcases Q3c AJ with ⟨h1,_,h3⟩|⟨h1,h2⟩
    ·have h1:=of_decide_eq_true h1;have h3:=of_decide_eq_false h3;omega
    ·have h1:=of_decide_eq_false h1;omega
   have Bb:(Z.tb (x%256)).at' (s:Int)=Q0f Z.S.l Z.tb x s:=by
    unfold TB.at';rw[if_pos hz,Q0h hp hk (by omega)];rfl
   cases h0:Q0f Z.S.l Z.tb x s with
   | some e0=>exact .inl ⟨7,.inr (.inr (.inr ⟨IP,FU,AJ,by rw[Bb,h0];rfl,rfl⟩)),fun W hb=>bad 7 W (by decide) hb⟩
   | none =>
    have Bt:((Z.tb (x%256)).at' (s:Int)).isSome=false:=by rw[Bb,h0];rfl
    refine .inr ⟨IP,FU,rfl,Bt,fun W g B hb hg DD=>?_⟩;have hi:=(pget_some.1 hp).1;have Ao:=(pget_some.1 hp).2.2;have D1:(Z.tb (x%256)).en s=none:=by rw[<- Q0h hp hk AC];exact h0
    refine(Q8h (hs.grown hb).sep ok.core ok.tpi (x:=x) (h:=0) (r:=15) hi Ao hk AC D1 (by omega) (by omega) hg).mono ?_;rintro rv w5⟨er,rfl,⟨rfl,nd,S1,t1,T1,st1⟩|⟨he,FZ,P',tr,st1⟩⟩
    ·have st:=(hs.grown hb).trans st1;have bx5:=DD.step st1;exact⟨0,rfl,.inr ⟨rfl,Q4v (Z1:=Z.setS S1 (updT Z.tb (x%256) t1)) rfl T1.alt.c rfl st.sep bx5,Z7n ok hN hM hx hy hp hk AC h0 k lim RI T1 st (hg.step st1 T1.alt.same.p) bx5⟩⟩
    ·refine⟨er,rfl,.inl ⟨by omega,.inl ⟨by omega,rfl,p.fac,?_⟩⟩⟩;refine LaidP.back (x:=x) (A:=fun _=>⟨0,0,0,false⟩) ok hp hk ((LaidP.start (x:=x) (A:=fun _=>⟨0,0,0,false⟩) ok (p.fac:Int)).tried tr) ?_;rw[Q1c];exact(hs.grown hb).trans st1
end
end Go.Proofs.YtfidemmgofcnmaaGreatDoor

/- CarryPages returns true at every input. No condition. Part of its proof. -/
import Derived.Test.YtfidemmgofcnmaaGreatDoorCg23
set_option maxHeartbeats 8000000
set_option maxRecDepth 100000
set_option linter.unusedVariables false
namespace Go.Proofs.YtfidemmgofcnmaaGreatDoor
open Go.RowKit Go.Proofs.Tryz
def Q1H(Z:SP)(x:Nat)(i:It)(k:Nat):Bool:=(Q0k Z.S.l Z.tb x (i.base.toNat+k)).isSome
def MvsE(Z:SP)(x:Nat)(i:It)(v:Wi)(er:Int):Prop:=(pget Z.S.l 1 x=none/\er=8)∨∃p,pget Z.S.l 1 x=some p/\((p.kind≠2/\er=10)∨(p.kind=2/\((Q3b i v=false/\er=1)∨(Q3b i v=true/\¬(i.off+((2 ^ i.order.toNat:Nat):Int)<=((2 ^ v.order.toNat:Nat):Int))/\er=2))))
def noMv:Mv:=⟨0,0,0,false⟩
def MvsR(Z:SP)(x:Nat)(i:It)(v:Wi)(w:World)(r:Ending)(w':World):Prop:=Below w.heap.size w w' /\
 ((∃er,er≠0/\r=.returned (.tuple #[.slice none 0 0,.int .i64 er])/\MvsE Z x i v er) ∨
  ∃(p:Pl) (a:Option Addr) (cap:Nat) (L:List Mv),pget Z.S.l 1 x=some p/\p.kind=2/\Q3b i v=true/\i.off+((2 ^ i.order.toNat:Nat):Int)<=((2 ^ v.order.toNat:Nat):Int)/\L=movV (Q1H Z x i) i v (2 ^ i.order.toNat)/\r=.returned (.tuple #[.slice a L.length cap,.int .i64 0])/\L.length<=cap/\AsideM Z.hl L.length (fun j=>L.getD j noMv) a w')
theorem Q5p{w:World}{Z:SP}{fr:List Nat}{N K:Nat}(hs:Sep w Z.hl)(ok:Z.S.Ok fr N K){x:Nat}(hx:x<4294967296)(i:It)(v:Wi)(er:Int)(he:er≠0)(hw:(pget Z.S.l 1 x=none/\er=8)∨∃p,pget Z.S.l 1 x=some p/\p.kind≠2/\er=10) :
  Calls prog 38 #[.pointer (some ⟨Z.s,0,none⟩),.int .u32 x,.agg #[.int .i64 i.base,.int .i64 i.order,.int .i64 i.r,.int .i64 i.off,.bool i.g],.agg #[.int .i64 v.base,.int .i64 v.order]] w fun r w'=>r=.returned (.tuple #[.slice none 0 0,.int .i64 er])/\Below w.heap.size w w':=by
 have BU:Below w.heap.size w ((w.alloc (.cells #[.int .i64 i.base,.int .i64 i.order,.int .i64 i.r,.int .i64 i.off,.bool i.g] 63)).alloc (.cells #[.int .i64 v.base,.int .i64 v.order] 65)):=((Below.refl w.heap.size w).alloc (Z9s _) _).alloc (by simp) _;have ks:=Q1r (hs.grown BU).sep ok hx er hw;have GC:(er==0)=false:=by simpa using he
 have HR:Hid (∀w' o,Below ((w.alloc (.cells #[.int .i64 i.base,.int .i64 i.order,.int .i64 i.r,.int .i64 i.off,.bool i.g] 63)).alloc (.cells #[.int .i64 v.base,.int .i64 v.order] 65)).heap.size ((w.alloc (.cells #[.int .i64 i.base,.int .i64 i.order,.int .i64 i.r,.int .i64 i.off,.bool i.g] 63)).alloc (.cells #[.int .i64 v.base,.int .i64 v.order] 65)) w'->Below w.heap.size w (w'.alloc o)):=fun w' o hb=>Q0b (Q0b (hb.alloc hb.size o))
 obtain⟨ib,io,ir,iff,ig⟩:=i;obtain⟨vb,vo⟩:=v;dsimp only at *
 clear hs ok hx hw BU;go_enter func38,ntmps38;go_wp2_with fail;refine ks.mono ?_;rintro r w1⟨rfl,hb⟩;have HQ:Hid (∀o,Below w.heap.size w (w1.alloc o)):=fun o=>HR.out w1 o hb
 clear hb HR ks;go_wp2_with fail
 (try go_ret2);exact⟨rfl,HQ.out _⟩
theorem Z3V{n:Nat}(h:n<=128):wrap64 (n:Int)=(n:Int):=Go.IntWalk.wrap64_in _ (by omega)
theorem Z6j{n:Nat}{x:Int}(h:n<=128)(h0:0<=x)(h1:x<256):wrap64 (x+(n:Int))=x+(n:Int):=Go.IntWalk.wrap64_in _ (by omega)
def Box2(b:Nat)(i:It)(v:Wi)(W:World):Prop:=(W.cell? ⟨b,0,none⟩=some (.int .i64 i.base)/\W.cell? ⟨b,1,none⟩=some (.int .i64 i.order)/\W.cell? ⟨b,2,none⟩=some (.int .i64 i.r)/\W.cell? ⟨b,3,none⟩=some (.int .i64 i.off)/\W.cell? ⟨b,4,none⟩=some (.bool i.g))/\W.cell? ⟨b+1,0,none⟩=some (.int .i64 v.base)/\W.cell? ⟨b+1,1,none⟩=some (.int .i64 v.order)
theorem box2{w:World}(i:It)(v:Wi){W:World}(hb:Below ((w.alloc (.cells #[.int .i64 i.base,.int .i64 i.order,.int .i64 i.r,.int .i64 i.off,.bool i.g] 63)).alloc (.cells #[.int .i64 v.base,.int .i64 v.order] 65)).heap.size ((w.alloc (.cells #[.int .i64 i.base,.int .i64 i.order,.int .i64 i.r,.int .i64 i.off,.bool i.g] 63)).alloc (.cells #[.int .i64 v.base,.int .i64 v.order] 65)) W):Box2 w.heap.size i v W:=by
 have h1:=((Cells.new w 63 i.cells).alloc (.cells #[.int .i64 v.base,.int .i64 v.order] 65)).same (hb.block _ (by simp;omega));have h2:=(Cells.new (w.alloc (.cells #[.int .i64 i.base,.int .i64 i.order,.int .i64 i.r,.int .i64 i.off,.bool i.g] 63)) 65 v.cells).same (hb.block _ (by simp));have e1:(w.alloc (.cells #[.int .i64 i.base,.int .i64 i.order,.int .i64 i.r,.int .i64 i.off,.bool i.g] 63)).heap.size=w.heap.size+1:=by simp
 rw[e1] at h2;exact⟨⟨h1.cell 0 _ rfl,h1.cell 1 _ rfl,h1.cell 2 _ rfl,h1.cell 3 _ rfl,h1.cell 4 _ rfl⟩,h2.cell 0 _ rfl,h2.cell 1 _ rfl⟩
theorem Q8G{w:World}{s x fac:Nat}{i:It}{v:Wi}{T:Nat->World->Prop}{f:Nat->Bool}{Q:Ending->World->Prop}
  (ks:Calls prog 90 #[.pointer (some ⟨s,0,none⟩),.int .u32 x] ((w.alloc (.cells #[.int .i64 i.base,.int .i64 i.order,.int .i64 i.r,.int .i64 i.off,.bool i.g] 63)).alloc (.cells #[.int .i64 v.base,.int .i64 v.order] 65)) fun r w'=>∃g:Nat,r=.returned (.tuple #[.agg #[.pointer (some ⟨g,0,none⟩),.int .u32 x,.int .i64 fac],.int .i64 0])/\Below ((w.alloc (.cells #[.int .i64 i.base,.int .i64 i.order,.int .i64 i.r,.int .i64 i.off,.bool i.g] 63)).alloc (.cells #[.int .i64 v.base,.int .i64 v.order] 65)).heap.size ((w.alloc (.cells #[.int .i64 i.base,.int .i64 i.order,.int .i64 i.r,.int .i64 i.off,.bool i.g] 63)).alloc (.cells #[.int .i64 v.base,.int .i64 v.order] 65)) w'/\T g w')
  (hT:∀g W W',T g W->Below W.heap.size W W'->T g W')
  (hC:∀(g:Nat) (W:World) (k:Nat),Below ((w.alloc (.cells #[.int .i64 i.base,.int .i64 i.order,.int .i64 i.r,.int .i64 i.off,.bool i.g] 63)).alloc (.cells #[.int .i64 v.base,.int .i64 v.order] 65)).heap.size ((w.alloc (.cells #[.int .i64 i.base,.int .i64 i.order,.int .i64 i.r,.int .i64 i.off,.bool i.g] 63)).alloc (.cells #[.int .i64 v.base,.int .i64 v.order] 65)) W->T g W->k<2 ^ i.order.toNat->Q3b i v=true->Calls prog 93 #[.agg #[.pointer (some ⟨g,0,none⟩),.int .u32 x,.int .i64 fac],.int .i64 (i.base+(k:Int))] W fun r w'=>∃a b:Int,r=.returned (.tuple #[.agg #[.int .u32 a,.int .i64 b],.bool (f k)])/\Below W.heap.size W w')
  (hE:∀(er:Int) (w':World),((Q3b i v=false/\er=1)∨(Q3b i v=true/\¬(i.off+((2 ^ i.order.toNat:Nat):Int)<=((2 ^ v.order.toNat:Nat):Int))/\er=2))->Below w.heap.size w w'->Q (.returned (.tuple #[.slice none 0 0,.int .i64 er])) w')
  (hR:Q3b i v=true->i.off+((2 ^ i.order.toNat:Nat):Int)<=((2 ^ v.order.toNat:Nat):Int)->∀(a:Value) (w':World),OutM w w' a (movV f i v (2 ^ i.order.toNat))->Q (.returned (.tuple #[a,.int .i64 0])) w') :
  Calls prog 38 #[.pointer (some ⟨s,0,none⟩),.int .u32 x,.agg #[.int .i64 i.base,.int .i64 i.order,.int .i64 i.r,.int .i64 i.off,.bool i.g],.agg #[.int .i64 v.base,.int .i64 v.order]] w Q:=by
 have HW:Hid (∀W,Below ((w.alloc (.cells #[.int .i64 i.base,.int .i64 i.order,.int .i64 i.r,.int .i64 i.off,.bool i.g] 63)).alloc (.cells #[.int .i64 v.base,.int .i64 v.order] 65)).heap.size ((w.alloc (.cells #[.int .i64 i.base,.int .i64 i.order,.int .i64 i.r,.int .i64 i.off,.bool i.g] 63)).alloc (.cells #[.int .i64 v.base,.int .i64 v.order] 65)) W->Below w.heap.size w W/\Box2 w.heap.size i v W):=fun W hb=>⟨Q0b (Q0b hb),box2 i v hb⟩
 have HC:=Q0a hC;have DW:=Q0a hT;have GY:=Q0a hE;have I0:=Q0a hR;have Du:Hid (∀W,_):=fun W=>Q8B W v
 have Gv:Hid (∀W,_):=fun W=>Q9B W i
 have Fn:Hid (∀W,_):=fun W=>Q2E W i.base
 have IS:Hid (∀W,_):=fun W=>Q2E W v.base
 have FN:Hid (Q3b i v=(Q0Q i&&(Q0u v.base v.order&&(decide (i.base<128)==decide (v.base<128))))):=rfl;have HP:Hid (Q3b i v=true->Q0u i.base i.order=true/\Q0u v.base v.order=true/\1<=i.r/\i.r<=15/\0<=i.off/\i.off<256):=fun h=>by
  unfold Q3b Q0Q at h;simp only[Z9M,decide_eq_true_eq] at h;exact⟨h.1.1,h.2.1,h.1.2⟩
 generalize hW0:((w.alloc (.cells #[.int .i64 i.base,.int .i64 i.order,.int .i64 i.r,.int .i64 i.off,.bool i.g] 63)).alloc (.cells #[.int .i64 v.base,.int .i64 v.order] 65))=W0 at *
 obtain⟨ib,io,ir,iff,ig⟩:=i;obtain⟨vb,vo⟩:=v;dsimp only at *
 clear hC hT hE hR;generalize Q3b ⟨ib,io,ir,iff,ig⟩ ⟨vb,vo⟩=ia at *
 go_enter func38,ntmps38;go_wp2_with fail;refine ks.mono ?_;rintro r w1⟨g,rfl,Au,BN⟩;clear hW0 ks;have Lb:=Au.alloc Au.size (.cells #[.pointer (some ⟨g,0,none⟩),.int .u32 x,.int .i64 fac] 191);have E0:=Cells.new w1 191 [.pointer (some ⟨g,0,none⟩),.int .u32 x,.int .i64 fac];obtain⟨⟨c0,c1,c2,c3,c4⟩,v0,v1⟩:=(HW.out _ Lb).2;go_wp2_with fail;refine(Gv.out _).mono ?_;rintro r w2⟨xx,rfl,Ae⟩;have HS:Hid (∀W,Below w2.heap.size w2 W->(Below w.heap.size w W/\Below W0.heap.size W0 W/\T g W)/\Box2 w.heap.size ⟨ib,io,ir,iff,ig⟩ ⟨vb,vo⟩ W/\W.cell? ⟨w1.heap.size,0,none⟩=some (.pointer (some ⟨g,0,none⟩))/\W.cell? ⟨w1.heap.size,1,none⟩=some (.int .u32 x)/\W.cell? ⟨w1.heap.size,2,none⟩=some (.int .i64 fac)):=fun W hb=>by
  have h2:=Lb.trans (Ae.mono Lb.size);have h3:=h2.trans (hb.mono h2.size);have hc:=(E0.same (Ae.block _ E0.lt)).same (hb.block _ (Z9u E0.lt Ae.size));exact⟨⟨(HW.out _ h3).1,h3,DW.out _ _ _ (DW.out _ _ _ (DW.out _ _ _ BN ((Below.refl _ _).alloc (Z9s _) _)) Ae) hb⟩,(HW.out _ h3).2,hc.cell 0 _ rfl,hc.cell 1 _ rfl,hc.cell 2 _ rfl⟩
 generalize w1.heap.size=B at *
 clear Lb E0 Au BN Ae c0 c1 c2 c3 c4 v0 v1 HW DW Gv;obtain⟨-,⟨⟨c0,c1,c2,c3,c4⟩,v0,v1⟩,s0,s1,s2⟩:=HS.out _ (Below.refl _ _);obtain⟨-,⟨⟨d0,d1,d2,d3,d4⟩,e0,e1⟩,-,-,-⟩:=HS.out _ (Below.refl w2.heap.size w2).drew;go_upto_region 5 with fail
 go_cut [32] from 33 to 48 (fun bb wc=>bb=.bool (!ia)/\Below w2.heap.size w2 wc)
 case first =>
  clear HC HP GY I0;generalize Q0Q ⟨ib,io,ir,iff,ig⟩=cd at *
  generalize Q0u vb vo=av at *
  generalize decide (ib<128)=k1 at *
  generalize decide (vb<128)=k2 at *
  cases cd with
  | false =>
   have HE:Hid (∀n,Below w2.heap.size w2 (w2.drewN n)):=fun n=>Q1f (Below.refl w2.heap.size w2) n
   obtain rfl:ia=false:=by
    have:=FN.out;rw[J3u] at this;exact this
   clear FN HS
   go_quiet (first|(go_at_call 96;exact(Fn.out _)))
   go_wp2_with fail;go_meet;exact⟨rfl,HE.out _⟩
  | true =>
   cases av with
   | false =>
    obtain rfl:ia=false:=by
     have:=FN.out;rw[J3u,Bool.and_false] at this;exact this
    clear FN
    first|go_region_with (first|(go_at_call 95;refine(Du.out _).mono ?_;rintro r w5⟨rfl,Ay⟩;have Bs:=Q0a ((Below.refl w2.heap.size w2).drew.trans (Ay.mono (Z9s _)));clear Ay))|fail
    all_goals (go_wp2_with fail;go_meet;exact⟨rfl,Bs.out⟩)
   | true =>
    by_cases hk:k1=k2
    ·subst hk;obtain rfl:ia=true:=by
      have:=FN.out;rw[J0z,J0z,beq_self_eq_true] at this;exact this
     clear FN
     go_region_held3 (fun W=>W.cell? ⟨w.heap.size,0,none⟩=some (.int .i64 ib)/\W.cell? ⟨w.heap.size+1,0,none⟩=some (.int .i64 vb)/\W.cell? ⟨w.heap.size+1,1,none⟩=some (.int .i64 vo)) (first|exact⟨c0,v0,v1⟩|exact⟨d0,e0,e1⟩|exact MK)
     (first|(go_at_call 95;refine(Du.out _).mono ?_;rintro r w5⟨rfl,Ay⟩;have Gg:=HS.out w5 ((Below.refl w2.heap.size w2).drew.trans (Ay.mono (Z9s _)));have MK:=(⟨Gg.2.1.1.1,Gg.2.1.2.1,Gg.2.1.2.2⟩:_/\_/\_);have Bs:=Q0a ((Below.refl w2.heap.size w2).drew.trans (Ay.mono (Z9s _)));clear Gg Ay)|(go_at_call_of 96 ib;refine(Fn.out _).mono ?_;rintro r w'⟨rfl,rfl⟩)|(go_at_call_of 96 vb;refine(IS.out _).mono ?_;rintro r w'⟨rfl,rfl⟩))
     all_goals (go_wp2_with fail;go_meet;exact⟨rfl,Bs.out⟩)
    ·obtain rfl:ia=false:=by
      have:=FN.out;rw[J0z,J0z,beq_false_of_ne hk] at this;exact this
     clear FN;have Bj:(k1 != k2)=true:=bne_iff_ne.2 hk
     go_region_held3 (fun W=>W.cell? ⟨w.heap.size,0,none⟩=some (.int .i64 ib)/\W.cell? ⟨w.heap.size+1,0,none⟩=some (.int .i64 vb)/\W.cell? ⟨w.heap.size+1,1,none⟩=some (.int .i64 vo)) (first|exact⟨c0,v0,v1⟩|exact⟨d0,e0,e1⟩|exact MK)
     (first|(go_at_call 95;refine(Du.out _).mono ?_;rintro r w5⟨rfl,Ay⟩;have Gg:=HS.out w5 ((Below.refl w2.heap.size w2).drew.trans (Ay.mono (Z9s _)));have MK:=(⟨Gg.2.1.1.1,Gg.2.1.2.1,Gg.2.1.2.2⟩:_/\_/\_);have Bs:=Q0a ((Below.refl w2.heap.size w2).drew.trans (Ay.mono (Z9s _)));clear Gg Ay)|(go_at_call_of 96 ib;refine(Fn.out _).mono ?_;rintro r w'⟨rfl,rfl⟩)|(go_at_call_of 96 vb;refine(IS.out _).mono ?_;rintro r w'⟨rfl,rfl⟩))
     all_goals (go_wp2_with fail;go_meet;exact⟨by simp[beq_false_of_ne hk],Bs.out⟩)
 obtain⟨rfl,Ay⟩:=hcut;clear c0 c1 c2 c3 c4 v0 v1 s0 s1 s2 d0 d1 d2 d3 d4 e0 e1 FN Du Fn IS;cases ia with
 | false =>
  have HE:=Q0a (GY.out 1 wc (.inl ⟨rfl,rfl⟩) (HS.out wc Ay).1.1);clear HS HC HP Ay GY I0;go_wp2_with fail
  (try go_ret2);exact HE.out
 | true =>
  obtain⟨pa,pv,F3,CS,Ng,IQ⟩:=HP.out rfl;obtain⟨pa1,pa2,pa3,pa4,pa5⟩:=Q1t pa;obtain⟨pv1,pv2,pv3,pv4,pv5⟩:=Q1t pv;have Bs:=Q0a Ay;obtain⟨-,⟨⟨c0,c1,c2,c3,c4⟩,v0,v1⟩,s0,s1,s2⟩:=HS.out wc Ay;obtain⟨-,⟨⟨d0,d1,d2,d3,d4⟩,e0,e1⟩,-,-,-⟩:=HS.out wc.drew Ay.drew;clear HP pa pv Ay;obtain⟨ko,rfl⟩:=J0N pa2;obtain⟨kv,rfl⟩:=J0N pv2;rw[J0o] at *
  rw[J0o] at I0 GY;have EB:0<2 ^ ko:=Nat.pow_pos (by omega);go_upto_region 7 with fail;go_region;obtain⟨po,FF⟩:∃po:Nat,po=2 ^ ko:=⟨_,rfl⟩
  obtain⟨pv,ID⟩:∃pv:Nat,pv=2 ^ kv:=⟨_,rfl⟩
  have epo:(2:Int) ^ ko=(po:Int):=by rw[FF];simp
  have epv:(2:Int) ^ kv=(pv:Int):=by rw[ID];simp
  rw[<- FF] at EB pa4 pa5;rw[<- ID] at pv4 pv5;have Ea:wrap64 (po:Int)=(po:Int):=Z3V pa5;have Eh:wrap64 (pv:Int)=(pv:Int):=Z3V pv5;have Fy:wrap64 (iff+(po:Int))=iff+(po:Int):=Z6j pa5 Ng IQ;simp only[epo,epv,Ea,Eh,Fy];have CD:Hid ((((2 ^ ko:Nat):Int))=(po:Int)/\(((2 ^ kv:Nat):Int))=(pv:Int)/\(2:Int) ^ ko=(po:Int)/\(2:Int) ^ kv=(pv:Int)/\po=2 ^ ko):=⟨by rw[FF],by rw[ID],epo,epv,FF⟩
  have MP:=Q0a epo;have La:=Q0a Ea;clear epo epv FF ID Ea Eh Fy;have HD:=Q0a (Below.drew Bs.out);by_cases Ah:iff+(po:Int)<=(pv:Int)
  ·have KT:¬((pv:Int)<iff+(po:Int)):=by omega
   clear d0 d1 d2 d3 d4 e0 e1 c0 c1 c2 c3 c4 v0 v1 s0 s1 s2;obtain⟨-,⟨⟨d0,d1,d2,d3,d4⟩,e0,e1⟩,-,-,-⟩:=HS.out wc.drew HD.out;go_wp2_with fail;simp only[MP.out,La.out];clear d0 d1 d2 d3 d4 e0 e1;generalize wc.drew=w3 at *
   have HI:Hid (0<=ib/\ib.toNat+po<=256/\0<=vb/\vb.toNat+pv<=256/\po<=128/\0<=iff/\iff<256):=⟨pa1,pa4,pv1,pv4,pa5,Ng,IQ⟩
   clear pa1 pa3 pa4 pa5 pv1 pv3 pv4 pv5 pa2 pv2 F3 CS Ng IQ EB KT Bs
   go_loopg [14,63] po (fun gk ov kk wr=>∃k:Nat,kk=.int .i64 k/\k+gk=po/\OutM w3 wr ov (movV f ⟨ib,(ko:Int),ir,iff,ig⟩ ⟨vb,(kv:Int)⟩ k))
   case atStart=>exact⟨0,rfl,by omega,OutM.nil w3⟩
   case round =>
    obtain⟨k,rfl,Cc,Bt⟩:=hrel;have HO:=Q0a Bt;have DD:=Q0a Cc;clear Cc;have Bb:Below w2.heap.size w2 wr:=HD.out.trans (Bt.2.mono HD.out.size);by_cases Aa:k<po
    ·obtain⟨⟨-,Jk,Pf⟩,⟨⟨c0,c1,c2,c3,c4⟩,v0,v1⟩,s0,s1,s2⟩:=HS.out wr Bb;have kc:=HC.out g wr k Jk Pf (by have:=CD.out.2.2.2.2;omega) (by trivial);have Cs:=Q0a (movV_succ f ⟨ib,(ko:Int),ir,iff,ig⟩ ⟨vb,(kv:Int)⟩ k);have DY:=Q0a Bb;have Cu:(k:Int)<(po:Int):=by omega
     have AT:=Q0a Aa;have NH:(k:Int)<128:=by have:=HI.out;omega
     have Bp:(0:Int)<=(k:Int):=by omega
     have Nv:IntKind.i64.wrap (ib+(k:Int))=ib+(k:Int):=Go.IntWalk.i64_in _ (by have:=HI.out;omega);have Rt:IntKind.i64.wrap (vb+iff)=vb+iff:=Go.IntWalk.i64_in _ (by have:=HI.out;omega);have Rg:IntKind.i64.wrap (vb+iff+(k:Int))=vb+iff+(k:Int):=Go.IntWalk.i64_in _ (by have:=HI.out;omega);have K9:(movV f ⟨ib,(ko:Int),ir,iff,ig⟩ ⟨vb,(kv:Int)⟩ k).length<=16777216:=by
      have h1:=Q9H f ⟨ib,(ko:Int),ir,iff,ig⟩ ⟨vb,(kv:Int)⟩ k;have h2:=HI.out;omega
     have Iz:=Q0a K9;obtain⟨fk,CF⟩:∃b,b=f k:=⟨_,rfl⟩
     rw[<- CF] at kc Cs;clear Bt Bb Jk Pf CF K9;go_wp2_with fail;refine kc.mono ?_;rintro r w4⟨a,b,rfl,AG⟩;have FT:=Q0a (AG.alloc AG.size (.cells #[.int .u32 a,.int .i64 b] 72));have KP:=Q0a (HO.out.below FT.out);obtain⟨-,⟨⟨d0,d1,d2,d3,d4⟩,e0,e1⟩,-,-,-⟩:=HS.out _ (DY.out.trans (FT.out.mono DY.out.size));clear AG kc c0 c1 c2 c3 c4 v0 v1 s0 s1 s2 HO DY FT;cases fk with
     | true =>
      obtain⟨v',w',AP,OZ⟩:=KP.out.app Iz.out (itMv ⟨ib,(ko:Int),ir,iff,ig⟩ ⟨vb,(kv:Int)⟩ k) 61;have HR:Hid (OutM w3 w' v' (movV f ⟨ib,(ko:Int),ir,iff,ig⟩ ⟨vb,(kv:Int)⟩ (k+1))):=by
       rw[Cs.out,if_pos rfl];exact OZ
      have GD:(w4.alloc (.cells #[.int .u32 a,.int .i64 b] 72)).heap.size=w4.heap.size+1:=by simp
      rw[GD] at AP;unfold itMv at AP;dsimp only at AP;clear GD OZ Cs KP Iz;go_wp2_with (at_builtin;refine Lib.wpList_append_run _ rfl _ _ _ _ rfl _ _ rfl rfl _ _ AP ?_);go_roundg (po-(k+1))
      case measure=>have:=DD.out;omega
      case rel=>exact⟨k+1,by go_num,by have:=AT.out;omega,HR.out⟩
     | false =>
      have HR:Hid (OutM w3 (w4.alloc (.cells #[.int .u32 a,.int .i64 b] 72)) u14 (movV f ⟨ib,(ko:Int),ir,iff,ig⟩ ⟨vb,(kv:Int)⟩ (k+1))):=by
       rw[Cs.out,if_neg (by decide),J1p];exact KP.out
      clear Cs KP Iz;go_wp2_with fail;go_roundg (po-(k+1))
      case measure=>have:=DD.out;omega
      case rel=>exact⟨k+1,by go_num,by have:=AT.out;omega,HR.out⟩
    ·obtain rfl:k=po:=by have:=DD.out;omega
     have HX:Hid (Q (.returned (.tuple #[u14,.int .i64 0])) wr):=by
      refine I0.out (by trivial) ?_ _ _ ?_
      ·rw[CD.out.1,CD.out.2.1];exact Ah
      ·rw[<- CD.out.2.2.2.2];have h1:=(HS.out w3 HD.out).1.1;exact⟨Q4k Bt.1 h1.size,h1.trans (Bt.2.mono h1.size)⟩
     clear Bt Bb HO HS HC GY I0;go_wp2_with fail
     (try go_ret2);exact HX.out
  ·have KT:(pv:Int)<iff+(po:Int):=by omega
   have HE:=Q0a (GY.out 2 wc.drew (.inr ⟨by trivial,by rw[CD.out.1,CD.out.2.1];first|exact Ah|omega,rfl⟩) (HS.out wc.drew HD.out).1.1);clear HS HC Bs GY I0;go_wp2_with fail
   (try go_ret2);exact HE.out
theorem Z1g{w:World}{Z:SP}{fr:List Nat}{N K:Nat}{M:Int}(hs:Sep w Z.hl)(ok:Z.Ok fr N K M){x:Nat}(hx:x<4294967296)(i:It)(v:Wi)(hi:i.Wf)(hv:v.Wf) :
  Calls prog 38 #[.pointer (some ⟨Z.s,0,none⟩),.int .u32 x,.agg #[.int .i64 i.base,.int .i64 i.order,.int .i64 i.r,.int .i64 i.off,.bool i.g],.agg #[.int .i64 v.base,.int .i64 v.order]] w (MvsR Z x i v w):=by
 cases hp:pget Z.S.l 1 x with
 | none =>
  refine(Q5p hs ok.core hx i v 8 (by decide) (.inl ⟨hp,rfl⟩)).mono ?_;rintro r w'⟨rfl,hb⟩;exact⟨hb,.inl ⟨8,by decide,rfl,.inl ⟨hp,rfl⟩⟩⟩
 | some p =>
  by_cases hk:p.kind=2
  case neg =>
   refine(Q5p hs ok.core hx i v 10 (by decide) (.inr ⟨p,hp,hk,rfl⟩)).mono ?_;rintro r w'⟨rfl,hb⟩;exact⟨hb,.inl ⟨10,by decide,rfl,.inr ⟨p,hp,.inl ⟨hk,rfl⟩⟩⟩⟩
  have BU:Below w.heap.size w ((w.alloc (.cells #[.int .i64 i.base,.int .i64 i.order,.int .i64 i.r,.int .i64 i.off,.bool i.g] 63)).alloc (.cells #[.int .i64 v.base,.int .i64 v.order] 65)):=((Below.refl w.heap.size w).alloc (Z9s _) _).alloc (by simp) _;have s0:=(hs.grown BU).sep;have ET:=(pget_some.1 hp).1;have Av:=(pget_some.1 hp).2.2;refine Q8G (fac:=p.fac) (f:=Q1H Z x i) (T:=fun g W=>Sep W Z.hl/\TblZ Z p g W) ?_ ?_ ?_ ?_ ?_
  ·refine(Q1Y s0 ok.core hx hp hk).mono ?_;rintro r w'⟨g,rfl,hb,hg⟩;exact⟨g,rfl,hb,(s0.grown hb).sep,hg⟩
  ·rintro g W W'⟨h1,h2⟩ hb;exact⟨(h1.grown hb).sep,h2.grown h1 hb⟩
  ·rintro g W k-⟨h1,h2⟩ Aa EC;have Ba:Q0u i.base i.order=true:=by
    unfold Q3b Q0Q at EC;simp only[Z9M,decide_eq_true_eq] at EC;exact EC.1.1
   obtain⟨q1,q2,q3,q4,q5⟩:=Q1t Ba;have T:=(ok.tpi.x (p.fac:Int)).tt ok.core ET Av hk (SP.sS h1) h2.c;have PC:0<=i.base+(k:Int)/\i.base+(k:Int)<256:=by omega
   have PM:(i.base+(k:Int)).toNat=i.base.toNat+k:=by omega
   have BL:(Z.tb (x%256)).at' (i.base+(k:Int))=Q0k Z.S.l Z.tb x (i.base.toNat+k):=by
    unfold TB.at';rw[if_pos PC,PM,Q0m hp hk (by omega)]
   have kc:=Q2T T (x:Int) (p.fac:Int) (i.base+(k:Int)) fun e he=>by
    rw[BL] at he;exact ok.fpi.low ok.core.inv.lok he
   rw[BL] at kc;obtain⟨a,b,DI⟩:=Q5W (Q0k Z.S.l Z.tb x (i.base.toNat+k));rw[DI] at kc;refine kc.mono ?_;rintro r w'⟨rfl,hb⟩;exact⟨a,b,rfl,hb⟩
  ·intro er w' he hb;refine⟨hb,.inl ⟨er,?_,rfl,.inr ⟨p,hp,.inr ⟨hk,he⟩⟩⟩⟩;rcases he with ⟨_,rfl⟩|⟨_,_,rfl⟩ <;> decide
  ·intro ha hf a w' ho;obtain⟨a0,cap,rfl,Bc⟩:=Q9y ho.1;have Bd:(movV (Q1H Z x i) i v (2 ^ i.order.toNat)).length<=cap:=by
    rcases ho.1.2 with ⟨e,h0⟩|⟨g,c,Ap,e,_,_,hn,_⟩
    ·rw[h0];exact J1l _
    ·cases e;exact hn
   refine⟨ho.2,.inr ⟨p,a0,cap,_,hp,hk,ha,hf,rfl,rfl,Bd,?_⟩⟩;have Ba:Q0u i.base i.order=true/\Q0u v.base v.order=true/\1<=i.r/\i.r<=15/\0<=i.off/\i.off<256:=by
    unfold Q3b Q0Q at ha;simp only[Z9M,decide_eq_true_eq] at ha;exact⟨ha.1.1,ha.2.1,ha.1.2⟩
   obtain⟨q1,q2,q3,q4,q5⟩:=Q1t Ba.1;obtain⟨r1,r2,r3,r4,r5⟩:=Q1t Ba.2.1;refine⟨fun j hj=>?_,fun ad h0 G6 CG=>?_⟩
   ·have Hq:(movV (Q1H Z x i) i v (2 ^ i.order.toNat))[j]?=some ((movV (Q1H Z x i) i v (2 ^ i.order.toNat))[j]):=J1A hj;have FI:(movV (Q1H Z x i) i v (2 ^ i.order.toNat)).getD j noMv=(movV (Q1H Z x i) i v (2 ^ i.order.toNat))[j]:=by rw[J3w,Hq];rfl
    have A2:(movV (Q1H Z x i) i v (2 ^ i.order.toNat))[j]∈movV (Q1H Z x i) i v (2 ^ i.order.toNat):=J2E hj;obtain⟨g,hg,_,Aa,_⟩:=Bc (j*4) _ (Q0Y _ j 0 _ _ Hq rfl);refine⟨g,0,hg,Aa,fun t u hu=>?_,?_⟩
    ·have hu:((movV (Q1H Z x i) i v (2 ^ i.order.toNat))[j]).cells[t]?=some u:=by rw[<- FI];exact hu
     obtain⟨g',Df,_,_,hc⟩:=Bc (j*4+t) u (Q0Y _ j t _ _ Hq hu);rw[hg] at Df;cases Df;rw[J1N];exact hc
    ·show Mv.Wf ((movV (Q1H Z x i) i v (2 ^ i.order.toNat)).getD j noMv);rw[FI];unfold movV at A2;obtain⟨k,Bj,e⟩:=Z9y.1 A2;have An:=Z9I.1 (Z9L.1 Bj).1;unfold movV;rw[<- e];unfold itMv;exact⟨⟨by dsimp only;omega,by dsimp only;omega⟩,⟨by dsimp only;omega,by dsimp only;omega⟩,⟨by dsimp only;omega,by dsimp only;omega⟩⟩
   ·subst G6;have hL:(movV (Q1H Z x i) i v (2 ^ i.order.toNat)).length≠0:=h0;have Eb:0<(movV (Q1H Z x i) i v (2 ^ i.order.toNat)).length:=by omega
    obtain⟨g,hg,Jo,_⟩:=Bc (0*4) _ (Q0Y _ 0 0 _ _ (J1A Eb) rfl);cases hg;exact absurd (hs.lt CG) (by dsimp only;omega)
theorem OutM.aside{w w':World}{v:Value}{L:List Mv}{H:HL}(hs:Sep w H)(h:OutM w w' v L)(hwf:∀m∈L,m.Wf):∃(a:Option Addr) (cap:Nat),v=.slice a L.length cap/\L.length<=cap/\AsideM H L.length (fun j=>L.getD j noMv) a w':=by
 obtain⟨a0,cap,rfl,Bc⟩:=Q9y h.1;have Bd:L.length<=cap:=by
  rcases h.1.2 with ⟨e,h0⟩|⟨g,c,Ap,e,_,_,hn,_⟩
  ·rw[h0];exact J1l _
  ·cases e;exact hn
 refine⟨a0,cap,rfl,Bd,fun j hj=>?_,fun ad h0 G6 CG=>?_⟩
 ·have Hq:L[j]?=some L[j]:=J1A hj;have FI:L.getD j noMv=L[j]:=by rw[J3w,Hq];rfl
  obtain⟨g,hg,_,Aa,_⟩:=Bc (j*4) _ (Q0Y _ j 0 _ _ Hq rfl);refine⟨g,0,hg,Aa,fun t u hu=>?_,?_⟩
  ·have hu:(L[j]).cells[t]?=some u:=by rw[<- FI];exact hu
   obtain⟨g',Df,_,_,hc⟩:=Bc (j*4+t) u (Q0Y _ j t _ _ Hq hu);rw[hg] at Df;cases Df;rw[J1N];exact hc
  ·show Mv.Wf (L.getD j noMv);rw[FI];exact hwf _ (J2E hj)
 ·subst G6;have Eb:0<L.length:=by omega
  obtain⟨g,hg,Jo,_⟩:=Bc (0*4) _ (Q0Y _ 0 0 _ _ (J1A Eb) rfl);cases hg;exact absurd (hs.lt CG) (by dsimp only;omega)
def mvL(A:Nat->Mv)(n:Nat):List Mv:=(List.range n).map A
theorem Z3W(A:Nat->Mv)(n:Nat):(mvL A n).length=n:=by simp[mvL]
theorem Z6I(A:Nat->Mv){n j:Nat}(h:j<n):(mvL A n)[j]?=some (A j):=by simp[mvL,h]
theorem Q5q:∀(L:List Mv),∀u∈L.flatMap Mv.cells,u.oneCell'=true
 | [],u,h=>by cases h
 | m::r,u,h=>by
  rw[Z9O] at h;rcases Z9Y.1 h with h|h
  ·simp only[Mv.cells,Z9x,List.mem_nil_iff,or_false] at h;rcases h with rfl|rfl|rfl|rfl <;> rfl
  ·exact Q5q r u h
theorem Q5r{w:World}(base:Nat)(t ty e:TypeId)(i:TypeInfo)(size:Nat)(ht:prog.underlying t=some (.slice e))(hi:prog.info? e=some i)
  (v:Value) (n c:Nat) (xs:List Value) (Am:w.ownsRow base e size v n xs):(Builtin.append_ #[t,t] ty #[v,.slice none 0 c]).run prog w=.ok v w:=by
 rcases Am.2 with ⟨rfl,rfl⟩|⟨g,cap,Ap,rfl,_,_,Pb,_⟩
 ·simp[Builtin.append_,run_underlying ht,sizeOf,typeInfo,hi,Builtin.lenOf,Builtin.firstCells]
 ·simp[Builtin.append_,run_underlying ht,sizeOf,typeInfo,hi,Builtin.lenOf,Builtin.firstCells,Pb,storeCells]
theorem OutM.put{w wr:World}{v:Value}{L:List Mv}(h:OutM w wr v L){n cap:Nat}{A:Nat->Mv}{a:Option Addr}(hM:IsMv wr a n A)(hl:L.length+n<=65536)(ty:TypeId) :
  ∃v' w',(Builtin.append_ #[61,61] ty #[v,.slice a n cap]).run prog wr=.ok v' w'/\OutM w w' v' (L++mvL A n)/\(∀b,b<wr.heap.size->v.ownBlock≠some b->w'.heap[b]?=wr.heap[b]?)/\wr.heap.size<=w'.heap.size:=by
 obtain⟨i0,hi,Bq,AM,Bh⟩:=info_parts Z6H;have EJ:=Z3W A n;by_cases ha:a=none
 ·subst ha;have hn:n=0:=by
   refine Classical.byContradiction fun hc=>?_
   obtain⟨g,off,e,_⟩:=hM 0 (by omega);cases e
  subst hn;refine⟨v,wr,Q5r w.heap.size 61 ty 90 i0 4 underlying61 hi v _ _ _ h.1,?_,fun _ _ _=>rfl,Z9s _⟩;have:mvL A 0=[]:=rfl;rw[this,J1p];exact h
 ·obtain⟨ad,rfl⟩:=J3q.1 ha;obtain⟨v',w',hr,q1,q2,_,q4⟩:=run_append_own_at (P:=prog) wr w.heap.size 61 ty 90 i0 (.agg #[.int .i64 0,.int .i64 0,.int .i64 0,.bool false]) 4 32 underlying61 hi Bq AM Bh rfl (by decide) v L.length (L.flatMap Mv.cells) h.1 ad n cap ((mvL A n).flatMap Mv.cells) (by rw[Q2k,EJ]) (by
   intro j u hj;have FG:j<n*4:=by
    have:=(Z9J.1 hj).1
    rwa [Q2k,EJ] at this
   have hd:j/4<n:=by omega
   obtain⟨g,off,e,hg,hc,_⟩:=hM (j/4) hd;cases e;have Lx:j%4<4:=J2n _ (by omega);have AS:(A (j/4)).cells.length=4:=rfl;have Ov:(A (j/4)).cells[j%4]?=some ((A (j/4)).cells[j%4]'(by rw[AS];exact Lx)):=J1A _;have hx:=Q0Y (mvL A n) (j/4) (j%4) _ _ (Z6I A hd) Ov;rw[show j/4*4+j%4=j by omega,hj] at hx;have hv:=hc (j%4) _ Ov;rw[<- J0g hx] at hv;have e:(⟨g,off,none⟩:Addr).add j=⟨g,off+j,none⟩:=by unfold Addr.add;split <;> simp_all
   rw[e,show off+j=off+j/4*4+j%4 by omega];exact hv) (Q5q _) (by unfold maxLen;omega) (by omega) h.2.size
  refine⟨v',w',hr,⟨?_,?_⟩,fun b hb Ab=>q2.block b hb (fun e=>Ab e.symm),q2.size⟩
  ·rw[Z9V,EJ,Z9U];exact q1
  ·exact(Below.refl _ _).trans (h.2.trans ((Below.refl _ _).mono h.2.size |>.grown q2 h.2.size (fun b hb=>(h.1.lt b hb).1)))
def Q5w(Z:SP)(x:Nat)(v:Wi)(i:It):Prop:=∃p,pget Z.S.l 1 x=some p/\p.kind=2/\Q3b i v=true/\i.off+((2 ^ i.order.toNat:Nat):Int)<=((2 ^ v.order.toNat:Nat):Int)
def Q2l(Z:SP)(x:Nat)(v:Wi)(its:List It):List Mv:=its.flatMap fun i=>movV (Q1H Z x i) i v (2 ^ i.order.toNat)
def CMvR(Z:SP)(x:Nat)(v:Wi)(its:List It)(w:World)(r:Ending)(w':World):Prop:=
 (∃er i,er≠0/\i∈its/\MvsE Z x i v er/\r=.returned (.tuple #[.slice none 0 0,.int .i64 er])/\Below w.heap.size w w') ∨
 ((∀i∈its,Q5w Z x v i)/\∃ov,r=.returned (.tuple #[ov,.int .i64 0])/\OutM w w' ov (Q2l Z x v its))
theorem Z6k(L:List Mv):mvL (fun j=>L.getD j noMv) L.length=L:=by
 apply J0R
 intro j;by_cases h:j<L.length
 ·rw[Z6I _ h,J3w,J1A h];rfl
 ·rw[J0Y (by rw[Z3W];omega),J0Y (by omega)]
theorem Q6h(Z:SP)(x:Nat)(v:Wi){its:List It}{k:Nat}{i:It}(h:its[k]?=some i):Q2l Z x v (its.take (k+1))=Q2l Z x v (its.take k)++movV (Q1H Z x i) i v (2 ^ i.order.toNat):=by
 rw[J1f,h];simp[Q2l]
theorem Q5s(Z:SP)(x:Nat)(v:Wi):∀its:List It,(∀i∈its,Q5w Z x v i)->(Q2l Z x v its).length<=128*its.length
 | [],_=>by simp[Q2l]
 | i::r,h=>by
  have h1:=Q5s Z x v r fun j hj=>h j (J3t _ hj)
  obtain⟨p,_,_,ha,_⟩:=h i (by simp);have Ba:Q0u i.base i.order=true:=by
   unfold Q3b Q0Q at ha;simp only[Z9M] at ha;exact ha.1.1
  have h2:=Q9H (Q1H Z x i) i v (2 ^ i.order.toNat);have h3:=(Q1t Ba).2.2.2.2;have e:Q2l Z x v (i::r)=movV (Q1H Z x i) i v (2 ^ i.order.toNat)++Q2l Z x v r:=rfl;rw[e,Z9V,Z9W];omega
theorem MvsR.shape{Z:SP}{x:Nat}{i:It}{v:Wi}{w w':World}{r:Ending}(h:MvsR Z x i v w r w'):Below w.heap.size w w'/\∃(a:Option Addr) (n cap:Nat) (er:Int),r=.returned (.tuple #[.slice a n cap,.int .i64 er]) /\
  ((er≠0/\MvsE Z x i v er)∨(er=0/\Q5w Z x v i/\n=(movV (Q1H Z x i) i v (2 ^ i.order.toNat)).length/\IsMv w' a n (fun j=>(movV (Q1H Z x i) i v (2 ^ i.order.toNat)).getD j noMv))):=by
 obtain⟨hb,hr⟩:=h;rcases hr with ⟨er,h0,rfl,he⟩|⟨p,a,cap,L,hp,hk,ha,hf,rfl,rfl,_,hA⟩
 ·exact⟨hb,none,0,0,er,rfl,.inl ⟨h0,he⟩⟩
 ·exact⟨hb,a,_,cap,0,rfl,.inr ⟨rfl,⟨p,hp,hk,ha,hf⟩,rfl,hA.1⟩⟩
theorem Q8H{w:World}{Z:SP}{fr:List Nat}{N K:Nat}{M:Int}(ok:Z.Ok fr N K M)(h:Sep w Z.hl){c k:Nat}(hc:CarC Z c k w){x:Nat}(hx:x<4294967296)(v:Wi)(hv:v.Wf){its:List It}{ia:Option Addr}(ic:Nat)(ET:IsI w ia its)(hwf:∀i∈its,i.Wf)(hl:its.length<=20) :
  Calls prog 118 #[.pointer (some ⟨c,0,none⟩),.int .u32 x,.agg #[.int .i64 v.base,.int .i64 v.order],.slice ia its.length ic] w (CMvR Z x v its w):=by
 have b0:Below w.heap.size w (w.alloc (.cells #[.int .i64 v.base,.int .i64 v.order] 65)):=(Below.refl _ _).alloc (Z9s _) _;have cw:=Cells.new w 65 [.int .i64 v.base,.int .i64 v.order];have HV:Hid (∀V,Below (w.alloc (.cells #[.int .i64 v.base,.int .i64 v.order] 65)).heap.size (w.alloc (.cells #[.int .i64 v.base,.int .i64 v.order] 65)) V->((V.cell? ⟨c,0,none⟩=some (.pointer (some ⟨k,0,none⟩))/\V.cell? ⟨k,0,none⟩=some (.pointer (some ⟨Z.s,0,none⟩)))/\V.cell? ⟨w.heap.size,0,none⟩=some (.int .i64 v.base)/\V.cell? ⟨w.heap.size,1,none⟩=some (.int .i64 v.order))/\IsI V ia its /\
   ∀i∈its,Calls prog 38 #[.pointer (some ⟨Z.s,0,none⟩),.int .u32 x,.agg #[.int .i64 i.base,.int .i64 i.order,.int .i64 i.r,.int .i64 i.off,.bool i.g],.agg #[.int .i64 v.base,.int .i64 v.order]] V (MvsR Z x i v V)):=fun V hV=>by
  have hb:=Q0b hV;have s1:=h.grown hb;have cv:=cw.same (hV.block _ cw.lt);exact⟨⟨(hc.step rfl s1).cells,cv.cell 0 _ rfl,cv.cell 1 _ rfl⟩,ET.below hb,fun i hi=>Z1g s1.sep ok hx i v (hwf i hi) hv⟩
 have HE:Hid (∀V er i,er≠0->i∈its->MvsE Z x i v er->Below (w.alloc (.cells #[.int .i64 v.base,.int .i64 v.order] 65)).heap.size (w.alloc (.cells #[.int .i64 v.base,.int .i64 v.order] 65)) V->CMvR Z x v its w (.returned (.tuple #[.slice none 0 0,.int .i64 er])) V):=fun V er i h0 hi he hV=>.inl ⟨er,i,h0,hi,he,rfl,Q0b hV⟩
 have HD:Hid (∀V ov,(∀i∈its,Q5w Z x v i)->OutM (w.alloc (.cells #[.int .i64 v.base,.int .i64 v.order] 65)) V ov (Q2l Z x v its)->CMvR Z x v its w (.returned (.tuple #[ov,.int .i64 0])) V):=fun V ov hf ho=>.inr ⟨hf,ov,rfl,Q4k ho.1 b0.size,b0.trans (ho.2.mono b0.size)⟩
 generalize CMvR Z x v its w=Q at *
 obtain⟨vb,vo⟩:=v;dsimp only at *
 obtain⟨nI,Gd⟩:∃n,n=its.length:=⟨_,rfl⟩
 have HN:=Q0a Gd;rw[<- Gd] at hl;rw[<- Gd];have R3:(nI:Int)<=20:=by omega
 clear ok h hc hx ET hwf b0 cw Gd hv;go_enter func118,ntmps118;go_wp2_with fail;generalize hW0:(w.alloc (.cells #[.int .i64 vb,.int .i64 vo] 65))=W0 at *
 have Bq:w.heap.size<W0.heap.size:=by rw[<- hW0];simp
 clear hW0
 go_loopg [10,17] nI (fun gk ov iv wr=>∃j:Nat,iv=.int .i64 j/\j+gk=nI/\OutM W0 wr ov (Q2l Z x ⟨vb,vo⟩ (its.take j))/\∀i∈its.take j,Q5w Z x ⟨vb,vo⟩ i)
 case atStart=>exact⟨0,rfl,by omega,OutM.nil W0,by simp⟩
 case round =>
  obtain⟨j,rfl,Cb,Bt,Ds⟩:=hrel;have Ep:=Q0a Cb;have HO:=Q0a Bt;have HF:=Q0a Ds;have Bb:=Bt.2;clear Cb;by_cases Aa:j<nI
  ·obtain⟨i,DQ⟩:∃i,its[j]?=some i:=⟨_,J1A (by rw[<- HN.out];exact Aa)⟩
   obtain⟨g',o',rfl,Df,Ak⟩:=(HV.out wr Bb).2.1 j i DQ;have i0:wr.cell? ⟨g',o'+j*5,none⟩=some (.int .i64 i.base):=Ak 0 _ rfl;have i1:wr.cell? ⟨g',o'+j*5+1,none⟩=some (.int .i64 i.order):=Ak 1 _ rfl;have i2:wr.cell? ⟨g',o'+j*5+2,none⟩=some (.int .i64 i.r):=Ak 2 _ rfl;have i3:wr.cell? ⟨g',o'+j*5+3,none⟩=some (.int .i64 i.off):=Ak 3 _ rfl;have i4:wr.cell? ⟨g',o'+j*5+4,none⟩=some (.bool i.g):=Ak 4 _ rfl;have Ia:(j:Int)<(nI:Int):=by omega
   have Eb:(0:Int)<=(j:Int):=by omega
   have Aj:=Q0a (Bb.alloc Bb.size (.cells #[.int .i64 i.base,.int .i64 i.order,.int .i64 i.r,.int .i64 i.off,.bool i.g] 63));have cI:=Cells.new wr 63 [.int .i64 i.base,.int .i64 i.order,.int .i64 i.r,.int .i64 i.off,.bool i.g];have Ly:wr.heap.size<(wr.alloc (.cells #[.int .i64 i.base,.int .i64 i.order,.int .i64 i.r,.int .i64 i.off,.bool i.g] 63)).heap.size:=by simp
   have HS:Hid (∀V,Below (wr.alloc (.cells #[.int .i64 i.base,.int .i64 i.order,.int .i64 i.r,.int .i64 i.off,.bool i.g] 63)).heap.size (wr.alloc (.cells #[.int .i64 i.base,.int .i64 i.order,.int .i64 i.r,.int .i64 i.off,.bool i.g] 63)) V->((V.cell? ⟨c,0,none⟩=some (.pointer (some ⟨k,0,none⟩))/\V.cell? ⟨k,0,none⟩=some (.pointer (some ⟨Z.s,0,none⟩)))/\V.cell? ⟨w.heap.size,0,none⟩=some (.int .i64 vb)/\V.cell? ⟨w.heap.size,1,none⟩=some (.int .i64 vo))/\V.cell? ⟨wr.heap.size,0,none⟩=some (.int .i64 i.base)/\V.cell? ⟨wr.heap.size,1,none⟩=some (.int .i64 i.order)/\V.cell? ⟨wr.heap.size,2,none⟩=some (.int .i64 i.r)/\V.cell? ⟨wr.heap.size,3,none⟩=some (.int .i64 i.off)/\V.cell? ⟨wr.heap.size,4,none⟩=some (.bool i.g)):=fun V hV=>by
    have ci:=cI.same (hV.block _ cI.lt);exact⟨(HV.out V (Aj.out.trans (hV.mono Aj.out.size))).1,ci.cell 0 _ rfl,ci.cell 1 _ rfl,ci.cell 2 _ rfl,ci.cell 3 _ rfl,ci.cell 4 _ rfl⟩
   have HK:=Q0a ((HV.out _ Aj.out.drew).2.2 i (J1x DQ));have AT:=Q0a Aa;have Lf:=Q0a DQ;have Cs:Hid (∀w5,Below (wr.alloc (.cells #[.int .i64 i.base,.int .i64 i.order,.int .i64 i.r,.int .i64 i.off,.bool i.g] 63)).drew.heap.size (wr.alloc (.cells #[.int .i64 i.base,.int .i64 i.order,.int .i64 i.r,.int .i64 i.off,.bool i.g] 63)).drew w5->Below W0.heap.size W0 w5/\Below (wr.alloc (.cells #[.int .i64 i.base,.int .i64 i.order,.int .i64 i.r,.int .i64 i.off,.bool i.g] 63)).heap.size (wr.alloc (.cells #[.int .i64 i.base,.int .i64 i.order,.int .i64 i.r,.int .i64 i.off,.bool i.g] 63)) w5/\OutM W0 w5 u10 (Q2l Z x ⟨vb,vo⟩ (its.take j))):=fun w5 h5=>by
    have e1:Below (wr.alloc (.cells #[.int .i64 i.base,.int .i64 i.order,.int .i64 i.r,.int .i64 i.off,.bool i.g] 63)).heap.size (wr.alloc (.cells #[.int .i64 i.base,.int .i64 i.order,.int .i64 i.r,.int .i64 i.off,.bool i.g] 63)) w5:=(Below.refl _ _).drew.trans (h5.mono (Z9s _));exact⟨Aj.out.trans (e1.mono Aj.out.size),e1,HO.out.below (Q0b e1)⟩
   obtain⟨ib,io,ir,iff,ig⟩:=i;dsimp only at *
   have s0:=HS.out _ (Below.refl _ _);have s1:=HS.out _ (Below.refl (wr.alloc (.cells #[.int .i64 ib,.int .i64 io,.int .i64 ir,.int .i64 iff,.bool ig] 63)).heap.size (wr.alloc (.cells #[.int .i64 ib,.int .i64 io,.int .i64 ir,.int .i64 iff,.bool ig] 63))).drew;have S0:=Q0a s0;have S1:=Q0a s1;clear Bt Ds Bb Ak Df DQ cI s0 s1 HO Aj HV;go_upto_region 5 with fail
   go_region_held3 (fun V=>((V.cell? ⟨c,0,none⟩=some (.pointer (some ⟨k,0,none⟩))/\V.cell? ⟨k,0,none⟩=some (.pointer (some ⟨Z.s,0,none⟩)))/\V.cell? ⟨w.heap.size,0,none⟩=some (.int .i64 vb)/\V.cell? ⟨w.heap.size,1,none⟩=some (.int .i64 vo))/\V.cell? ⟨wr.heap.size,0,none⟩=some (.int .i64 ib)/\V.cell? ⟨wr.heap.size,1,none⟩=some (.int .i64 io)/\V.cell? ⟨wr.heap.size,2,none⟩=some (.int .i64 ir)/\V.cell? ⟨wr.heap.size,3,none⟩=some (.int .i64 iff)/\V.cell? ⟨wr.heap.size,4,none⟩=some (.bool ig)) (first|exact S0.out|exact S1.out|exact S5.out) (first|(go_at_call 38;refine HK.out.mono ?_;intro r w5 hm;obtain⟨Ay,a5,n5,c5,e5,rfl,Oh⟩:=hm.shape;have H5:=Q0a (Cs.out w5 Ay);have S5:=Q0a (HS.out w5 H5.out.2.1);have KM:=Q0a Oh;clear hm Ay Oh))
   all_goals
    clear Cs HS HK S0 S1;by_cases he:e5=0
    case neg =>
     have Ab:(e5 != 0)=true:=by simp[he]
     have HR:=Q0a (HE.out w5 e5 ⟨ib,io,ir,iff,ig⟩ he (J1x Lf.out) (by rcases KM.out with ⟨_,h⟩|⟨h,_⟩;exact h;exact(he h).elim) H5.out.1);clear HE HD KM H5 S5;go_wp2_with fail
     (try go_ret2);exact HR.out
    case pos =>
     subst he;obtain⟨Ey,L8,B3⟩:Q5w Z x ⟨vb,vo⟩ ⟨ib,io,ir,iff,ig⟩/\n5=_/\_:=by
      rcases KM.out with ⟨h,_⟩|⟨_,h⟩
      ·exact(h rfl).elim
      ·exact h
     have DH:∀i∈its.take (j+1),Q5w Z x ⟨vb,vo⟩ i:=by
      rw[J1f,Lf.out];intro i hi;rcases Z9Y.1 hi with hi|hi
      ·exact HF.out i hi
      ·simp at hi;subst hi;exact Ey
     have Ig:=Q0a DH;have Ac:(Q2l Z x ⟨vb,vo⟩ (its.take j)).length+n5<=65536:=by
      have h1:=Q5s Z x ⟨vb,vo⟩ _ DH;rw[Q6h Z x ⟨vb,vo⟩ Lf.out,Z9V,<- L8,J1C] at h1;have h2:=hl;omega
     obtain⟨v',w9,AP,Ma,_⟩:=(H5.out.2.2).put (cap:=c5) B3 Ac 61;have PG:Hid (OutM W0 w9 v' (Q2l Z x ⟨vb,vo⟩ (its.take (j+1)))):=by
      refine Q0a ?_;rw[Q6h Z x ⟨vb,vo⟩ Lf.out];rw[L8,Z6k] at Ma;exact Ma
     clear Ey L8 B3 DH Ac Ma KM HF H5 S5 HE;go_wp2_with (at_builtin;refine Lib.wpList_append_run _ rfl _ _ _ _ rfl _ _ rfl rfl _ _ AP ?_);go_roundg (nI-(j+1))
     case measure=>have:=Ep.out;have:=AT.out;omega
     case rel=>exact⟨j+1,by go_num,by have:=AT.out;omega,PG.out,Ig.out⟩
  ·obtain rfl:j=nI:=by have:=Ep.out;omega
   have AY:its.take j=its:=J1h (by rw[<- HN.out];exact Z9s _);rw[AY] at Bt Ds;have HR:=Q0a (HD.out wr _ Ds Bt);clear Bt Ds Bb HV HE HD HO HF;go_wp2_with fail
   (try go_ret2);exact HR.out
structure Z8Y(Z Z':SP):Prop where
 s:Z'.s=Z.s
 f:Z'.F.f=Z.F.f
 c:Z'.S.c=Z.S.c
 per:Z'.S.period=Z.S.period
 same:SameP Z.S.P Z'.S.P
 root:pget Z'.S.l 1 0=pget Z.S.l 1 0
theorem SameN.gone{Z Z':SP}(h:SameN Z Z'):Z8Y Z Z':=⟨h.s,h.f,h.alt.c,h.alt.per,h.alt.same,by rw[h.alt.l]⟩
section
variable {Z:SP} {fr:List Nat} {N K:Nat} {M:Int}
end
def GoesZ(Z:SP)(N K:Nat)(M:Int)(w w':World):Prop:=∃(Z':SP) (fr':List Nat),Z'.Ok fr' N K M/\Z8Y Z Z'/\Step Z.hl Z'.hl w w'
theorem GoesZ.mono{Z:SP}{N N' K K':Nat}{M M':Int}{w w':World}(h:GoesZ Z N K M w w')(h1:N<=N')(h2:K<=K')(h3:M<=M'):GoesZ Z N' K' M' w w':=by
 obtain⟨Z',fr',a,b,c⟩:=h;exact⟨Z',fr',a.mono h1 h2 h3,b,c⟩
section
variable {Z:SP} {fr:List Nat} {N K:Nat} {M:Int} {w w':World}
theorem GoesZ.same{Z':SP}(ok:Z'.Ok fr N K M)(s:Z7L Z Z')(st:Step Z.hl Z'.hl w w'):GoesZ Z N K M w w':=⟨Z',fr,ok,s.toSameN.gone,st⟩
theorem BackZ.goes(ok:Z.Ok fr N K M){y:Nat}{own:Int}(h:BackZ Z fr N K y own w w'):GoesZ Z N K M w w':=by
 obtain⟨Z',a,_,b,c⟩:=h.ok ok;exact .same a b c
theorem MoveR.goes(ok:Z.Ok fr N K M){x y n:Nat}{A:Nat->Mv}{er:Int}(R:MoveR Z fr N K M x y n A w er w'):GoesZ Z N K (M+n) w w':=by
 rcases R with ⟨_,_,own,h⟩|⟨p1,p2,_,_,_,_,_,⟨_,a,Z',_,_,h1,h2,_,h3⟩|⟨_,_,h⟩⟩
 ·exact(h.goes ok).mono (Z9s _) (Z9s _) (by omega)
 ·exact⟨Z',fr,h1,h2.gone,h3⟩
 ·exact(h.goes ok).mono (Z9s _) (Z9s _) (by omega)
end
end Go.Proofs.YtfidemmgofcnmaaGreatDoor

/- What the laws of spaces share is proved. No condition. Part of a proof. -/
import Derived.Test.YtfidemmgofcnmaaGreatDoorBz10
import Derived.RangeFuncWrites
import Derived.Maps.OwnIn
import Derived.Sort.WalkB12
import Derived.Lib.SlicesMore
import Derived.Laws.OwnMore
import Derived.Shelf.RegionOpenPlain
import Derived.Great.Ranges
set_option maxHeartbeats 8000000
set_option maxRecDepth 100000
set_option linter.unusedVariables false
namespace Go.Proofs.YtfidemmgofcnmaaGreatDoor
open Go.RowKit Go.Proofs.Tryz
theorem GetC.tup{S:CO}{fr:List Nat}{own n:Nat}{e:En Fa}{w w':World}{r:Ending}(h:GetC S fr own n e w r w'):∃a er:Int,r=.returned (.tuple #[.int .i64 a,.int .i64 er])/\GetC S fr own n e w (.returned (.tuple #[.int .i64 a,.int .i64 er])) w':=by
 have k:∃a er:Int,r=.returned (.tuple #[.int .i64 a,.int .i64 er]):=by
  rcases h with ⟨_,rfl,_⟩|⟨_,_,rfl,_⟩|⟨a,_,_,_,_,rfl,_⟩
  ·exact⟨_,_,rfl⟩
  ·exact⟨_,_,rfl⟩
  ·exact⟨_,_,rfl⟩
 obtain⟨a,er,rfl⟩:=k;exact⟨a,er,rfl,h⟩
theorem Z2U{w:World}{S:CO}{fr:List Nat}(h:Sep w S.hl)(ok:S.P.Ok fr){own n:Nat}{e:En Fa}(hf:find S.P.q.E own=some e)(h1:1<=n)(h7:n<=7) :
  Calls prog 152 #[.pointer (some ⟨S.c,0,none⟩),.int .i64 own,.int .i64 n] w (GetC S fr own n e w):=by
 have hg:=(Q5k (CO.sP h) ok (own:Int) (n:Int)).mono fun r w' hr=>(J1m h ok hf h1 h7 hr).tup
 have c0:=CO.c0 h;have Aq:(((n:Nat):Int) != 8)=true:=by simp;omega
 have Ae:(((n:Nat):Int)==8)=false:=by simp;omega
 generalize GetC S fr own n e w=Q at *
 clear h ok hf h1 h7;go_enter func152,ntmps152;go_wp2_with fail;refine hg.mono ?_;rintro r w1⟨a,er,rfl,hx⟩;have HX:=Q0a hx;clear hx;go_wp2_with fail
 (try go_ret2);exact HX.out
theorem Z2V{w:World}{S:CO}{fr:List Nat}(h:Sep w S.hl)(ok:S.P.Ok fr){own:Nat}{e:En Fa}(hf:find S.P.q.E own=some e) :
  Calls prog 152 #[.pointer (some ⟨S.c,0,none⟩),.int .i64 own,.int .i64 8] w (GetC S fr own 8 e w):=by
 have c0:=CO.c0 h;have p0:=PL.c0 (CO.sP h);by_cases hq:Q0u e<1024
 ·have hc:=Z2T h ok hf hq;unfold ptr at *
  unfold at2 at hc;generalize GetC S fr own 8 e w=Q at *
  clear h ok hf hq;go_enter func152,ntmps152;go_wp2_with fail;refine hc.mono ?_;rintro r w1⟨rfl,hx⟩;have HX:=Q0a hx;clear hx;go_wp2_with fail
  (try go_ret2);exact HX.out
 ·have hc:=Z0s h ok hf (by omega);unfold ptr at *
  unfold at2 at hc;generalize GetC S fr own 8 e w=Q at *
  clear h ok hf hq;go_enter func152,ntmps152;go_wp2_with fail;refine hc.mono ?_;rintro r w1⟨rfl,e0,e1,hx⟩;have HX:=Q0a hx;clear hx c0 p0 hc;go_wp2_with fail;refine HX.out.mono ?_;rintro r w2 (⟨a,rfl,e0,hA,hx⟩|⟨rfl,e0,e1,hx⟩)
  ·have HY:=Q0a hx;clear hx HX;go_wp2_with fail;refine hA.mono ?_;rintro r w3⟨rfl,rfl⟩;clear hA;go_wp2_with fail;refine HY.out.mono ?_;rintro r w3⟨rfl,hx⟩;have HZ:=Q0a hx;clear hx HY;go_wp2_with fail
   (try go_ret2);exact HZ.out
  ·have HY:=Q0a hx;clear hx HX;go_wp2_with fail;refine HY.out.mono ?_;rintro r w3⟨rfl,hx⟩;have HZ:=Q0a hx;clear hx HY;go_wp2_with fail
   (try go_ret2);exact HZ.out
theorem Z8F{w:World}{S:CO}{fr:List Nat}(h:Sep w S.hl)(ok:S.P.Ok fr){own n:Nat}{e:En Fa}(hf:find S.P.q.E own=some e)(hn:n=8∨1<=n/\n<=7) :
  Calls prog 152 #[.pointer (some ⟨S.c,0,none⟩),.int .i64 own,.int .i64 n] w (GetC S fr own n e w):=by
 rcases hn with rfl|⟨h1,h7⟩
 ·exact Z2V h ok hf
 ·exact Z2U h ok hf h1 h7
theorem Z5N{w:World}{S:CO}{fr:List Nat}(h:Sep w S.hl)(ok:S.P.Ok fr){own n a:Nat}{e:En Fa}(hp:Held S.P fr own n a e)(hn:n≠8) :
  Calls prog 154 #[.pointer (some ⟨S.c,0,none⟩),.agg #[.int .i64 n,.int .i64 a,.int .i64 own]] w (PutC S fr own n a w):=by
 have hu:=hp.at' hn;obtain⟨g1,g2,g3,g4⟩:=Q0k ok hu;obtain⟨c,hc⟩:=PL.cls ok g3 g4;have hm:=Q0g ok;have s1:=(h.alloc (.cells #[.int .i64 n,.int .i64 a,.int .i64 own] 54)).drew;have Ig:=hp.paid;rw[Q1d hn] at Ig;have hB:=Cells.new w 54 [.int .i64 n,.int .i64 a,.int .i64 own];have B7:Calls prog 21 #[.pointer (some ⟨S.P.p,0,none⟩),.int .i64 own,.int .i64 n,.int .i64 a] (w.alloc (.cells #[.int .i64 n,.int .i64 a,.int .i64 own] 54)).drew fun r w1=>r=.returned (.int .i64 0)/\w1.cell? ⟨S.c,0,none⟩=some (.pointer (some ⟨S.P.p,0,none⟩))/\w1.cell? ⟨w.heap.size,0,none⟩=some (.int .i64 n)/\w1.cell? ⟨w.heap.size,1,none⟩=some (.int .i64 a)/\w1.cell? ⟨w.heap.size,2,none⟩=some (.int .i64 own)/\PutC S fr own n a w (.returned (.tuple #[])) w1:=by
  refine(Q4d (CO.sP s1) ok (own:Int) hp.acc n Ig c hc a (by rw[<- Q0P hc];exact hu) (by omega)).mono ?_;intro r w1 hr;obtain⟨P',fr',b,st⟩:=J1n s1 ok hr;have ER:=CO.c0 st.sep;rw[show(S.setP P').P.p=S.P.p from b.same.p] at ER;exact⟨hr.1,ER,st.box h (by simp) (hB.cell 0 _ rfl),st.box h (by simp) (hB.cell 1 _ rfl),st.box h (by simp) (hB.cell 2 _ rfl),rfl,P',fr',b,st.from_drew.from_alloc⟩
 have c0:=CO.c0 (h.alloc (.cells #[.int .i64 n,.int .i64 a,.int .i64 own] 54));have d0:=CO.c0 s1;have e0:=hB.cell 0 _ rfl;have e1:=hB.cell 1 _ rfl;have e2:=hB.cell 2 _ rfl;have f0:(w.alloc (.cells #[.int .i64 n,.int .i64 a,.int .i64 own] 54)).drew.cell? ⟨w.heap.size,0,none⟩=some (.int .i64 n):=e0;have f1:(w.alloc (.cells #[.int .i64 n,.int .i64 a,.int .i64 own] 54)).drew.cell? ⟨w.heap.size,1,none⟩=some (.int .i64 a):=e1;have f2:(w.alloc (.cells #[.int .i64 n,.int .i64 a,.int .i64 own] 54)).drew.cell? ⟨w.heap.size,2,none⟩=some (.int .i64 own):=e2;have Aq:(((n:Nat):Int) != 8)=true:=by simp;omega
 have Ae:(((n:Nat):Int)==8)=false:=by simp;omega
 generalize PutC S fr own n a w=Q at *
 clear h ok hp hu g1 g2 g3 g4 hc hm s1 Ig hB hn;go_enter func154,ntmps154;go_wp2_with fail
 go_region_held3 (fun w'=>w'.cell? ⟨S.c,0,none⟩=some (.pointer (some ⟨S.P.p,0,none⟩))/\w'.cell? ⟨w.heap.size,0,none⟩=some (.int .i64 n)/\w'.cell? ⟨w.heap.size,1,none⟩=some (.int .i64 a)/\w'.cell? ⟨w.heap.size,2,none⟩=some (.int .i64 own)) (first|exact⟨c0,e0,e1,e2⟩|exact⟨d0,f0,f1,f2⟩|exact⟨t0,t1,t2,t3⟩)
  (first|(go_at_call 21;refine B7.mono ?_;rintro r w1⟨rfl,t0,t1,t2,t3,hx⟩;have HX:=Q0a hx;clear hx))
 go_wp2_with fail
 first|exact HX.out|((try simp only[Exit.inBlock,Exit.then]);refine bodyPost_ret (results_none rfl _ _ _) rfl ?_;exact HX.out)
theorem Z2W{w:World}{S:CO}{fr:List Nat}(h:Sep w S.hl)(ok:S.P.Ok fr){own a:Nat}{e:En Fa}(hp:Held S.P fr own 8 a e) :
  Calls prog 154 #[.pointer (some ⟨S.c,0,none⟩),.agg #[.int .i64 8,.int .i64 a,.int .i64 own]] w (PutC S fr own 8 a w):=by
 have s0:=(h.alloc (.cells #[.int .i64 8,.int .i64 a,.int .i64 own] 54))
 have hB:=Cells.new w 54 [.int .i64 8,.int .i64 a,.int .i64 own];have e0:=hB.cell 0 _ rfl;have F0:FrF S w.heap.size a own (w.alloc (.cells #[.int .i64 8,.int .i64 a,.int .i64 own] 54)):=FrF.base s0 (hB.cell 1 _ rfl) (hB.cell 2 _ rfl);have BY:=Q7Y (w0:=(w.alloc (.cells #[.int .i64 8,.int .i64 a,.int .i64 own] 54)).drew) h (h.grown (((Below.refl _ _).alloc (J3h _) _).drew)) (by simp[World.drew]) ok hp F0;obtain⟨c0,c1,c2,c3,c4⟩:=F0;have JQ:Hid (∀(v:World) b i x,v.cell? ⟨b,i,none⟩=some x->v.drew.cell? ⟨b,i,none⟩=some x):=fun v b i x hv=>hv
 have d0:=JQ.out _ _ _ _ c0;have d1:=JQ.out _ _ _ _ c1;have d2:=JQ.out _ _ _ _ c2;have d3:=JQ.out _ _ _ _ c3;have d4:=JQ.out _ _ _ _ c4;generalize PutC S fr own 8 a w=Q at *
 unfold FrF at BY;clear h ok hp s0 hB;go_enter func154,ntmps154;go_wp2_with fail
 go_region_held3 (fun w'=>w'.cell? ⟨S.c,0,none⟩=some (.pointer (some ⟨S.P.p,0,none⟩))/\w'.cell? ⟨S.P.p,0,none⟩=some (.pointer (some ⟨S.P.q.t,0,none⟩))/\w'.cell? ⟨w.heap.size,2,none⟩=some (.int .i64 own)) (first|exact⟨c0,c1,c4⟩|exact⟨d0,d1,d4⟩|exact⟨t0,t1,t4⟩)
  (first|(go_at_call 70;refine BY.mono ?_;rintro r w1⟨rfl,⟨t0,t1,t2,t3,t4⟩,hx⟩;have HX:=Q0a hx;clear hx))
 have x0:=JQ.out _ _ _ _ t0;have x2:=JQ.out _ _ _ _ t2;have x3:=JQ.out _ _ _ _ t3;clear c0 c1 c2 c3 c4 d0 d1 d2 d3 d4 BY;go_wp2_with fail
 go_region_held3 (fun w'=>w'.cell? ⟨S.c,0,none⟩=some (.pointer (some ⟨S.P.p,0,none⟩))/\w'.cell? ⟨S.P.p,1,none⟩=some (.pointer (some ⟨S.P.d.b,0,none⟩))/\w'.cell? ⟨w.heap.size,1,none⟩=some (.int .i64 a)) (first|exact⟨t0,t2,t3⟩|exact⟨x0,x2,x3⟩|exact⟨y0,y2,y3⟩)
  (first|(go_at_call 145;refine HX.out.mono ?_;rintro r w2⟨rfl,⟨y0,y1,y2,y3,y4⟩,hx⟩;have HY:=Q0a hx;clear hx))
 go_wp2_with fail
 first|exact HY.out|((try simp only[Exit.inBlock,Exit.then]);refine bodyPost_ret (results_none rfl _ _ _) rfl ?_;exact HY.out)
theorem Z8G{w:World}{S:CO}{fr:List Nat}(h:Sep w S.hl)(ok:S.P.Ok fr){own n a:Nat}{e:En Fa}(hp:Held S.P fr own n a e) :
  Calls prog 154 #[.pointer (some ⟨S.c,0,none⟩),.agg #[.int .i64 n,.int .i64 a,.int .i64 own]] w (PutC S fr own n a w):=by
 by_cases hn:n=8
 ·subst hn;exact Z2W h ok hp
 ·exact Z5N h ok hp hn
theorem Z1K(w:World)(k:Int):Calls prog 151 #[.int .i64 k] w fun r w'=>r=.returned (.bool (decide (k=8∨1<=k/\k<=5)))/\w=w':=by
 by_cases h8:k=8
 ·subst h8;go_enter func151,ntmps151;go_wp2_with fail
  (try go_ret);exact⟨rfl,rfl⟩
 ·have hb:(k==8)=false:=by simpa using h8
  by_cases h1:1<=k
  ·by_cases h5:k<=5
   ·have hd:decide (k=8∨1<=k/\k<=5)=true:=by rw[decide_eq_true_eq];omega
    rw[hd];clear hd;go_enter func151,ntmps151;go_wp2_with fail
    (try go_ret);exact⟨rfl,rfl⟩
   ·have hd:decide (k=8∨1<=k/\k<=5)=false:=by rw[decide_eq_false_iff_not];omega
    rw[hd];clear hd;have VC:5<k:=by omega
    go_enter func151,ntmps151;go_wp2_with fail
    (try go_ret);exact⟨rfl,rfl⟩
  ·have hd:decide (k=8∨1<=k/\k<=5)=false:=by rw[decide_eq_false_iff_not];omega
   rw[hd];clear hd;have Ip:k<1:=by omega
   go_enter func151,ntmps151;go_wp2_with fail
   (try go_ret);exact⟨rfl,rfl⟩
theorem Q5m{w w1:World}{o:Obj}(hb:Below (w.alloc o).heap.size (w.alloc o) w1){i:Nat}{v:Value}(hv:(w.alloc o).cell? ⟨w.heap.size,i,none⟩=some v):w1.cell? ⟨w.heap.size,i,none⟩=some v:=
 (World.cell?_of_block (w:=w.alloc o) (hb.block _ (by simp))).trans hv
theorem Z0u{w:World}{S:CO}(h:Sep w S.hl)(lok:LOk S.l)(hf:∀p∈S.l,p.st≠0)(own n a:Nat)(lim:Int)(e:En Fa) :
  Calls prog 153 #[.pointer (some ⟨S.c,0,none⟩),.agg #[.int .i64 n,.int .i64 a,.int .i64 own],.int .i64 lim] w (Q2W S own n a lim e w):=by
 have s0:=h.alloc (.cells #[.int .i64 n,.int .i64 a,.int .i64 own] 54);have c1:=CO.c1 s0;have hr:=Q5L (h:=S.ht) (CO.sT s0) lok;rw[show allL S.ht.l 0=[] from empty_iff.2 hf] at hr;have HR:Hid (∀w1,Below (w.alloc (.cells #[.int .i64 n,.int .i64 a,.int .i64 own] 54)).heap.size (w.alloc (.cells #[.int .i64 n,.int .i64 a,.int .i64 own] 54)) w1->Q2W S own n a lim e w (.returned (.int .i64 11)) w1):=fun w1 hb=>.inl ⟨hf,rfl,h.grown (Q0b hb)⟩
 generalize Q2W S own n a lim e w=Q at *
 unfold CO.ht at hr;clear h lok hf s0;go_enter func153,ntmps153;go_wp2_with fail;refine hr.mono ?_;rintro r w1⟨rfl,hb⟩;have HX:=Q0a (HR.out w1 hb);clear hb;go_wp2_with fail
 (try go_ret);exact HX.out
theorem Z5O{l:List Pl}(AE:∃i p,Fst l i p):(allL l 0).length≠0:=fun h=>by
 obtain⟨i,p,h1,h2,_⟩:=AE;exact empty_iff.1 (J5r h) p (J5p h1) h2
theorem Z8H{w:World}{S:CO}(h:Sep w S.hl)(lok:LOk S.l)(AE:∃i p,Fst S.l i p)(own n a:Nat)(lim:Int)(e:En Fa)(hn:n≠1) :
  Calls prog 153 #[.pointer (some ⟨S.c,0,none⟩),.agg #[.int .i64 n,.int .i64 a,.int .i64 own],.int .i64 lim] w (Q2W S own n a lim e w):=by
 have s0:=h.alloc (.cells #[.int .i64 n,.int .i64 a,.int .i64 own] 54);have hB:=Cells.new w 54 [.int .i64 n,.int .i64 a,.int .i64 own];have c1:=CO.c1 s0;have hr:=Q5L (h:=S.ht) (CO.sT s0) lok;have hm:=Z5O AE;have HR:Hid (∀w1,Below (w.alloc (.cells #[.int .i64 n,.int .i64 a,.int .i64 own] 54)).heap.size (w.alloc (.cells #[.int .i64 n,.int .i64 a,.int .i64 own] 54)) w1->w1.cell? ⟨w.heap.size,0,none⟩=some (.int .i64 n)/\Q2W S own n a lim e w (.returned (.int .i64 0)) w1):=fun w1 hb=>⟨Q5m hb (hB.cell 0 _ rfl),.inr (.inl ⟨AE,hn,rfl,h.grown (Q0b hb)⟩)⟩
 generalize Q2W S own n a lim e w=Q at *
 unfold CO.ht at hr;simp only at hr;generalize (allL S.l 0).length=m at *
 have Aq:(((m:Nat):Int)==0)=false:=by simp;omega
 have Ae:(((n:Nat):Int) != 1)=true:=by simp;omega
 have Am:(((n:Nat):Int)==1)=false:=by simp;omega
 clear h lok AE s0 hB hm hn;go_enter func153,ntmps153;go_wp2_with fail;refine hr.mono ?_;rintro r w1⟨rfl,hb⟩;obtain⟨e0,hx⟩:=HR.out w1 hb;have HX:=Q0a hx;clear hb hx;go_wp2_with fail
 (try go_ret);exact HX.out
theorem Z8I{w:World}{S:CO}{fr:List Nat}(h:Sep w S.hl)(ok:S.P.Ok fr)(lok:LOk S.l)(AE:∃i p,Fst S.l i p){own a:Nat}{e:En Fa}(hf:find S.P.q.E own=some e){lim:Int}(h0:0<=lim)(D8:S.P.q.next+1<1048576)(ha:a%8=0)(hl:a+8<=S.P.a.mem.length) :
  Calls prog 153 #[.pointer (some ⟨S.c,0,none⟩),.agg #[.int .i64 1,.int .i64 a,.int .i64 own],.int .i64 lim] w (Q2W S own 1 a lim e w):=by
 have s0:=h.alloc (.cells #[.int .i64 1,.int .i64 a,.int .i64 own] 54);have hB:=Cells.new w 54 [.int .i64 1,.int .i64 a,.int .i64 own];have c1:=CO.c1 s0;have hr:=Q5L (h:=S.ht) (CO.sT s0) lok;have hm:=Z5O AE;have HR:Hid (∀w1,Below (w.alloc (.cells #[.int .i64 1,.int .i64 a,.int .i64 own] 54)).heap.size (w.alloc (.cells #[.int .i64 1,.int .i64 a,.int .i64 own] 54)) w1 ->
   (w1.cell? ⟨w.heap.size,0,none⟩=some (.int .i64 1)/\w1.cell? ⟨w.heap.size,1,none⟩=some (.int .i64 a)/\w1.cell? ⟨w.heap.size,2,none⟩=some (.int .i64 own)/\w1.cell? ⟨S.c,0,none⟩=some (.pointer (some ⟨S.P.p,0,none⟩))/\w1.cell? ⟨S.P.p,0,none⟩=some (.pointer (some ⟨S.P.q.t,0,none⟩))/\w.heap.size<w1.heap.size) /\
   Calls prog 14 #[.pointer (some ⟨S.P.q.t,0,none⟩),.int .i64 own,.int .i64 lim] w1.drew fun r w2=>∃(x:Nat) (er:Int),r=.returned (.tuple #[.int .i64 x,.int .i64 er])/\x<1048576 /\
    (w2.cell? ⟨S.c,0,none⟩=some (.pointer (some ⟨S.P.p,0,none⟩))/\w2.cell? ⟨S.P.p,0,none⟩=some (.pointer (some ⟨S.P.q.t,0,none⟩))/\w2.cell? ⟨w.heap.size,1,none⟩=some (.int .i64 a)/\w2.cell? ⟨w.heap.size,2,none⟩=some (.int .i64 own)/\w.heap.size<w2.heap.size/\S.c<w2.heap.size) /\
    (Calls prog 50 #[.pointer (some ⟨S.P.p,0,none⟩)] w2.drew fun r w'=>r=.returned (.pointer (some ⟨S.P.a.a,0,none⟩))/\w2.drew=w') /\
    (Calls prog 50 #[.pointer (some ⟨S.P.p,0,none⟩)] (w2.alloc (.cells #[.int .u64 x] 83)).drew fun r w'=>r=.returned (.pointer (some ⟨S.P.a.a,0,none⟩))/\(w2.alloc (.cells #[.int .u64 x] 83)).drew=w') /\
    Calls prog 57 #[.pointer (some ⟨S.P.a.a,0,none⟩),.int .i64 a,.slice (some ⟨w2.heap.size,0,none⟩) 1 1] (w2.alloc (.cells #[.int .u64 x] 83)).drew fun r w3=>r=.returned (.int .i64 0)/\(w3.cell? ⟨S.c,0,none⟩=some (.pointer (some ⟨S.P.p,0,none⟩))/\w3.cell? ⟨w.heap.size,1,none⟩=some (.int .i64 a))/\Q2W S own 1 a lim e w (.returned (.int .i64 er)) w3):=fun w1 hb=>by
  have Al:=Q0b hb;have s1:=(h.grown Al).sep;have b1:=Q5m hb (hB.cell 1 _ rfl);have b2:=Q5m hb (hB.cell 2 _ rfl);have Aa:w.heap.size<w1.heap.size:=by have:=hb.size;rw[World.size_alloc] at this;omega
  refine⟨⟨Q5m hb (hB.cell 0 _ rfl),b1,b2,CO.c0 s1,PL.c0 (CO.sP s1),Aa⟩,?_⟩;refine Calls.mono (Z0t h Al.drew ok AE hf h0 D8 ha hl) ?_;rintro r w2⟨x,er,rfl,hx,hs,hk,A9⟩;have Xq:w1.heap.size<=w2.heap.size:=hs;have Ap:∀i v,w1.cell? ⟨w.heap.size,i,none⟩=some v->w2.cell? ⟨w.heap.size,i,none⟩=some v:=fun i v hv=>(World.cell?_of_block (w:=w1) (hk _ (J3h _) Aa)).trans hv
  obtain⟨a1,a2,a3,_⟩:=A9 w2 (Below.refl _ _);obtain⟨_,_,d3,_⟩:=A9 w2.drew (Below.refl _ _).drew;obtain⟨_,_,g3,g4⟩:=A9 (w2.alloc (.cells #[.int .u64 x] 83)).drew ((Below.refl _ _).alloc (J3h _) _).drew;have Bi:S.c<w2.heap.size:=by
   have:=(CO.cells h).lt;have:=Al.size;omega
  refine⟨x,er,rfl,hx,⟨a1,a2,Ap _ _ b1,Ap _ _ b2,by omega,Bi⟩,d3,g3,?_⟩;refine Calls.mono (g4 w2.heap.size ((Cells.new w2 83 [.int .u64 x]).cell 0 _ rfl) (J3h _) (by simp[World.drew])) ?_;rintro r w3⟨rfl,⟨k1,k2⟩,hx⟩;refine⟨rfl,⟨k1,?_⟩,hx⟩;refine(World.cell?_of_block (w:=(w2.alloc (.cells #[.int .u64 x] 83)).drew) (k2 _ (J3h _) (by simp[World.drew];omega))).trans ?_;exact Q0O (Ap _ _ b1)
 generalize Q2W S own 1 a lim e w=Q at *
 unfold CO.ht at hr;simp only at hr;generalize (allL S.l 0).length=m at *
 have Aq:(((m:Nat):Int)==0)=false:=by simp;omega
 clear h ok lok AE s0 hB hm hf h0 D8 ha hl;go_enter func153,ntmps153;go_wp2_with fail;refine hr.mono ?_;rintro r w1⟨rfl,hb⟩;obtain⟨⟨e0,e1,e2,e3,e4,Aa⟩,Bx⟩:=HR.out w1 hb;have f2:w1.drew.cell? ⟨w.heap.size,2,none⟩=some (.int .i64 own):=e2;have f3:w1.drew.cell? ⟨S.c,0,none⟩=some (.pointer (some ⟨S.P.p,0,none⟩)):=e3;have f4:w1.drew.cell? ⟨S.P.p,0,none⟩=some (.pointer (some ⟨S.P.q.t,0,none⟩)):=e4;clear hb hr c1;go_wp2_with fail
 go_region_held3 (fun w'=>w'.cell? ⟨S.c,0,none⟩=some (.pointer (some ⟨S.P.p,0,none⟩))/\w'.cell? ⟨S.P.p,0,none⟩=some (.pointer (some ⟨S.P.q.t,0,none⟩))/\w'.cell? ⟨w.heap.size,2,none⟩=some (.int .i64 own)) (first|exact⟨e3,e4,e2⟩|exact⟨f3,f4,f2⟩|exact⟨t0,t1,t3⟩)
  (first|(go_at_call 14;refine Bx.mono ?_;rintro r w2⟨x,er,rfl,CW,⟨t0,t1,t2,t3,t4,t5⟩,SB,Vf,hS⟩;have HS:=Q0a hS;clear hS))
 have hw:IntKind.u64.wrap (x:Int)=(x:Int):=Go.IntWalk.u64_in _ (by omega);have x0:w2.drew.cell? ⟨S.c,0,none⟩=some (.pointer (some ⟨S.P.p,0,none⟩)):=t0;have x1:w2.drew.cell? ⟨w.heap.size,1,none⟩=some (.int .i64 a):=t2;have y0:(w2.alloc (.cells #[.int .u64 x] 83)).drew.cell? ⟨S.c,0,none⟩=some (.pointer (some ⟨S.P.p,0,none⟩)):=Q0O t0;have y1:(w2.alloc (.cells #[.int .u64 x] 83)).drew.cell? ⟨w.heap.size,1,none⟩=some (.int .i64 a):=Q0O t2;clear e0 e1 e2 e3 e4 f2 f3 f4 Bx Aa;go_wp2_with fail
 go_region_held3 (fun w'=>w'.cell? ⟨S.c,0,none⟩=some (.pointer (some ⟨S.P.p,0,none⟩))/\w'.cell? ⟨w.heap.size,1,none⟩=some (.int .i64 a)) (first|exact⟨t0,t2⟩|exact⟨x0,x1⟩|exact⟨y0,y1⟩|exact⟨z0,z1⟩)
  (first|(go_at_call 50;refine SB.mono ?_;rintro r w'⟨rfl,rfl⟩)|(go_at_call 50;refine Vf.mono ?_;rintro r w'⟨rfl,rfl⟩)|(go_at_call 57;refine HS.out.mono ?_;rintro r w3⟨rfl,⟨z0,z1⟩,hx⟩;have HX:=Q0a hx;clear hx))
 all_goals
  go_wp2_with fail
  (try go_ret);exact HX.out
theorem Z2X{w:World}{S:CO}{fr:List Nat}(h:Sep w S.hl)(ok:S.P.Ok fr)(lok:LOk S.l){own n a:Nat}{e:En Fa}(hf:find S.P.q.E own=some e){lim:Int}(D8:S.P.q.next+1<1048576)(h1:n=1->0<=lim/\a%8=0/\a+8<=S.P.a.mem.length) :
  Calls prog 153 #[.pointer (some ⟨S.c,0,none⟩),.agg #[.int .i64 n,.int .i64 a,.int .i64 own],.int .i64 lim] w (Q2W S own n a lim e w):=by
 rcases Z8B S.l with Aw|AE
 ·exact Z0u h lok Aw own n a lim e
 ·by_cases hn:n=1
  ·subst hn;obtain⟨k1,k2,k3⟩:=h1 rfl;exact Z8I h ok lok AE hf k1 D8 k2 k3
  ·exact Z8H h lok AE own n a lim e hn
theorem Z2Y{w w1:World}{S:CO}{fr:List Nat}{N K:Nat}(h:Sep w S.hl)(hb:Below w.heap.size w w1)(ok:S.Ok fr N K)(hN:N+1<1048576){x:Nat}{f:Pl}(hf:pget S.l 1 x=some f)(DH:f.kind=1){n:Nat}(hn:n=8∨1<=n/\n<=5){lim:Int}(hlim:n=1->0<=lim) :
  Calls prog 152 #[.pointer (some ⟨S.c,0,none⟩),.int .i64 (f.own:Int),.int .i64 n] w1 fun r w2 =>
   (∃er:Int,er≠0/\r=.returned (.tuple #[.int .i64 0,.int .i64 er])/\MakeR S fr x n lim w (.returned (.tuple #[.int .u32 0,.int .i64 er])) w2) ∨
   ∃a:Nat,r=.returned (.tuple #[.int .i64 a,.int .i64 0])/\∀w3,Below w2.heap.size w2 w3 ->
    Calls prog 153 #[.pointer (some ⟨S.c,0,none⟩),.agg #[.int .i64 n,.int .i64 a,.int .i64 (f.own:Int)],.int .i64 lim] w3 fun r w4=>(∀b,w2.heap.size<=b->b<w3.heap.size->w4.heap[b]?=w3.heap[b]?)/\w3.heap.size<=w4.heap.size /\
     ((∃er:Int,er≠0/\r=.returned (.int .i64 er)/\Calls prog 154 #[.pointer (some ⟨S.c,0,none⟩),.agg #[.int .i64 n,.int .i64 a,.int .i64 (f.own:Int)]] w4 fun r w5=>r=.returned (.tuple #[])/\MakeR S fr x n lim w (.returned (.tuple #[.int .u32 0,.int .i64 er])) w5) ∨
      (r=.returned (.int .i64 0)/\w4.cell? ⟨S.c,1,none⟩=some (.pointer (some ⟨S.t,0,none⟩))/\Calls prog 149 #[.pointer (some ⟨S.t,0,none⟩),.agg #[.int .i64 n,.int .i64 a,.int .i64 (f.own:Int)]] w4.drew fun r w5=>∃y:Nat,r=.returned (.tuple #[.int .u32 y,.int .i64 0])/\w5.cell? ⟨S.c,1,none⟩=some (.pointer (some ⟨S.t,0,none⟩))/\(∀b,w2.heap.size<=b->b<w4.heap.size->w5.heap[b]?=w4.heap[b]?)/\MakeR S fr x n lim w (.returned (.tuple #[.int .u32 y,.int .i64 0])) w5)):=by
 obtain⟨e,he⟩:=ok.inv.tre.acc (Q1l hf) (Pl.is_iff.2 (.inl (pget_some.1 hf).2.2)) DH;have s1:=h.grown hb;have JO:=ok.inv.mem.pool;have NV:=ok.inv.lok;have N5:=ok.next;have FI:∀(r:Ending) (w':World),J2o S fr f e n lim w r w'->MakeR S fr x n lim w r w':=fun r w' hk=>.inr ⟨f,hf,.inr (.inr ⟨n,e,rfl,DH,hn,hlim,he,hk⟩)⟩
 refine Calls.mono (Z8F s1.sep JO he (by omega)) ?_;rintro r w2 (⟨hq,rfl,st⟩|⟨hq,Tv,rfl,st⟩|⟨a,P',fr',hq,g,rfl,st⟩)
 ·exact .inl ⟨5,by decide,rfl,FI _ _ (.inl ⟨hq,rfl,s1.trans st⟩)⟩
 ·exact .inl ⟨4,by decide,rfl,FI _ _ (.inr (.inl ⟨hq,Tv,rfl,s1.trans st⟩))⟩
 ·refine .inr ⟨a,rfl,fun w3 Am=>?_⟩;have s2:=s1.trans st;have s3:=s2.sep.grown Am;have s23:=s2.trans s3;obtain⟨Ma,hE,Bs,Oj⟩:=g.acc he;have Eq:=g.room.1;have Ab:=g.same.len;have key:∀{H':HL} {w4:World},Step (S.setP P').hl H' w3 w4->(∀b,w2.heap.size<=b->b<w3.heap.size->w4.heap[b]?=w3.heap[b]?)/\w3.heap.size<=w4.heap.size:=fun st4=>⟨fun b h1 h2=>st4.chg.block b h2 (fun hk=>by have:=s2.sep.lt hk;omega),st4.chg.size⟩
  have B7:∀{w4:World} (er:Int),er≠0->Step (S.setP P').hl (S.setP P').hl w3 w4->((er=11/\((∀p∈S.l,p.st≠0)∨n=1/\S.P.q.E.length=32))∨(er=5/\n=1/\Q0u e-64<lim)) ->
    Calls prog 154 #[.pointer (some ⟨S.c,0,none⟩),.agg #[.int .i64 n,.int .i64 a,.int .i64 (f.own:Int)]] w4 fun r w5=>r=.returned (.tuple #[])/\MakeR S fr x n lim w (.returned (.tuple #[.int .u32 0,.int .i64 er])) w5:=fun {w4} er Cv st4 hc=>by
   refine Calls.mono (Z8G st4.sep g.ok (g.held JO he)) ?_;rintro r w5⟨rfl,P2,fr2,bk,st5⟩;have ht:=g.back ok.inv.mem bk;exact⟨rfl,FI _ _ (.inr (.inr (.inl ⟨hq,er,P2,hc,ht,rfl,(s23.trans st4).trans st5⟩)))⟩
  have AZ:∀{w4:World} {P2:PL} {i:Nat} {p:Pl} {y:Nat},Fst S.l i p->Step (S.setP P').hl (S.setP P2).hl w3 w4->MadeOk S fr f e n a lim y i p P2 fr' ->
    w4.cell? ⟨S.c,1,none⟩=some (.pointer (some ⟨S.t,0,none⟩))/\Calls prog 149 #[.pointer (some ⟨S.t,0,none⟩),.agg #[.int .i64 n,.int .i64 a,.int .i64 (f.own:Int)]] w4.drew fun r w5=>∃y:Nat,r=.returned (.tuple #[.int .u32 y,.int .i64 0])/\w5.cell? ⟨S.c,1,none⟩=some (.pointer (some ⟨S.t,0,none⟩))/\(∀b,w2.heap.size<=b->b<w4.heap.size->w5.heap[b]?=w4.heap[b]?)/\MakeR S fr x n lim w (.returned (.tuple #[.int .u32 y,.int .i64 0])) w5:=fun {w4 P2 i p y} hi st4 hm=>by
   have s4:=s3.trans st4;refine⟨CO.c1 (S:=S.setP P2) s4.sep,?_⟩;refine Calls.mono (Z5H (h:=(S.setP P2).ht) (CO.sT s4.drew.sep) NV hi n a f.own y) ?_;rintro r w5⟨rfl,st5⟩;have s5:=CO.stepL (S:=S.setP P2) s4.drew.sep _ st5;refine⟨nm i p,rfl,CO.c1 (S:=(S.setP P2).setL _) s5.sep,fun b h1 h2=>?_,FI _ _ (.inr (.inr (.inr ⟨i,p,a,y,P2,fr',hi.1,hi.2.1,hi.2.2,hq,rfl,hm,(s2.trans s4.drew).trans s5⟩)))⟩;have XJ:∀k∈keys (S.setP P2).hl,k<w2.heap.size∨w3.heap.size<=k:=fun k hk=>by
    rcases st4.new k hk with h'|h'
    ·exact .inl (s2.sep.lt h')
    ·exact .inr h'
   exact st5.chg.block b h2 (fun hk=>by
    have Aa:=(CO.sT (S:=S.setP P') s2.sep).lt (b:=b) hk;omega)
  refine Calls.mono (Z2X (S:=S.setP P') s3.sep g.ok NV Ma (by show P'.q.next+1<_;rw[Bs];omega) (fun h1=>?_)) ?_
  ·subst h1;have hm:a∈P'.usedOf 1:=(g.used (by decide)).mem_iff.2 (by simp);have Ee:costK 1=64:=rfl;rw[Ee] at Eq;exact⟨hlim rfl,Q2e g.ok hm,by show a+8<=P'.a.mem.length;rw[Ab];omega⟩
  ·rintro r w4 (⟨Bt,rfl,st4⟩|⟨⟨i,p,hi⟩,D8,rfl,st4⟩|⟨⟨i,p,hi⟩,D8,⟨er,hc,rfl⟩,st4⟩|⟨⟨i,p,hi⟩,D8,Io,rfl,b,st4⟩)
   ·exact⟨(key st4).1,(key st4).2,.inl ⟨11,by decide,rfl,B7 11 (by decide) st4 (.inl ⟨rfl,.inl Bt⟩)⟩⟩
   ·obtain⟨c1,hp⟩:=AZ hi st4 (J2q ok hf DH (by omega) he g hi);exact⟨(key st4).1,(key st4).2,.inr ⟨rfl,c1,hp⟩⟩
   ·subst D8;have Ee:costK 1=64:=rfl;have A2:=g.mem;rw[Ee] at Eq A2;have GS:P'.setA (put_ P'.a.mem a (Q0c 0))=P':=by
     have:put_ P'.a.mem a (Q0c 0)=P'.a.mem:=by
      rw[A2];exact Z8C (by omega) Eq
     rw[this];rfl
    have st4':Step (S.setP P').hl (S.setP (P'.setA (put_ P'.a.mem a (Q0c 0)))).hl w3 w4:=st4;rw[GS] at st4';have Cv:er≠0:=by rcases hc with ⟨rfl,_⟩|⟨rfl,_⟩ <;> decide
    have Kk:Q0u ({e with q:={e.q with charged:=e.q.charged+((costK 1:Nat):Int)}}:En Fa)=Q0u e-64:=by
     unfold Q0u;rw[Ee];simp only;omega
    refine⟨(key st4').1,(key st4').2,.inl ⟨er,Cv,rfl,B7 er Cv st4' ?_⟩⟩;rcases hc with ⟨rfl,hc⟩|⟨rfl,hc⟩
    ·exact .inr ⟨rfl,rfl,by rw[Kk] at hc;exact hc⟩
    ·exact .inl ⟨rfl,.inr ⟨rfl,by rw[<- Oj];exact hc⟩⟩
   ·subst D8;have Ee:costK 1=64:=rfl;have Kk:Q0u ({e with q:={e.q with charged:=e.q.charged+((costK 1:Nat):Int)}}:En Fa)=Q0u e-64:=by
     unfold Q0u;rw[Ee];simp only;omega
    rw[Kk] at Io;have hm:=J2r (b:=b) (a:=a) ok hN hf DH he (hlim rfl) Io g hi;have st4':Step (S.setP P').hl (S.setP ((P'.setQ (Q3I P'.q f.own {e with q:={e.q with charged:=e.q.charged+64}} b lim)).setA (put_ P'.a.mem a (Q0c S.P.q.next.toNat)))).hl w3 w4:=by
     rw[<- Bs];exact st4
    obtain⟨c1,hp⟩:=AZ hi st4' hm;exact⟨(key st4').1,(key st4').2,.inr ⟨rfl,c1,hp⟩⟩
theorem Q9b{w:World}{S:CO}{x:Nat}(k lim er:Int)(he:er≠0)(hO:Calls prog 150 #[.pointer (some ⟨S.c,0,none⟩),.int .u32 x] w (Told w (.tuple #[.int .i64 0,.int .i64 er]))) :
  Calls prog 79 #[.pointer (some ⟨S.c,0,none⟩),.int .u32 x,.int .i64 k,.int .i64 lim] w (Told w (.tuple #[.int .u32 0,.int .i64 er])):=by
 have Aq:(er==0)=false:=by simpa using he
 have Ae:(er != 0)=true:=by simpa using he
 go_enter func79,ntmps79;go_wp2_with fail;refine hO.mono ?_;rintro r w1⟨rfl,hb⟩;have HB:Hid (Told w (.tuple #[.int .u32 0,.int .i64 er]) (.returned (.tuple #[.int .u32 0,.int .i64 er])) w1):=⟨rfl,hb⟩
 clear hb;go_wp2_with fail
 (try go_ret2);exact HB.out
theorem Z5P{w:World}{S:CO}{x:Nat}(own:Nat)(k lim:Int)(hk:¬(k=8∨1<=k/\k<=5)∨k=1/\lim<0)(hO:Calls prog 150 #[.pointer (some ⟨S.c,0,none⟩),.int .u32 x] w (Told w (.tuple #[.int .i64 own,.int .i64 0]))) :
  Calls prog 79 #[.pointer (some ⟨S.c,0,none⟩),.int .u32 x,.int .i64 k,.int .i64 lim] w (Told w (.tuple #[.int .u32 0,.int .i64 1])):=by
 have HM:Hid (∀w1,Below w.heap.size w w1->Calls prog 151 #[.int .i64 k] w1 (fun r w'=>r=.returned (.bool (decide (k=8∨1<=k/\k<=5)))/\w1=w')/\Told w (.tuple #[.int .u32 0,.int .i64 1]) (.returned (.tuple #[.int .u32 0,.int .i64 1])) w1):=fun w1 hb=>⟨Z1K w1 k,rfl,hb⟩
 have Ay:decide (k=8∨1<=k/\k<=5)=false∨decide (k=8∨1<=k/\k<=5)=true/\k=1/\lim<0:=by
  by_cases hm:k=8∨1<=k/\k<=5
  ·rcases hk with hk|hk
   ·exact absurd hm hk
   ·exact .inr ⟨by rw[decide_eq_true_eq];exact hm,hk⟩
  ·exact .inl (by rw[decide_eq_false_iff_not];exact hm)
 clear hk;generalize decide (k=8∨1<=k/\k<=5)=m at *
 rcases Ay with rfl|⟨rfl,rfl,hl⟩
 all_goals
  go_enter func79,ntmps79;go_wp2_with fail;refine hO.mono ?_;rintro r w1⟨rfl,hb⟩;obtain⟨Hh,hx⟩:=HM.out w1 hb;have HX:=Q0a hx;clear hb hx hO;go_wp2_with fail;refine Hh.mono ?_;rintro r w2⟨rfl,rfl⟩;clear Hh;go_wp2_with fail
  (try go_ret2);exact HX.out
theorem Z2Z{w:World}{S:CO}{fr:List Nat}{N K:Nat}(h:Sep w S.hl)(ok:S.Ok fr N K)(hN:N+1<1048576){x:Nat}(hx:x<4294967296){f:Pl}(hf:pget S.l 1 x=some f)(DH:f.kind=1){n:Nat}(hn:n=8∨1<=n/\n<=5){lim:Int}(hlim:n=1->0<=lim) :
  Calls prog 79 #[.pointer (some ⟨S.c,0,none⟩),.int .u32 x,.int .i64 n,.int .i64 lim] w (MakeR S fr x n lim w):=by
 have hO:=Q8Z h ok hx hf DH;have HC:Hid (∀w1,Below w.heap.size w w1->_):=fun w1 hb=>Z2Y (w1:=w1) h hb ok hN hf DH hn hlim
 have HM:Hid (∀w1,Calls prog 151 #[.int .i64 n] w1 (fun r w'=>r=.returned (.bool true)/\w1=w')):=fun w1=>by
  have:=Z1K w1 (n:Int);rw[show decide ((n:Int)=8∨1<=(n:Int)/\(n:Int)<=5)=true by rw[decide_eq_true_eq];omega] at this;exact this
 have Ay:(n:Int)=1/\0<=lim∨((n:Int)==1)=false:=by
  by_cases h1:n=1
  ·exact .inl ⟨by omega,hlim h1⟩
  ·exact .inr (by simp;omega)
 generalize MakeR S fr x n lim w=Q at *
 generalize f.own=own at *
 clear h ok hN hf DH hn hlim;generalize (n:Int)=nz at *
 rcases Ay with ⟨rfl,h0⟩|h0
 all_goals
  go_enter func79,ntmps79;go_wp2_with fail;refine hO.mono ?_;rintro r w1⟨rfl,hb⟩;have hc:=HC.out w1 hb;have Hh:=HM.out w1;clear hb hO HC HM;go_wp2_with fail;refine Hh.mono ?_;rintro r w2⟨rfl,rfl⟩;clear Hh;go_wp2_with fail;refine hc.mono ?_;rintro r w2 (⟨er,Cv,rfl,hx⟩|⟨a,rfl,hx⟩)
  ·have HX:=Q0a hx;have Aq:(er==0)=false:=by simpa using Cv
   have Ae:(er != 0)=true:=by simpa using Cv
   clear hx hc Cv;go_wp2_with fail
   (try go_ret2);exact HX.out
  ·have HX:=Q0a hx;clear hx hc;go_wp2_with fail;refine(HX.out _ ((Below.refl _ _).alloc (J3h _) _)).mono ?_;rintro r w4⟨hk,Br,hx⟩;have hB:∀i v,(w2.alloc (.cells #[.int .i64 _,.int .i64 a,.int .i64 own] 54)).cell? ⟨w2.heap.size,i,none⟩=some v->w4.cell? ⟨w2.heap.size,i,none⟩=some v:=fun i v hv=>(World.cell?_of_block (hk _ (J3h _) (by simp))).trans hv
   have e0:=hB 0 _ ((Cells.new w2 54 [.int .i64 _,.int .i64 a,.int .i64 own]).cell 0 _ rfl);have e1:=hB 1 _ ((Cells.new w2 54 [.int .i64 _,.int .i64 a,.int .i64 own]).cell 1 _ rfl);have e2:=hB 2 _ ((Cells.new w2 54 [.int .i64 _,.int .i64 a,.int .i64 own]).cell 2 _ rfl);have Aa:w2.heap.size<w4.heap.size:=by rw[World.size_alloc] at Br;omega
   clear hk Br hB HX;rcases hx with ⟨er,Cv,rfl,hx⟩|⟨rfl,c1,hx⟩
   ·have HX:=Q0a hx;have Aq:(er==0)=false:=by simpa using Cv
    have Ae:(er != 0)=true:=by simpa using Cv
    clear hx Cv;go_wp2_with fail;refine HX.out.mono ?_;rintro r w5⟨rfl,hx⟩;have HY:=Q0a hx;clear hx HX;go_wp2_with fail
    (try go_ret2);exact HY.out
   ·have HX:=Q0a hx;have x1:w4.drew.cell? ⟨S.c,1,none⟩=some (.pointer (some ⟨S.t,0,none⟩)):=c1;have f0:w4.drew.cell? ⟨w2.heap.size,0,none⟩=_:=e0;have f1:w4.drew.cell? ⟨w2.heap.size,1,none⟩=_:=e1;have f2:w4.drew.cell? ⟨w2.heap.size,2,none⟩=_:=e2;clear hx;go_wp2_with fail
    go_region_held3 (fun w'=>w'.cell? ⟨S.c,1,none⟩=some (.pointer (some ⟨S.t,0,none⟩))/\w'.cell? ⟨w2.heap.size,0,none⟩=w4.cell? ⟨w2.heap.size,0,none⟩/\w'.cell? ⟨w2.heap.size,1,none⟩=some (.int .i64 a)/\w'.cell? ⟨w2.heap.size,2,none⟩=some (.int .i64 own)) (first|exact⟨c1,rfl,e1,e2⟩|exact⟨x1,rfl,f1,f2⟩|exact⟨t0,t1,t2,t3⟩)
     (first|(go_at_call 149;refine HX.out.mono ?_;rintro r w5⟨y,rfl,t0,tk,hx⟩;have t1:w5.cell? ⟨w2.heap.size,0,none⟩=w4.cell? ⟨w2.heap.size,0,none⟩:=World.cell?_of_block (tk _ (J3h _) Aa);have t2:=(World.cell?_of_block (w:=w4) (tk _ (J3h _) Aa)).trans e1;have t3:=(World.cell?_of_block (w:=w4) (tk _ (J3h _) Aa)).trans e2;have HY:=Q0a hx;clear hx tk))
    go_wp2_with fail
    (try go_ret2);exact HY.out
theorem Q9c{w:World}{S:CO}{fr:List Nat}{N K:Nat}(h:Sep w S.hl)(ok:S.Ok fr N K)(hN:N+1<1048576){x:Nat}(hx:x<4294967296)(k lim:Int) :
  Calls prog 79 #[.pointer (some ⟨S.c,0,none⟩),.int .u32 x,.int .i64 k,.int .i64 lim] w (MakeR S fr x k lim w):=by
 cases hp:pget S.l 1 x with
 | none =>
  refine(Q9b k lim 8 (by decide) (Z1J (by decide) (Q4h h ok.inv.lok hx 1 hp))).mono ?_;rintro r w'⟨rfl,hb⟩;exact .inl ⟨hp,rfl,h.grown hb⟩
 | some f =>
  by_cases hk:f.kind=1
  ·have hO:=Q8Z h ok hx hp hk;by_cases Ka:¬(k=8∨1<=k/\k<=5)∨k=1/\lim<0
   ·refine(Z5P f.own k lim Ka hO).mono ?_;rintro r w'⟨rfl,hb⟩;exact .inr ⟨f,hp,.inr (.inl ⟨hk,Ka,rfl,h.grown hb⟩)⟩
   ·have Do:∃n:Nat,k=(n:Int)/\(n=8∨1<=n/\n<=5)/\(n=1->0<=lim):=⟨k.toNat,by omega,by omega,by omega⟩
    obtain⟨n,rfl,h1,h2⟩:=Do;exact Z2Z h ok hN hx hp hk h1 h2
  ·refine(Q9b k lim 10 (by decide) (Z1J (by decide) (Q4i h ok.inv.lok hx 1 hp (by decide) (by omega)))).mono ?_;rintro r w'⟨rfl,hb⟩;exact .inr ⟨f,hp,.inl ⟨hk,rfl,h.grown hb⟩⟩
attribute [local go_sem] Oper.semAt_some
def anyV(l:List Pl)(x:Nat):Value:=match pget l 2 x with
 | some p=>.tuple #[p.obj,.bool true]
 | none=>match pget l 1 x with
  | some p=>.tuple #[p.obj,.bool true]
  | none=>.tuple #[zobj,.bool false]
theorem Q7Z{w:World}{S:CO}(h:Sep w S.hl){x:Nat}{a b c e:Int}(hG:Calls prog 88 #[.pointer (some ⟨S.t,0,none⟩),.int .u32 x] (w.alloc (.cells #[.int .i64 0,.int .i64 0,.int .i64 0] 54)) (Told (w.alloc (.cells #[.int .i64 0,.int .i64 0,.int .i64 0] 54)) (.tuple #[.agg #[.int .i64 a,.int .i64 b,.int .i64 c],.int .i64 e]))) :
  Calls prog 30 #[.pointer (some ⟨S.c,0,none⟩),.int .u32 x] w (Told w (.tuple #[.agg #[.int .i64 a,.int .i64 b,.int .i64 c],.bool (e==0)])):=by
 have c1:=CO.c1 (h.alloc (.cells #[.int .i64 0,.int .i64 0,.int .i64 0] 54));clear h;go_enter func30,ntmps30;go_wp2_with (go_at_call 88;refine hG.mono ?_;rintro r w1⟨rfl,hb⟩;obtain⟨hb,e0,e1,e2,ef,Aa⟩:=new3 hb;have HB:=Q0a hb;have f0:=ef 0;have f1:=ef 1;have f2:=ef 2;clear hb ef);refine bodyPost_ret (v:=.tuple #[.agg #[.int .i64 a,.int .i64 b,.int .i64 c],.bool (e==0)]) (by simp[results,results30,go_sem,e0,e1,e2,Aa]) rfl ⟨rfl,Q8Y HB.out _ _ _ _⟩
theorem Z8J{w:World}{S:CO}(h:Sep w S.hl)(ok:LOk S.l){x:Nat}(hx:x<4294967296):Calls prog 30 #[.pointer (some ⟨S.c,0,none⟩),.int .u32 x] w (Told w (anyV S.l x)):=by
 unfold anyV;cases h2:pget S.l 2 x with
 | some p=>exact Q7Z h (Z5E (h:=S.ht) (CO.sT (h.alloc _)) ok hx h2)
 | none =>
  have hp:=Z2O (h:=S.ht) (CO.sT (h.alloc (.cells #[.int .i64 0,.int .i64 0,.int .i64 0] 54))) ok hx h2;cases h1:pget S.l 1 x with
  | some p =>
   refine Q7Z (e:=0) h (hp.mono ?_);rintro r w'⟨⟨a,b,c,e,rfl,(⟨q,hq,hv,rfl⟩|⟨hn,_,_⟩)⟩,hb⟩
   ·have:q=p:=by
     have C5:pget S.l 1 x=some q:=hq;rw[h1] at C5;cases C5;rfl
    subst this;rw[hv];exact⟨rfl,hb⟩
   ·have Gj:pget S.l 1 x=none:=hn;rw[h1] at Gj;cases Gj
  | none =>
   refine Q7Z (e:=8) h (hp.mono ?_);rintro r w'⟨⟨a,b,c,e,rfl,(⟨q,hq,hv,rfl⟩|⟨hn,hv,rfl⟩)⟩,hb⟩
   ·have C5:pget S.l 1 x=some q:=hq;rw[h1] at C5;cases C5
   ·rw[hv];exact⟨rfl,hb⟩
theorem Q4V{w:World}{B B' size n:Nat}{T:TypeId}{v:Value}{xs:List Value}(h:w.ownsRow B T size v n xs)(hB:B'<=B):w.ownsRow B' T size v n xs:=by
 refine⟨h.1,?_⟩;rcases h.2 with h|⟨g,cap,Ak,e,hg,rest⟩
 ·exact .inl h
 ·exact .inr ⟨g,cap,Ak,e,J3i hB hg,rest⟩
def Two(w wr:World)(v:Value)(L:List Nat)(u:Value)(M:List Nat):Prop:=OutH w wr v L/\OutH w wr u M/\∀b,v.ownBlock=some b->u.ownBlock≠some b
theorem J2s{w:World}{B B':Nat}{v:Value}{L M:List Nat}{a:Option Addr}{cap:Nat}{ty:TypeId}(h:w.ownsRow B 58 1 v L.length (Q1R L))(hM:IsHs B' M a w)(hn:L.length+M.length<=65536)(hB:B<=w.heap.size) :
  ∃v' w',(Builtin.append_ #[51,51] ty #[v,.slice a M.length (match a with|none=>0|some _=>cap)]).run prog w=.ok v' w'/\w'.ownsRow B 58 1 v' (L.length+M.length) (Q1R L++Q1R M)/\w.grownBy w' v.ownBlock/\(v'.ownBlock=v.ownBlock∨v'.ownBlock=some w.heap.size):=by
 obtain⟨i0,DN,Bu,AT,Bk⟩:=info_parts Q7g;cases a with
 | none =>
  have P9:M=[]:=by
   cases M with
   | nil=>rfl
   | cons x r=>obtain⟨g,h1,_⟩:=hM.at' 0 x rfl;cases h1
  subst P9;exact⟨v,w,run_append_owned_none w B 51 ty 58 i0 1 underlying51 DN v _ _ h,by simpa[Q1R] using h,⟨rfl,rfl,rfl,J3h _,fun _ _ _=>rfl⟩,.inl rfl⟩
 | some ad =>
  obtain⟨v',w',e1,e2,e3,_,e5⟩:=run_append_own_at (P:=prog) w B 51 ty 58 i0 (.int .u32 0) 1 4 underlying51 DN Bu AT Bk rfl (by decide) v _ _ h ad M.length cap (Q1R M) (by simp[Q8T]) (fun j u hj=>by
   have Bn:j<M.length:=by have:=(J3y.1 hj).1;simpa[Q8T] using this
   obtain⟨g,g1,_,_,g4⟩:=hM.at' j M[j] (J5s Bn);cases g1;rw[Z1G (J5s Bn)] at hj;cases hj;have e:(⟨g,0,none⟩:Addr).add j=⟨g,j,none⟩:=by unfold Addr.add;split <;> simp_all
   rw[e];exact g4) (fun u hu=>by
    obtain⟨x,_,rfl⟩:=J3n.1 hu;rfl) (by unfold maxLen;omega) (by omega) hB
  exact⟨v',w',e1,e2,e3,e5⟩
theorem NewHs.shape0{w:World}{L:List Nat}{r:Ending}{w':World}(h:NewHs w L r w'):∃(a:Option Addr) (cap:Nat),r=.returned (.slice a L.length cap)/\Below w.heap.size w w'/\IsHs w.heap.size L a w'/\(a=none->cap=0):=by
 obtain⟨v,rfl,⟨h1,h2⟩,hb⟩:=h;have h:=NewHs.shape (w:=w) (L:=L) (w':=w') (r:=.returned v) ⟨v,rfl,⟨h1,h2⟩,hb⟩;obtain⟨a,cap,e,Al,hi⟩:=h;refine⟨a,cap,e,Al,hi,fun ha=>?_⟩;subst ha;rcases h2 with ⟨rfl,h0⟩|⟨g,Cn,Ak,rfl,_⟩
 ·simp only[Ending.returned.injEq,Value.slice.injEq] at e;omega
 ·simp at e
theorem J1o{w:World}{B B':Nat}{v:Value}{L M:List Nat}{a:Option Addr}{cap:Nat}{ty:TypeId}(h:w.ownsRow B 58 1 v L.length (Q1R L))(hM:IsHs B' M a w)(ha:a=none->cap=0)(hn:L.length+M.length<=65536)(hB:B<=w.heap.size) :
  ∃v' w',(Builtin.append_ #[51,51] ty #[v,.slice a M.length cap]).run prog w=.ok v' w'/\w'.ownsRow B 58 1 v' (L.length+M.length) (Q1R L++Q1R M)/\w.grownBy w' v.ownBlock/\(v'.ownBlock=v.ownBlock∨v'.ownBlock=some w.heap.size):=by
 have:=J2s (ty:=ty) (cap:=cap) h hM hn hB;cases a with
 | none=>rw[ha rfl];exact this
 | some ad=>exact this
open Go.Sort (Holds putRow holds_putRow holds_ahead putRow_self reverseLoop swp size_swp)
end Go.Proofs.YtfidemmgofcnmaaGreatDoor
namespace Go.Proofs.YtfidemmgofcnmaaGreatDoor
open Go.RowKit Go.Proofs.Tryz
theorem Q9d{w w1:World}{B size n:Nat}{T:TypeId}{v:Value}{xs:List Value}(h:w.ownsRow B T size v n xs)(hk:∀b,v.ownBlock=some b->w1.heap[b]?=w.heap[b]?):w1.ownsRow B T size v n xs:=by
 refine⟨h.1,?_⟩;rcases h.2 with h|⟨g,cap,Ak,rfl,hB,hg,rest⟩
 ·exact .inl h
 ·exact .inr ⟨g,cap,Ak,rfl,hB,(hk g rfl).trans hg,rest⟩
theorem Q8a{P:Program}{ops:Array Oper}{rest:List Oper}{o:Oper}{a:Act}{w:World}{Q:Exit->Act->World->Prop}(hg:o.guard=none)(t:TypeId)(ho:o.op=.build t #[])(dst:Option Tmp)(hdst:o.dst=dst)(cells:Array Value)
  (hb:P.built t []=some cells)
  (h:wpList P ops Q rest (a.put dst (.agg cells)) w):wpList P ops Q (o::rest) a w:=by
 subst hdst;have e:(Array.map (fun(x:Nat×Operand)=>match x with|(i,x)=>(i,a.eval x)) #[]).toList=[]:=by simp
 refine wpList_build hg t #[] ho (by rw[e,hb];rfl) ?_;rw[e,hb];exact h
def tabZ:List Value:=(List.replicate 256 (noPl 0)).flatMap Pl.cells
theorem Z3a:prog.built 302 (([]:List (Nat×Value)))=some tabZ.toArray:=by kernel_rfl
theorem Z3b:(Value.agg tabZ.toArray).cells=tabZ.toArray:=by kernel_rfl
def J2t(H:HL)(w:World)(r:Ending)(w':World):Prop:=∃t,r=.returned (.pointer (some ⟨t,0,none⟩))/\Step H ((⟨t,List.replicate 256 (noPl 0)⟩:HT).hl++H) w w'
theorem Z8K{w:World}{H:HL}(h:Sep w H):Calls prog 147 #[] w (J2t H w):=by
 have HR:Hid (J2t H w (.returned (.pointer (some ⟨w.heap.size,0,none⟩))) (w.alloc (.cells tabZ.toArray 302))):=⟨_,rfl,h.new 302 tabZ⟩
 clear h;have hz:=Z3a;have hc:=Z3b;generalize tabZ.toArray=Z at *
 go_enter func147,ntmps147
 repeat (first|refine Q8a rfl 302 rfl _ rfl Z hz ?_|refine Go.Great.wpList_boxTo rfl 302 _ rfl _ rfl _ rfl Z hc ?_|go_step)
 (try go_ret);exact HR.out
theorem Z5Q(top k i:Nat):fre (uOf []) top k i=(k==top):=by
 have hc:∀k i,clr (uOf []) k i=true:=fun k i=>(clr_iff _ _ _).2 fun p _=>by simp[uOf]
 unfold fre;rw[hc,hc];simp
theorem Z1L(top:Nat):(∀k,k<top->fstG (fre (uOf []) top) top k 0=none)/\fstG (fre (uOf []) top) top top 0=some 0:=by
 refine⟨fun k hk=>Q5u fun i _ hi=>?_,Q5t ?_ (J3h _) ?_ fun i h0 h1=>by omega⟩
 ·rw[J4M];have:i<2 ^ (top-k):=by simpa using hi
  rw[J4O this];show(fre (uOf []) top k i)≠true;rw[Z5Q];simp;omega
 ·simp
 ·rw[J6t];show((List.map _ [0])[0]?).getD false=true;show fre (uOf []) top top 0=true;rw[Z5Q];simp
theorem Z5R{c:CA}{d:BD}{a:Nat}{ps':List Nat}(DE:c.pg=[])(G5:d.ps=[])(h:J2k c d a ps'):a=64/\ps'=[0]:=by
 rcases h with ⟨k,x,i,hx,_⟩|⟨_,k0,i0,hk,hf,hp,ha,hq⟩
 ·rw[DE] at hx;simp at hx
 ·rw[G5] at hf hp;obtain⟨f1,f2⟩:=Z1L d.top;have PN:k0=d.top:=by
   rcases J5K k0 d.top with e|e
   ·rw[f1 k0 e] at hf;cases hf
   ·omega
  subst PN;rw[f2] at hf;cases hf;rw[G5] at hq;exact⟨by rw[ha];unfold addr;omega,by rw[hq];simp⟩
theorem Z0v{P:PL}{n:Nat}(G5:P.d.ps=[]):¬NoRoom P n:=by
 rintro⟨c,hc,_,hn⟩;rw[G5] at hn;have:=hn P.d.top (J3h _);rw[(Z1L P.d.top).2] at this;cases this
theorem Z8L{w:World}{P:PL}(h:Sep w P.hl){top:Nat}{limit:Int}(hf:FreshP P top limit)(hl:P.cs.length=7)(h1:6<=top)(h0:64<=limit)(hm:limit<=1073741824) :
  Calls prog 15 #[.pointer (some ⟨P.p,0,none⟩),.int .i64 0,.int .i64 1] w fun r w'=>r=.returned (.tuple #[.int .i64 64,.int .i64 0])/\∃P',GotM P [] 0 1 64 P' []/\P'.d.ps=[0]/\(∃b,P'.q.E=[⟨0,b,⟨limit,64,0,-1,0⟩⟩])/\P'.q.next=1/\Step P.hl P'.hl w w':=by
 have ok:=hf.ok hl h1 (by omega) hm;have DE:=Z8y ok fun j=>Q7f hf j
 obtain⟨t,m,b,hq⟩:=hf.q;have Ea:find P.q.E 0=some ⟨0,b,⟨limit,0,0,-1,0⟩⟩:=by rw[hq];rfl
 refine(Q5k h ok 0 1).mono ?_;rintro r w' (⟨h0,_⟩|⟨_,h0,_⟩|⟨_,⟨e',h2,h3⟩,_⟩|⟨n,e',hn,_,_,h2,_,hr⟩)
 ·exact absurd h0 (by decide)
 ·rw[Ea] at h0;cases h0
 ·rw[Ea] at h2;cases h2;have:((Q1a 1:Nat):Int)=64:=rfl;rw[this] at h3;simp at h3;omega
 ·have D8:n=1:=by omega
  subst D8;rcases hr with ⟨a,P',rfl,g,Ao⟩|⟨Aw,_⟩
  ·obtain⟨c,_,hc,_,ht⟩:=g.which;obtain⟨rfl,RN⟩:=Z5R (DE _ c hc.2) hf.ps ht.which;have gm:=g.gotM ok;obtain⟨Ma,hE,Bs,_⟩:=gm.acc (own:=0) Ea;refine⟨rfl,P',gm,RN,⟨b,?_⟩,?_,Ao⟩
   ·rw[hE,hq];simp[Q2h,upd,costK,Q0e]
   ·rw[Bs,hq];rfl
  ·exact absurd Aw (Z0v hf.ps)
structure Z5S(S:CO)(top:Nat)(limit:Int)(period:Nat):Prop where
 ok:S.Ok [] 1 0
 l:S.l=newL 64
 ts:S.ts=[]
 now:S.now=0
 period:S.period=period
 top:S.P.d.top=top
 next:S.P.q.next=1
 ps:S.P.d.ps=[0]
 q:∃b,S.P.q.E=[⟨0,b,⟨limit,64,0,-1,0⟩⟩]
 xc:S.xc=x0
 high:∀j,2<=j->S.P.usedOf j=[]
def Z8M(top:Nat)(limit:Int)(period:Nat)(H:HL)(w:World)(r:Ending)(w':World):Prop:=∃S:CO,r=.returned (.pointer (some ⟨S.c,0,none⟩))/\Z5S S top limit period/\Step H (S.hl++H) w w'
theorem J1p:LOk (List.replicate 256 (noPl 0)):=⟨J3r,fun p hp=>by rw[J3p hp];exact⟨J5d _,J5d _⟩⟩
theorem Z8N:Fst (List.replicate 256 (noPl 0)) 0 (noPl 0):=⟨rfl,rfl,fun j q h _=>by omega⟩
theorem Z5T{w w1 w2 w3:World}{H:HL}{P:PL}{top period:Nat}{limit:Int}{t g:Nat}(hf:FreshP P top limit)(hl:P.cs.length=7)(h1:6<=top)(h0:64<=limit)(hm:limit<=1073741824)(A3:1<=period)(Az:period<=16)
  (s1:Step H (P.hl++H) w w1) (s2:Step (P.hl++H) ((⟨t,List.replicate 256 (noPl 0)⟩:HT).hl++(P.hl++H)) w1 w2) (s3:Step ((⟨t,List.replicate 256 (noPl 0)⟩:HT).hl++(P.hl++H)) (qhl g period 0 none []++((⟨t,List.replicate 256 (noPl 0)⟩:HT).hl++(P.hl++H))) w2 w3) :
  (w3.alloc (.cells #[.pointer (some ⟨P.p,0,none⟩),.pointer (some ⟨t,0,none⟩),.pointer (some ⟨g,0,none⟩)] 187)).cell? ⟨w3.heap.size,0,none⟩=some (.pointer (some ⟨P.p,0,none⟩)) /\
  (w3.alloc (.cells #[.pointer (some ⟨P.p,0,none⟩),.pointer (some ⟨t,0,none⟩),.pointer (some ⟨g,0,none⟩)] 187)).cell? ⟨w3.heap.size,2,none⟩=some (.pointer (some ⟨g,0,none⟩)) /\
  Calls prog 15 #[.pointer (some ⟨P.p,0,none⟩),.int .i64 0,.int .i64 1] (w3.alloc (.cells #[.pointer (some ⟨P.p,0,none⟩),.pointer (some ⟨t,0,none⟩),.pointer (some ⟨g,0,none⟩)] 187)) fun r w4=>r=.returned (.tuple #[.int .i64 64,.int .i64 0])/\w4.cell? ⟨w3.heap.size,1,none⟩=some (.pointer (some ⟨t,0,none⟩)) /\
   Calls prog 149 #[.pointer (some ⟨t,0,none⟩),.agg #[.int .i64 1,.int .i64 64,.int .i64 0]] w4 fun r w5=>(∃x y:Value,r=.returned (.tuple #[x,y]))/\Z8M top limit period H w (.returned (.pointer (some ⟨w3.heap.size,0,none⟩))) w5:=by
 have s123:=(s1.trans s2).trans s3;have s4:=s123.trans (s123.sep.new 187 [.pointer (some ⟨P.p,0,none⟩),.pointer (some ⟨t,0,none⟩),.pointer (some ⟨g,0,none⟩)]);have hc:=Cells.new w3 187 [.pointer (some ⟨P.p,0,none⟩),.pointer (some ⟨t,0,none⟩),.pointer (some ⟨g,0,none⟩)];obtain⟨S,hS⟩:∃S:CO,S=⟨w3.heap.size,P,t,List.replicate 256 (noPl 0),g,period,0,none,[],x0⟩:=⟨_,rfl⟩
 have CB:((w3.heap.size,isC 187 [.pointer (some ⟨P.p,0,none⟩),.pointer (some ⟨t,0,none⟩),.pointer (some ⟨g,0,none⟩)])::(qhl g period 0 none []++((⟨t,List.replicate 256 (noPl 0)⟩:HT).hl++(P.hl++H)))).Perm (S.hl++H):=by
  refine Q0X fun a=>?_
  rw[hS];simp only[CO.hl,CO.head,CO.ht,CO.qh,hc_append,hc_cons,ptr];omega
 have s5:=s4.perm (J6v _) CB;have sS:Sep (w3.alloc (.cells #[.pointer (some ⟨P.p,0,none⟩),.pointer (some ⟨t,0,none⟩),.pointer (some ⟨g,0,none⟩)] 187)) S.hl:=s5.sep.left;refine⟨hc.cell 0 _ rfl,hc.cell 2 _ rfl,?_⟩;have sP:=CO.sP sS;have eP:S.P=P:=by rw[hS]
 rw[eP] at sP;refine(Z8L sP hf hl h1 h0 hm).mono ?_;rintro r w4⟨rfl,P',gm,G5,hq,Bs,st⟩;have st':Step S.hl (S.setP P').hl _ w4:=CO.stepP sS P' (by rw[gm.same.p,hS]) (by rw[hS];exact st);have c1:=CO.c1 st'.sep;have B7:=Z5H (h:=(S.setP P').ht) (CO.sT st'.sep) (by rw[hS];exact J1p) (i:=0) (p:=noPl 0) (by rw[hS];exact Z8N) 1 64 0 0;have ect:S.t=t:=by rw[hS]
 have ecc:S.c=w3.heap.size:=by rw[hS]
 have TX:w4.cell? ⟨w3.heap.size,1,none⟩=some (.pointer (some ⟨t,0,none⟩)):=by
  rw[<- ect,<- ecc];exact c1
 refine⟨rfl,TX,?_⟩;have Mw:Calls prog 149 #[.pointer (some ⟨t,0,none⟩),.agg #[.int .i64 1,.int .i64 64,.int .i64 0]] w4 (PutT (S.setP P').ht ⟨1,64,0,1,(noPl 0).age,0⟩ 0 w4):=by
  rw[<- ect];exact B7
 refine Mw.mono ?_;rintro r w5⟨rfl,st5⟩;refine⟨⟨_,_,rfl⟩,(S.setP P').setL (newL 64),by show _=Ending.returned (.pointer (some ⟨S.c,0,none⟩));rw[ecc],?_,?_⟩
 ·have PW:=J1j hf hl h1 (by omega) hm gm;refine⟨⟨?_,?_,?_,?_,?_,?_,?_,?_⟩,rfl,?_,?_,?_,?_,Bs,G5,hq,by show S.xc=x0;rw[hS],fun j hj=>?_⟩
  ·show Inv P' (newL 64) [] S.xc (S.ts.map Prod.fst);rw[hS];exact PW
  ·show 1<=S.period/\_;rw[hS];exact⟨A3,Az⟩
  ·show ∀x∈S.ts,_;rw[hS];exact fun x hx=>by cases hx
  ·show S.ts.Pairwise _;rw[hS];exact .nil
  ·show ovOk S.rv S.ts.length;rw[hS];exact rfl
  ·show P'.q.next<=_;rw[Bs];decide
  ·show S.now<=0;rw[hS];exact J3h _
  ·intro p hp;rcases Q1Q hp with rfl|rfl <;> exact J5d _
  ·show S.ts=[];rw[hS]
  ·show S.now=0;rw[hS]
  ·show S.period=period;rw[hS]
  ·show P'.d.top=top;rw[gm.same.top,hf.etop]
  ·show P'.usedOf j=[];rw[gm.other j (by omega)];unfold PL.usedOf;split
   ·split
    ·rename_i c hc;unfold CA.used;rw[(hf.cs _ c hc).2.2.2];rfl
    ·rfl
   ·rfl
 ·have e1:(S.setP P').ht.l.set 0 ⟨1,64,0,1,(noPl 0).age,0⟩=newL 64:=by rw[hS];rfl
  have st6:Step (S.setP P').hl ((S.setP P').setL (newL 64)).hl w4 w5:=by
   have:=CO.stepL (S:=S.setP P') st'.sep _ st5;rw[e1] at this;exact this
  have f1:=Step.frame [] H (by simpa using s5.sep) (st'.trans st6);simp only[J5l] at f1;exact s5.trans f1
end Go.Proofs.YtfidemmgofcnmaaGreatDoor

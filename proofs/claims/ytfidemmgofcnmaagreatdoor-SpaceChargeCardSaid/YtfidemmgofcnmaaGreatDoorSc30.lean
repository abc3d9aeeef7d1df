/- SpaceCharge returns true at every input. No condition. Part of its proof. -/
import Derived.Test.YtfidemmgofcnmaaGreatDoorSc29
import Derived.Shelf.SlSortCmp.WholeK
import Derived.Shelf.SlGeneric
import Derived.Ground.SlsfProg
import Derived.Test.YtfidemmgofcnmaaGreatDoorProg
import Derived.Shelf.SlSortCmp.NoneTotal
import Derived.Shelf.SlIterI.Nil
import Derived.Shelf.SortM.Plain
import Derived.Shelf.SortM.SortNone
import Derived.Ground.GgzProg
import Derived.Ground.SlgmProg
set_option maxHeartbeats 8000000
set_option maxRecDepth 100000
set_option linter.unusedVariables false
namespace Go.Proofs.YtfidemmgofcnmaaGreatDoor
open Go.RowKit Go.Proofs.Tryz
theorem Z6Y (f:Nat->Bool) (i:It) (v:Wi) (h:Q4k i v=true):(movV f i v (2 ^ i.order.toNat)).length<=128:=by
 unfold Q4k Q8o at h;simp only [J2U,decide_eq_true_eq] at h;obtain⟨_,_,_,_,q5⟩:=Q2G h.1.1;exact J2z (Z2i _ _ _ _) q5
theorem Z3Z (H:HL) (w:World):AsideM H 0 (fun _=>noMv) none w:=⟨fun j hj=>by omega,fun a h _=>absurd rfl h⟩
theorem Z4a {w:World} {Z:SP} {fr:List Nat} {N K:Nat} {M:Int} (hs:Sep w Z.hl) (ok:Z.Ok fr N K M) (hM:M+300<1099511627776) {x y:Nat} (hx:x<4294967296) (hy:y<4294967296) (i:It) (v:Wi) (hi:i.Wf) (hv:v.Wf) :
  Calls prog 38 #[.pointer (some ⟨Z.s,0,none⟩),.int .u32 x,.agg #[.int .i64 i.base,.int .i64 i.order,.int .i64 i.r,.int .i64 i.off,.bool i.g],.agg #[.int .i64 v.base,.int .i64 v.order]] w fun r w1=>∃(a:Option Addr) (n cap:Nat) (er:Int),r=.returned (.tuple #[.slice a n cap,.int .i64 er])/\Below w.heap.size w w1 /\
   Calls prog 39 #[.pointer (some ⟨Z.s,0,none⟩),.int .u32 x,.int .u32 y,.slice a n cap] w1 fun r w'=>(∃er:Int,r=.returned (.int .i64 er))/\GoesZ Z N K (M+256) w w':=by
 refine (Z3Y hs ok hx i v hi hv).mono ?_;rintro r w1 ⟨hb,⟨er,_,rfl,_⟩|⟨p,a,cap,L,_,_,ha,_,hL,rfl,AE,hm⟩⟩
 ·refine⟨none,0,0,er,rfl,hb,?_⟩;refine (Q3n (hs.grown hb).sep ok (by omega) hx hy (by omega) (J2y 0) (Z3Z _ _)).mono ?_;rintro r w' ⟨er,rfl,hr⟩;exact⟨⟨er,rfl⟩,GoesZ.at hs hb ((hr.goes ok).mono (J2y _) (J2y _) (by omega))⟩
 ·have hl:L.length<=128:=by rw [hL];exact Z6Y _ _ _ ha
  refine⟨a,L.length,cap,0,rfl,hb,?_⟩;refine (Q3n (hs.grown hb).sep ok (by omega) hx hy (by omega) AE hm).mono ?_;rintro r w' ⟨er,rfl,hr⟩;exact⟨⟨er,rfl⟩,GoesZ.at hs hb ((hr.goes ok).mono (J2y _) (J2y _) (by omega))⟩
theorem Z4b {w:World} {Z:SP} {fr:List Nat} {N K:Nat} {M:Int} (hs:Sep w Z.hl) (ok:Z.Ok fr N K M) (hN:N+1<1048576) (hK:K<1048575) (hM:M+300<1099511627776) (x:A17) (hx:x.Wf) (Fc:x.ll<=20) (BR:AsideM Z.hl x.ll x.L x.la w) :
  Calls prog 85 #[.pointer (some ⟨Z.s,0,none⟩),.agg #[.int .i64 x.kind,.int .i64 x.n,.int .i64 x.k,.int .i64 x.m,.int .i64 x.t,.int .i64 x.u,.int .i64 x.s,.int .i64 x.r,.bool x.self,.slice x.la x.ll x.lc,.int .i64 x.i.base,.int .i64 x.i.order,.int .i64 x.i.r,.int .i64 x.i.off,.bool x.i.g,.int .i64 x.w.base,.int .i64 x.w.order]] w fun r w'=>r=.returned (.tuple #[])/\GoesZ Z (N+1) (K+1) (M+256) w w':=by
 have Bb:=ok.core.inv.lok;have Ic:Hid (∀W,Below w.heap.size w W->∀k n:Int,I64 n->Calls prog 35 #[.pointer (some ⟨Z.s,0,none⟩),.int .i64 k,.int .i64 n] W (Told W (.int .u32 ((nthV Z.S.l k n:Nat):Int)))):=fun W hb k n hn=>J0U (hs.grown hb).sep ok k n hn
 have B7:Hid (∀W,Below w.heap.size w W->Calls prog 26 #[.pointer (some ⟨Z.s,0,none⟩)] W fun r w'=>r=.returned (.pointer (some ⟨Z.S.c,0,none⟩))/\W=w'):=fun W hb=>Q3p (hs.grown hb).sep
 have Es:Hid (∀k n,nthV Z.S.l k n<4294967296):=fun k n=>J0T Bb k n
 have H0:Hid (∀W,Below w.heap.size w W->∀y:Nat,y<4294967296->∀k lim:Int,Calls prog 79 #[.pointer (some ⟨Z.S.c,0,none⟩),.int .u32 y,.int .i64 k,.int .i64 lim] W fun r w'=>(∃(a:Nat) (er:Int),r=two a er)/\(∀b,w.heap.size<=b->b<W.heap.size->w'.heap[b]?=W.heap[b]?)/\GoesZ Z (N+1) (K+1) (M+256) w w'):=fun W hb y hy k lim =>
  (Q6B (SP.sS (hs.grown hb).sep) ok.core hN hy k lim).mono fun r w' hr=>by
   obtain⟨h1,h2⟩:=hr.goesZ (hs.grown hb).sep ok;refine⟨h1,?_,GoesZ.at hs hb (h2.mono (J2y _) (by omega) (by omega))⟩;obtain⟨Z',fr',_,_,c⟩:=h2;exact c.keep hs (J2y _)
 have H1:Hid (∀W,Below w.heap.size w W->∀y h:Nat,y<4294967296->h<4294967296->∀z rr:Int,Calls prog 41 #[.pointer (some ⟨Z.s,0,none⟩),.int .u32 y,.int .i64 z,.agg #[.int .u32 h,.int .i64 rr]] W fun r w'=>(∃er:Int,r=.returned (.int .i64 er))/\GoesZ Z (N+1) (K+1) (M+256) w w'):=fun W hb y h hy hh z rr =>
  (Q9A (hs.grown hb).sep ok (by omega) hy hh z rr).mono fun r w' ⟨er,e,hr⟩=>⟨⟨er,e⟩,GoesZ.at hs hb ((hr.goes (hs.grown hb).sep ok).mono (by omega) (by omega) (by omega))⟩
 have H2:Hid (∀W,Below w.heap.size w W->∀y h:Nat,y<4294967296->h<4294967296->Calls prog 39 #[.pointer (some ⟨Z.s,0,none⟩),.int .u32 y,.int .u32 h,.slice x.la x.ll x.lc] W fun r w'=>(∃er:Int,r=.returned (.int .i64 er))/\GoesZ Z (N+1) (K+1) (M+256) w w'):=fun W hb y h hy hh =>
  (Q3n (hs.grown hb).sep ok (by omega) hy hh (by omega) hx.len.1 (BR.step (hs.grown hb))).mono fun r w' ⟨er,e,hr⟩=>⟨⟨er,e⟩,GoesZ.at hs hb ((hr.goes ok).mono (by omega) (by omega) (by omega))⟩
 have H3:Hid (∀W,Below w.heap.size w W->∀y h:Nat,y<4294967296->h<4294967296->Calls prog 38 #[.pointer (some ⟨Z.s,0,none⟩),.int .u32 y,.agg #[.int .i64 x.i.base,.int .i64 x.i.order,.int .i64 x.i.r,.int .i64 x.i.off,.bool x.i.g],.agg #[.int .i64 x.w.base,.int .i64 x.w.order]] W fun r w1=>∃(a:Option Addr) (n cap:Nat) (er:Int),r=.returned (.tuple #[.slice a n cap,.int .i64 er]) /\
   Calls prog 39 #[.pointer (some ⟨Z.s,0,none⟩),.int .u32 y,.int .u32 h,.slice a n cap] w1 fun r w'=>(∃er:Int,r=.returned (.int .i64 er))/\GoesZ Z (N+1) (K+1) (M+256) w w'):=fun W hb y h hy hh =>
  (Z4a (hs.grown hb).sep ok hM hy hh x.i x.w hx.i hx.w).mono fun r w1 ⟨a,n,cap,er,e,_,hk⟩=>⟨a,n,cap,er,e,hk.mono fun r w' ⟨h1,h2⟩=>⟨h1,GoesZ.at hs hb (h2.mono (by omega) (by omega) (by omega))⟩⟩
 have H4:Hid (∀W,Below w.heap.size w W->∀y:Nat,y<4294967296->∀(z m:Int) (b:Bool),Calls prog 81 #[.pointer (some ⟨Z.s,0,none⟩),.int .u32 y,.int .i64 z,.int .i64 m,.bool b] W fun r w'=>(∃a b:Value,r=.returned (.tuple #[a,b]))/\GoesZ Z (N+1) (K+1) (M+256) w w'):=fun W hb y hy z m b =>
  (Q6w (hs.grown hb).sep ok hy z m b).mono fun r w' hr=>⟨(hr.goes (hs.grown hb).sep ok).1,GoesZ.at hs hb ((hr.goes (hs.grown hb).sep ok).2.mono (by omega) (by omega) (by omega))⟩
 have H5:Hid (∀W,Below w.heap.size w W->∀h:Nat,Calls prog 164 #[.pointer (some ⟨Z.s,0,none⟩),.int .u32 h] W fun r w'=>(∃n:Int,r=.returned (.int .i64 n))/\GoesZ Z (N+1) (K+1) (M+256) w w'):=fun W hb h =>
  (Q7B (hs.grown hb).sep ok h).mono fun r w' ⟨e,Z',a,_,b,c⟩=>⟨⟨_,e⟩,GoesZ.at hs hb ((GoesZ.same a b c).mono (by omega) (by omega) (by omega))⟩
 have H6:Hid (∀W,Below w.heap.size w W->∀y:Nat,y<4294967296->Calls prog 163 #[.pointer (some ⟨Z.s,0,none⟩),.int .u32 y] W fun r w'=>(∃n:Int,r=.returned (.int .i64 n))/\GoesZ Z (N+1) (K+1) (M+256) w w'):=fun W hb y hy =>
  (Q9M (hs.grown hb).sep ok hy).mono fun r w' ⟨e,Z',a,_,b,c⟩=>⟨⟨_,e⟩,GoesZ.at hs hb ((GoesZ.same a b c).mono (by omega) (by omega) (by omega))⟩
 have H7:Hid (∀W,Below w.heap.size w W->∀y:Nat,y<4294967296->Calls prog 84 #[.pointer (some ⟨Z.s,0,none⟩),.int .u32 y] W fun r w'=>(∃a b:Value,r=.returned (.tuple #[a,b]))/\GoesZ Z (N+1) (K+1) (M+256) w w'):=fun W hb y hy =>
  (Q9S (hs.grown hb).sep ok (by omega) hy).mono fun r w' hr=>⟨(hr.goes (hs.grown hb).sep ok).1,GoesZ.at hs hb ((hr.goes (hs.grown hb).sep ok).2.mono (by omega) (by omega) (by omega))⟩
 have H8:Hid (∀W,Below w.heap.size w W->Calls prog 166 #[.pointer (some ⟨Z.S.c,0,none⟩)] W fun r w'=>(∃a:Value,r=.returned a)/\GoesZ Z (N+1) (K+1) (M+256) w w'):=fun W hb =>
  (Z6L (SP.sS (hs.grown hb).sep) ok.core hK).mono fun r w' hr=>⟨(hr.goesZ (hs.grown hb).sep ok).1,GoesZ.at hs hb ((hr.goesZ (hs.grown hb).sep ok).2.mono (by omega) (by omega) (by omega))⟩
 have H9:Hid (∀W,Below w.heap.size w W->∀y h:Nat,y<4294967296->h<4294967296->∀z k lim:Int,Calls prog 40 #[.pointer (some ⟨Z.s,0,none⟩),.int .u32 y,.int .i64 z,.int .u32 h,.int .i64 k,.int .i64 lim] W fun r w'=>(∃(a:Nat) (er:Int),r=two a er)/\GoesZ Z (N+1) (K+1) (M+256) w w'):=fun W hb y h hy hh z k lim =>
  (Z6D (hs.grown hb).sep ok hN (by omega) hy hh z k lim).mono fun r w' ⟨a,er,e,hr⟩=>⟨⟨a,er,e⟩,GoesZ.at hs hb ((hr.goes ok).mono (by omega) (by omega) (by omega))⟩
 have EI:Hid (∀W,Below w.heap.size w W->GoesZ Z (N+1) (K+1) (M+256) w W):=fun W hb=>(GoesZ.of hs ok hb).mono (by omega) (by omega) (by omega)
 obtain⟨hn,hk,hm,ht,hu,Eh,ML,-,-,-⟩:=hx;obtain⟨kind,n,k,m,t,u,s,rr,self,la,ll,lc,L,i,v⟩:=x;obtain⟨ib,io,ir,iff,ig⟩:=i;obtain⟨vb,vo⟩:=v;dsimp only at *
 have HC:Hid (∀W,Below (w.alloc (.cells #[.int .i64 kind,.int .i64 n,.int .i64 k,.int .i64 m,.int .i64 t,.int .i64 u,.int .i64 s,.int .i64 rr,.bool self,.slice la ll lc,.int .i64 ib,.int .i64 io,.int .i64 ir,.int .i64 iff,.bool ig,.int .i64 vb,.int .i64 vo] 67)).heap.size (w.alloc (.cells #[.int .i64 kind,.int .i64 n,.int .i64 k,.int .i64 m,.int .i64 t,.int .i64 u,.int .i64 s,.int .i64 rr,.bool self,.slice la ll lc,.int .i64 ib,.int .i64 io,.int .i64 ir,.int .i64 iff,.bool ig,.int .i64 vb,.int .i64 vo] 67)) W->Below w.heap.size w W/\Cells W w.heap.size 67 [.int .i64 kind,.int .i64 n,.int .i64 k,.int .i64 m,.int .i64 t,.int .i64 u,.int .i64 s,.int .i64 rr,.bool self,.slice la ll lc,.int .i64 ib,.int .i64 io,.int .i64 ir,.int .i64 iff,.bool ig,.int .i64 vb,.int .i64 vo]):=fun W hb =>
  ⟨Q0e hb,(Cells.new w 67 [.int .i64 kind,.int .i64 n,.int .i64 k,.int .i64 m,.int .i64 t,.int .i64 u,.int .i64 s,.int .i64 rr,.bool self,.slice la ll lc,.int .i64 ib,.int .i64 io,.int .i64 ir,.int .i64 iff,.bool ig,.int .i64 vb,.int .i64 vo]).same (hb.block _ (by simp))⟩
 generalize hW1:(w.alloc (.cells #[.int .i64 kind,.int .i64 n,.int .i64 k,.int .i64 m,.int .i64 t,.int .i64 u,.int .i64 s,.int .i64 rr,.bool self,.slice la ll lc,.int .i64 ib,.int .i64 io,.int .i64 ir,.int .i64 iff,.bool ig,.int .i64 vb,.int .i64 vo] 67))=W1 at *
 have HI:Hid (I64 t/\I64 u/\I64 n):=⟨ht,hu,hn⟩
 clear hs ok hN hK hM Fc BR Bb ht hu hn hk hm Eh ML;go_enter func85,ntmps85;go_upto_region 1 with fail
 try rw [hW1]
 clear hW1
 go_cut [4,5,6] from 9 to 20 (fun a b c wc=>a=.int .u32 ((nthV Z.S.l 2 t:Nat):Int)/\b=.int .u32 ((nthV Z.S.l 2 u:Nat):Int)/\c=.int .u32 ((nthV Z.S.l 0 n:Nat):Int)/\Below W1.heap.size W1 wc)
 case first =>
  clear H0 H1 H2 H3 H4 H5 H6 H7 H8 H9 EI B7 Es;have Ce:Hid (Below W1.heap.size W1 W1.drew):=(Below.refl _ _).drew;have Ih:Hid (Below W1.heap.size W1 W1):=Below.refl _ _;have DH:Hid (∀W,Below W1.heap.size W1 W->W.cell? ⟨w.heap.size,4,none⟩=some (.int .i64 t)/\W.cell? ⟨w.heap.size,5,none⟩=some (.int .i64 u)/\W.cell? ⟨w.heap.size,1,none⟩=some (.int .i64 n)):=fun W hb=>⟨(HC.out W hb).2.cell 4 _ rfl,(HC.out W hb).2.cell 5 _ rfl,(HC.out W hb).2.cell 1 _ rfl⟩
  have O3:Hid (∀W,Below W1.heap.size W1 W->∀k n:Int,I64 n->Calls prog 35 #[.pointer (some ⟨Z.s,0,none⟩),.int .i64 k,.int .i64 n] W (Told W (.int .u32 ((nthV Z.S.l k n:Nat):Int)))):=fun W hb=>Ic.out W (HC.out W hb).1
  clear HC Ic
  go_region_held3 (fun W=>W.cell? ⟨w.heap.size,4,none⟩=some (.int .i64 t)/\W.cell? ⟨w.heap.size,5,none⟩=some (.int .i64 u)/\W.cell? ⟨w.heap.size,1,none⟩=some (.int .i64 n))
   (first|exact DH.out _ Ce.out|exact DH.out _ Ih.out)
   (first|(go_at_call 35;refine (O3.out _ Ce.out _ _ (by first|exact HI.out.1|exact HI.out.2.1|exact HI.out.2.2)).mono ?_;rintro rv w' ⟨rfl,hb⟩;have Ce:=Q0a (Ce.out.trans (hb.mono Ce.out.size));clear hb))
  all_goals (go_wp2_with fail;go_meet;exact⟨rfl,rfl,rfl,Ce.out⟩)
 obtain⟨rfl,rfl,rfl,hb⟩:=hcut;obtain⟨DA,A6⟩:=HC.out wc hb;have hT:=Es.out 2 t;have hU:=Es.out 2 u;have hH:=Es.out 0 n;generalize nthV Z.S.l 2 t=T at *
 generalize nthV Z.S.l 2 u=U at *
 generalize nthV Z.S.l 0 n=H at *
 have c0:=A6.cell 0 _ rfl;have HB:=Q0a hb;have C5:=Q0a DA;clear hb DA;by_cases e0:kind=0
 ·subst e0;have hF:=Es.out 1 n;have Tw:Hid (∀V,Below wc.heap.size wc V->Calls prog 79 #[.pointer (some ⟨Z.S.c,0,none⟩),.int .u32 ((nthV Z.S.l 1 n:Nat):Int),.int .i64 k,.int .i64 m] V fun r w'=>(∃(a:Nat) (er:Int),r=two a er)/\(∀b,w.heap.size<=b->b<V.heap.size->w'.heap[b]?=V.heap[b]?)/\GoesZ Z (N+1) (K+1) (M+256) w w'):=fun V hb=>H0.out V (C5.out.trans (hb.mono C5.out.size)) _ hF k m
  have O3:Hid (∀V,Below wc.heap.size wc V->Calls prog 35 #[.pointer (some ⟨Z.s,0,none⟩),.int .i64 1,.int .i64 n] V (Told V (.int .u32 ((nthV Z.S.l 1 n:Nat):Int)))):=fun V hb=>Ic.out V (C5.out.trans (hb.mono C5.out.size)) 1 n HI.out.2.2
  have U9:Hid (∀V,Below wc.heap.size wc V->Calls prog 26 #[.pointer (some ⟨Z.s,0,none⟩)] V fun r w'=>r=.returned (.pointer (some ⟨Z.S.c,0,none⟩))/\V=w'):=fun V hb=>B7.out V (C5.out.trans (hb.mono C5.out.size))
  have DH:Hid (∀V,Below wc.heap.size wc V->V.cell? ⟨w.heap.size,1,none⟩=some (.int .i64 n)/\V.cell? ⟨w.heap.size,2,none⟩=some (.int .i64 k)/\V.cell? ⟨w.heap.size,3,none⟩=some (.int .i64 m)):=fun V hb=>by
   have h:=(HC.out V (HB.out.trans (hb.mono HB.out.size))).2;exact⟨h.cell 1 _ rfl,h.cell 2 _ rfl,h.cell 3 _ rfl⟩
  generalize nthV Z.S.l 1 n=FF at *
  have Ce:Hid (Below wc.heap.size wc wc.drew):=(Below.refl _ _).drew;have Ih:Hid (Below wc.heap.size wc wc):=Below.refl _ _;have Nr:Hid (∀V,Below wc.heap.size wc V->w.heap.size<V.heap.size):=fun V hb=>J2A A6.lt hb.size
  clear H0 H1 H2 H3 H4 H5 H6 H7 H8 H9 EI B7 Es HC A6 Ic;go_upto_region 4 with fail
  go_region_held3 (fun W=>W.cell? ⟨w.heap.size,1,none⟩=some (.int .i64 n)/\W.cell? ⟨w.heap.size,2,none⟩=some (.int .i64 k)/\W.cell? ⟨w.heap.size,3,none⟩=some (.int .i64 m))
   (first|exact Vk.out|exact DH.out _ Ce.out|exact DH.out _ Ih.out)
   (first|(go_at_call 26;refine (U9.out _ Ce.out).mono ?_;rintro rv w' ⟨rfl,rfl⟩)|(go_at_call 35;refine (O3.out _ Ce.out).mono ?_;rintro rv w' ⟨rfl,hb⟩;have Ce:=Q0a (Ce.out.trans (hb.mono Ce.out.size));clear hb)|(go_at_call 79;refine (Tw.out _ Ce.out).mono ?_;rintro rv w' ⟨⟨a,er,rfl⟩,Ht,hq⟩;unfold two;have FJ:=Ht w.heap.size (J2y _) (Nr.out _ Ce.out);have Gy:=DH.out _ Ce.out;have Vk:=Q0a (And.intro ((World.cell?_of_block (w:=_) (a:=⟨w.heap.size,1,none⟩) FJ).trans Gy.1) (And.intro ((World.cell?_of_block (w:=_) (a:=⟨w.heap.size,2,none⟩) FJ).trans Gy.2.1) ((World.cell?_of_block (w:=_) (a:=⟨w.heap.size,3,none⟩) FJ).trans Gy.2.2)));have HQ:=Q0a hq;clear hq Ht FJ Gy))
  all_goals (go_wp2_with fail;first|exact⟨rfl,HQ.out⟩|(go_end0;exact⟨rfl,HQ.out⟩))
 by_cases e1:kind=1
 ·subst e1;have kk:=H1.out wc C5.out T H hT hH s rr;have c6:=A6.cell 6 _ rfl;have c7:=A6.cell 7 _ rfl;clear H0 H1 H2 H3 H4 H5 H6 H7 H8 H9 EI B7 Es HC A6;go_wp2_with fail;refine kk.mono ?_;rintro rv w' ⟨⟨er,rfl⟩,hq⟩;have HQ:=Q0a hq;clear hq kk;go_wp2_with fail
  first|exact⟨rfl,HQ.out⟩|(go_end0;exact⟨rfl,HQ.out⟩)
 by_cases e2:kind=2
 ·subst e2;have kk:=H2.out wc C5.out T U hT hU;have c9:=A6.cell 9 _ rfl;clear H0 H1 H2 H3 H4 H5 H6 H7 H8 H9 EI B7 Es HC A6;go_wp2_with fail;refine kk.mono ?_;rintro rv w' ⟨⟨er,rfl⟩,hq⟩;have HQ:=Q0a hq;clear hq kk;go_wp2_with fail
  first|exact⟨rfl,HQ.out⟩|(go_end0;exact⟨rfl,HQ.out⟩)
 by_cases e3:kind=3
 ·subst e3;have kk:=H3.out wc C5.out T U hT hU;have Qe:=A6.cell 10 _ rfl;have QN:=A6.cell 11 _ rfl;have Qt:=A6.cell 12 _ rfl;have R4:=A6.cell 13 _ rfl;have Sl:=A6.cell 14 _ rfl;have Lc:=A6.cell 15 _ rfl;have St:=A6.cell 16 _ rfl;clear H0 H1 H2 H3 H4 H5 H6 H7 H8 H9 EI B7 Es HC A6;go_wp2_with fail;refine kk.mono ?_;rintro rv w2 ⟨a,nn,cap,er,rfl,k2⟩;clear kk;go_wp2_with fail;refine k2.mono ?_;rintro rv w' ⟨⟨er,rfl⟩,hq⟩;have HQ:=Q0a hq;clear hq k2;go_wp2_with fail
  first|exact⟨rfl,HQ.out⟩|(go_end0;exact⟨rfl,HQ.out⟩)
 by_cases e4:kind=4
 ·subst e4;have kk:=H4.out wc C5.out T hT s rr self;have c6:=A6.cell 6 _ rfl;have c7:=A6.cell 7 _ rfl;have c8:=A6.cell 8 _ rfl;clear H0 H1 H2 H3 H4 H5 H6 H7 H8 H9 EI B7 Es HC A6;go_wp2_with fail;refine kk.mono ?_;rintro rv w' ⟨⟨a,b,rfl⟩,hq⟩;have HQ:=Q0a hq;clear hq kk;go_wp2_with fail
  first|exact⟨rfl,HQ.out⟩|(go_end0;exact⟨rfl,HQ.out⟩)
 by_cases e5:kind=5
 ·subst e5;have kk:=H5.out wc C5.out H;clear H0 H1 H2 H3 H4 H5 H6 H7 H8 H9 EI B7 Es HC A6;go_wp2_with fail;refine kk.mono ?_;rintro rv w' ⟨⟨a,rfl⟩,hq⟩;have HQ:=Q0a hq;clear hq kk;go_wp2_with fail
  first|exact⟨rfl,HQ.out⟩|(go_end0;exact⟨rfl,HQ.out⟩)
 by_cases e6:kind=6
 ·subst e6;have kk:=H6.out wc C5.out T hT;clear H0 H1 H2 H3 H4 H5 H6 H7 H8 H9 EI B7 Es HC A6;go_wp2_with fail;refine kk.mono ?_;rintro rv w' ⟨⟨a,rfl⟩,hq⟩;have HQ:=Q0a hq;clear hq kk;go_wp2_with fail
  first|exact⟨rfl,HQ.out⟩|(go_end0;exact⟨rfl,HQ.out⟩)
 by_cases e7:kind=7
 ·subst e7;have kk:=H7.out wc C5.out H hH;clear H0 H1 H2 H3 H4 H5 H6 H7 H8 H9 EI B7 Es HC A6;go_wp2_with fail;refine kk.mono ?_;rintro rv w' ⟨⟨a,b,rfl⟩,hq⟩;have HQ:=Q0a hq;clear hq kk;go_wp2_with fail
  first|exact⟨rfl,HQ.out⟩|(go_end0;exact⟨rfl,HQ.out⟩)
 by_cases e8:kind=8
 ·subst e8;have ko:=B7.out wc C5.out;have kk:=H8.out wc C5.out;clear H0 H1 H2 H3 H4 H5 H6 H7 H8 H9 EI B7 Es HC A6;go_wp2_with fail;refine ko.mono ?_;rintro rv w2 ⟨rfl,rfl⟩;go_wp2_with fail;refine kk.mono ?_;rintro rv w' ⟨⟨a,rfl⟩,hq⟩;have HQ:=Q0a hq;clear hq kk ko;go_wp2_with fail
  first|exact⟨rfl,HQ.out⟩|(go_end0;exact⟨rfl,HQ.out⟩)
 by_cases e9:kind=9
 ·subst e9;have kk:=H9.out wc C5.out T H hT hH s k m;have c6:=A6.cell 6 _ rfl;have c2:=A6.cell 2 _ rfl;have c3:=A6.cell 3 _ rfl;clear H0 H1 H2 H3 H4 H5 H6 H7 H8 H9 EI B7 Es HC A6;go_wp2_with fail;refine kk.mono ?_;rintro rv w' ⟨⟨a,er,rfl⟩,hq⟩;have HQ:=Q0a hq;unfold two;clear hq kk;go_wp2_with fail
  first|exact⟨rfl,HQ.out⟩|(go_end0;exact⟨rfl,HQ.out⟩)
 have f0:(kind==0)=false:=by simpa using e0
 have f1:(kind==1)=false:=by simpa using e1
 have f2:(kind==2)=false:=by simpa using e2
 have f3:(kind==3)=false:=by simpa using e3
 have f4:(kind==4)=false:=by simpa using e4
 have f5:(kind==5)=false:=by simpa using e5
 have f6:(kind==6)=false:=by simpa using e6
 have f7:(kind==7)=false:=by simpa using e7
 have f8:(kind==8)=false:=by simpa using e8
 have f9:(kind==9)=false:=by simpa using e9
 have HQ:=Q0a (EI.out wc C5.out);clear H0 H1 H2 H3 H4 H5 H6 H7 H8 H9 EI B7 Es HC A6 e0 e1 e2 e3 e4 e5 e6 e7 e8 e9;go_wp2_with fail
 first|exact⟨rfl,HQ.out⟩|(go_end0;exact⟨rfl,HQ.out⟩)
def fewV (A:Nat->A17) (len:Nat):Bool:=decide (len<=60/\∀j,j<len->(A j).ll<=20)
theorem J1g (w:World) (a0:Option Addr) (len cap:Nat) (A:Nat->A17) (hA:IsA17 w a0 len A) :
  Calls prog 24 #[.slice a0 len cap] w fun r w'=>r=.returned (.bool (fewV A len))/\w=w':=by
 have Oa:(0:Int)<=(len:Int):=by omega
 by_cases QC:len<=60
 ·have hd:decide (60<(len:Int))=false:=by simp;omega
  have HA:=Q0a hA;have Fi:(len:Int)<=60:=by omega
  obtain⟨v,hv⟩:∃v,v=fewV A len:=⟨_,rfl⟩
  have HV:=Q0a hv;rw [<- hv];clear hA hv;go_enter func24,ntmps24;go_wp2_with fail
  go_loopg [3] len (fun gk iv wr=>∃k:Nat,iv=.int .i64 k/\k+gk=len/\wr=w/\∀j,j<k->(A j).ll<=20)
  case atStart=>exact⟨0,rfl,by omega,rfl,fun j hj=>by omega⟩
  case round =>
   obtain⟨k,rfl,AH,rfl,hp⟩:=hrel;have HP:=Q0a hp;have B6:=Q0a AH;clear hp AH;by_cases Ab:k<len
   ·obtain⟨g,off,rfl,hg,AJ,QK,_⟩:=HA.out k Ab;have c9:wr.cell? ⟨g,off+k*17+9,none⟩=some (.slice (A k).la (A k).ll (A k).lc):=AJ 9 _ rfl;have Ae:=QK.len;unfold maxLen at Ae;have C2:(k:Int)<(len:Int):=by omega
    have Bs:(0:Int)<=(k:Int):=by omega
    clear AJ QK;by_cases Ql:(A k).ll<=20
    ·have Gm:decide (20<(((A k).ll:Nat):Int))=false:=by simp;omega
     have TZ:Hid (∀j,j<k+1->(A j).ll<=20):=fun j hj=>by
      by_cases e:j=k
      ·rw [e];exact Ql
      ·exact HP.out j (by omega)
     go_wp2_with fail;go_roundg (len-(k+1))
     case measure=>have:=B6.out;omega
     case rel=>exact⟨k+1,by go_num,by have:=B6.out;omega,rfl,TZ.out⟩
    ·have Gm:decide (20<(((A k).ll:Nat):Int))=true:=by simp;omega
     have Vc:v=false:=by
      rw [HV.out];unfold fewV;exact decide_eq_false fun h=>Ql (h.2 k Ab)
     subst Vc;clear HV;go_wp2_with fail
     first|exact⟨rfl,rfl⟩|(go_ret;exact⟨rfl,rfl⟩)
   ·obtain rfl:k=len:=by have:=B6.out;omega
    have TS:v=true:=by
     rw [HV.out];unfold fewV;exact decide_eq_true ⟨QC,HP.out⟩
    subst TS;clear HV;go_wp2_with fail
    first|exact⟨rfl,rfl⟩|(go_ret;exact⟨rfl,rfl⟩)
 ·have hv:fewV A len=false:=by
   unfold fewV;exact decide_eq_false fun h=>QC h.1
  have hd:decide (60<(len:Int))=true:=by simp;omega
  rw [hv];clear hA;go_enter func24,ntmps24;go_wp2_with fail
  first|exact⟨rfl,rfl⟩|(go_ret;exact⟨rfl,rfl⟩)
structure BegZ (Z:SP):Prop where
 per:Z.S.period=2
 top:Z.S.P.d.top=6
 root:pget Z.S.l 1 0=some ⟨1,64,0,1,0,0⟩
theorem BegZ.gone {Z Z':SP} (b:BegZ Z) (g:GoneZ Z Z'):BegZ Z':=⟨g.per.trans b.per,g.same.top.trans b.top,g.root.trans b.root⟩
def AtB (s:Nat) (N K:Nat) (M:Int) (w0 wr:World):Prop:=∃(Z:SP) (fr:List Nat),Z.s=s/\Z.Ok fr N K M/\BegZ Z/\Step [] Z.hl w0 wr
theorem J1h {w w1:World} {S:CO} {limit:Int} (f:Q9R S 6 limit 2) (st:Step [] (S.hl++[]) w w1) :
  Calls prog 80 #[.pointer (some ⟨S.c,0,none⟩)] w1 fun r w'=>∃s,r=.returned (.pointer (some ⟨s,0,none⟩))/\AtB s 1 0 0 w w':=by
 have m:=Z2e f;have st':Step [] S.hl w w1:=by rwa [J4G] at st
 refine (Z2d st'.sep (fun _=>TB.emp)).mono ?_;rintro r w' ⟨Z,rfl,hn,st2⟩;refine⟨Z.s,rfl,Z,[],rfl,hn.ok m.ok m.tpi (fun _ _=>TB.emp_nil),⟨by rw [hn.S];exact m.per,by rw [hn.S];exact m.top,by rw [hn.S,m.l];rfl⟩,st'.trans st2⟩
theorem Z9s {w wr:World} {s N K:Nat} {M:Int} (h:AtB s N K M w wr) (hN:N+1<1048576) (hK:K<1048575) (hM:M+300<1099511627776) (x:A17) (hx:x.Wf) (Fc:x.ll<=20) (BR:IsMv w x.la x.ll x.L) :
  Calls prog 85 #[.pointer (some ⟨s,0,none⟩),.agg #[.int .i64 x.kind,.int .i64 x.n,.int .i64 x.k,.int .i64 x.m,.int .i64 x.t,.int .i64 x.u,.int .i64 x.s,.int .i64 x.r,.bool x.self,.slice x.la x.ll x.lc,.int .i64 x.i.base,.int .i64 x.i.order,.int .i64 x.i.r,.int .i64 x.i.off,.bool x.i.g,.int .i64 x.w.base,.int .i64 x.w.order]] wr fun r w'=>r=.returned (.tuple #[])/\AtB s (N+1) (K+1) (M+256) w w':=by
 obtain⟨Z,fr,rfl,ok,b,st⟩:=h;have PN:AsideM Z.hl x.ll x.L x.la wr:=⟨BR.below st.fresh,fun a h0 ha hk=>by
  obtain⟨g,off,hg,Ab,_⟩:=BR 0 (by omega);rw [ha] at hg;cases hg;rcases st.new _ hk with h|h
  ·cases h
  ·dsimp only at h;omega⟩
 refine (Z4b st.sep ok hN hK hM x hx Fc PN).mono ?_;rintro r w' ⟨rfl,Z',fr',ok',g,st'⟩;exact⟨rfl,Z',fr',g.s,ok',b.gone g,st.trans st'⟩
theorem Z6Z {w:World} (Dx:Env w) (limit:Int) (Dp:64<=limit) (CN:limit<=65536) (a0:Option Addr) (len cap:Nat) (A:Nat->A17) (hl:len<=60) (hA:IsA17 w a0 len A) (Fc:∀j,j<len->(A j).ll<=20) :
  Calls prog 25 #[.int .i64 limit,.slice a0 len cap] w fun r w'=>∃s,r=.returned (.pointer (some ⟨s,0,none⟩))/\AtB s 61 60 15360 w w':=by
 have Ks:((2 ^ (6+10):Nat):Int)=65536:=by decide
 have kn:=Z2c (Sep.nil Dx) 6 (by omega) (by omega) limit Dp (by rw [Ks];exact CN) 2 (by omega) (by omega);rw [Ks] at kn;have HA:=Q0a hA;have Nn:=Q0a Fc;have Oa:(0:Int)<=(len:Int):=by omega
 have Fi:(len:Int)<=60:=by omega
 clear Dx hA Fc Ks;go_enter func25,ntmps25;go_wp2_with fail;refine kn.mono ?_;rintro r w1 ⟨S,rfl,hf,st⟩;have ks:=J1h hf st;clear kn hf st;go_wp2_with fail;refine ks.mono ?_;rintro r w2 ⟨s,rfl,AA⟩;have IT:=Q0a AA;clear AA ks;go_wp2_with fail
 go_loopg [6] len (fun gk iv wr=>∃k:Nat,iv=.int .i64 k/\k+gk=len/\AtB s (1+k) k (256*(k:Int)) w wr)
 case atStart=>exact⟨0,rfl,by omega,IT.out⟩
 case round =>
  obtain⟨k,rfl,AH,AA⟩:=hrel;have B6:=Q0a AH;clear AH;by_cases Ab:k<len
  ·have kp:=Z9s AA (by omega) (by omega) (by omega) (A k) (HA.out k Ab).choose_spec.choose_spec.2.2.2.1 (Nn.out k Ab) (HA.out k Ab).choose_spec.choose_spec.2.2.2.2;have hb:Below w.heap.size w wr:=by
    obtain⟨Z,fr,_,_,_,st⟩:=AA;exact st.fresh
   obtain⟨g,off,rfl,hg,AJ,_,_⟩:=(HA.out.below hb) k Ab;have c0:wr.cell? ⟨g,off+k*17,none⟩=some (.int .i64 (A k).kind):=AJ 0 _ rfl;have c1:wr.cell? ⟨g,off+k*17+1,none⟩=some (.int .i64 (A k).n):=AJ 1 _ rfl;have c2:wr.cell? ⟨g,off+k*17+2,none⟩=some (.int .i64 (A k).k):=AJ 2 _ rfl;have c3:wr.cell? ⟨g,off+k*17+3,none⟩=some (.int .i64 (A k).m):=AJ 3 _ rfl;have c4:wr.cell? ⟨g,off+k*17+4,none⟩=some (.int .i64 (A k).t):=AJ 4 _ rfl;have c5:wr.cell? ⟨g,off+k*17+5,none⟩=some (.int .i64 (A k).u):=AJ 5 _ rfl;have c6:wr.cell? ⟨g,off+k*17+6,none⟩=some (.int .i64 (A k).s):=AJ 6 _ rfl;have c7:wr.cell? ⟨g,off+k*17+7,none⟩=some (.int .i64 (A k).r):=AJ 7 _ rfl
   have c8:wr.cell? ⟨g,off+k*17+8,none⟩=some (.bool (A k).self):=AJ 8 _ rfl;have c9:wr.cell? ⟨g,off+k*17+9,none⟩=some (.slice (A k).la (A k).ll (A k).lc):=AJ 9 _ rfl;have Qe:wr.cell? ⟨g,off+k*17+10,none⟩=some (.int .i64 (A k).i.base):=AJ 10 _ rfl;have QN:wr.cell? ⟨g,off+k*17+11,none⟩=some (.int .i64 (A k).i.order):=AJ 11 _ rfl;have Qt:wr.cell? ⟨g,off+k*17+12,none⟩=some (.int .i64 (A k).i.r):=AJ 12 _ rfl;have R4:wr.cell? ⟨g,off+k*17+13,none⟩=some (.int .i64 (A k).i.off):=AJ 13 _ rfl;have Sl:wr.cell? ⟨g,off+k*17+14,none⟩=some (.bool (A k).i.g):=AJ 14 _ rfl;have Lc:wr.cell? ⟨g,off+k*17+15,none⟩=some (.int .i64 (A k).w.base):=AJ 15 _ rfl
   have St:wr.cell? ⟨g,off+k*17+16,none⟩=some (.int .i64 (A k).w.order):=AJ 16 _ rfl;have C2:(k:Int)<(len:Int):=by omega
   have Bs:(0:Int)<=(k:Int):=by omega
   clear AJ AA hb HA Nn;go_wp2_with fail;refine kp.mono ?_;rintro r w3 ⟨rfl,AA⟩;have IT:=Q0a AA;clear AA kp c0 c1 c2 c3 c4 c5 c6 c7 c8 c9 Qe QN Qt R4 Sl Lc St;go_wp2_with fail;go_roundg (len-(k+1))
   case measure=>have:=B6.out;omega
   case rel=>exact⟨k+1,by go_num,by have:=B6.out;omega,by
    obtain⟨Z,fr,e,ok,b,st⟩:=IT.out;exact⟨Z,fr,e,ok.mono (by omega) (by omega) (by omega),b,st⟩⟩
  ·obtain rfl:k=len:=by have:=B6.out;omega
   have HR:Hid (AtB s 61 60 15360 w wr):=by
    obtain⟨Z,fr,e,ok,b,st⟩:=AA;exact⟨Z,fr,e,ok.mono (by omega) (by omega) (by omega),b,st⟩
   clear AA;go_wp2_with fail
   first|exact⟨s,rfl,HR.out⟩|(go_ret;exact⟨s,rfl,HR.out⟩)
end Go.Proofs.YtfidemmgofcnmaaGreatDoor
namespace Go.Proofs.YtfidemmgofcnmaaGreatDoor
open Go.Shelf Go.Proofs.Tryz
end Go.Proofs.YtfidemmgofcnmaaGreatDoor
namespace Go.Proofs.YtfidemmgofcnmaaGreatDoor
open Go.RowKit Go.Shelf Go.Proofs.Tryz
open Go.Sort (flatK HoldsK putRowK)
end Go.Proofs.YtfidemmgofcnmaaGreatDoor
namespace Go.Proofs.YtfidemmgofcnmaaGreatDoor
open Go.Shelf Go.Proofs.Tryz
def Q9Y:Go.Shelf.Ren:=⟨fun|7=>75|10=>141|n=>n,fun|23=>148|26=>3|3=>140|28=>165|0=>0|27=>164|33=>143|4=>4|n=>n,fun|n=>n⟩
theorem J2a:Go.Proofs.SlLaysZI.n7 prog Q9Y:={
 mixed:=by kernel_rfl
 f7:=⟨f75.name,by decide,func75.trans (congrArg some (by kernel_rfl))⟩
 f10:=⟨f141.name,by decide,func141.trans (congrArg some (by kernel_rfl))⟩
 t0:=underlying0
 a0:=isAgg0
 z0:=sizeOf0
 v0:=zeroValue0
 t4:=underlying4
 a4:=isAgg4
 z4:=sizeOf4
 v4:=zeroValue4
 t23:=underlying148
 a23:=isAgg148
 z23:=sizeOf148
 v23:=zeroValue148
 t26:=underlying3
 a26:=isAgg3
 z26:=sizeOf3
 v26:=zeroValue3
 t27:=underlying164
 a27:=isAgg164
 z27:=sizeOf164
 v27:=zeroValue164
 t28:=underlying165
 a28:=isAgg165
 z28:=sizeOf165
 v28:=zeroValue165
 t33:=underlying143
 a33:=isAgg143
 z33:=sizeOf143
 v33:=zeroValue143}
def Q6I:Go.Shelf.Ren:=⟨fun|6=>74|8=>139|9=>140|11=>198|13=>196|12=>199|23=>228|24=>229|14=>230|15=>231|16=>232|17=>233|18=>234|19=>235|20=>236|21=>237|22=>238|25=>248|26=>244|27=>245|28=>249|29=>250|30=>197|31=>254|n=>n,fun|26=>3|28=>165|24=>38|0=>0|3=>3|37=>123|48=>57|50=>83|4=>4|40=>320|39=>319|45=>239|5=>5|9=>9|51=>334|55=>338|57=>343|58=>344|33=>143|n=>n,fun|n=>n⟩
theorem J1i:Go.Proofs.SlLaysZI.n6 prog Q6I:={
 mixed:=by kernel_rfl
 f6:=⟨f74.name,by decide,func74.trans (congrArg some (by kernel_rfl))⟩
 f8:=⟨f139.name,by decide,func139.trans (congrArg some (by kernel_rfl))⟩
 f11:=⟨f198.name,by decide,func198.trans (congrArg some (by kernel_rfl))⟩
 t0:=underlying0
 a0:=isAgg0
 z0:=sizeOf0
 v0:=zeroValue0
 t24:=underlying38
 a24:=isAgg38
 z24:=sizeOf38
 v24:=zeroValue38
 t26:=underlying3
 a26:=isAgg3
 z26:=sizeOf3
 v26:=zeroValue3
 t28:=underlying165
 a28:=isAgg165
 z28:=sizeOf165
 v28:=zeroValue165
 i26:=by kernel_rfl}
def Z7a:Go.Shelf.Ren:=⟨fun|5=>140|8=>196|7=>199|19=>228|20=>229|10=>230|11=>231|12=>232|13=>233|14=>234|15=>235|16=>236|17=>237|18=>238|30=>248|31=>244|32=>245|33=>249|34=>250|35=>197|40=>254|n=>n,fun|23=>38|25=>3|3=>3|32=>123|22=>38|0=>0|44=>57|46=>83|4=>4|36=>320|35=>319|41=>239|5=>5|9=>9|53=>334|57=>338|63=>343|64=>344|n=>n,fun|n=>n⟩
theorem J2b:Go.Proofs.SlLaysM.n5 prog Z7a:={
 mixed:=by kernel_rfl
 f5:=⟨f140.name,by decide,func140.trans (congrArg some (by kernel_rfl))⟩
 f7:=⟨f199.name,by decide,func199.trans (congrArg some (by kernel_rfl))⟩
 f8:=func196.trans (congrArg some (by kernel_rfl))
 f10:=⟨f230.name,by decide,func230.trans (congrArg some (by kernel_rfl))⟩
 f11:=⟨f231.name,by decide,func231.trans (congrArg some (by kernel_rfl))⟩
 f12:=⟨f232.name,by decide,func232.trans (congrArg some (by kernel_rfl))⟩
 f13:=⟨f233.name,by decide,func233.trans (congrArg some (by kernel_rfl))⟩
 f14:=⟨f234.name,by decide,func234.trans (congrArg some (by kernel_rfl))⟩
 f15:=⟨f235.name,by decide,func235.trans (congrArg some (by kernel_rfl))⟩
 f16:=⟨f236.name,by decide,func236.trans (congrArg some (by kernel_rfl))⟩
 f17:=⟨f237.name,by decide,func237.trans (congrArg some (by kernel_rfl))⟩
 f18:=⟨f238.name,by decide,func238.trans (congrArg some (by kernel_rfl))⟩
 f19:=func228.trans (congrArg some (by kernel_rfl))
 f20:=func229.trans (congrArg some (by kernel_rfl))
 f30:=⟨f248.name,by decide,func248.trans (congrArg some (by kernel_rfl))⟩
 f31:=func244.trans (congrArg some (by kernel_rfl))
 f32:=func245.trans (congrArg some (by kernel_rfl))
 f33:=⟨f249.name,by decide,func249.trans (congrArg some (by kernel_rfl))⟩
 f34:=⟨f250.name,by decide,func250.trans (congrArg some (by kernel_rfl))⟩
 f35:=⟨f197.name,by decide,func197.trans (congrArg some (by kernel_rfl))⟩
 f40:=⟨f254.name,by decide,func254.trans (congrArg some (by kernel_rfl))⟩
 t0:=underlying0
 a0:=isAgg0
 z0:=sizeOf0
 v0:=zeroValue0
 t3:=underlying3
 a3:=isAgg3
 z3:=sizeOf3
 v3:=zeroValue3
 t4:=underlying4
 a4:=isAgg4
 z4:=sizeOf4
 v4:=zeroValue4
 t5:=underlying5
 a5:=isAgg5
 z5:=sizeOf5
 v5:=zeroValue5
 t9:=underlying9
 a9:=isAgg9
 z9:=sizeOf9
 v9:=zeroValue9
 t22:=underlying38
 a22:=isAgg38
 z22:=sizeOf38
 v22:=zeroValue38
 t23:=underlying38
 a23:=isAgg38
 z23:=sizeOf38
 v23:=zeroValue38
 t25:=underlying3
 a25:=isAgg3
 z25:=sizeOf3
 v25:=zeroValue3
 t32:=underlying123
 a32:=isAgg123
 z32:=sizeOf123
 v32:=zeroValue123
 t35:=underlying319
 a35:=isAgg319
 z35:=sizeOf319
 v35:=zeroValue319
 t36:=underlying320
 a36:=isAgg320
 z36:=sizeOf320
 v36:=zeroValue320
 t41:=underlying239
 a41:=isAgg239
 z41:=sizeOf239
 v41:=zeroValue239
 t44:=underlying57
 a44:=isAgg57
 z44:=sizeOf57
 v44:=zeroValue57
 t46:=underlying83
 a46:=isAgg83
 z46:=sizeOf83
 v46:=zeroValue83
 t53:=underlying334
 a53:=isAgg334
 z53:=sizeOf334
 v53:=zeroValue334
 t57:=underlying338
 a57:=isAgg338
 z57:=sizeOf338
 v57:=zeroValue338
 t63:=underlying343
 a63:=isAgg343
 z63:=sizeOf343
 v63:=zeroValue343
 t64:=underlying344
 a64:=isAgg344
 z64:=sizeOf344
 v64:=zeroValue344}
end Go.Proofs.YtfidemmgofcnmaaGreatDoor
namespace Go.Proofs.YtfidemmgofcnmaaGreatDoor
open Go.RowKit Go.Maps Go.Sort Go.Shelf Go.Proofs.Tryz
abbrev idR:Value->Option (DataW Unit×List MemPlace):=fun _=>some (.nil,[])
theorem Z1e {w:World} {m:Nat} {kv:List (Int×Value)} (h:Q0z w m kv) {P:Program} {k:TypeId} (hk:P.underlying k=some (.int .i64)) (Bj:kv.length<=maxLen) (hid:∀p∈kv,(Lit.int .i64 p.1).wf=true) :
  ∃D:DataW Unit,w.ownsMap P k idR m kv.length D/\(intKeys D).Perm (kv.map (·.1))/\Maps.size D=kv.length:=by
 obtain⟨es,Af,hb,hs,hr⟩:=h;have Ae:es.size=kv.length:=by
  have:=congrArg List.length hr
  simpa using this
 have KN:∀p∈kv,keyOf P k (.int .i64 p.1)=some (.int .i64 p.1):=fun p hp=>keyOf_int_mk hk (hid p hp)
 have Az:∀x∈es.toList,∃p∈kv,x.key=.int .i64 p.1:=by
  intro x hx;have hm:(x.key,x.val)∈kv.map (fun p=>(Value.int .i64 p.1,p.2)):=by
   rw [<- hr];exact J2E.2 ⟨x,hx,rfl⟩
  obtain⟨p,hp,he⟩:=J2E.1 hm;exact⟨p,hp,((Prod.mk.injEq _ _ _ _).mp he).1.symm⟩
 have hF:WideElems.Fit P k idR es Af:=by
  refine⟨by omega,hs,fun x hx=>?_⟩;obtain⟨p,hp,he⟩:=Az x hx;exact⟨(.int .i64 p.1,.nil),by simp [WideElems.rd,he,KN p hp]⟩
 have RN:es.toList.map (WideElems.rg P k idR)=kv.map fun (p:Int×Value)=>(Lit.int .i64 p.1,(DataW.nil:DataW Unit)):=by
  have e1:es.toList.map (WideElems.rg P k idR)=(es.toList.map fun (e:MapEntry)=>(e.key,e.val)).map fun (z:Value×Value)=>((keyOf P k z.1).map fun (key:Lit)=>(key,(DataW.nil:DataW Unit))).getD (.bool false,.nil):=by
   rw [J4I];refine J4J fun x _=>?_
   cases hkx:keyOf P k x.key <;> simp [WideElems.rg,WideElems.rd,hkx]
  rw [e1,hr,J4I];refine J4J fun p hp=>?_
  simp [KN p hp]
 refine⟨_,⟨es,Af,hb,hF,by omega,rfl⟩,?_,?_⟩
 ·show (List.map (fun (p:Lit×DataW Unit)=>Go.intOf p.1) _).Perm _;refine ((WideShapes.sorted_perm _).map _).trans ?_;rw [RN,J4I];exact List.Perm.of_eq rfl
 ·show (List.foldr DataW.insert [] _).length=_;rw [length_sorted,RN];simp
theorem J2c (m:Nat):AnyZI.SortsIn prog Q6I Fence.wide m:=
 ⟨fun blk off cap ss W hH hblk Bj=>callsIn_wide.2 (AnyM.slices_Sort_int J2b blk off cap ss W hH hblk Bj),
  fun p cap W=>callsIn_wide.2 (AnyM.slices_Sort_int_none J2b p cap W)⟩
def IdsQ (w:World) (q:QT) (e:Ending) (w':World):Prop:=
 ∃v,e=.returned v/\w'.ownsRow w.heap.size 3 1 v q.E.length (((q.E.map (·.id)).mergeSort leI).map encZ)/\Below w.heap.size w w'
theorem Z9t {w:World} {q:QT} (h:Sep w q.hl) (Bj:q.E.length<=1000) (hid:∀e∈q.E,0<=e.id/\e.id<1048576) :
  Calls prog 18 #[ptr q.t] w (IdsQ w q):=by
 have hl:(kvs q.E).length=q.E.length:=by simp [kvs]
 obtain⟨D,Ah,B0,hD⟩:=Z1e (QT.map h) (k:=3) underlying3 (by rw [hl];unfold maxLen;omega) (by
  intro p hp;obtain⟨e,he,rfl⟩:=J2E.1 hp;have:=hid e he;have h1:IntKind.i64.min = -9223372036854775808:=rfl;have h2:IntKind.i64.max=9223372036854775807:=rfl;simp only [Lit.wf,J2U,decide_eq_true_eq,h1,h2];omega)
 have Gt:(intKeys D).Perm (q.E.map (·.id)):=by
  unfold kvs at B0;rw [J4I] at B0;exact B0
 have c0:=QT.c0 h;have EZ:=Ah.lt;have M1:SeqGives Fence.wide 2 prog 141 #[.pointer (some ⟨w.heap.size,0,none⟩)] encZ (fun ss=>ss.Perm (intKeys D)) (Maps.size D) (w.alloc (.cells #[.map (some q.m)] 148)):=
  AnyZI.keys_gives (ρ:=Q9Y) {J2a with} Fence.wide _ trivial rfl (by omega) w.heap.size q.m (kvs q.E).length D _ (by simp) (by simp) (by
   obtain⟨es,Af,hb,Ft,hs,hD⟩:=Ah;exact⟨es,Af,(Below.heap_alloc _ _ q.m EZ).trans hb,Ft,hs,hD⟩)
 have cK:∀mb W,Calls prog 75 #[.map mb] W fun e w'=>e=.returned (.func (.func 141) #[] #[.pointer (some ⟨W.heap.size,0,none⟩)])/\w'=W.alloc (.cells #[.map mb] 148):=fun mb W=>(callsIn_wide (n:=5)).1 (AnyZI.keys_in J2a Fence.wide 5 trivial rfl mb W)
 have cS:=AnyZI.sorted_in J1i Fence.wide 5 trivial trivial trivial trivial rfl (by omega) (J2c _) (enters_of func140 (by kernel_rfl) rfl) 141 #[.pointer (some ⟨w.heap.size,0,none⟩)] trivial (enters_of func141 (by kernel_rfl) rfl) _ _ (by rw [hD,hl];unfold maxLen;omega) (by rw [hD,hl];omega) _ M1
 change CallsIn _ _ prog 74 _ _ _ at cS
 have cS:=callsIn_wide.1 cS;have AK:∀e w',(∃(v:Value) (ss:List Int),e=.returned v/\ss.Perm (intKeys D) /\
   w'.ownsRow (w.alloc (.cells #[.map (some q.m)] 148)).heap.size 3 1 v ss.length ((ss.mergeSort (fun x y=>decide (x<=y))).map encZ)/\(v=.slice none 0 0↔ss=[])/\Below (w.alloc (.cells #[.map (some q.m)] 148)).heap.size (w.alloc (.cells #[.map (some q.m)] 148)) w')->IdsQ w q e w':=by
  rintro e w' ⟨v,ss,rfl,hS,Ax,_,hb⟩;have hp:=hS.trans Gt;rw [mergeSort_of_perm_i hp,show ss.length=q.E.length by simpa using hp.length_eq] at Ax;exact⟨v,rfl,ownsRow_base_a Ax (by simp),((Below.refl _ w).alloc (J2y _) _).trans (hb.mono (by simp))⟩
 have HF:=Q0a AK;generalize hQ:IdsQ w q=Q at *
 clear h hid Ah B0 Gt M1 hD AK hQ hl Bj;unfold ptr at *
 go_enter func18,ntmps18;go_wp2_with (first
  | (go_at_call 75;refine (cK _ _).mono ?_;rintro e w' ⟨rfl,rfl⟩)
  | (go_at_call 74;refine cS.mono ?_;intro e w' Ai;have HR:=Q0a Ai;obtain⟨v,ss,rfl,hS,Ax,BK,hb⟩:=Ai;clear hS Ax BK hb))
 exact HF.out _ _ HR.out
end Go.Proofs.YtfidemmgofcnmaaGreatDoor
namespace Go.Proofs.YtfidemmgofcnmaaGreatDoor
open Go.RowKit Go.Proofs.Tryz
structure FlS (H:HL) (LV:List Nat) (va:Option Addr) (ids:List Int) (ia:Option Addr) (F:List (Nat×Nat)) (fa:Option Addr) (w wr:World):Prop where
 st:Step [] H w wr
 va:Aside H LV va wr
 ia:AsideV H (ids.map encZ) ia wr
 fa:AsideB H F fa wr
theorem FlS.step {H H':HL} {LV:List Nat} {va:Option Addr} {ids:List Int} {ia:Option Addr} {F:List (Nat×Nat)} {fa:Option Addr} {w wr w':World} (h:FlS H LV va ids ia F fa w wr) (st:Step H H' wr w'):FlS H' LV va ids ia F fa w w':=
 ⟨h.st.trans st,h.va.step st,h.ia.step st,h.fa.step st⟩
theorem FlS.grown {H:HL} {LV:List Nat} {va:Option Addr} {ids:List Int} {ia:Option Addr} {F:List (Nat×Nat)} {fa:Option Addr} {w wr w':World} (h:FlS H LV va ids ia F fa w wr) (hb:Below wr.heap.size wr w'):FlS H LV va ids ia F fa w w':=h.step (h.st.sep.grown hb)
theorem Z2j {S:CO} {fr:List Nat} {N K:Nat} (ok:S.Ok fr N K):S.P.q.E.length<=256:=by
 have h:=ok.inv.tre.ids.length_eq;rw [J4j] at h;have h2:(Q7g S.l).length<=S.l.length:=J2M _ _;rw [ok.inv.len] at h2;omega
def Q2V (E:List (En Fa)):List Int:=(E.map (·.id)).mergeSort leI
theorem Q6J (E:List (En Fa)):(Q2V E).length=E.length:=by unfold Q2V;rw [List.length_mergeSort,J4j]
theorem J2d {S:CO} {fr:List Nat} {N K:Nat} {H:HL} {wr:World} (hs:Sep wr H) (h:Sep wr S.hl) (ok:S.Ok fr N K):Calls prog 18 #[.pointer (some ⟨S.P.q.t,0,none⟩)] wr fun r w'=>∃(a:Option Addr) (cap:Nat),r=.returned (.slice a (Q2V S.P.q.E).length cap)/\Below wr.heap.size wr w'/\AsideV H ((Q2V S.P.q.E).map encZ) a w':=by
 have hq:=ok.inv.mem.pool.q;refine (Z9t (PL.sQ (CO.sP h)) (by have:=Z2j ok;omega) (fun e he=>?_)).mono ?_
 ·have hf:=Q1z hq.ids he;have:=hq.fa _ _ hf;have:=hq.next1;omega
 ·rintro r w' ⟨v,rfl,Ax,hb⟩;obtain⟨a,cap,rfl,ha⟩:=Q5d hs Ax;rw [Q6J];exact⟨a,cap,rfl,hb,ha⟩
end Go.Proofs.YtfidemmgofcnmaaGreatDoor
namespace Go.Proofs.YtfidemmgofcnmaaGreatDoor
open Go.RowKit Go.Shelf Go.Proofs.Tryz
def obL (l:List Pl):List Nat:=allL l 1++allL l 2
def obP (l:List Pl) (x:Nat):Pl:=l[x%256]?.getD (noPl 0)
theorem Z7b {l:List Pl} {x:Nat} {p:Pl} (h:l[x%256]?=some p):obP l x=p:=by unfold obP;rw [h];rfl
theorem Z7c {l:List Pl} (hl:l.length<=256) (s:Nat):∀k,k<=l.length->(Q3O l s k).map (obP l)=(l.take k).filter fun p=>decide (p.st=s):=by
 intro k
 induction k with
 | zero=>intro _;simp [Z2m]
 | succ k ih =>
  intro hk;have hg:l[k]?=some l[k]:=J4R (by omega);rw [Q3s hg,J4w,hg,J6d,ih (by omega),J4x];congr 1;by_cases h:l[k].st=s
  ·rw [if_pos h,List.map_singleton,Z7b (by rw [Q1m (by omega)];exact hg)];simp [h]
  ·rw [if_neg h];simp [h]
theorem Z9u {l:List Pl} (hl:l.length<=256) (s:Nat):(allL l s).map (obP l)=l.filter fun p=>decide (p.st=s):=by
 unfold allL;rw [Z7c hl s l.length (J2y _),J6J]
theorem Z7d (f:Pl->Int) (h:∀p:Pl,p.is=false->f p=0):∀l:List Pl,((l.filter fun p=>decide (p.st=1)).map f).sum+((l.filter fun p=>decide (p.st=2)).map f).sum=(l.map f).sum
 | []=>rfl
 | p::r=>by
  have ih:=Z7d f h r;rw [J2B,J6m];by_cases h1:p.st=1
  ·rw [J4M (by simpa using h1),J4N (by simp [h1]),J2B,J6m];omega
  ·by_cases h2:p.st=2
   ·rw [J4N (by simpa using h1),J4M (by simpa using h2),J2B,J6m];omega
   ·rw [J4N (by simpa using h1),J4N (by simpa using h2),h p (by
     cases hi:p.is with
     | false=>rfl
     | true=>rcases Pl.is_iff.1 hi with e|e <;> omega)]
    omega
theorem J2e {l:List Pl} (hl:l.length<=256) (a:Int):((obL l).map fun x=>Q1M a (obP l x)).sum=Q0v l a:=by
 unfold obL Q0v;have e:∀s,((allL l s).map fun x=>Q1M a (obP l x))=((l.filter fun p=>decide (p.st=s)).map (Q1M a)):=fun s=>by
  rw [<- Z9u hl s,J4I];rfl
 rw [J6d,J6o,e 1,e 2];exact Z7d (Q1M a) (fun p hp=>by unfold Q1M;rw [hp];rfl) l
theorem Z9v {l:List Pl} (hl:l.length<=256) {x:Nat} (hx:x∈obL l):∃p,l[x%256]?=some p/\p.is=true/\obP l x=p/\(pget l 1 x=some p∨pget l 2 x=some p):=by
 rcases J3o.1 hx with h|h
 ·obtain⟨p,hp⟩:=(Q2H hl).1 h;obtain⟨a1,_,a3⟩:=pget_some.1 hp;exact⟨p,a1,Pl.is_iff.2 (.inl a3),Z7b a1,.inl hp⟩
 ·obtain⟨p,hp⟩:=(Q2H hl).1 h;obtain⟨a1,_,a3⟩:=pget_some.1 hp;exact⟨p,a1,Pl.is_iff.2 (.inr a3),Z7b a1,.inr hp⟩
theorem J1j {l:List Pl} (hl:l.length<=256):(obL l).length<=512:=by
 unfold obL;rw [J3j];have h1:=Q1i l 1 l.length;have h2:=Q1i l 2 l.length;unfold allL;omega
def parOf (E:List (En Fa)) (id:Int):Int:=match find E id with
 | some e=>e.q.parent
 | none=>-1
def limOf (E:List (En Fa)) (id:Int):Int:=match find E id with
 | some e=>e.q.limit
 | none=>0
def givI (E:List (En Fa)) (a id:Int):Int:=if parOf E id=a then limOf E id else 0
theorem J1k {E:List (En Fa)} (Ac:E.Pairwise (fun a b=>a.id≠b.id)) (a:Int):((Q2V E).map (givI E a)).sum=Q1v E a:=by
 have hp:(Q2V E).Perm (E.map (·.id)):=List.mergeSort_perm _ _;have h1:((Q2V E).map (givI E a)).sum=((E.map (·.id)).map (givI E a)).sum:=Q7V _ hp;rw [h1,J4I];unfold Q1v;congr 1;refine J4J fun e he=>?_
 have hf:=Q1z Ac he;simp only [Function.comp,givI,parOf,limOf,hf,givF]
theorem Z7e {E:List (En Fa)} (Ac:E.Pairwise (fun a b=>a.id≠b.id)) {id:Int} (h:id∈Q2V E):∃e,find E id=some e:=by
 have hp:(Q2V E).Perm (E.map (·.id)):=List.mergeSort_perm _ _;obtain⟨e,he,rfl⟩:=J2E.1 (hp.mem_iff.1 h);exact⟨e,Q1z Ac he⟩
theorem Q6K {l:List Int} (h:∀x∈l,0<=x) (k:Nat):0<=(l.take k).sum/\(l.take k).sum<=l.sum:=by
 have e:l.sum=(l.take k).sum+(l.drop k).sum:=by rw [<- J6o,J3z]
 have nn:∀m:List Int,(∀x∈m,0<=x)->0<=m.sum:=by
  intro m
  induction m with
  | nil=>simp
  | cons x r ih =>
   intro hm;rw [J6m];have:=hm x (by simp);have:=ih fun y hy=>hm y (by simp [hy])
   omega
 have h1:=nn (l.take k) fun x hx=>h x (J5V hx)
 have h2:=nn (l.drop k) fun x hx=>h x (J5d hx)
 omega
theorem Q8p {l:List Int} {k:Nat} {x:Int} (h:l[k]?=some x):(l.take (k+1)).sum=(l.take k).sum+x:=by
 rw [J4w,h,J6o];simp
end Go.Proofs.YtfidemmgofcnmaaGreatDoor

/- SpaceFails returns true at every input. No condition. Part of its proof. -/
import Derived.Test.YtfidemmgofcnmaaGreatDoorSf29
import Derived.Shelf.SlSortCmp.WholeK
import Derived.Shelf.SlGeneric
import Derived.Ground.SlsfProg
import Derived.Test.YtfidemmgofcnmaaGreatDoorProg
import Derived.Shelf.SlSortCmp.NoneTotal
import Derived.Shelf.SlIterI.Nil
import Derived.Shelf.SortM.Plain
import Derived.Shelf.SortM.SortNone
import Derived.Ground.GgzProg
import Derived.Ground.SlgmProg
set_option maxHeartbeats 8000000
set_option maxRecDepth 100000
set_option linter.unusedVariables false
namespace Go.Proofs.YtfidemmgofcnmaaGreatDoor
open Go.RowKit Go.Proofs.Tryz
theorem Z7B(f:Nat->Bool)(i:It)(v:Wi)(h:Q3B i v=true):(movV f i v (2 ^ i.order.toNat)).length<=128:=by
 unfold Q3B Q6T at h;simp only[J3x,decide_eq_true_eq] at h;obtain⟨_,_,_,_,q5⟩:=Q1A h.1.1;exact J3c (Q8D _ _ _ _) q5
theorem Z4t(H:HL)(w:World):AsideM H 0 (fun _=>noMv) none w:=⟨fun j hj=>by omega,fun a h _=>absurd rfl h⟩
theorem Z4u{w:World}{Z:SP}{fr:List Nat}{N K:Nat}{M:Int}(hs:Sep w Z.hl)(ok:Z.Ok fr N K M)(hM:M+300<1099511627776){x y:Nat}(hx:x<4294967296)(hy:y<4294967296)(i:It)(v:Wi)(hi:i.Wf)(hv:v.Wf) :
  Calls prog 38 #[.pointer (some ⟨Z.s,0,none⟩),.int .u32 x,.agg #[.int .i64 i.base,.int .i64 i.order,.int .i64 i.r,.int .i64 i.off,.bool i.g],.agg #[.int .i64 v.base,.int .i64 v.order]] w fun r w1=>∃(a:Option Addr) (n cap:Nat) (er:Int),r=.returned (.tuple #[.slice a n cap,.int .i64 er])/\Below w.heap.size w w1 /\
   Calls prog 39 #[.pointer (some ⟨Z.s,0,none⟩),.int .u32 x,.int .u32 y,.slice a n cap] w1 fun r w'=>(∃er:Int,r=.returned (.int .i64 er))/\GoesZ Z N K (M+256) w w':=by
 refine(Z4s hs ok hx i v hi hv).mono ?_;rintro r w1⟨hb,⟨er,_,rfl,_⟩|⟨p,a,cap,L,_,_,ha,_,hL,rfl,A4,hm⟩⟩
 ·refine⟨none,0,0,er,rfl,hb,?_⟩;refine(Q2P (hs.grown hb).sep ok (by omega) hx hy (by omega) (J3b 0) (Z4t _ _)).mono ?_;rintro r w'⟨er,rfl,hr⟩;exact⟨⟨er,rfl⟩,GoesZ.at hs hb ((hr.goes ok).mono (J3b _) (J3b _) (by omega))⟩
 ·have hl:L.length<=128:=by rw[hL];exact Z7B _ _ _ ha
  refine⟨a,L.length,cap,0,rfl,hb,?_⟩;refine(Q2P (hs.grown hb).sep ok (by omega) hx hy (by omega) A4 hm).mono ?_;rintro r w'⟨er,rfl,hr⟩;exact⟨⟨er,rfl⟩,GoesZ.at hs hb ((hr.goes ok).mono (J3b _) (J3b _) (by omega))⟩
theorem Z4v{w:World}{Z:SP}{fr:List Nat}{N K:Nat}{M:Int}(hs:Sep w Z.hl)(ok:Z.Ok fr N K M)(hN:N+1<1048576)(hK:K<1048575)(hM:M+300<1099511627776)(x:A17)(hx:x.Wf)(hll:x.ll<=20)(B5:AsideM Z.hl x.ll x.L x.la w) :
  Calls prog 85 #[.pointer (some ⟨Z.s,0,none⟩),.agg #[.int .i64 x.kind,.int .i64 x.n,.int .i64 x.k,.int .i64 x.m,.int .i64 x.t,.int .i64 x.u,.int .i64 x.s,.int .i64 x.r,.bool x.self,.slice x.la x.ll x.lc,.int .i64 x.i.base,.int .i64 x.i.order,.int .i64 x.i.r,.int .i64 x.i.off,.bool x.i.g,.int .i64 x.w.base,.int .i64 x.w.order]] w fun r w'=>r=.returned (.tuple #[])/\GoesZ Z (N+1) (K+1) (M+256) w w':=by
 have AG:=ok.core.inv.lok;have Fe:Hid (∀W,Below w.heap.size w W->∀k n:Int,I64 n->Calls prog 35 #[.pointer (some ⟨Z.s,0,none⟩),.int .i64 k,.int .i64 n] W (Told W (.int .u32 ((nthV Z.S.l k n:Nat):Int)))):=fun W hb k n hn=>Z7s (hs.grown hb).sep ok k n hn
 have Bq:Hid (∀W,Below w.heap.size w W->Calls prog 26 #[.pointer (some ⟨Z.s,0,none⟩)] W fun r w'=>r=.returned (.pointer (some ⟨Z.S.c,0,none⟩))/\W=w'):=fun W hb=>Q1T (hs.grown hb).sep
 have Do:Hid (∀k n,nthV Z.S.l k n<4294967296):=fun k n=>Z7r AG k n
 have H0:Hid (∀W,Below w.heap.size w W->∀y:Nat,y<4294967296->∀k lim:Int,Calls prog 79 #[.pointer (some ⟨Z.S.c,0,none⟩),.int .u32 y,.int .i64 k,.int .i64 lim] W fun r w'=>(∃(a:Nat) (er:Int),r=two a er)/\(∀b,w.heap.size<=b->b<W.heap.size->w'.heap[b]?=W.heap[b]?)/\GoesZ Z (N+1) (K+1) (M+256) w w'):=fun W hb y hy k lim =>
  (Q6O (SP.sS (hs.grown hb).sep) ok.core hN hy k lim).mono fun r w' hr=>by
   obtain⟨h1,h2⟩:=hr.goesZ (hs.grown hb).sep ok;refine⟨h1,?_,GoesZ.at hs hb (h2.mono (J3b _) (by omega) (by omega))⟩;obtain⟨Z',fr',_,_,c⟩:=h2;exact c.keep hs (J3b _)
 have H1:Hid (∀W,Below w.heap.size w W->∀y h:Nat,y<4294967296->h<4294967296->∀z rr:Int,Calls prog 41 #[.pointer (some ⟨Z.s,0,none⟩),.int .u32 y,.int .i64 z,.agg #[.int .u32 h,.int .i64 rr]] W fun r w'=>(∃er:Int,r=.returned (.int .i64 er))/\GoesZ Z (N+1) (K+1) (M+256) w w'):=fun W hb y h hy hh z rr =>
  (Q6J (hs.grown hb).sep ok (by omega) hy hh z rr).mono fun r w' ⟨er,e,hr⟩=>⟨⟨er,e⟩,GoesZ.at hs hb ((hr.goes (hs.grown hb).sep ok).mono (by omega) (by omega) (by omega))⟩
 have H2:Hid (∀W,Below w.heap.size w W->∀y h:Nat,y<4294967296->h<4294967296->Calls prog 39 #[.pointer (some ⟨Z.s,0,none⟩),.int .u32 y,.int .u32 h,.slice x.la x.ll x.lc] W fun r w'=>(∃er:Int,r=.returned (.int .i64 er))/\GoesZ Z (N+1) (K+1) (M+256) w w'):=fun W hb y h hy hh =>
  (Q2P (hs.grown hb).sep ok (by omega) hy hh (by omega) hx.len.1 (B5.step (hs.grown hb))).mono fun r w' ⟨er,e,hr⟩=>⟨⟨er,e⟩,GoesZ.at hs hb ((hr.goes ok).mono (by omega) (by omega) (by omega))⟩
 have H3:Hid (∀W,Below w.heap.size w W->∀y h:Nat,y<4294967296->h<4294967296->Calls prog 38 #[.pointer (some ⟨Z.s,0,none⟩),.int .u32 y,.agg #[.int .i64 x.i.base,.int .i64 x.i.order,.int .i64 x.i.r,.int .i64 x.i.off,.bool x.i.g],.agg #[.int .i64 x.w.base,.int .i64 x.w.order]] W fun r w1=>∃(a:Option Addr) (n cap:Nat) (er:Int),r=.returned (.tuple #[.slice a n cap,.int .i64 er]) /\
   Calls prog 39 #[.pointer (some ⟨Z.s,0,none⟩),.int .u32 y,.int .u32 h,.slice a n cap] w1 fun r w'=>(∃er:Int,r=.returned (.int .i64 er))/\GoesZ Z (N+1) (K+1) (M+256) w w'):=fun W hb y h hy hh =>
  (Z4u (hs.grown hb).sep ok hM hy hh x.i x.w hx.i hx.w).mono fun r w1 ⟨a,n,cap,er,e,_,hk⟩=>⟨a,n,cap,er,e,hk.mono fun r w' ⟨h1,h2⟩=>⟨h1,GoesZ.at hs hb (h2.mono (by omega) (by omega) (by omega))⟩⟩
 have H4:Hid (∀W,Below w.heap.size w W->∀y:Nat,y<4294967296->∀(z m:Int) (b:Bool),Calls prog 81 #[.pointer (some ⟨Z.s,0,none⟩),.int .u32 y,.int .i64 z,.int .i64 m,.bool b] W fun r w'=>(∃a b:Value,r=.returned (.tuple #[a,b]))/\GoesZ Z (N+1) (K+1) (M+256) w w'):=fun W hb y hy z m b =>
  (Q6I (hs.grown hb).sep ok hy z m b).mono fun r w' hr=>⟨(hr.goes (hs.grown hb).sep ok).1,GoesZ.at hs hb ((hr.goes (hs.grown hb).sep ok).2.mono (by omega) (by omega) (by omega))⟩
 have H5:Hid (∀W,Below w.heap.size w W->∀h:Nat,Calls prog 164 #[.pointer (some ⟨Z.s,0,none⟩),.int .u32 h] W fun r w'=>(∃n:Int,r=.returned (.int .i64 n))/\GoesZ Z (N+1) (K+1) (M+256) w w'):=fun W hb h =>
  (Q7S (hs.grown hb).sep ok h).mono fun r w' ⟨e,Z',a,_,b,c⟩=>⟨⟨_,e⟩,GoesZ.at hs hb ((GoesZ.same a b c).mono (by omega) (by omega) (by omega))⟩
 have H6:Hid (∀W,Below w.heap.size w W->∀y:Nat,y<4294967296->Calls prog 163 #[.pointer (some ⟨Z.s,0,none⟩),.int .u32 y] W fun r w'=>(∃n:Int,r=.returned (.int .i64 n))/\GoesZ Z (N+1) (K+1) (M+256) w w'):=fun W hb y hy =>
  (Q9Y (hs.grown hb).sep ok hy).mono fun r w' ⟨e,Z',a,_,b,c⟩=>⟨⟨_,e⟩,GoesZ.at hs hb ((GoesZ.same a b c).mono (by omega) (by omega) (by omega))⟩
 have H7:Hid (∀W,Below w.heap.size w W->∀y:Nat,y<4294967296->Calls prog 84 #[.pointer (some ⟨Z.s,0,none⟩),.int .u32 y] W fun r w'=>(∃a b:Value,r=.returned (.tuple #[a,b]))/\GoesZ Z (N+1) (K+1) (M+256) w w'):=fun W hb y hy =>
  (Z0e (hs.grown hb).sep ok (by omega) hy).mono fun r w' hr=>⟨(hr.goes (hs.grown hb).sep ok).1,GoesZ.at hs hb ((hr.goes (hs.grown hb).sep ok).2.mono (by omega) (by omega) (by omega))⟩
 have H8:Hid (∀W,Below w.heap.size w W->Calls prog 166 #[.pointer (some ⟨Z.S.c,0,none⟩)] W fun r w'=>(∃a:Value,r=.returned a)/\GoesZ Z (N+1) (K+1) (M+256) w w'):=fun W hb =>
  (Z7m (SP.sS (hs.grown hb).sep) ok.core hK).mono fun r w' hr=>⟨(hr.goesZ (hs.grown hb).sep ok).1,GoesZ.at hs hb ((hr.goesZ (hs.grown hb).sep ok).2.mono (by omega) (by omega) (by omega))⟩
 have H9:Hid (∀W,Below w.heap.size w W->∀y h:Nat,y<4294967296->h<4294967296->∀z k lim:Int,Calls prog 40 #[.pointer (some ⟨Z.s,0,none⟩),.int .u32 y,.int .i64 z,.int .u32 h,.int .i64 k,.int .i64 lim] W fun r w'=>(∃(a:Nat) (er:Int),r=two a er)/\GoesZ Z (N+1) (K+1) (M+256) w w'):=fun W hb y h hy hh z k lim =>
  (Q9W (hs.grown hb).sep ok hN (by omega) hy hh z k lim).mono fun r w' ⟨a,er,e,hr⟩=>⟨⟨a,er,e⟩,GoesZ.at hs hb ((hr.goes ok).mono (by omega) (by omega) (by omega))⟩
 have ES:Hid (∀W,Below w.heap.size w W->GoesZ Z (N+1) (K+1) (M+256) w W):=fun W hb=>(GoesZ.of hs ok hb).mono (by omega) (by omega) (by omega)
 obtain⟨hn,hk,hm,ht,hu,E7,Kd,-,-,-⟩:=hx;obtain⟨kind,n,k,m,t,u,s,rr,self,la,ll,lc,L,i,v⟩:=x;obtain⟨ib,io,ir,iff,ig⟩:=i;obtain⟨vb,vo⟩:=v;dsimp only at *
 have HC:Hid (∀W,Below (w.alloc (.cells #[.int .i64 kind,.int .i64 n,.int .i64 k,.int .i64 m,.int .i64 t,.int .i64 u,.int .i64 s,.int .i64 rr,.bool self,.slice la ll lc,.int .i64 ib,.int .i64 io,.int .i64 ir,.int .i64 iff,.bool ig,.int .i64 vb,.int .i64 vo] 67)).heap.size (w.alloc (.cells #[.int .i64 kind,.int .i64 n,.int .i64 k,.int .i64 m,.int .i64 t,.int .i64 u,.int .i64 s,.int .i64 rr,.bool self,.slice la ll lc,.int .i64 ib,.int .i64 io,.int .i64 ir,.int .i64 iff,.bool ig,.int .i64 vb,.int .i64 vo] 67)) W->Below w.heap.size w W/\Cells W w.heap.size 67 [.int .i64 kind,.int .i64 n,.int .i64 k,.int .i64 m,.int .i64 t,.int .i64 u,.int .i64 s,.int .i64 rr,.bool self,.slice la ll lc,.int .i64 ib,.int .i64 io,.int .i64 ir,.int .i64 iff,.bool ig,.int .i64 vb,.int .i64 vo]):=fun W hb =>
  ⟨Q0e hb,(Cells.new w 67 [.int .i64 kind,.int .i64 n,.int .i64 k,.int .i64 m,.int .i64 t,.int .i64 u,.int .i64 s,.int .i64 rr,.bool self,.slice la ll lc,.int .i64 ib,.int .i64 io,.int .i64 ir,.int .i64 iff,.bool ig,.int .i64 vb,.int .i64 vo]).same (hb.block _ (by simp))⟩
 generalize hW1:(w.alloc (.cells #[.int .i64 kind,.int .i64 n,.int .i64 k,.int .i64 m,.int .i64 t,.int .i64 u,.int .i64 s,.int .i64 rr,.bool self,.slice la ll lc,.int .i64 ib,.int .i64 io,.int .i64 ir,.int .i64 iff,.bool ig,.int .i64 vb,.int .i64 vo] 67))=W1 at *
 have HI:Hid (I64 t/\I64 u/\I64 n):=⟨ht,hu,hn⟩
 clear hs ok hN hK hM hll B5 AG ht hu hn hk hm E7 Kd;go_enter func85,ntmps85;go_upto_region 1 with fail
 try rw[hW1]
 clear hW1
 go_cut [4,5,6] from 9 to 20 (fun a b c wc=>a=.int .u32 ((nthV Z.S.l 2 t:Nat):Int)/\b=.int .u32 ((nthV Z.S.l 2 u:Nat):Int)/\c=.int .u32 ((nthV Z.S.l 0 n:Nat):Int)/\Below W1.heap.size W1 wc)
 case first =>
  clear H0 H1 H2 H3 H4 H5 H6 H7 H8 H9 ES Bq Do;have BQ:Hid (Below W1.heap.size W1 W1.drew):=(Below.refl _ _).drew;have E9:Hid (Below W1.heap.size W1 W1):=Below.refl _ _;have Dq:Hid (∀W,Below W1.heap.size W1 W->W.cell? ⟨w.heap.size,4,none⟩=some (.int .i64 t)/\W.cell? ⟨w.heap.size,5,none⟩=some (.int .i64 u)/\W.cell? ⟨w.heap.size,1,none⟩=some (.int .i64 n)):=fun W hb=>⟨(HC.out W hb).2.cell 4 _ rfl,(HC.out W hb).2.cell 5 _ rfl,(HC.out W hb).2.cell 1 _ rfl⟩
  have Qm:Hid (∀W,Below W1.heap.size W1 W->∀k n:Int,I64 n->Calls prog 35 #[.pointer (some ⟨Z.s,0,none⟩),.int .i64 k,.int .i64 n] W (Told W (.int .u32 ((nthV Z.S.l k n:Nat):Int)))):=fun W hb=>Fe.out W (HC.out W hb).1
  clear HC Fe
  go_region_held3 (fun W=>W.cell? ⟨w.heap.size,4,none⟩=some (.int .i64 t)/\W.cell? ⟨w.heap.size,5,none⟩=some (.int .i64 u)/\W.cell? ⟨w.heap.size,1,none⟩=some (.int .i64 n))
   (first|exact Dq.out _ BQ.out|exact Dq.out _ E9.out)
   (first|(go_at_call 35;refine(Qm.out _ BQ.out _ _ (by first|exact HI.out.1|exact HI.out.2.1|exact HI.out.2.2)).mono ?_;rintro rv w'⟨rfl,hb⟩;have BQ:=Q0a (BQ.out.trans (hb.mono BQ.out.size));clear hb))
  all_goals (go_wp2_with fail;go_meet;exact⟨rfl,rfl,rfl,BQ.out⟩)
 obtain⟨rfl,rfl,rfl,hb⟩:=hcut;obtain⟨CP,A7⟩:=HC.out wc hb;have hT:=Do.out 2 t;have hU:=Do.out 2 u;have hH:=Do.out 0 n;generalize nthV Z.S.l 2 t=T at *
 generalize nthV Z.S.l 2 u=U at *
 generalize nthV Z.S.l 0 n=H at *
 have c0:=A7.cell 0 _ rfl;have HB:=Q0a hb;have Ce:=Q0a CP;clear hb CP;by_cases e0:kind=0
 ·subst e0;have hF:=Do.out 1 n;have Vx:Hid (∀V,Below wc.heap.size wc V->Calls prog 79 #[.pointer (some ⟨Z.S.c,0,none⟩),.int .u32 ((nthV Z.S.l 1 n:Nat):Int),.int .i64 k,.int .i64 m] V fun r w'=>(∃(a:Nat) (er:Int),r=two a er)/\(∀b,w.heap.size<=b->b<V.heap.size->w'.heap[b]?=V.heap[b]?)/\GoesZ Z (N+1) (K+1) (M+256) w w'):=fun V hb=>H0.out V (Ce.out.trans (hb.mono Ce.out.size)) _ hF k m
  have Qm:Hid (∀V,Below wc.heap.size wc V->Calls prog 35 #[.pointer (some ⟨Z.s,0,none⟩),.int .i64 1,.int .i64 n] V (Told V (.int .u32 ((nthV Z.S.l 1 n:Nat):Int)))):=fun V hb=>Fe.out V (Ce.out.trans (hb.mono Ce.out.size)) 1 n HI.out.2.2
  have U7:Hid (∀V,Below wc.heap.size wc V->Calls prog 26 #[.pointer (some ⟨Z.s,0,none⟩)] V fun r w'=>r=.returned (.pointer (some ⟨Z.S.c,0,none⟩))/\V=w'):=fun V hb=>Bq.out V (Ce.out.trans (hb.mono Ce.out.size))
  have Dq:Hid (∀V,Below wc.heap.size wc V->V.cell? ⟨w.heap.size,1,none⟩=some (.int .i64 n)/\V.cell? ⟨w.heap.size,2,none⟩=some (.int .i64 k)/\V.cell? ⟨w.heap.size,3,none⟩=some (.int .i64 m)):=fun V hb=>by
   have h:=(HC.out V (HB.out.trans (hb.mono HB.out.size))).2;exact⟨h.cell 1 _ rfl,h.cell 2 _ rfl,h.cell 3 _ rfl⟩
  generalize nthV Z.S.l 1 n=FF at *
  have BQ:Hid (Below wc.heap.size wc wc.drew):=(Below.refl _ _).drew;have E9:Hid (Below wc.heap.size wc wc):=Below.refl _ _;have KK:Hid (∀V,Below wc.heap.size wc V->w.heap.size<V.heap.size):=fun V hb=>J3d A7.lt hb.size
  clear H0 H1 H2 H3 H4 H5 H6 H7 H8 H9 ES Bq Do HC A7 Fe;go_upto_region 4 with fail
  go_region_held3 (fun W=>W.cell? ⟨w.heap.size,1,none⟩=some (.int .i64 n)/\W.cell? ⟨w.heap.size,2,none⟩=some (.int .i64 k)/\W.cell? ⟨w.heap.size,3,none⟩=some (.int .i64 m))
   (first|exact UZ.out|exact Dq.out _ BQ.out|exact Dq.out _ E9.out)
   (first|(go_at_call 26;refine(U7.out _ BQ.out).mono ?_;rintro rv w'⟨rfl,rfl⟩)|(go_at_call 35;refine(Qm.out _ BQ.out).mono ?_;rintro rv w'⟨rfl,hb⟩;have BQ:=Q0a (BQ.out.trans (hb.mono BQ.out.size));clear hb)|(go_at_call 79;refine(Vx.out _ BQ.out).mono ?_;rintro rv w'⟨⟨a,er,rfl⟩,Hs,hq⟩;unfold two;have Fy:=Hs w.heap.size (J3b _) (KK.out _ BQ.out);have Gr:=Dq.out _ BQ.out;have UZ:=Q0a (And.intro ((World.cell?_of_block (w:=_) (a:=⟨w.heap.size,1,none⟩) Fy).trans Gr.1) (And.intro ((World.cell?_of_block (w:=_) (a:=⟨w.heap.size,2,none⟩) Fy).trans Gr.2.1) ((World.cell?_of_block (w:=_) (a:=⟨w.heap.size,3,none⟩) Fy).trans Gr.2.2)));have HQ:=Q0a hq;clear hq Hs Fy Gr))
  all_goals (go_wp2_with fail;first|exact⟨rfl,HQ.out⟩|(go_end0;exact⟨rfl,HQ.out⟩))
 by_cases e1:kind=1
 ·subst e1;have kk:=H1.out wc Ce.out T H hT hH s rr;have c6:=A7.cell 6 _ rfl;have c7:=A7.cell 7 _ rfl;clear H0 H1 H2 H3 H4 H5 H6 H7 H8 H9 ES Bq Do HC A7;go_wp2_with fail;refine kk.mono ?_;rintro rv w'⟨⟨er,rfl⟩,hq⟩;have HQ:=Q0a hq;clear hq kk;go_wp2_with fail
  first|exact⟨rfl,HQ.out⟩|(go_end0;exact⟨rfl,HQ.out⟩)
 by_cases e2:kind=2
 ·subst e2;have kk:=H2.out wc Ce.out T U hT hU;have c9:=A7.cell 9 _ rfl;clear H0 H1 H2 H3 H4 H5 H6 H7 H8 H9 ES Bq Do HC A7;go_wp2_with fail;refine kk.mono ?_;rintro rv w'⟨⟨er,rfl⟩,hq⟩;have HQ:=Q0a hq;clear hq kk;go_wp2_with fail
  first|exact⟨rfl,HQ.out⟩|(go_end0;exact⟨rfl,HQ.out⟩)
 by_cases e3:kind=3
 ·subst e3;have kk:=H3.out wc Ce.out T U hT hU;have Ns:=A7.cell 10 _ rfl;have NK:=A7.cell 11 _ rfl;have NL:=A7.cell 12 _ rfl;have N7:=A7.cell 13 _ rfl;have Oj:=A7.cell 14 _ rfl;have IV:=A7.cell 15 _ rfl;have NR:=A7.cell 16 _ rfl;clear H0 H1 H2 H3 H4 H5 H6 H7 H8 H9 ES Bq Do HC A7;go_wp2_with fail;refine kk.mono ?_;rintro rv w2⟨a,nn,cap,er,rfl,k2⟩;clear kk;go_wp2_with fail;refine k2.mono ?_;rintro rv w'⟨⟨er,rfl⟩,hq⟩;have HQ:=Q0a hq;clear hq k2;go_wp2_with fail
  first|exact⟨rfl,HQ.out⟩|(go_end0;exact⟨rfl,HQ.out⟩)
 by_cases e4:kind=4
 ·subst e4;have kk:=H4.out wc Ce.out T hT s rr self;have c6:=A7.cell 6 _ rfl;have c7:=A7.cell 7 _ rfl;have c8:=A7.cell 8 _ rfl;clear H0 H1 H2 H3 H4 H5 H6 H7 H8 H9 ES Bq Do HC A7;go_wp2_with fail;refine kk.mono ?_;rintro rv w'⟨⟨a,b,rfl⟩,hq⟩;have HQ:=Q0a hq;clear hq kk;go_wp2_with fail
  first|exact⟨rfl,HQ.out⟩|(go_end0;exact⟨rfl,HQ.out⟩)
 by_cases e5:kind=5
 ·subst e5;have kk:=H5.out wc Ce.out H;clear H0 H1 H2 H3 H4 H5 H6 H7 H8 H9 ES Bq Do HC A7;go_wp2_with fail;refine kk.mono ?_;rintro rv w'⟨⟨a,rfl⟩,hq⟩;have HQ:=Q0a hq;clear hq kk;go_wp2_with fail
  first|exact⟨rfl,HQ.out⟩|(go_end0;exact⟨rfl,HQ.out⟩)
 by_cases e6:kind=6
 ·subst e6;have kk:=H6.out wc Ce.out T hT;clear H0 H1 H2 H3 H4 H5 H6 H7 H8 H9 ES Bq Do HC A7;go_wp2_with fail;refine kk.mono ?_;rintro rv w'⟨⟨a,rfl⟩,hq⟩;have HQ:=Q0a hq;clear hq kk;go_wp2_with fail
  first|exact⟨rfl,HQ.out⟩|(go_end0;exact⟨rfl,HQ.out⟩)
 by_cases e7:kind=7
 ·subst e7;have kk:=H7.out wc Ce.out H hH;clear H0 H1 H2 H3 H4 H5 H6 H7 H8 H9 ES Bq Do HC A7;go_wp2_with fail;refine kk.mono ?_;rintro rv w'⟨⟨a,b,rfl⟩,hq⟩;have HQ:=Q0a hq;clear hq kk;go_wp2_with fail
  first|exact⟨rfl,HQ.out⟩|(go_end0;exact⟨rfl,HQ.out⟩)
 by_cases e8:kind=8
 ·subst e8;have ko:=Bq.out wc Ce.out;have kk:=H8.out wc Ce.out;clear H0 H1 H2 H3 H4 H5 H6 H7 H8 H9 ES Bq Do HC A7;go_wp2_with fail;refine ko.mono ?_;rintro rv w2⟨rfl,rfl⟩;go_wp2_with fail;refine kk.mono ?_;rintro rv w'⟨⟨a,rfl⟩,hq⟩;have HQ:=Q0a hq;clear hq kk ko;go_wp2_with fail
  first|exact⟨rfl,HQ.out⟩|(go_end0;exact⟨rfl,HQ.out⟩)
 by_cases e9:kind=9
 ·subst e9;have kk:=H9.out wc Ce.out T H hT hH s k m;have c6:=A7.cell 6 _ rfl;have c2:=A7.cell 2 _ rfl;have c3:=A7.cell 3 _ rfl;clear H0 H1 H2 H3 H4 H5 H6 H7 H8 H9 ES Bq Do HC A7;go_wp2_with fail;refine kk.mono ?_;rintro rv w'⟨⟨a,er,rfl⟩,hq⟩;have HQ:=Q0a hq;unfold two;clear hq kk;go_wp2_with fail
  first|exact⟨rfl,HQ.out⟩|(go_end0;exact⟨rfl,HQ.out⟩)
 have f0:(kind==0)=false:=by simpa using e0
 have f1:(kind==1)=false:=by simpa using e1
 have f2:(kind==2)=false:=by simpa using e2
 have f3:(kind==3)=false:=by simpa using e3
 have f4:(kind==4)=false:=by simpa using e4
 have f5:(kind==5)=false:=by simpa using e5
 have f6:(kind==6)=false:=by simpa using e6
 have f7:(kind==7)=false:=by simpa using e7
 have f8:(kind==8)=false:=by simpa using e8
 have f9:(kind==9)=false:=by simpa using e9
 have HQ:=Q0a (ES.out wc Ce.out);clear H0 H1 H2 H3 H4 H5 H6 H7 H8 H9 ES Bq Do HC A7 e0 e1 e2 e3 e4 e5 e6 e7 e8 e9;go_wp2_with fail
 first|exact⟨rfl,HQ.out⟩|(go_end0;exact⟨rfl,HQ.out⟩)
def fewV(A:Nat->A17)(len:Nat):Bool:=decide (len<=60/\∀j,j<len->(A j).ll<=20)
theorem J1I(w:World)(a0:Option Addr)(len cap:Nat)(A:Nat->A17)(hA:IsA17 w a0 len A) :
  Calls prog 24 #[.slice a0 len cap] w fun r w'=>r=.returned (.bool (fewV A len))/\w=w':=by
 have ON:(0:Int)<=(len:Int):=by omega
 by_cases Rk:len<=60
 ·have hd:decide (60<(len:Int))=false:=by simp;omega
  have HA:=Q0a hA;have F8:(len:Int)<=60:=by omega
  obtain⟨v,hv⟩:∃v,v=fewV A len:=⟨_,rfl⟩
  have HV:=Q0a hv;rw[<- hv];clear hA hv;go_enter func24,ntmps24;go_wp2_with fail
  go_loopg [3] len (fun gk iv wr=>∃k:Nat,iv=.int .i64 k/\k+gk=len/\wr=w/\∀j,j<k->(A j).ll<=20)
  case atStart=>exact⟨0,rfl,by omega,rfl,fun j hj=>by omega⟩
  case round =>
   obtain⟨k,rfl,AC,rfl,hp⟩:=hrel;have HP:=Q0a hp;have BE:=Q0a AC;clear hp AC;by_cases Ab:k<len
   ·obtain⟨g,off,rfl,hg,AM,KZ,_⟩:=HA.out k Ab;have c9:wr.cell? ⟨g,off+k*17+9,none⟩=some (.slice (A k).la (A k).ll (A k).lc):=AM 9 _ rfl;have Ac:=KZ.len;unfold maxLen at Ac;have C3:(k:Int)<(len:Int):=by omega
    have Bz:(0:Int)<=(k:Int):=by omega
    clear AM KZ;by_cases NH:(A k).ll<=20
    ·have Gb:decide (20<(((A k).ll:Nat):Int))=false:=by simp;omega
     have SY:Hid (∀j,j<k+1->(A j).ll<=20):=fun j hj=>by
      by_cases e:j=k
      ·rw[e];exact NH
      ·exact HP.out j (by omega)
     go_wp2_with fail;go_roundg (len-(k+1))
     case measure=>have:=BE.out;omega
     case rel=>exact⟨k+1,by go_num,by have:=BE.out;omega,rfl,SY.out⟩
    ·have Gb:decide (20<(((A k).ll:Nat):Int))=true:=by simp;omega
     have V3:v=false:=by
      rw[HV.out];unfold fewV;exact decide_eq_false fun h=>NH (h.2 k Ab)
     subst V3;clear HV;go_wp2_with fail
     (try go_ret);exact⟨rfl,rfl⟩
   ·obtain rfl:k=len:=by have:=BE.out;omega
    have V8:v=true:=by
     rw[HV.out];unfold fewV;exact decide_eq_true ⟨Rk,HP.out⟩
    subst V8;clear HV;go_wp2_with fail
    (try go_ret);exact⟨rfl,rfl⟩
 ·have hv:fewV A len=false:=by
   unfold fewV;exact decide_eq_false fun h=>Rk h.1
  have hd:decide (60<(len:Int))=true:=by simp;omega
  rw[hv];clear hA;go_enter func24,ntmps24;go_wp2_with fail
  (try go_ret);exact⟨rfl,rfl⟩
structure BegZ(Z:SP):Prop where
 per:Z.S.period=2
 top:Z.S.P.d.top=6
 root:pget Z.S.l 1 0=some ⟨1,64,0,1,0,0⟩
theorem BegZ.gone{Z Z':SP}(b:BegZ Z)(g:GoneZ Z Z'):BegZ Z':=⟨g.per.trans b.per,g.same.top.trans b.top,g.root.trans b.root⟩
def AtB(s:Nat)(N K:Nat)(M:Int)(w0 wr:World):Prop:=∃(Z:SP) (fr:List Nat),Z.s=s/\Z.Ok fr N K M/\BegZ Z/\Step [] Z.hl w0 wr
theorem J1J{w w1:World}{S:CO}{limit:Int}(f:Z0d S 6 limit 2)(st:Step [] (S.hl++[]) w w1) :
  Calls prog 80 #[.pointer (some ⟨S.c,0,none⟩)] w1 fun r w'=>∃s,r=.returned (.pointer (some ⟨s,0,none⟩))/\AtB s 1 0 0 w w':=by
 have m:=Z2C f;have st':Step [] S.hl w w1:=by rwa [J5i] at st
 refine(Z2B st'.sep (fun _=>TB.emp)).mono ?_;rintro r w'⟨Z,rfl,hn,st2⟩;refine⟨Z.s,rfl,Z,[],rfl,hn.ok m.ok m.tpi (fun _ _=>TB.emp_nil),⟨by rw[hn.S];exact m.per,by rw[hn.S];exact m.top,by rw[hn.S,m.l];rfl⟩,st'.trans st2⟩
theorem Z9T{w wr:World}{s N K:Nat}{M:Int}(h:AtB s N K M w wr)(hN:N+1<1048576)(hK:K<1048575)(hM:M+300<1099511627776)(x:A17)(hx:x.Wf)(hll:x.ll<=20)(B5:IsMv w x.la x.ll x.L) :
  Calls prog 85 #[.pointer (some ⟨s,0,none⟩),.agg #[.int .i64 x.kind,.int .i64 x.n,.int .i64 x.k,.int .i64 x.m,.int .i64 x.t,.int .i64 x.u,.int .i64 x.s,.int .i64 x.r,.bool x.self,.slice x.la x.ll x.lc,.int .i64 x.i.base,.int .i64 x.i.order,.int .i64 x.i.r,.int .i64 x.i.off,.bool x.i.g,.int .i64 x.w.base,.int .i64 x.w.order]] wr fun r w'=>r=.returned (.tuple #[])/\AtB s (N+1) (K+1) (M+256) w w':=by
 obtain⟨Z,fr,rfl,ok,b,st⟩:=h;have PV:AsideM Z.hl x.ll x.L x.la wr:=⟨B5.below st.fresh,fun a h0 ha hk=>by
  obtain⟨g,off,hg,Ab,_⟩:=B5 0 (by omega);rw[ha] at hg;cases hg;rcases st.new _ hk with h|h
  ·cases h
  ·dsimp only at h;omega⟩
 refine(Z4v st.sep ok hN hK hM x hx hll PV).mono ?_;rintro r w'⟨rfl,Z',fr',ok',g,st'⟩;exact⟨rfl,Z',fr',g.s,ok',b.gone g,st.trans st'⟩
theorem Z7C{w:World}(DC:Env w)(limit:Int)(D0:64<=limit)(D1:limit<=65536)(a0:Option Addr)(len cap:Nat)(A:Nat->A17)(hl:len<=60)(hA:IsA17 w a0 len A)(hll:∀j,j<len->(A j).ll<=20) :
  Calls prog 25 #[.int .i64 limit,.slice a0 len cap] w fun r w'=>∃s,r=.returned (.pointer (some ⟨s,0,none⟩))/\AtB s 61 60 15360 w w':=by
 have Kl:((2 ^ (6+10):Nat):Int)=65536:=by decide
 have kn:=Z2A (Sep.nil DC) 6 (by omega) (by omega) limit D0 (by rw[Kl];exact D1) 2 (by omega) (by omega);rw[Kl] at kn;have HA:=Q0a hA;have Jm:=Q0a hll;have ON:(0:Int)<=(len:Int):=by omega
 have F8:(len:Int)<=60:=by omega
 clear DC hA hll Kl;go_enter func25,ntmps25;go_wp2_with fail;refine kn.mono ?_;rintro r w1⟨S,rfl,hf,st⟩;have ks:=J1J hf st;clear kn hf st;go_wp2_with fail;refine ks.mono ?_;rintro r w2⟨s,rfl,AA⟩;have J9:=Q0a AA;clear AA ks;go_wp2_with fail
 go_loopg [6] len (fun gk iv wr=>∃k:Nat,iv=.int .i64 k/\k+gk=len/\AtB s (1+k) k (256*(k:Int)) w wr)
 case atStart=>exact⟨0,rfl,by omega,J9.out⟩
 case round =>
  obtain⟨k,rfl,AC,AA⟩:=hrel;have BE:=Q0a AC;clear AC;by_cases Ab:k<len
  ·have kp:=Z9T AA (by omega) (by omega) (by omega) (A k) (HA.out k Ab).choose_spec.choose_spec.2.2.2.1 (Jm.out k Ab) (HA.out k Ab).choose_spec.choose_spec.2.2.2.2;have hb:Below w.heap.size w wr:=by
    obtain⟨Z,fr,_,_,_,st⟩:=AA;exact st.fresh
   obtain⟨g,off,rfl,hg,AM,_,_⟩:=(HA.out.below hb) k Ab;have c0:wr.cell? ⟨g,off+k*17,none⟩=some (.int .i64 (A k).kind):=AM 0 _ rfl;have c1:wr.cell? ⟨g,off+k*17+1,none⟩=some (.int .i64 (A k).n):=AM 1 _ rfl;have c2:wr.cell? ⟨g,off+k*17+2,none⟩=some (.int .i64 (A k).k):=AM 2 _ rfl;have c3:wr.cell? ⟨g,off+k*17+3,none⟩=some (.int .i64 (A k).m):=AM 3 _ rfl;have c4:wr.cell? ⟨g,off+k*17+4,none⟩=some (.int .i64 (A k).t):=AM 4 _ rfl;have c5:wr.cell? ⟨g,off+k*17+5,none⟩=some (.int .i64 (A k).u):=AM 5 _ rfl;have c6:wr.cell? ⟨g,off+k*17+6,none⟩=some (.int .i64 (A k).s):=AM 6 _ rfl;have c7:wr.cell? ⟨g,off+k*17+7,none⟩=some (.int .i64 (A k).r):=AM 7 _ rfl
   have c8:wr.cell? ⟨g,off+k*17+8,none⟩=some (.bool (A k).self):=AM 8 _ rfl;have c9:wr.cell? ⟨g,off+k*17+9,none⟩=some (.slice (A k).la (A k).ll (A k).lc):=AM 9 _ rfl;have Ns:wr.cell? ⟨g,off+k*17+10,none⟩=some (.int .i64 (A k).i.base):=AM 10 _ rfl;have NK:wr.cell? ⟨g,off+k*17+11,none⟩=some (.int .i64 (A k).i.order):=AM 11 _ rfl;have NL:wr.cell? ⟨g,off+k*17+12,none⟩=some (.int .i64 (A k).i.r):=AM 12 _ rfl;have N7:wr.cell? ⟨g,off+k*17+13,none⟩=some (.int .i64 (A k).i.off):=AM 13 _ rfl;have Oj:wr.cell? ⟨g,off+k*17+14,none⟩=some (.bool (A k).i.g):=AM 14 _ rfl;have IV:wr.cell? ⟨g,off+k*17+15,none⟩=some (.int .i64 (A k).w.base):=AM 15 _ rfl
   have NR:wr.cell? ⟨g,off+k*17+16,none⟩=some (.int .i64 (A k).w.order):=AM 16 _ rfl;have C3:(k:Int)<(len:Int):=by omega
   have Bz:(0:Int)<=(k:Int):=by omega
   clear AM AA hb HA Jm;go_wp2_with fail;refine kp.mono ?_;rintro r w3⟨rfl,AA⟩;have J9:=Q0a AA;clear AA kp c0 c1 c2 c3 c4 c5 c6 c7 c8 c9 Ns NK NL N7 Oj IV NR;go_wp2_with fail;go_roundg (len-(k+1))
   case measure=>have:=BE.out;omega
   case rel=>exact⟨k+1,by go_num,by have:=BE.out;omega,by
    obtain⟨Z,fr,e,ok,b,st⟩:=J9.out;exact⟨Z,fr,e,ok.mono (by omega) (by omega) (by omega),b,st⟩⟩
  ·obtain rfl:k=len:=by have:=BE.out;omega
   have HR:Hid (AtB s 61 60 15360 w wr):=by
    obtain⟨Z,fr,e,ok,b,st⟩:=AA;exact⟨Z,fr,e,ok.mono (by omega) (by omega) (by omega),b,st⟩
   clear AA;go_wp2_with fail
   (try go_ret);exact⟨s,rfl,HR.out⟩
end Go.Proofs.YtfidemmgofcnmaaGreatDoor
namespace Go.Proofs.YtfidemmgofcnmaaGreatDoor
open Go.Shelf Go.Proofs.Tryz
def Z1s:Go.Shelf.Ren:=⟨fun|6=>136|15=>196|14=>195|28=>228|29=>229|20=>220|21=>221|22=>222|23=>223|24=>224|25=>225|26=>226|27=>227|46=>243|47=>244|48=>245|49=>246|50=>247|57=>253|n=>n,fun|22=>34|24=>161|25=>248|3=>3|39=>123|0=>0|53=>57|55=>83|4=>4|46=>320|45=>319|50=>239|5=>5|9=>9|66=>334|70=>338|76=>343|77=>344|n=>n,fun|n=>n⟩
theorem Z7D:Go.Proofs.SlLaysF0.n6 prog Z1s:={
 mixed:=by kernel_rfl
 f6:=⟨f136.name,by decide,func136.trans (congrArg some (by kernel_rfl))⟩
 f14:=⟨f195.name,by decide,func195.trans (congrArg some (by kernel_rfl))⟩
 f15:=func196.trans (congrArg some (by kernel_rfl))
 f20:=⟨f220.name,by decide,func220.trans (congrArg some (by kernel_rfl))⟩
 f21:=⟨f221.name,by decide,func221.trans (congrArg some (by kernel_rfl))⟩
 f22:=⟨f222.name,by decide,func222.trans (congrArg some (by kernel_rfl))⟩
 f23:=⟨f223.name,by decide,func223.trans (congrArg some (by kernel_rfl))⟩
 f24:=⟨f224.name,by decide,func224.trans (congrArg some (by kernel_rfl))⟩
 f25:=⟨f225.name,by decide,func225.trans (congrArg some (by kernel_rfl))⟩
 f26:=⟨f226.name,by decide,func226.trans (congrArg some (by kernel_rfl))⟩
 f27:=⟨f227.name,by decide,func227.trans (congrArg some (by kernel_rfl))⟩
 f28:=func228.trans (congrArg some (by kernel_rfl))
 f29:=func229.trans (congrArg some (by kernel_rfl))
 f46:=⟨f243.name,by decide,func243.trans (congrArg some (by kernel_rfl))⟩
 f47:=func244.trans (congrArg some (by kernel_rfl))
 f48:=func245.trans (congrArg some (by kernel_rfl))
 f49:=⟨f246.name,by decide,func246.trans (congrArg some (by kernel_rfl))⟩
 f50:=⟨f247.name,by decide,func247.trans (congrArg some (by kernel_rfl))⟩
 f57:=⟨f253.name,by decide,func253.trans (congrArg some (by kernel_rfl))⟩
 t0:=underlying0
 a0:=isAgg0
 z0:=sizeOf0
 v0:=zeroValue0
 t3:=underlying3
 a3:=isAgg3
 z3:=sizeOf3
 v3:=zeroValue3
 t4:=underlying4
 a4:=isAgg4
 z4:=sizeOf4
 v4:=zeroValue4
 t5:=underlying5
 a5:=isAgg5
 z5:=sizeOf5
 v5:=zeroValue5
 t9:=underlying9
 a9:=isAgg9
 z9:=sizeOf9
 v9:=zeroValue9
 t22:=underlying34
 a22:=isAgg34
 z22:=sizeOf34
 v22:=zeroValue34
 t25:=underlying248
 a25:=isAgg248
 z25:=sizeOf248
 v25:=zeroValue248
 t39:=underlying123
 a39:=isAgg123
 z39:=sizeOf123
 v39:=zeroValue123
 t45:=underlying319
 a45:=isAgg319
 z45:=sizeOf319
 v45:=zeroValue319
 t46:=underlying320
 a46:=isAgg320
 z46:=sizeOf320
 v46:=zeroValue320
 t50:=underlying239
 a50:=isAgg239
 z50:=sizeOf239
 v50:=zeroValue239
 t53:=underlying57
 a53:=isAgg57
 z53:=sizeOf57
 v53:=zeroValue57
 t55:=underlying83
 a55:=isAgg83
 z55:=sizeOf83
 v55:=zeroValue83
 t66:=underlying334
 a66:=isAgg334
 z66:=sizeOf334
 v66:=zeroValue334
 t70:=underlying338
 a70:=isAgg338
 z70:=sizeOf338
 v70:=zeroValue338
 t76:=underlying343
 a76:=isAgg343
 z76:=sizeOf343
 v76:=zeroValue343
 t77:=underlying344
 a77:=isAgg344
 z77:=sizeOf344
 v77:=zeroValue344}
end Go.Proofs.YtfidemmgofcnmaaGreatDoor
namespace Go.Proofs.YtfidemmgofcnmaaGreatDoor
open Go.RowKit Go.Shelf Go.Proofs.Tryz
open Go.Sort (flatK HoldsK putRowK)
theorem Z1t(x y:Nat×Nat)(W:World):Calls prog 137 #[.agg (encB x).toArray,.agg (encB y).toArray] W fun e w'=>e=.returned (.int .i64 (cmpI (x.1:Int) (y.1:Int)))/\∃q os',w'=Go.Sort.grow (W.drewN q) os':=by
 have hc:=fun w:World=>Z4Q (w:=w) (x.1:Int) (y.1:Int)
 generalize cmpI (x.1:Int) (y.1:Int)=c at *
 unfold encB;go_enter func137,ntmps137;go_wp2_with (go_at_call 138;refine(hc _).mono ?_;rintro e w'⟨rfl,rfl⟩);go_ret;exact⟨rfl,0,_,by rw[Go.Sort.alloc_eq_grow,Go.Sort.alloc_eq_grow,Go.Sort.grow_grow];rfl⟩
def cfB(x y:Nat×Nat):Int:=cmpI (x.1:Int) (y.1:Int)
theorem ltB(x y:Nat×Nat):ltOf cfB x y=decide (x.1<y.1):=by
 unfold ltOf cfB cmpI;by_cases h1:(x.1:Int)<(y.1:Int)
 ·have:x.1<y.1:=by omega
  simp[h1,this]
 ·have K0:¬x.1<y.1:=by omega
  by_cases h2:(y.1:Int)<(x.1:Int) <;> simp[h1,K0,h2]
theorem swoB:Go.Sort.SWO (ltOf cfB) where
 irrefl x:=by rw[ltB];simp
 trans x y z h1 h2:=by rw[ltB] at *;simp at *;omega
 ntrans x y z h1 h2:=by rw[ltB] at *;simp at *;omega
theorem Z1u(l:List (Nat×Nat))(k:Nat)(x:Nat×Nat)(h:l[k]?=some x):(Q1b l)[k*2]?=some (.int .i64 (x.1:Int))/\(Q1b l)[k*2+1]?=some (.int .i64 (x.2:Int)):=by
 induction l generalizing k with
 | nil=>simp at h
 | cons y r ih =>
  cases k with
  | zero=>simp at h;subst h;exact⟨rfl,rfl⟩
  | succ k =>
   have:=ih k (by simpa using h);have e1:(k+1)*2=(k*2)+1+1:=by omega
   have e2:(k+1)*2+1=(k*2+1)+1+1:=by omega
   rw[e1];exact⟨this.1,this.2⟩
theorem Q6V(l:List (Nat×Nat)):(Q1b l).length=l.length*2:=by
 induction l with
 | nil=>rfl
 | cons y r ih =>
  show(_::_::Q1b r).length=_;simp[ih];omega
theorem Z0j(d:Array (Nat×Nat)):(flatK encB 2 d).toList=Q1b d.toList:=by
 apply J4K
 intro t;rcases J5K t (d.size*2) with h|h
 ·have hk:t/2<d.size:=by omega
  have hx:d.toList[t/2]?=some d[t/2]!:=by
   rw[getElem!_pos d (t/2) hk,J5C,Array.getElem?_eq_getElem hk]
  obtain⟨e1,e2⟩:=Z1u d.toList (t/2) _ hx;have e0:(flatK encB 2 d).toList[t]?=some ((encB d[t/2]!)[t%2]!):=by
   simp[flatK,h]
  rw[e0];rcases Nat.mod_two_eq_zero_or_one t with hm|hm
  ·have ht:t=t/2*2:=by omega
   rw[hm]
   conv=>rhs;rw[ht]
   rw[e1];rfl
  ·have ht:t=t/2*2+1:=by omega
   rw[hm]
   conv=>rhs;rw[ht]
   rw[e2];rfl
 ·rw[J4R (by simp;omega),J4R (by rw[Q6V];simpa using h)]
theorem Z4w{d d':Array (Nat×Nat)}(h:Go.Sort.PermIn 0 d.size d d'):d'.toList.Perm d.toList/\d'.size=d.size:=by
 obtain⟨h1,_,h3⟩:=h;refine⟨?_,h1⟩;have e1:d'.extract 0 d.size=d':=by rw[<- h1];simp
 rw[e1] at h3
 simpa using h3
theorem Z1v{d:Array (Nat×Nat)}{n:Nat}(hn:n=d.size)(h:Go.Sort.SortedIn (ltOf cfB) 0 n d):d.toList.Pairwise (fun a b=>a.1<=b.1):=by
 subst hn;rw[J6e];intro i j hi hj Fj;have:=h i j (J5e _) Fj (by simpa using hj);rw[ltB] at this;simp only[decide_eq_false_iff_not,Nat.not_lt] at this;rw[getElem!_pos d i (by simpa using hi),getElem!_pos d j (by simpa using hj)] at this
 simpa using this
theorem Z0k{w:World}{g:Nat}{Ag:Array Value}{e:TypeId}{L:List (Nat×Nat)}(hb:w.heap[g]?=some (.cells Ag e (0,0)))(ht:Ag.toList.take (L.length*2)=Q1b L):HoldsK encB 2 w g 0 L.toArray:=by
 intro j hj;have AY:j<L.length*2:=by simpa using hj
 refine⟨?_,by simp[World.frozen?,hb]⟩;have h1:(Ag.toList.take (L.length*2))[j]?=(flatK encB 2 L.toArray).toList[j]?:=by rw[ht,Z0j]
 rw[J7x AY] at h1;simp only[World.cell?,hb,J5G,J6f,J6V,if_false,id];rw[<- J5C,h1,getElem!_pos _ j hj];simp[AY]
theorem Q7f(Ag F:Array Value)(h:F.size<=Ag.size):(Go.Sort.putCells id 0 F Ag).toList.take F.size=F.toList:=by
 apply J4K
 intro j;by_cases hj:j<F.size
 ·rw[J7x hj,J5C];simp[Go.Sort.putCells,hj,show j<Ag.size by omega]
 ·rw[J7y (by omega),J4R (by simp;omega)]
theorem Z0l{w:World}{g n:Nat}{os:Array Obj}{Ag:Array Value}{e:TypeId}(d:Array (Nat×Nat))(hb:w.heap[g]?=some (.cells Ag e (0,0))) :
  (sortWorldK encB 2 w g 0 n d os).heap[g]?=some (.cells (Go.Sort.putCells id 0 (flatK encB 2 d) Ag) e (0,0)):=by
 have hg:g<w.heap.size:=(J7z.1 hb).1;unfold sortWorldK putRowK;rw[Go.Sort.heap_grow_old _ _ (by simpa using hg)];simp[Go.Sort.putRow,Go.Sort.mapBlock,Go.Sort.ahead,Array.getElem?_modify,hb,Go.Sort.onCells]
theorem Q8E{w:World}{g n:Nat}{os:Array Obj}(d:Array (Nat×Nat)):w.grownBy (sortWorldK encB 2 w g 0 n d os) (some g):=by
 unfold sortWorldK putRowK;refine⟨rfl,rfl,rfl,by simp,fun k hk Aa=>?_⟩;rw[Go.Sort.heap_grow_old _ _ (by simpa using hk)];have:g≠k:=fun e=>Aa (by rw[e])
 simp[Go.Sort.putRow,Go.Sort.mapBlock,Go.Sort.ahead,Array.getElem?_modify,this]
theorem Z4x{w w1:World}{v:Value}{L:List (Nat×Nat)}(h:OutB w w1 v L)(hl:L.length<=22020096):Calls prog 73 #[v] w1 (Q6q w.heap.size L v w1):=by
 obtain⟨⟨Ac,Au⟩,hb⟩:=h;rcases Au with ⟨rfl,h0⟩|⟨g,cap,Ag,rfl,hg,BK,hn,hm,hs,ht⟩
 ·have hL:L=[]:=J5s h0;subst hL;have F9:=AnyF.slices_SortFunc_none Z7D none 0 (.func (.func 137) #[] #[]) w1
  change Calls prog 136 _ _ _ at F9
  have HR:Hid (Q6q w.heap.size [] (.slice none 0 0) w1 (.returned (.slice none 0 0)) w1):=⟨rfl,[],J6w _,List.Pairwise.nil,⟨rfl,.inl ⟨rfl,rfl⟩⟩,Below.refl _ _⟩
  clear Ac hb h0 hl;go_enter func73,ntmps73;go_wp2_with (go_at_call 136;refine F9.mono ?_;rintro e w'⟨rfl,rfl⟩);go_ret;exact HR.out
 ·have eg:∀args w,(callFunc 137 args).run prog w=.ok (.enter 137 args) w:=enters_of func137 (by kernel_rfl) rfl;have CR:CmpLays prog 137 #[] encB 2 cfB g 0 L.toArray.size w1:=fun _ _ _ _ x y=>Z1t x y _
  have F9:=AnyQ.slices_SortFunc Z7D 2 isAgg161 sizeOf161 encB (fun _=>rfl) (fun x v hv=>by simp[encB] at hv;rcases hv with rfl|rfl <;> rfl) cfB swoB 137 #[] g 0 cap L.toArray w1 eg CR (Z0k BK ht) (lt_of_block BK) (by simp;omega)
  change Calls prog 136 _ _ _ at F9
  have HR:Hid (∀w2,(∃d' n os,Go.Sort.PermIn 0 L.toArray.size L.toArray d'/\Go.Sort.SortedIn (ltOf cfB) 0 L.toArray.size d'/\w2=sortWorldK encB 2 w1 g 0 n d' os)->Q6q w.heap.size L (.slice (some ⟨g,0,none⟩) L.length cap) w1 (.returned (.slice (some ⟨g,0,none⟩) L.length cap)) w2):=by
   rintro w2⟨d',n,os,hp,Py,rfl⟩;obtain⟨p1,p2⟩:=Z4w hp;have p1':d'.toList.Perm L:=by simpa using p1
   have p3:d'.toList.length=L.length:=p1'.length_eq;refine⟨rfl,d'.toList,p1',Z1v p2.symm Py,⟨Q6V _,.inr ⟨g,cap,_,by rw[p3],hg,Z0l d' BK,by rw[p3];exact hn,hm,by simp[Go.Sort.putCells,hs],?_⟩⟩,?_⟩
   ·have e:d'.toList.length*2=(flatK encB 2 d').size:=by simp
    rw[e,Q7f _ _ (by rw[<- e,p3,hs];omega),Z0j]
   ·have C6:=Q8E (w:=w1) (g:=g) (n:=n) (os:=os) d';exact⟨C6.os,C6.tape,C6.output,C6.size,fun k hk=>by
     rcases J5K k w1.heap.size with e|e
     ·exact C6.block k e (fun e'=>by cases e';omega)
     ·have:=hb.size;omega⟩
  rw[J5H] at F9;have PP:Hid (∀(r:Ending) (w2:World),(r=.returned (.tuple #[])/\∃d' n os,Go.Sort.PermIn 0 L.length L.toArray d'/\Go.Sort.SortedIn (ltOf cfB) 0 L.length d'/\w2=sortWorldK encB 2 w1 g 0 n d' os)->r=.returned (.tuple #[])/\Q6q w.heap.size L (.slice (some ⟨g,0,none⟩) L.length cap) w1 (.returned (.slice (some ⟨g,0,none⟩) L.length cap)) w2):=fun r w2 ⟨e,hx⟩=>⟨e,HR.out w2 (by simpa using hx)⟩
  clear HR Ac BK ht hs hn hm CR eg hl hb hg;generalize L.length=ll at *
  go_enter func73,ntmps73;go_wp2_with fail;refine F9.mono ?_;intro r w2 hx;obtain⟨rfl,hy⟩:=PP.out _ _ hx;have HY:=Q0a hy;clear hx hy;go_wp2_with fail;go_ret;exact HY.out
theorem Z7E{w:World}{d:BD}{G:Nat->Nat->Bool}(h:Sep w d.hl)(hi:d.Is G):Calls prog 17 #[.pointer (some ⟨d.b,0,none⟩)] w (NewBlks w (Q1x G d.top (d.top+1))):=
 Z6k h hi fun _ _ _ ho hl _=>Z4x ho hl
end Go.Proofs.YtfidemmgofcnmaaGreatDoor
namespace Go.Proofs.YtfidemmgofcnmaaGreatDoor
open Go.Shelf Go.Proofs.Tryz
def Z0m:Go.Shelf.Ren:=⟨fun|7=>75|10=>141|n=>n,fun|23=>148|26=>3|3=>140|28=>165|0=>0|27=>164|33=>143|4=>4|n=>n,fun|n=>n⟩
theorem J2C:Go.Proofs.SlLaysZI.n7 prog Z0m:={
 mixed:=by kernel_rfl
 f7:=⟨f75.name,by decide,func75.trans (congrArg some (by kernel_rfl))⟩
 f10:=⟨f141.name,by decide,func141.trans (congrArg some (by kernel_rfl))⟩
 t0:=underlying0
 a0:=isAgg0
 z0:=sizeOf0
 v0:=zeroValue0
 t4:=underlying4
 a4:=isAgg4
 z4:=sizeOf4
 v4:=zeroValue4
 t23:=underlying148
 a23:=isAgg148
 z23:=sizeOf148
 v23:=zeroValue148
 t26:=underlying3
 a26:=isAgg3
 z26:=sizeOf3
 v26:=zeroValue3
 t27:=underlying164
 a27:=isAgg164
 z27:=sizeOf164
 v27:=zeroValue164
 t28:=underlying165
 a28:=isAgg165
 z28:=sizeOf165
 v28:=zeroValue165
 t33:=underlying143
 a33:=isAgg143
 z33:=sizeOf143
 v33:=zeroValue143}
def Q6W:Go.Shelf.Ren:=⟨fun|6=>74|8=>139|9=>140|11=>198|13=>196|12=>199|23=>228|24=>229|14=>230|15=>231|16=>232|17=>233|18=>234|19=>235|20=>236|21=>237|22=>238|25=>248|26=>244|27=>245|28=>249|29=>250|30=>197|31=>254|n=>n,fun|26=>3|28=>165|24=>38|0=>0|3=>3|37=>123|48=>57|50=>83|4=>4|40=>320|39=>319|45=>239|5=>5|9=>9|51=>334|55=>338|57=>343|58=>344|33=>143|n=>n,fun|n=>n⟩
theorem J1K:Go.Proofs.SlLaysZI.n6 prog Q6W:={
 mixed:=by kernel_rfl
 f6:=⟨f74.name,by decide,func74.trans (congrArg some (by kernel_rfl))⟩
 f8:=⟨f139.name,by decide,func139.trans (congrArg some (by kernel_rfl))⟩
 f11:=⟨f198.name,by decide,func198.trans (congrArg some (by kernel_rfl))⟩
 t0:=underlying0
 a0:=isAgg0
 z0:=sizeOf0
 v0:=zeroValue0
 t24:=underlying38
 a24:=isAgg38
 z24:=sizeOf38
 v24:=zeroValue38
 t26:=underlying3
 a26:=isAgg3
 z26:=sizeOf3
 v26:=zeroValue3
 t28:=underlying165
 a28:=isAgg165
 z28:=sizeOf165
 v28:=zeroValue165
 i26:=by kernel_rfl}
def Z7F:Go.Shelf.Ren:=⟨fun|5=>140|8=>196|7=>199|19=>228|20=>229|10=>230|11=>231|12=>232|13=>233|14=>234|15=>235|16=>236|17=>237|18=>238|30=>248|31=>244|32=>245|33=>249|34=>250|35=>197|40=>254|n=>n,fun|23=>38|25=>3|3=>3|32=>123|22=>38|0=>0|44=>57|46=>83|4=>4|36=>320|35=>319|41=>239|5=>5|9=>9|53=>334|57=>338|63=>343|64=>344|n=>n,fun|n=>n⟩
theorem J2D:Go.Proofs.SlLaysM.n5 prog Z7F:={
 mixed:=by kernel_rfl
 f5:=⟨f140.name,by decide,func140.trans (congrArg some (by kernel_rfl))⟩
 f7:=⟨f199.name,by decide,func199.trans (congrArg some (by kernel_rfl))⟩
 f8:=func196.trans (congrArg some (by kernel_rfl))
 f10:=⟨f230.name,by decide,func230.trans (congrArg some (by kernel_rfl))⟩
 f11:=⟨f231.name,by decide,func231.trans (congrArg some (by kernel_rfl))⟩
 f12:=⟨f232.name,by decide,func232.trans (congrArg some (by kernel_rfl))⟩
 f13:=⟨f233.name,by decide,func233.trans (congrArg some (by kernel_rfl))⟩
 f14:=⟨f234.name,by decide,func234.trans (congrArg some (by kernel_rfl))⟩
 f15:=⟨f235.name,by decide,func235.trans (congrArg some (by kernel_rfl))⟩
 f16:=⟨f236.name,by decide,func236.trans (congrArg some (by kernel_rfl))⟩
 f17:=⟨f237.name,by decide,func237.trans (congrArg some (by kernel_rfl))⟩
 f18:=⟨f238.name,by decide,func238.trans (congrArg some (by kernel_rfl))⟩
 f19:=func228.trans (congrArg some (by kernel_rfl))
 f20:=func229.trans (congrArg some (by kernel_rfl))
 f30:=⟨f248.name,by decide,func248.trans (congrArg some (by kernel_rfl))⟩
 f31:=func244.trans (congrArg some (by kernel_rfl))
 f32:=func245.trans (congrArg some (by kernel_rfl))
 f33:=⟨f249.name,by decide,func249.trans (congrArg some (by kernel_rfl))⟩
 f34:=⟨f250.name,by decide,func250.trans (congrArg some (by kernel_rfl))⟩
 f35:=⟨f197.name,by decide,func197.trans (congrArg some (by kernel_rfl))⟩
 f40:=⟨f254.name,by decide,func254.trans (congrArg some (by kernel_rfl))⟩
 t0:=underlying0
 a0:=isAgg0
 z0:=sizeOf0
 v0:=zeroValue0
 t3:=underlying3
 a3:=isAgg3
 z3:=sizeOf3
 v3:=zeroValue3
 t4:=underlying4
 a4:=isAgg4
 z4:=sizeOf4
 v4:=zeroValue4
 t5:=underlying5
 a5:=isAgg5
 z5:=sizeOf5
 v5:=zeroValue5
 t9:=underlying9
 a9:=isAgg9
 z9:=sizeOf9
 v9:=zeroValue9
 t22:=underlying38
 a22:=isAgg38
 z22:=sizeOf38
 v22:=zeroValue38
 t23:=underlying38
 a23:=isAgg38
 z23:=sizeOf38
 v23:=zeroValue38
 t25:=underlying3
 a25:=isAgg3
 z25:=sizeOf3
 v25:=zeroValue3
 t32:=underlying123
 a32:=isAgg123
 z32:=sizeOf123
 v32:=zeroValue123
 t35:=underlying319
 a35:=isAgg319
 z35:=sizeOf319
 v35:=zeroValue319
 t36:=underlying320
 a36:=isAgg320
 z36:=sizeOf320
 v36:=zeroValue320
 t41:=underlying239
 a41:=isAgg239
 z41:=sizeOf239
 v41:=zeroValue239
 t44:=underlying57
 a44:=isAgg57
 z44:=sizeOf57
 v44:=zeroValue57
 t46:=underlying83
 a46:=isAgg83
 z46:=sizeOf83
 v46:=zeroValue83
 t53:=underlying334
 a53:=isAgg334
 z53:=sizeOf334
 v53:=zeroValue334
 t57:=underlying338
 a57:=isAgg338
 z57:=sizeOf338
 v57:=zeroValue338
 t63:=underlying343
 a63:=isAgg343
 z63:=sizeOf343
 v63:=zeroValue343
 t64:=underlying344
 a64:=isAgg344
 z64:=sizeOf344
 v64:=zeroValue344}
end Go.Proofs.YtfidemmgofcnmaaGreatDoor
namespace Go.Proofs.YtfidemmgofcnmaaGreatDoor
open Go.RowKit Go.Maps Go.Sort Go.Shelf Go.Proofs.Tryz
abbrev idR:Value->Option (DataW Unit×List MemPlace):=fun _=>some (.nil,[])
theorem Z1w{w:World}{m:Nat}{kv:List (Int×Value)}(h:Q0x w m kv){P:Program}{k:TypeId}(hk:P.underlying k=some (.int .i64))(Be:kv.length<=maxLen)(hid:∀p∈kv,(Lit.int .i64 p.1).wf=true) :
  ∃D:DataW Unit,w.ownsMap P k idR m kv.length D/\(intKeys D).Perm (kv.map (·.1))/\Maps.size D=kv.length:=by
 obtain⟨es,Ah,hb,hs,hr⟩:=h;have Ac:es.size=kv.length:=by
  have:=congrArg List.length hr
  simpa using this
 have Jr:∀p∈kv,keyOf P k (.int .i64 p.1)=some (.int .i64 p.1):=fun p hp=>keyOf_int_mk hk (hid p hp)
 have Az:∀x∈es.toList,∃p∈kv,x.key=.int .i64 p.1:=by
  intro x hx;have hm:(x.key,x.val)∈kv.map (fun p=>(Value.int .i64 p.1,p.2)):=by
   rw[<- hr];exact J3h.2 ⟨x,hx,rfl⟩
  obtain⟨p,hp,he⟩:=J3h.1 hm;exact⟨p,hp,((Prod.mk.injEq _ _ _ _).mp he).1.symm⟩
 have hF:WideElems.Fit P k idR es Ah:=by
  refine⟨by omega,hs,fun x hx=>?_⟩;obtain⟨p,hp,he⟩:=Az x hx;exact⟨(.int .i64 p.1,.nil),by simp[WideElems.rd,he,Jr p hp]⟩
 have SB:es.toList.map (WideElems.rg P k idR)=kv.map fun(p:Int×Value)=>(Lit.int .i64 p.1,(DataW.nil:DataW Unit)):=by
  have e1:es.toList.map (WideElems.rg P k idR)=(es.toList.map fun(e:MapEntry)=>(e.key,e.val)).map fun(z:Value×Value)=>((keyOf P k z.1).map fun(key:Lit)=>(key,(DataW.nil:DataW Unit))).getD (.bool false,.nil):=by
   rw[J5k];refine J5l fun x _=>?_
   cases hkx:keyOf P k x.key <;> simp[WideElems.rg,WideElems.rd,hkx]
  rw[e1,hr,J5k];refine J5l fun p hp=>?_
  simp[Jr p hp]
 refine⟨_,⟨es,Ah,hb,hF,by omega,rfl⟩,?_,?_⟩
 ·show(List.map (fun(p:Lit×DataW Unit)=>Go.intOf p.1) _).Perm _;refine((WideShapes.sorted_perm _).map _).trans ?_;rw[SB,J5k];exact List.Perm.of_eq rfl
 ·show(List.foldr DataW.insert [] _).length=_;rw[length_sorted,SB];simp
theorem J2E(m:Nat):AnyZI.SortsIn prog Q6W Fence.wide m:=
 ⟨fun blk off cap ss W hH hblk Be=>callsIn_wide.2 (AnyM.slices_Sort_int J2D blk off cap ss W hH hblk Be),
  fun p cap W=>callsIn_wide.2 (AnyM.slices_Sort_int_none J2D p cap W)⟩
def IdsQ(w:World)(q:QT)(e:Ending)(w':World):Prop:=
 ∃v,e=.returned v/\w'.ownsRow w.heap.size 3 1 v q.E.length (((q.E.map (·.id)).mergeSort leI).map encZ)/\Below w.heap.size w w'
theorem Z9U{w:World}{q:QT}(h:Sep w q.hl)(Be:q.E.length<=1000)(hid:∀e∈q.E,0<=e.id/\e.id<1048576) :
  Calls prog 18 #[ptr q.t] w (IdsQ w q):=by
 have hl:(kvs q.E).length=q.E.length:=by simp[kvs]
 obtain⟨D,Af,BB,hD⟩:=Z1w (QT.map h) (k:=3) underlying3 (by rw[hl];unfold maxLen;omega) (by
  intro p hp;obtain⟨e,he,rfl⟩:=J3h.1 hp;have:=hid e he;have h1:IntKind.i64.min = -9223372036854775808:=rfl;have h2:IntKind.i64.max=9223372036854775807:=rfl;simp only[Lit.wf,J3x,decide_eq_true_eq,h1,h2];omega)
 have Gg:(intKeys D).Perm (q.E.map (·.id)):=by
  unfold kvs at BB;rw[J5k] at BB;exact BB
 have c0:=QT.c0 h;have CS:=Af.lt;have LI:SeqGives Fence.wide 2 prog 141 #[.pointer (some ⟨w.heap.size,0,none⟩)] encZ (fun ss=>ss.Perm (intKeys D)) (Maps.size D) (w.alloc (.cells #[.map (some q.m)] 148)):=
  AnyZI.keys_gives (ρ:=Z0m) {J2C with} Fence.wide _ trivial rfl (by omega) w.heap.size q.m (kvs q.E).length D _ (by simp) (by simp) (by
   obtain⟨es,Ah,hb,Ft,hs,hD⟩:=Af;exact⟨es,Ah,(Below.heap_alloc _ _ q.m CS).trans hb,Ft,hs,hD⟩)
 have cK:∀mb W,Calls prog 75 #[.map mb] W fun e w'=>e=.returned (.func (.func 141) #[] #[.pointer (some ⟨W.heap.size,0,none⟩)])/\w'=W.alloc (.cells #[.map mb] 148):=fun mb W=>(callsIn_wide (n:=5)).1 (AnyZI.keys_in J2C Fence.wide 5 trivial rfl mb W)
 have cS:=AnyZI.sorted_in J1K Fence.wide 5 trivial trivial trivial trivial rfl (by omega) (J2E _) (enters_of func140 (by kernel_rfl) rfl) 141 #[.pointer (some ⟨w.heap.size,0,none⟩)] trivial (enters_of func141 (by kernel_rfl) rfl) _ _ (by rw[hD,hl];unfold maxLen;omega) (by rw[hD,hl];omega) _ LI
 change CallsIn _ _ prog 74 _ _ _ at cS
 have cS:=callsIn_wide.1 cS;have AS:∀e w',(∃(v:Value) (ss:List Int),e=.returned v/\ss.Perm (intKeys D) /\
   w'.ownsRow (w.alloc (.cells #[.map (some q.m)] 148)).heap.size 3 1 v ss.length ((ss.mergeSort (fun x y=>decide (x<=y))).map encZ)/\(v=.slice none 0 0↔ss=[])/\Below (w.alloc (.cells #[.map (some q.m)] 148)).heap.size (w.alloc (.cells #[.map (some q.m)] 148)) w')->IdsQ w q e w':=by
  rintro e w'⟨v,ss,rfl,hS,Au,_,hb⟩;have hp:=hS.trans Gg;rw[mergeSort_of_perm_i hp,show ss.length=q.E.length by simpa using hp.length_eq] at Au;exact⟨v,rfl,ownsRow_base_a Au (by simp),((Below.refl _ w).alloc (J3b _) _).trans (hb.mono (by simp))⟩
 have HF:=Q0a AS;generalize hQ:IdsQ w q=Q at *
 clear h hid Af BB Gg LI hD AS hQ hl Be;unfold ptr at *
 go_enter func18,ntmps18;go_wp2_with (first
  | (go_at_call 75;refine(cK _ _).mono ?_;rintro e w'⟨rfl,rfl⟩)
  | (go_at_call 74;refine cS.mono ?_;intro e w' Aj;have HR:=Q0a Aj;obtain⟨v,ss,rfl,hS,Au,BT,hb⟩:=Aj;clear hS Au BT hb))
 exact HF.out _ _ HR.out
end Go.Proofs.YtfidemmgofcnmaaGreatDoor
namespace Go.Proofs.YtfidemmgofcnmaaGreatDoor
open Go.RowKit Go.Proofs.Tryz
structure FlS(H:HL)(LV:List Nat)(va:Option Addr)(ids:List Int)(ia:Option Addr)(F:List (Nat×Nat))(fa:Option Addr)(w wr:World):Prop where
 st:Step [] H w wr
 va:Aside H LV va wr
 ia:AsideV H (ids.map encZ) ia wr
 fa:AsideB H F fa wr
theorem FlS.step{H H':HL}{LV:List Nat}{va:Option Addr}{ids:List Int}{ia:Option Addr}{F:List (Nat×Nat)}{fa:Option Addr}{w wr w':World}(h:FlS H LV va ids ia F fa w wr)(st:Step H H' wr w'):FlS H' LV va ids ia F fa w w':=
 ⟨h.st.trans st,h.va.step st,h.ia.step st,h.fa.step st⟩
theorem FlS.grown{H:HL}{LV:List Nat}{va:Option Addr}{ids:List Int}{ia:Option Addr}{F:List (Nat×Nat)}{fa:Option Addr}{w wr w':World}(h:FlS H LV va ids ia F fa w wr)(hb:Below wr.heap.size wr w'):FlS H LV va ids ia F fa w w':=h.step (h.st.sep.grown hb)
structure FreeIs(S:CO)(F:List (Nat×Nat)):Prop where
 perm:F.Perm (Q1x (fre (uOf S.P.d.ps) S.P.d.top) S.P.d.top (S.P.d.top+1))
 sort:F.Pairwise (fun a b=>a.1<=b.1)
 len:F.length<=33554432
theorem Z7G{S:CO}{fr:List Nat}{N K:Nat}{H:HL}{wr:World}(hs:Sep wr H)(h:Sep wr S.hl)(ok:S.Ok fr N K):Calls prog 17 #[.pointer (some ⟨S.P.d.b,0,none⟩)] wr fun r w'=>∃(a:Option Addr) (cap:Nat) (F:List (Nat×Nat)),r=.returned (.slice a F.length cap)/\FreeIs S F/\Below wr.heap.size wr w'/\AsideB H F a w':=by
 refine(Z7E (PL.sD (CO.sP h)) ok.inv.mem.pool.d.is).mono ?_;intro r w' hr;obtain⟨a,cap,L,rfl,hp,BY,hb,Jr,hn⟩:=hr.reads;refine⟨a,cap,L,rfl,⟨hp,BY,?_⟩,hb,fun j x hj=>?_⟩
 ·rw[hp.length_eq];have ht:=ok.inv.mem.pool.d.is.top;have:=Q3Q (fre (uOf S.P.d.ps) S.P.d.top) S.P.d.top ht (S.P.d.top+1);omega
 ·obtain⟨g,h1,h2,h3,h4⟩:=Jr j x hj;refine⟨g,h1,fun hk=>?_,h2,h3,h4⟩;have:wr.heap.size<=g:=hn _ h1;have:=hs.lt hk;omega
def Q1W(E:List (En Fa))(id:Int):Int:=match find E id with
 | some e=>e.q.charged+e.q.given
 | none=>0
theorem J0l{S:CO}{fr:List Nat}{N K:Nat}{wr:World}(h:Sep wr S.hl)(ok:S.Ok fr N K)(id:Int):Calls prog 19 #[.pointer (some ⟨S.P.q.t,0,none⟩),.int .i64 id] wr (Told wr (.int .i64 (Q1W S.P.q.E id))):=by
 unfold Q1W;cases hf:find S.P.q.E id with
 | some e=>exact Q8S (PL.sQ (CO.sP h)) ok.inv.mem.pool.q hf
 | none =>
  refine(Z5m (PL.sQ (CO.sP h)) hf).mono ?_;rintro r w'⟨rfl,rfl⟩;exact⟨rfl,Below.refl _ _⟩
theorem Z2H{S:CO}{fr:List Nat}{N K:Nat}(ok:S.Ok fr N K):S.P.q.E.length<=256:=by
 have h:=ok.inv.tre.ids.length_eq;rw[J4L] at h;have h2:(Q7w S.l).length<=S.l.length:=J3p _ _;rw[ok.inv.len] at h2;omega
def Q5z(E:List (En Fa)):List Int:=(E.map (·.id)).mergeSort leI
theorem Z0n(E:List (En Fa)):(Q5z E).length=E.length:=by unfold Q5z;rw[List.length_mergeSort,J4L]
theorem J2F{S:CO}{fr:List Nat}{N K:Nat}{H:HL}{wr:World}(hs:Sep wr H)(h:Sep wr S.hl)(ok:S.Ok fr N K):Calls prog 18 #[.pointer (some ⟨S.P.q.t,0,none⟩)] wr fun r w'=>∃(a:Option Addr) (cap:Nat),r=.returned (.slice a (Q5z S.P.q.E).length cap)/\Below wr.heap.size wr w'/\AsideV H ((Q5z S.P.q.E).map encZ) a w':=by
 have hq:=ok.inv.mem.pool.q;refine(Z9U (PL.sQ (CO.sP h)) (by have:=Z2H ok;omega) (fun e he=>?_)).mono ?_
 ·have hf:=Q2V hq.ids he;have:=hq.fa _ _ hf;have:=hq.next1;omega
 ·rintro r w'⟨v,rfl,Au,hb⟩;obtain⟨a,cap,rfl,ha⟩:=Q5k hs Au;rw[Z0n];exact⟨a,cap,rfl,hb,ha⟩
end Go.Proofs.YtfidemmgofcnmaaGreatDoor

/- SpaceRights returns true at every input. No condition. Part of its proof. -/
import Derived.Test.YtlakjlmaboioiaaGreatDoorSr01
import Derived.Test.YtlakjlmaboioiaaGreatDoorSr22
import Derived.Test.YtlakjlmaboioiaaGreatDoorSr19
import Derived.Test.YtlakjlmaboioiaaGreatDoorSr18
import Derived.Test.YtlakjlmaboioiaaGreatDoorSr15
set_option maxHeartbeats 8000000
set_option maxRecDepth 100000
set_option linter.unusedVariables false
namespace Go.Proofs.YtlakjlmaboioiaaGreatDoor
open Go.RowKit Go.Proofs.Tryz
theorem Q5E {w w1:World} {o:Obj} (hb:Below (w.alloc o).heap.size (w.alloc o) w1) {i:Nat} {v:Value} (hv:(w.alloc o).cell? ⟨w.heap.size,i,none⟩=some v):w1.cell? ⟨w.heap.size,i,none⟩=some v:=
 (World.cell?_of_block (w:=w.alloc o) (hb.block _ (by simp))).trans hv
theorem Z0w {w:World} {S:CO} (h:Sep w S.hl) (lok:LOk S.l) (hf:∀p∈S.l,p.st≠0) (own n a:Nat) (lim:Int) (e:En Fa) :
  Calls prog 70 #[.pointer (some ⟨S.c,0,none⟩),.agg #[.int .i64 n,.int .i64 a,.int .i64 own],.int .i64 lim] w (Q3p S own n a lim e w):=by
 have s0:=h.alloc (.cells #[.int .i64 n,.int .i64 a,.int .i64 own] 69);have c1:=CO.c1 s0;have hr:=Q6f (h:=S.ht) (CO.sT s0) lok;rw [show allL S.ht.l 0=[] from empty_iff.2 hf] at hr;have HR:Hid (∀w1,Below (w.alloc (.cells #[.int .i64 n,.int .i64 a,.int .i64 own] 69)).heap.size (w.alloc (.cells #[.int .i64 n,.int .i64 a,.int .i64 own] 69)) w1->Q3p S own n a lim e w (.returned (.int .i64 11)) w1):=fun w1 hb=>.inl ⟨hf,rfl,h.grown (Q0e hb)⟩
 generalize Q3p S own n a lim e w=Q at *
 unfold CO.ht at hr;clear h lok hf s0;go_enter func70,ntmps70;go_wp2_with fail;refine hr.mono ?_;rintro r w1 ⟨rfl,hb⟩;have HX:=Q0a (HR.out w1 hb);clear hb;go_wp2_with fail
 first|exact HX.out|(go_ret;exact HX.out)
theorem Z6d {l:List Pl} (hfst:∃i p,Fst l i p):(allL l 0).length≠0:=fun h=>by
 obtain⟨i,p,h1,h2,_⟩:=hfst;exact empty_iff.1 (J3N h) p (J3L h1) h2
theorem Z8j {w:World} {S:CO} (h:Sep w S.hl) (lok:LOk S.l) (hfst:∃i p,Fst S.l i p) (own n a:Nat) (lim:Int) (e:En Fa) (hn:n≠1) :
  Calls prog 70 #[.pointer (some ⟨S.c,0,none⟩),.agg #[.int .i64 n,.int .i64 a,.int .i64 own],.int .i64 lim] w (Q3p S own n a lim e w):=by
 have s0:=h.alloc (.cells #[.int .i64 n,.int .i64 a,.int .i64 own] 69);have hB:=Cells.new w 69 [.int .i64 n,.int .i64 a,.int .i64 own];have c1:=CO.c1 s0;have hr:=Q6f (h:=S.ht) (CO.sT s0) lok;have hm:=Z6d hfst;have HR:Hid (∀w1,Below (w.alloc (.cells #[.int .i64 n,.int .i64 a,.int .i64 own] 69)).heap.size (w.alloc (.cells #[.int .i64 n,.int .i64 a,.int .i64 own] 69)) w1->w1.cell? ⟨w.heap.size,0,none⟩=some (.int .i64 n)/\Q3p S own n a lim e w (.returned (.int .i64 0)) w1):=fun w1 hb=>⟨Q5E hb (hB.cell 0 _ rfl),.inr (.inl ⟨hfst,hn,rfl,h.grown (Q0e hb)⟩)⟩
 generalize Q3p S own n a lim e w=Q at *
 unfold CO.ht at hr;simp only at hr;generalize (allL S.l 0).length=m at *
 have hb1:(((m:Nat):Int)==0)=false:=by simp;omega
 have hb2:(((n:Nat):Int) != 1)=true:=by simp;omega
 have hb3:(((n:Nat):Int)==1)=false:=by simp;omega
 clear h lok hfst s0 hB hm hn;go_enter func70,ntmps70;go_wp2_with fail;refine hr.mono ?_;rintro r w1 ⟨rfl,hb⟩;obtain⟨e0,hx⟩:=HR.out w1 hb;have HX:=Q0a hx;clear hb hx;go_wp2_with fail
 first|exact HX.out|(go_ret;exact HX.out)
theorem Z8k {w:World} {S:CO} {fr:List Nat} (h:Sep w S.hl) (ok:S.P.Ok fr) (lok:LOk S.l) (hfst:∃i p,Fst S.l i p) {own a:Nat} {e:En Fa} (hf:find S.P.q.E own=some e) {lim:Int} (h0:0<=lim) (hn1:S.P.q.next+1<1048576) (ha:a%8=0) (hl:a+8<=S.P.a.mem.length) :
  Calls prog 70 #[.pointer (some ⟨S.c,0,none⟩),.agg #[.int .i64 1,.int .i64 a,.int .i64 own],.int .i64 lim] w (Q3p S own 1 a lim e w):=by
 have s0:=h.alloc (.cells #[.int .i64 1,.int .i64 a,.int .i64 own] 69);have hB:=Cells.new w 69 [.int .i64 1,.int .i64 a,.int .i64 own];have c1:=CO.c1 s0;have hr:=Q6f (h:=S.ht) (CO.sT s0) lok;have hm:=Z6d hfst;have HR:Hid (∀w1,Below (w.alloc (.cells #[.int .i64 1,.int .i64 a,.int .i64 own] 69)).heap.size (w.alloc (.cells #[.int .i64 1,.int .i64 a,.int .i64 own] 69)) w1 ->
   (w1.cell? ⟨w.heap.size,0,none⟩=some (.int .i64 1)/\w1.cell? ⟨w.heap.size,1,none⟩=some (.int .i64 a)/\w1.cell? ⟨w.heap.size,2,none⟩=some (.int .i64 own)/\w1.cell? ⟨S.c,0,none⟩=some (.pointer (some ⟨S.P.p,0,none⟩))/\w1.cell? ⟨S.P.p,0,none⟩=some (.pointer (some ⟨S.P.q.t,0,none⟩))/\w.heap.size<w1.heap.size) /\
   Calls prog 157 #[.pointer (some ⟨S.P.q.t,0,none⟩),.int .i64 own,.int .i64 lim] w1.drew fun r w2=>∃(x:Nat) (er:Int),r=.returned (.tuple #[.int .i64 x,.int .i64 er])/\x<1048576 /\
    (w2.cell? ⟨S.c,0,none⟩=some (.pointer (some ⟨S.P.p,0,none⟩))/\w2.cell? ⟨S.P.p,0,none⟩=some (.pointer (some ⟨S.P.q.t,0,none⟩))/\w2.cell? ⟨w.heap.size,1,none⟩=some (.int .i64 a)/\w2.cell? ⟨w.heap.size,2,none⟩=some (.int .i64 own)/\w.heap.size<w2.heap.size/\S.c<w2.heap.size) /\
    (Calls prog 155 #[.pointer (some ⟨S.P.p,0,none⟩)] w2.drew fun r w'=>r=.returned (.pointer (some ⟨S.P.a.a,0,none⟩))/\w2.drew=w') /\
    (Calls prog 155 #[.pointer (some ⟨S.P.p,0,none⟩)] (w2.alloc (.cells #[.int .u64 x] 171)).drew fun r w'=>r=.returned (.pointer (some ⟨S.P.a.a,0,none⟩))/\(w2.alloc (.cells #[.int .u64 x] 171)).drew=w') /\
    Calls prog 158 #[.pointer (some ⟨S.P.a.a,0,none⟩),.int .i64 a,.slice (some ⟨w2.heap.size,0,none⟩) 1 1] (w2.alloc (.cells #[.int .u64 x] 171)).drew fun r w3=>r=.returned (.int .i64 0)/\(w3.cell? ⟨S.c,0,none⟩=some (.pointer (some ⟨S.P.p,0,none⟩))/\w3.cell? ⟨w.heap.size,1,none⟩=some (.int .i64 a))/\Q3p S own 1 a lim e w (.returned (.int .i64 er)) w3):=fun w1 hb=>by
  have hb':=Q0e hb;have s1:=(h.grown hb').sep;have b1:=Q5E hb (hB.cell 1 _ rfl);have b2:=Q5E hb (hB.cell 2 _ rfl);have hlt:w.heap.size<w1.heap.size:=by have:=hb.size;rw [World.size_alloc] at this;omega
  refine⟨⟨Q5E hb (hB.cell 0 _ rfl),b1,b2,CO.c0 s1,PL.c0 (CO.sP s1),hlt⟩,?_⟩;refine Calls.mono (Z0v h hb'.drew ok hfst hf h0 hn1 ha hl) ?_;rintro r w2 ⟨x,er,rfl,hx,hs,hk,hall⟩;have hs':w1.heap.size<=w2.heap.size:=hs;have hcell:∀i v,w1.cell? ⟨w.heap.size,i,none⟩=some v->w2.cell? ⟨w.heap.size,i,none⟩=some v:=fun i v hv=>(World.cell?_of_block (w:=w1) (hk _ (J1x _) hlt)).trans hv
  obtain⟨a1,a2,a3,_⟩:=hall w2 (Below.refl _ _);obtain⟨_,_,d3,_⟩:=hall w2.drew (Below.refl _ _).drew;obtain⟨_,_,g3,g4⟩:=hall (w2.alloc (.cells #[.int .u64 x] 171)).drew ((Below.refl _ _).alloc (J1x _) _).drew;have hcl:S.c<w2.heap.size:=by
   have:=(CO.cells h).lt;have:=hb'.size;omega
  refine⟨x,er,rfl,hx,⟨a1,a2,hcell _ _ b1,hcell _ _ b2,by omega,hcl⟩,d3,g3,?_⟩;refine Calls.mono (g4 w2.heap.size ((Cells.new w2 171 [.int .u64 x]).cell 0 _ rfl) (J1x _) (by simp [World.drew])) ?_;rintro r w3 ⟨rfl,⟨k1,k2⟩,hx⟩;refine⟨rfl,⟨k1,?_⟩,hx⟩;refine (World.cell?_of_block (w:=(w2.alloc (.cells #[.int .u64 x] 171)).drew) (k2 _ (J1x _) (by simp [World.drew];omega))).trans ?_;exact Q0J (hcell _ _ b1)
 generalize Q3p S own 1 a lim e w=Q at *
 unfold CO.ht at hr;simp only at hr;generalize (allL S.l 0).length=m at *
 have hb1:(((m:Nat):Int)==0)=false:=by simp;omega
 clear h ok lok hfst s0 hB hm hf h0 hn1 ha hl;go_enter func70,ntmps70;go_wp2_with fail;refine hr.mono ?_;rintro r w1 ⟨rfl,hb⟩;obtain⟨⟨e0,e1,e2,e3,e4,hlt⟩,hcv⟩:=HR.out w1 hb;have f2:w1.drew.cell? ⟨w.heap.size,2,none⟩=some (.int .i64 own):=e2;have f3:w1.drew.cell? ⟨S.c,0,none⟩=some (.pointer (some ⟨S.P.p,0,none⟩)):=e3;have f4:w1.drew.cell? ⟨S.P.p,0,none⟩=some (.pointer (some ⟨S.P.q.t,0,none⟩)):=e4;clear hb hr c1;go_wp2_with fail
 go_region_held3 (fun w'=>w'.cell? ⟨S.c,0,none⟩=some (.pointer (some ⟨S.P.p,0,none⟩))/\w'.cell? ⟨S.P.p,0,none⟩=some (.pointer (some ⟨S.P.q.t,0,none⟩))/\w'.cell? ⟨w.heap.size,2,none⟩=some (.int .i64 own)) (first|exact⟨e3,e4,e2⟩|exact⟨f3,f4,f2⟩|exact⟨t0,t1,t3⟩)
  (first|(go_at_call 157;refine hcv.mono ?_;rintro r w2 ⟨x,er,rfl,hxl,⟨t0,t1,t2,t3,t4,t5⟩,hA1,hA2,hS⟩;have HS:=Q0a hS;clear hS))
 have hw:IntKind.u64.wrap (x:Int)=(x:Int):=Go.IntWalk.u64_in _ (by omega);have x0:w2.drew.cell? ⟨S.c,0,none⟩=some (.pointer (some ⟨S.P.p,0,none⟩)):=t0;have x1:w2.drew.cell? ⟨w.heap.size,1,none⟩=some (.int .i64 a):=t2;have y0:(w2.alloc (.cells #[.int .u64 x] 171)).drew.cell? ⟨S.c,0,none⟩=some (.pointer (some ⟨S.P.p,0,none⟩)):=Q0J t0;have y1:(w2.alloc (.cells #[.int .u64 x] 171)).drew.cell? ⟨w.heap.size,1,none⟩=some (.int .i64 a):=Q0J t2;clear e0 e1 e2 e3 e4 f2 f3 f4 hcv hlt;go_wp2_with fail
 go_region_held3 (fun w'=>w'.cell? ⟨S.c,0,none⟩=some (.pointer (some ⟨S.P.p,0,none⟩))/\w'.cell? ⟨w.heap.size,1,none⟩=some (.int .i64 a)) (first|exact⟨t0,t2⟩|exact⟨x0,x1⟩|exact⟨y0,y1⟩|exact⟨z0,z1⟩)
  (first|(go_at_call 155;refine hA1.mono ?_;rintro r w' ⟨rfl,rfl⟩)|(go_at_call 155;refine hA2.mono ?_;rintro r w' ⟨rfl,rfl⟩)|(go_at_call 158;refine HS.out.mono ?_;rintro r w3 ⟨rfl,⟨z0,z1⟩,hx⟩;have HX:=Q0a hx;clear hx))
 all_goals
  go_wp2_with fail
  first|exact HX.out|(go_ret;exact HX.out)
theorem Z3f {w:World} {S:CO} {fr:List Nat} (h:Sep w S.hl) (ok:S.P.Ok fr) (lok:LOk S.l) {own n a:Nat} {e:En Fa} (hf:find S.P.q.E own=some e) {lim:Int} (hn1:S.P.q.next+1<1048576) (h1:n=1->0<=lim/\a%8=0/\a+8<=S.P.a.mem.length) :
  Calls prog 70 #[.pointer (some ⟨S.c,0,none⟩),.agg #[.int .i64 n,.int .i64 a,.int .i64 own],.int .i64 lim] w (Q3p S own n a lim e w):=by
 rcases Z7N S.l with hno|hfst
 ·exact Z0w h lok hno own n a lim e
 ·by_cases hn:n=1
  ·subst hn;obtain⟨k1,k2,k3⟩:=h1 rfl;exact Z8k h ok lok hfst hf k1 hn1 k2 k3
  ·exact Z8j h lok hfst own n a lim e hn
theorem Z3g {w w1:World} {S:CO} {fr:List Nat} {N K:Nat} (h:Sep w S.hl) (hb:Below w.heap.size w w1) (ok:S.Ok fr N K) (hN:N+1<1048576) {x:Nat} {f:Pl} (hf:pget S.l 1 x=some f) (hfk:f.kind=1) {n:Nat} (hn:n=8∨1<=n/\n<=5) {lim:Int} (hlim:n=1->0<=lim) :
  Calls prog 69 #[.pointer (some ⟨S.c,0,none⟩),.int .i64 (f.own:Int),.int .i64 n] w1 fun r w2 =>
   (∃er:Int,er≠0/\r=.returned (.tuple #[.int .i64 0,.int .i64 er])/\MakeR S fr x n lim w (.returned (.tuple #[.int .u32 0,.int .i64 er])) w2) ∨
   ∃a:Nat,r=.returned (.tuple #[.int .i64 a,.int .i64 0])/\∀w3,Below w2.heap.size w2 w3 ->
    Calls prog 70 #[.pointer (some ⟨S.c,0,none⟩),.agg #[.int .i64 n,.int .i64 a,.int .i64 (f.own:Int)],.int .i64 lim] w3 fun r w4=>(∀b,w2.heap.size<=b->b<w3.heap.size->w4.heap[b]?=w3.heap[b]?)/\w3.heap.size<=w4.heap.size /\
     ((∃er:Int,er≠0/\r=.returned (.int .i64 er)/\Calls prog 71 #[.pointer (some ⟨S.c,0,none⟩),.agg #[.int .i64 n,.int .i64 a,.int .i64 (f.own:Int)]] w4 fun r w5=>r=.returned (.tuple #[])/\MakeR S fr x n lim w (.returned (.tuple #[.int .u32 0,.int .i64 er])) w5) ∨
      (r=.returned (.int .i64 0)/\w4.cell? ⟨S.c,1,none⟩=some (.pointer (some ⟨S.t,0,none⟩))/\Calls prog 66 #[.pointer (some ⟨S.t,0,none⟩),.agg #[.int .i64 n,.int .i64 a,.int .i64 (f.own:Int)]] w4.drew fun r w5=>∃y:Nat,r=.returned (.tuple #[.int .u32 y,.int .i64 0])/\w5.cell? ⟨S.c,1,none⟩=some (.pointer (some ⟨S.t,0,none⟩))/\(∀b,w2.heap.size<=b->b<w4.heap.size->w5.heap[b]?=w4.heap[b]?)/\MakeR S fr x n lim w (.returned (.tuple #[.int .u32 y,.int .i64 0])) w5)):=by
 obtain⟨e,he⟩:=ok.inv.tre.acc (Q0y hf) (Pl.is_iff.2 (.inl (pget_some.1 hf).2.2)) hfk;have s1:=h.grown hb;have hpool:=ok.inv.mem.pool;have hlok:=ok.inv.lok;have hnx0:=ok.next;have hwrap:∀(r:Ending) (w':World),J0K S fr f e n lim w r w'->MakeR S fr x n lim w r w':=fun r w' hk=>.inr ⟨f,hf,.inr (.inr ⟨n,e,rfl,hfk,hn,hlim,he,hk⟩)⟩
 refine Calls.mono (Z8i s1.sep hpool he (by omega)) ?_;rintro r w2 (⟨hq,rfl,st⟩|⟨hq,hnp,rfl,st⟩|⟨a,P',fr',hq,g,rfl,st⟩)
 ·exact .inl ⟨5,by decide,rfl,hwrap _ _ (.inl ⟨hq,rfl,s1.trans st⟩)⟩
 ·exact .inl ⟨4,by decide,rfl,hwrap _ _ (.inr (.inl ⟨hq,hnp,rfl,s1.trans st⟩))⟩
 ·refine .inr ⟨a,rfl,fun w3 hb3=>?_⟩;have s2:=s1.trans st;have s3:=s2.sep.grown hb3;have s23:=s2.trans s3;obtain⟨hacc,hE,hnx,hElen⟩:=g.acc he;have hroom:=g.room.1;have hlen:=g.same.len;have key:∀{H':HL} {w4:World},Step (S.setP P').hl H' w3 w4->(∀b,w2.heap.size<=b->b<w3.heap.size->w4.heap[b]?=w3.heap[b]?)/\w3.heap.size<=w4.heap.size:=fun st4=>⟨fun b h1 h2=>st4.chg.block b h2 (fun hk=>by have:=s2.sep.lt hk;omega),st4.chg.size⟩
  have hput:∀{w4:World} (er:Int),er≠0->Step (S.setP P').hl (S.setP P').hl w3 w4->((er=11/\((∀p∈S.l,p.st≠0)∨n=1/\S.P.q.E.length=32))∨(er=5/\n=1/\Q0v e-64<lim)) ->
    Calls prog 71 #[.pointer (some ⟨S.c,0,none⟩),.agg #[.int .i64 n,.int .i64 a,.int .i64 (f.own:Int)]] w4 fun r w5=>r=.returned (.tuple #[])/\MakeR S fr x n lim w (.returned (.tuple #[.int .u32 0,.int .i64 er])) w5:=fun {w4} er her st4 hc=>by
   refine Calls.mono (Q7Z st4.sep g.ok (g.held hpool he)) ?_;rintro r w5 ⟨rfl,P2,fr2,bk,st5⟩;have ht:=g.back ok.inv.mem bk;exact⟨rfl,hwrap _ _ (.inr (.inr (.inl ⟨hq,er,P2,hc,ht,rfl,(s23.trans st4).trans st5⟩)))⟩
  have hadd:∀{w4:World} {P2:PL} {i:Nat} {p:Pl} {y:Nat},Fst S.l i p->Step (S.setP P').hl (S.setP P2).hl w3 w4->MadeOk S fr f e n a lim y i p P2 fr' ->
    w4.cell? ⟨S.c,1,none⟩=some (.pointer (some ⟨S.t,0,none⟩))/\Calls prog 66 #[.pointer (some ⟨S.t,0,none⟩),.agg #[.int .i64 n,.int .i64 a,.int .i64 (f.own:Int)]] w4.drew fun r w5=>∃y:Nat,r=.returned (.tuple #[.int .u32 y,.int .i64 0])/\w5.cell? ⟨S.c,1,none⟩=some (.pointer (some ⟨S.t,0,none⟩))/\(∀b,w2.heap.size<=b->b<w4.heap.size->w5.heap[b]?=w4.heap[b]?)/\MakeR S fr x n lim w (.returned (.tuple #[.int .u32 y,.int .i64 0])) w5:=fun {w4 P2 i p y} hi st4 hm=>by
   have s4:=s3.trans st4;refine⟨CO.c1 (S:=S.setP P2) s4.sep,?_⟩;refine Calls.mono (Z5v (h:=(S.setP P2).ht) (CO.sT s4.drew.sep) hlok hi n a f.own y) ?_;rintro r w5 ⟨rfl,st5⟩;have s5:=CO.stepL (S:=S.setP P2) s4.drew.sep _ st5;refine⟨nm i p,rfl,CO.c1 (S:=(S.setP P2).setL _) s5.sep,fun b h1 h2=>?_,hwrap _ _ (.inr (.inr (.inr ⟨i,p,a,y,P2,fr',hi.1,hi.2.1,hi.2.2,hq,rfl,hm,(s2.trans s4.drew).trans s5⟩)))⟩;have h12:∀k∈keys (S.setP P2).hl,k<w2.heap.size∨w3.heap.size<=k:=fun k hk=>by
    rcases st4.new k hk with h'|h'
    ·exact .inl (s2.sep.lt h')
    ·exact .inr h'
   exact st5.chg.block b h2 (fun hk=>by
    have hlt:=(CO.sT (S:=S.setP P') s2.sep).lt (b:=b) hk;omega)
  refine Calls.mono (Z3f (S:=S.setP P') s3.sep g.ok hlok hacc (by show P'.q.next+1<_;rw [hnx];omega) (fun h1=>?_)) ?_
  ·subst h1;have hm:a∈P'.usedOf 1:=(g.used (by decide)).mem_iff.2 (by simp);have h64:costK 1=64:=rfl;rw [h64] at hroom;exact⟨hlim rfl,Q2m g.ok hm,by show a+8<=P'.a.mem.length;rw [hlen];omega⟩
  ·rintro r w4 (⟨hfull,rfl,st4⟩|⟨⟨i,p,hi⟩,hn1,rfl,st4⟩|⟨⟨i,p,hi⟩,hn1,⟨er,hc,rfl⟩,st4⟩|⟨⟨i,p,hi⟩,hn1,hle,rfl,b,st4⟩)
   ·exact⟨(key st4).1,(key st4).2,.inl ⟨11,by decide,rfl,hput 11 (by decide) st4 (.inl ⟨rfl,.inl hfull⟩)⟩⟩
   ·obtain⟨c1,hp⟩:=hadd hi st4 (J0U ok hf hfk (by omega) he g hi);exact⟨(key st4).1,(key st4).2,.inr ⟨rfl,c1,hp⟩⟩
   ·subst hn1;have h64:costK 1=64:=rfl;have hmem:=g.mem;rw [h64] at hroom hmem;have hsame:P'.setA (put_ P'.a.mem a (Q0d 0))=P':=by
     have:put_ P'.a.mem a (Q0d 0)=P'.a.mem:=by
      rw [hmem];exact Z8h (by omega) hroom
     rw [this];rfl
    have st4':Step (S.setP P').hl (S.setP (P'.setA (put_ P'.a.mem a (Q0d 0)))).hl w3 w4:=st4;rw [hsame] at st4';have her:er≠0:=by rcases hc with ⟨rfl,_⟩|⟨rfl,_⟩ <;> decide
    have hle1:Q0v ({e with q:={e.q with charged:=e.q.charged+((costK 1:Nat):Int)}}:En Fa)=Q0v e-64:=by
     unfold Q0v;rw [h64];simp only;omega
    refine⟨(key st4').1,(key st4').2,.inl ⟨er,her,rfl,hput er her st4' ?_⟩⟩;rcases hc with ⟨rfl,hc⟩|⟨rfl,hc⟩
    ·exact .inr ⟨rfl,rfl,by rw [hle1] at hc;exact hc⟩
    ·exact .inl ⟨rfl,.inr ⟨rfl,by rw [<- hElen];exact hc⟩⟩
   ·subst hn1;have h64:costK 1=64:=rfl;have hle1:Q0v ({e with q:={e.q with charged:=e.q.charged+((costK 1:Nat):Int)}}:En Fa)=Q0v e-64:=by
     unfold Q0v;rw [h64];simp only;omega
    rw [hle1] at hle;have hm:=J0V (b:=b) (a:=a) ok hN hf hfk he (hlim rfl) hle g hi;have st4':Step (S.setP P').hl (S.setP ((P'.setQ (Q3S P'.q f.own {e with q:={e.q with charged:=e.q.charged+64}} b lim)).setA (put_ P'.a.mem a (Q0d S.P.q.next.toNat)))).hl w3 w4:=by
     rw [<- hnx];exact st4
    obtain⟨c1,hp⟩:=hadd hi st4' hm;exact⟨(key st4').1,(key st4').2,.inr ⟨rfl,c1,hp⟩⟩
theorem Q9t {w:World} {S:CO} {x:Nat} (k lim er:Int) (he:er≠0) (hO:Calls prog 67 #[.pointer (some ⟨S.c,0,none⟩),.int .u32 x] w (Told w (.tuple #[.int .i64 0,.int .i64 er]))) :
  Calls prog 16 #[.pointer (some ⟨S.c,0,none⟩),.int .u32 x,.int .i64 k,.int .i64 lim] w (Told w (.tuple #[.int .u32 0,.int .i64 er])):=by
 have hb1:(er==0)=false:=by simpa using he
 have hb2:(er != 0)=true:=by simpa using he
 go_enter func16,ntmps16;go_wp2_with fail;refine hO.mono ?_;rintro r w1 ⟨rfl,hb⟩;have HB:Hid (Told w (.tuple #[.int .u32 0,.int .i64 er]) (.returned (.tuple #[.int .u32 0,.int .i64 er])) w1):=⟨rfl,hb⟩
 clear hb;go_wp2_with fail
 first|exact HB.out|(go_ret2;exact HB.out)
theorem Z6e {w:World} {S:CO} {x:Nat} (own:Nat) (k lim:Int) (hk:¬(k=8∨1<=k/\k<=5)∨k=1/\lim<0) (hO:Calls prog 67 #[.pointer (some ⟨S.c,0,none⟩),.int .u32 x] w (Told w (.tuple #[.int .i64 own,.int .i64 0]))) :
  Calls prog 16 #[.pointer (some ⟨S.c,0,none⟩),.int .u32 x,.int .i64 k,.int .i64 lim] w (Told w (.tuple #[.int .u32 0,.int .i64 1])):=by
 have HM:Hid (∀w1,Below w.heap.size w w1->Calls prog 68 #[.int .i64 k] w1 (fun r w'=>r=.returned (.bool (decide (k=8∨1<=k/\k<=5)))/\w1=w')/\Told w (.tuple #[.int .u32 0,.int .i64 1]) (.returned (.tuple #[.int .u32 0,.int .i64 1])) w1):=fun w1 hb=>⟨Z1G w1 k,rfl,hb⟩
 have hcase:decide (k=8∨1<=k/\k<=5)=false∨decide (k=8∨1<=k/\k<=5)=true/\k=1/\lim<0:=by
  by_cases hm:k=8∨1<=k/\k<=5
  ·rcases hk with hk|hk
   ·exact absurd hm hk
   ·exact .inr ⟨by rw [decide_eq_true_eq];exact hm,hk⟩
  ·exact .inl (by rw [decide_eq_false_iff_not];exact hm)
 clear hk;generalize decide (k=8∨1<=k/\k<=5)=m at *
 rcases hcase with rfl|⟨rfl,rfl,hl⟩
 all_goals
  go_enter func16,ntmps16;go_wp2_with fail;refine hO.mono ?_;rintro r w1 ⟨rfl,hb⟩;obtain⟨hmay,hx⟩:=HM.out w1 hb;have HX:=Q0a hx;clear hb hx hO;go_wp2_with fail;refine hmay.mono ?_;rintro r w2 ⟨rfl,rfl⟩;clear hmay;go_wp2_with fail
  first|exact HX.out|(go_ret2;exact HX.out)
theorem Z3h {w:World} {S:CO} {fr:List Nat} {N K:Nat} (h:Sep w S.hl) (ok:S.Ok fr N K) (hN:N+1<1048576) {x:Nat} (hx:x<4294967296) {f:Pl} (hf:pget S.l 1 x=some f) (hfk:f.kind=1) {n:Nat} (hn:n=8∨1<=n/\n<=5) {lim:Int} (hlim:n=1->0<=lim) :
  Calls prog 16 #[.pointer (some ⟨S.c,0,none⟩),.int .u32 x,.int .i64 n,.int .i64 lim] w (MakeR S fr x n lim w):=by
 have hO:=Q6g h ok hx hf hfk;have HC:Hid (∀w1,Below w.heap.size w w1->_):=fun w1 hb=>Z3g (w1:=w1) h hb ok hN hf hfk hn hlim
 have HM:Hid (∀w1,Calls prog 68 #[.int .i64 n] w1 (fun r w'=>r=.returned (.bool true)/\w1=w')):=fun w1=>by
  have:=Z1G w1 (n:Int);rw [show decide ((n:Int)=8∨1<=(n:Int)/\(n:Int)<=5)=true by rw [decide_eq_true_eq];omega] at this;exact this
 have hcase:(n:Int)=1/\0<=lim∨((n:Int)==1)=false:=by
  by_cases h1:n=1
  ·exact .inl ⟨by omega,hlim h1⟩
  ·exact .inr (by simp;omega)
 generalize MakeR S fr x n lim w=Q at *
 generalize f.own=own at *
 clear h ok hN hf hfk hn hlim;generalize (n:Int)=nz at *
 rcases hcase with ⟨rfl,h0⟩|h0
 all_goals
  go_enter func16,ntmps16;go_wp2_with fail;refine hO.mono ?_;rintro r w1 ⟨rfl,hb⟩;have hc:=HC.out w1 hb;have hmay:=HM.out w1;clear hb hO HC HM;go_wp2_with fail;refine hmay.mono ?_;rintro r w2 ⟨rfl,rfl⟩;clear hmay;go_wp2_with fail;refine hc.mono ?_;rintro r w2 (⟨er,her,rfl,hx⟩|⟨a,rfl,hx⟩)
  ·have HX:=Q0a hx;have hb1:(er==0)=false:=by simpa using her
   have hb2:(er != 0)=true:=by simpa using her
   clear hx hc her;go_wp2_with fail
   first|exact HX.out|(go_ret2;exact HX.out)
  ·have HX:=Q0a hx;clear hx hc;go_wp2_with fail;refine (HX.out _ ((Below.refl _ _).alloc (J1x _) _)).mono ?_;rintro r w4 ⟨hk,hsz,hx⟩;have hB:∀i v,(w2.alloc (.cells #[.int .i64 _,.int .i64 a,.int .i64 own] 69)).cell? ⟨w2.heap.size,i,none⟩=some v->w4.cell? ⟨w2.heap.size,i,none⟩=some v:=fun i v hv=>(World.cell?_of_block (hk _ (J1x _) (by simp))).trans hv
   have e0:=hB 0 _ ((Cells.new w2 69 [.int .i64 _,.int .i64 a,.int .i64 own]).cell 0 _ rfl);have e1:=hB 1 _ ((Cells.new w2 69 [.int .i64 _,.int .i64 a,.int .i64 own]).cell 1 _ rfl);have e2:=hB 2 _ ((Cells.new w2 69 [.int .i64 _,.int .i64 a,.int .i64 own]).cell 2 _ rfl);have hlt:w2.heap.size<w4.heap.size:=by rw [World.size_alloc] at hsz;omega
   clear hk hsz hB HX;rcases hx with ⟨er,her,rfl,hx⟩|⟨rfl,c1,hx⟩
   ·have HX:=Q0a hx;have hb1:(er==0)=false:=by simpa using her
    have hb2:(er != 0)=true:=by simpa using her
    clear hx her;go_wp2_with fail;refine HX.out.mono ?_;rintro r w5 ⟨rfl,hx⟩;have HY:=Q0a hx;clear hx HX;go_wp2_with fail
    first|exact HY.out|(go_ret2;exact HY.out)
   ·have HX:=Q0a hx;have x1:w4.drew.cell? ⟨S.c,1,none⟩=some (.pointer (some ⟨S.t,0,none⟩)):=c1;have f0:w4.drew.cell? ⟨w2.heap.size,0,none⟩=_:=e0;have f1:w4.drew.cell? ⟨w2.heap.size,1,none⟩=_:=e1;have f2:w4.drew.cell? ⟨w2.heap.size,2,none⟩=_:=e2;clear hx;go_wp2_with fail
    go_region_held3 (fun w'=>w'.cell? ⟨S.c,1,none⟩=some (.pointer (some ⟨S.t,0,none⟩))/\w'.cell? ⟨w2.heap.size,0,none⟩=w4.cell? ⟨w2.heap.size,0,none⟩/\w'.cell? ⟨w2.heap.size,1,none⟩=some (.int .i64 a)/\w'.cell? ⟨w2.heap.size,2,none⟩=some (.int .i64 own)) (first|exact⟨c1,rfl,e1,e2⟩|exact⟨x1,rfl,f1,f2⟩|exact⟨t0,t1,t2,t3⟩)
     (first|(go_at_call 66;refine HX.out.mono ?_;rintro r w5 ⟨y,rfl,t0,tk,hx⟩;have t1:w5.cell? ⟨w2.heap.size,0,none⟩=w4.cell? ⟨w2.heap.size,0,none⟩:=World.cell?_of_block (tk _ (J1x _) hlt);have t2:=(World.cell?_of_block (w:=w4) (tk _ (J1x _) hlt)).trans e1;have t3:=(World.cell?_of_block (w:=w4) (tk _ (J1x _) hlt)).trans e2;have HY:=Q0a hx;clear hx tk))
    go_wp2_with fail
    first|exact HY.out|(go_ret2;exact HY.out)
theorem Q6w {w:World} {S:CO} {fr:List Nat} {N K:Nat} (h:Sep w S.hl) (ok:S.Ok fr N K) (hN:N+1<1048576) {x:Nat} (hx:x<4294967296) (k lim:Int) :
  Calls prog 16 #[.pointer (some ⟨S.c,0,none⟩),.int .u32 x,.int .i64 k,.int .i64 lim] w (MakeR S fr x k lim w):=by
 cases hp:pget S.l 1 x with
 | none =>
  refine (Q9t k lim 8 (by decide) (Q5C (by decide) (Q4F h ok.inv.lok hx 1 hp))).mono ?_;rintro r w' ⟨rfl,hb⟩;exact .inl ⟨hp,rfl,h.grown hb⟩
 | some f =>
  by_cases hk:f.kind=1
  ·have hO:=Q6g h ok hx hp hk;by_cases hbad:¬(k=8∨1<=k/\k<=5)∨k=1/\lim<0
   ·refine (Z6e f.own k lim hbad hO).mono ?_;rintro r w' ⟨rfl,hb⟩;exact .inr ⟨f,hp,.inr (.inl ⟨hk,hbad,rfl,h.grown hb⟩)⟩
   ·have hkn:∃n:Nat,k=(n:Int)/\(n=8∨1<=n/\n<=5)/\(n=1->0<=lim):=⟨k.toNat,by omega,by omega,by omega⟩
    obtain⟨n,rfl,h1,h2⟩:=hkn;exact Z3h h ok hN hx hp hk h1 h2
  ·refine (Q9t k lim 10 (by decide) (Q5C (by decide) (Q3j h ok.inv.lok hx 1 hp (by decide) (by omega)))).mono ?_;rintro r w' ⟨rfl,hb⟩;exact .inr ⟨f,hp,.inl ⟨hk,rfl,h.grown hb⟩⟩
structure GoneZ (Z Z':SP):Prop where
 s:Z'.s=Z.s
 f:Z'.F.f=Z.F.f
 c:Z'.S.c=Z.S.c
 per:Z'.S.period=Z.S.period
 same:SameP Z.S.P Z'.S.P
 root:pget Z'.S.l 1 0=pget Z.S.l 1 0
theorem GoneZ.refl (Z:SP):GoneZ Z Z:=⟨rfl,rfl,rfl,rfl,SameP.refl _,rfl⟩
theorem SameN.gone {Z Z':SP} (h:SameN Z Z'):GoneZ Z Z':=⟨h.s,h.f,h.alt.c,h.alt.per,h.alt.same,by rw [h.alt.l]⟩
theorem Q9u {l l':List Pl} (h:l'[0]?=l[0]?):pget l' 1 0=pget l 1 0:=by
 unfold pget;rw [show 0%256=0 from rfl,h]
theorem Went.gone {Z:SP} {S':CO} (h:Went Z.S S') (tb:Nat->TB):GoneZ Z (Z.setS S' tb):=⟨rfl,rfl,h.c,h.per,h.same,Q9u h.root⟩
theorem Alt.gone {Z:SP} {S':CO} {own:Int} (h:Alt Z.S S' own) (tb:Nat->TB):GoneZ Z (Z.setS S' tb):=⟨rfl,rfl,h.c,h.per,h.same,by show pget S'.l 1 0=_;rw [h.l]⟩
theorem Tried.alt {S:CO} {fr:List Nat} {P':PL} (h:Tried S.P fr S.l P') (own:Int):Alt S (S.setP P') own:=
 ⟨rfl,rfl,rfl,rfl,rfl,rfl,rfl,rfl,h.same,by show P'.q.next=_;rw [h.q],fun id e he=>⟨e,by show find P'.q.E id=_;rw [h.q];exact he,rfl,fun _=>rfl⟩,by show P'.q.E.map En.id=_;rw [h.q],fun r hr his _=>h.mem r hr his⟩
theorem MakeR.cases {S:CO} {fr:List Nat} {N K:Nat} (ok:S.Ok fr N K) {y:Nat} {k lim:Int} {w w':World} {r:Ending} (m:MakeR S fr y k lim w r w') :
  (∃(er:Int) (P':PL),er≠0/\r=two 0 er/\Tried S.P fr S.l P'/\Step S.hl (S.setP P').hl w w') ∨
  (∃(f:Pl) (n:Nat) (e:En Fa) (i:Nat) (q:Pl) (a v:Nat) (P':PL) (fr':List Nat),pget S.l 1 y=some f/\f.kind=1/\k=(n:Int)/\(n=8∨1<=n/\n<=5)/\find S.P.q.E f.own=some e/\S.l[i]?=some q/\q.st=0/\r=two (nm i q) 0/\MadeOk S fr f e n a lim v i q P' fr'/\Step S.hl (S.made f n a v i q P').hl w w'):=by
 have same:∀er:Int,er≠0->r=two 0 er->Step S.hl S.hl w w'->(∃(er:Int) (P':PL),er≠0/\r=two 0 er/\Tried S.P fr S.l P'/\Step S.hl (S.setP P').hl w w'):=fun er h1 h2 h3=>⟨er,S.P,h1,h2,Tried.refl ok.inv.mem.pool _,h3⟩
 rcases m with ⟨_,rfl,st⟩|⟨f,hf,⟨_,rfl,st⟩|⟨_,_,rfl,st⟩|⟨n,e,hn,hk,hn2,_,he,hm⟩⟩
 ·exact .inl (same 8 (by decide) rfl st)
 ·exact .inl (same 10 (by decide) rfl st)
 ·exact .inl (same 1 (by decide) rfl st)
 ·rcases hm with ⟨_,rfl,st⟩|⟨_,_,rfl,st⟩|⟨_,er,P',her,tr,rfl,st⟩|⟨i,q,a,v,P',fr',hi,hq,_,_,rfl,mk,st⟩
  ·exact .inl (same 5 (by decide) rfl st)
  ·exact .inl (same 4 (by decide) rfl st)
  ·refine .inl ⟨er,P',?_,rfl,tr,st⟩;rcases her with ⟨rfl,_⟩|⟨rfl,_⟩ <;> decide
  ·exact .inr ⟨f,n,e,i,q,a,v,P',fr',hf,hk,hn,hn2,he,hi,hq,rfl,mk,st⟩
theorem Q4K {Z Z1:SP} {g x f B:Nat} {w:World} (es:Z1.s=Z.s) (ec:Z1.S.c=Z.S.c) (ef:Z1.F.f=Z.F.f) (sep:Sep w Z1.hl) (bx:AsideV Z1.hl [.pointer (some ⟨g,0,none⟩),.int .u32 x,.int .i64 f] (some ⟨B,0,none⟩) w):Z5W Z g x f B w:=by
 have c0:=SP.c0 sep;have c1:=SP.c1 sep;rw [es,ec] at c0;rw [es,ef] at c1;exact⟨c0,c1,bx.at 0 _ rfl,bx.at 1 _ rfl,bx.at 2 _ rfl⟩
def MkR (Z:SP) (fr:List Nat) (N K:Nat) (M:Int) (x:Nat) (z k:Int) (w:World) (hh:Nat) (er:Int) (w':World):Prop:=
 (er≠0/\hh=0/\∃own,BackZ Z fr N K x own w w') ∨
 (er=0/\∃(Z':SP) (fr':List Nat) (s i:Nat) (q q':Pl),z=(s:Int)/\s<256/\Z.S.l[i]?=some q/\q.st=0/\hh=nm i q/\(q'.kind:Int)=k/\q'.st=1/\q'.age=q.age/\Z'.Ok fr' (N+1) K (M+1)/\GoneZ Z Z'/\Z'.S.l=Z.S.l.set i q'/\Z'.av.en=setA Z.av.en x s (some (hh,15))/\Step Z.hl Z'.hl w w')
section
variable {Z:SP} {fr:List Nat} {N K:Nat} {M:Int}
theorem Z6f (ok:Z.Ok fr N K M) {x s:Nat} {p:Pl} (hp:pget Z.S.l 1 x=some p) (hk:p.kind=2) (hs:s<256) (h0:(Z.tb (x%256)).en s=none) {S1 S2 S3:CO} {t1 t3:TB} {e1:Ent} {own:Int} (T1:TurnP Z.S fr N K Z.tb own (x%256) s (some e1) S1 t1) (al:Alt S1 S2 own)
  (T3:TurnP S2 fr N K (updT Z.tb (x%256) t1) own (x%256) s none S3 t3) {w w':World} (st:Step Z.hl (Z.setS S3 (updT Z.tb (x%256) t3)).hl w w'):BackZ Z fr N K x own w w':=by
 have hi:=(pget_some.1 hp).1;have h1:=(pget_some.1 hp).2.2;have al3:=(T1.alt.trans al).trans T3.alt;have hen:∀q,t3.en q=(Z.tb (x%256)).en q:=fun q=>by
  rw [T3.en,updT_same,T1.en];split
  ·rename_i e;rw [e,h0]
  ·rfl
 have htp:=T3.tpi;have lf1:∀q,q<16->(Z.tb (x%256)).lf q≠0->t1.lf q=(Z.tb (x%256)).lf q:=
  LaidP.lf_keep (own:=own) (S1:=Z.S) (t1:=Z.tb (x%256)) (J4D _ (by omega)) (ok.tpi.full _ (J4D _ (by omega))) hi h1 hk (by rw [Q1k];exact T1.tpi) T1.alt.l
   (fun q hq=>by
    rw [T1.en];split
    ·exact Option.some_ne_none _
    ·exact hq) (fun _ _ _=>rfl) (by rw [Q1k];exact T1.lf)
 have lf3:∀q,q<16->(Z.tb (x%256)).lf q≠0->t3.lf q=(Z.tb (x%256)).lf q:=
  LaidP.lf_keep (own:=own) (S1:=Z.S) (J4D _ (by omega)) (ok.tpi.full _ (J4D _ (by omega))) hi h1 hk htp al3.l (fun q hq=>by rw [hen];exact hq) lf1 T3.lf
 rw [Q1b] at htp;refine⟨S3,t3,T3.ok,htp,al3,fun q hq=>?_,hen,st⟩;by_cases hz:(Z.tb (x%256)).lf q=0
 ·rw [hz];refine Classical.byContradiction fun hne=>?_
  have hfl:=htp.full (x%256) (J4D _ (by omega));rw [updT_same] at hfl;obtain⟨r,hr,hrq,hre⟩:=hfl q hq hne;rw [hen r] at hre;exact hre ((ok.tpi.tin (x%256) p hi h1 hk).hole r hr (by rw [hrq];exact hz))
 ·exact lf3 q hq hz
theorem Z6g {w w5:World} (ok:Z.Ok fr N K M) (hN:N+1<1048576) (hM:M+1<1099511627776) {x y s g B nd:Nat} {p:Pl} (hx:x<4294967296) (hy:y<4294967296) (hp:pget Z.S.l 1 x=some p) (hk:p.kind=2) (hs:s<256) (h0:Q0f Z.S.l Z.tb x s=none) (k lim:Int) (hkz:k=8↔128<=s)
  {S1:CO} {t1:TB} (T1:TurnP Z.S fr N K Z.tb (p.fac:Int) (x%256) s (some ⟨0,15,nd⟩) S1 t1) (st:Step Z.hl (Z.setS S1 (updT Z.tb (x%256) t1)).hl w w5) (hg:TblZ (Z.setS S1 (updT Z.tb (x%256) t1)) p g w5)
  (bx:AsideV (Z.setS S1 (updT Z.tb (x%256) t1)).hl [.pointer (some ⟨g,0,none⟩),.int .u32 x,.int .i64 (p.fac:Int)] (some ⟨B,0,none⟩) w5) :
  Z1D Z g x p.fac B y (s:Int) k lim (fun hh er w'=>MkR Z fr N K M x (s:Int) k w hh er w') w5:=by
 have hi:=(pget_some.1 hp).1;have hst:=(pget_some.1 hp).2.2;have h0':(Z.tb (x%256)).en s=none:=by rw [<- Q0g hp hk hs];exact h0
 have hl1:=T1.alt.l;have he1:(updT Z.tb (x%256) t1 (x%256)).en s=some ⟨0,15,nd⟩:=by rw [updT_same,T1.en,if_pos rfl]
 have km:=Q6w (S:=S1) (SP.sS (Z:=Z.setS S1 (updT Z.tb (x%256) t1)) st.sep) T1.ok hN hy k lim;rw [T1.alt.c] at km;refine km.mono ?_;rintro rv w6 hm;rcases hm.cases T1.ok with ⟨er,P',hne,rfl,tr,st2⟩|⟨f,n,e,i,q,a,v,P',fr',hf,hfk,rfl,hn,he,hiq,hq,rfl,mk,st2⟩
 ·have al2:=tr.alt (S:=S1) (p.fac:Int);have hs2:Step (Z.setS S1 (updT Z.tb (x%256) t1)).hl (Z.setS (S1.setP P') (updT Z.tb (x%256) t1)).hl w5 w6:=SP.stepS st.sep (S1.setP P') (updT Z.tb (x%256) t1) rfl st2;have bx2:=bx.step hs2;have hg2:TblZ (Z.setS (S1.setP P') (updT Z.tb (x%256) t1)) p g w6:=hg.step hs2 tr.same.p;refine⟨0,er,rfl,Q4K (Z1:=Z.setS (S1.setP P') (updT Z.tb (x%256) t1)) rfl T1.alt.c rfl hs2.sep bx2,.inl ⟨hne,?_⟩⟩;refine (Q4I (Z:=Z.setS (S1.setP P') (updT Z.tb (x%256) t1)) (x:=x) hs2.sep (T1.ok.tried tr) (T1.tpi.tried T1.ok tr) (i:=x%256) (by show S1.l[x%256]?=_;rw [hl1];exact hi) hst hk hs he1 hg2).mono ?_
  rintro rv w7 ⟨rfl,S3,t3,T3,st3⟩;refine⟨rfl,.inl ⟨hne,rfl,_,Z6f ok hp hk hs h0' T1 al2 T3 ?_⟩⟩;have h3:=(st.trans hs2).trans st3;have e:((Z.setS (S1.setP P') (updT Z.tb (x%256) t1)).setS S3 (updT (updT Z.tb (x%256) t1) (x%256) t3))=Z.setS S3 (updT Z.tb (x%256) t3):=by rw [Q1b];rfl
  have h4:Step Z.hl ((Z.setS (S1.setP P') (updT Z.tb (x%256) t1)).setS S3 (updT (updT Z.tb (x%256) t1) (x%256) t3)).hl w w7:=h3
  rwa [e] at h4
 ·have ok2:=mk.ok T1.ok hiq;have tp2:=T1.tpi.made T1.ok mk hiq hq;have wn2:=mk.went T1.ok hiq hq;have hi256:=Q1o T1.ok.inv.len hiq;have hs2:Step (Z.setS S1 (updT Z.tb (x%256) t1)).hl (Z.setS (S1.made f n a v i q P') (updT Z.tb (x%256) t1)).hl w5 w6:=SP.stepS st.sep (S1.made f n a v i q P') (updT Z.tb (x%256) t1) rfl st2;have bx2:=bx.step hs2;have hg2:TblZ (Z.setS (S1.made f n a v i q P') (updT Z.tb (x%256) t1)) p g w6:=hg.step hs2 wn2.same.p;have hl2:(S1.made f n a v i q P').l=S1.l.set i ⟨n,a,f.own,1,q.age,v⟩:=rfl;have hp2:pget (S1.made f n a v i q P').l 1 x=some p:=by rw [hl2];exact Q9l hiq hq (by rw [hl1];exact hp)
  have hi2:=(pget_some.1 hp2).1;have hnew:pget (S1.made f n a v i q P').l 1 (nm i q)=some ⟨n,a,f.own,1,q.age,v⟩:=by
   rw [hl2,Q0z _ hiq,if_pos (Q1v hi256 q),if_pos ⟨rfl,rfl⟩]
  have hlow:nm i q<4294967295:=Q9j ok2.inv.lok hnew;have hcap:Q6E (S1.made f n a v i q P').l s ⟨nm i q,15,nd⟩:=⟨⟨_,hnew,by show n=8↔_;rw [<- hkz];omega⟩,by dsimp only;omega⟩
  have hh2:=Q4K (Z:=Z) (Z1:=Z.setS (S1.made f n a v i q P') (updT Z.tb (x%256) t1)) rfl T1.alt.c rfl hs2.sep bx2;refine⟨nm i q,0,rfl,hh2,.inr ⟨rfl,(⟨0,15,nd⟩:Ent).a,nd,(⟨nm i q,15,0⟩:Ent).a,?_,fun w8 hb8=>?_⟩⟩
  ·have T:=(tp2.x (p.fac:Int)).tt ok2 hi2 hst hk (SP.sS hs2.sep) hg2.c;refine (Q3F T (s:Int)).mono ?_;rintro rv w7 ⟨rfl,rfl⟩;refine⟨?_,rfl⟩;unfold getV TB.at';rw [if_pos (by omega),J2C,he1];rfl
  ·have st8:=hs2.sep.grown hb8;have bx8:=bx2.step st8;have hg8:=hg2.step st8 rfl;refine⟨Q4K (Z1:=Z.setS (S1.made f n a v i q P') (updT Z.tb (x%256) t1)) rfl T1.alt.c rfl st8.sep bx8,Q6l w8 (nm i q) 15 hlow (by omega),?_⟩;refine (Q7l (S:=S1.made f n a v i q P') (tb:=updT Z.tb (x%256) t1) ok2 tp2 hi2 hst hk hs (e2:=⟨nm i q,15,nd⟩) he1 rfl ⟨hlow,by show 15<16;omega⟩ (SP.sS st8.sep) hg8.c).mono ?_;rintro rv w9 ⟨rfl,S3,t3,T3,st9⟩;have hs9:Step (Z.setS (S1.made f n a v i q P') (updT Z.tb (x%256) t1)).hl (Z.setS S3 (updT (updT Z.tb (x%256) t1) (x%256) t3)).hl w8 w9:=SP.stepS st8.sep S3 (updT (updT Z.tb (x%256) t1) (x%256) t3) T3.alt.c st9
   have bx9:=bx8.step hs9;refine⟨⟨0,rfl⟩,Q4K (Z1:=Z.setS S3 (updT (updT Z.tb (x%256) t1) (x%256) t3)) rfl (T3.alt.c.trans T1.alt.c) rfl hs9.sep bx9,fun m=>?_⟩;have std:=hs9.trans (hs9.sep.grown (Q0Y (Below.refl w9.heap.size w9) m));have hall:=((st.trans hs2).trans st8).trans std;have hfew:Z.F.N.length<65536:=ok.fpi.few ok.fo.n hp hs h0;refine (Q7T (q:=Z.F) (SP.sF (Z:=Z.setS S3 (updT (updT Z.tb (x%256) t1) (x%256) t3)) std.sep) ok.fo (.inl rfl) (by omega) (by omega) (by omega) (by omega) (ok.fpi.free ok.fo.n h0) (by have:=ok.next;omega) hfew).mono ?_;rintro rv w' ⟨rfl,F',AF,stF⟩;refine⟨⟨_,_,rfl⟩,.inr ⟨rfl,?_⟩⟩
   obtain⟨okz,hen,-⟩:=ok.made_added hp hk hs h0 T1 mk hiq hq hcap T3 AF;have stZ:Step (Z.setS S3 (updT (updT Z.tb (x%256) t1) (x%256) t3)).hl ((Z.setF F').setS S3 (updT Z.tb (x%256) t3)).hl (w9.drewN m) w':=by
    have:=SP.stepF (Z:=Z.setS S3 (updT (updT Z.tb (x%256) t1) (x%256) t3)) std.sep F' AF.f stF;have e:((Z.setS S3 (updT (updT Z.tb (x%256) t1) (x%256) t3)).setF F')=(Z.setF F').setS S3 (updT Z.tb (x%256) t3):=by rw [Q1b];rfl
    rwa [e] at this
   refine⟨(Z.setF F').setS S3 (updT Z.tb (x%256) t3),fr',s,i,q,⟨n,a,f.own,1,q.age,v⟩,rfl,hs,by rw [<- hl1];exact hiq,hq,rfl,rfl,rfl,rfl,okz,⟨rfl,AF.f,(T3.alt.c.trans T1.alt.c),T3.alt.per.trans (wn2.per.trans T1.alt.per),(T1.alt.same.trans wn2.same).trans T3.alt.same,?_⟩,?_,hen,hall.trans stZ⟩
   ·show pget S3.l 1 0=_;rw [T3.alt.l,Q9u wn2.root,hl1]
   ·show S3.l=_;rw [T3.alt.l,hl2,hl1]
theorem Z6h {w:World} (hs:Sep w Z.hl) (ok:Z.Ok fr N K M) (hN:N+1<1048576) (hM:M+1<1099511627776) {x y:Nat} (hx:x<4294967296) (hy:y<4294967296) (z k lim:Int) :
  Calls prog 38 #[.pointer (some ⟨Z.s,0,none⟩),.int .u32 x,.int .i64 z,.int .u32 y,.int .i64 k,.int .i64 lim] w fun rv w'=>∃(hh:Nat) (er:Int),rv=.returned (.tuple #[.int .u32 hh,.int .i64 er])/\MkR Z fr N K M x z k w hh er w':=by
 have bad:∀(er:Int) (W:World),er≠0->Below w.heap.size w W->MkR Z fr N K M x z k w 0 er W:=fun er W he hb=>.inl ⟨he,rfl,0,BackZ.of 0 hs ok hb⟩
 cases hp:pget Z.S.l 1 x with
 | none =>
  refine (Q7p (y:=y) (z:=z) (k:=k) (lim:=lim) (e:=8) (by decide) (Q0I hs ok.core hx 8 (.inl ⟨hp,rfl⟩))).mono ?_;rintro rv w' ⟨rfl,hb⟩;exact⟨0,8,rfl,bad 8 _ (by decide) hb⟩
 | some p =>
  by_cases hk:p.kind=2
  case neg =>
   refine (Q7p (y:=y) (z:=z) (k:=k) (lim:=lim) (e:=10) (by decide) (Q0I hs ok.core hx 10 (.inr ⟨p,hp,hk,rfl⟩))).mono ?_;rintro rv w' ⟨rfl,hb⟩;exact⟨0,10,rfl,bad 10 _ (by decide) hb⟩
  refine Z2R hs ok hx hp hk z k lim ?_;by_cases hz:0<=z/\z<256
  case neg=>exact .inl ⟨2,.inl ⟨decide_eq_false hz,rfl⟩,fun W hb=>bad 2 W (by decide) hb⟩
  have hdz:decide (0<=z/\z<256)=true:=decide_eq_true hz;by_cases hm:k=8∨1<=k/\k<=5
  case neg=>exact .inl ⟨1,.inr (.inl ⟨hdz,decide_eq_false hm,rfl⟩),fun W hb=>bad 1 W (by decide) hb⟩
  have hdm:decide (k=8∨1<=k/\k<=5)=true:=decide_eq_true hm;cases hbk:(decide (z<128)==(k==8)) with
  | true=>exact .inl ⟨1,.inr (.inr (.inl ⟨hdz,hdm,hbk,rfl⟩)),fun W hb=>bad 1 W (by decide) hb⟩
  | false =>
   obtain⟨s,rfl⟩:∃s:Nat,z=(s:Int):=⟨z.toNat,by omega⟩
   have hs2:s<256:=by omega
   have hkz:k=8↔128<=s:=by
    rcases Q3m hbk with ⟨h1,_,h3⟩|⟨h1,h2⟩
    ·have h1:=of_decide_eq_true h1;have h3:=of_decide_eq_false h3;omega
    ·have h1:=of_decide_eq_false h1;omega
   have hat:(Z.tb (x%256)).at' (s:Int)=Q0f Z.S.l Z.tb x s:=by
    unfold TB.at';rw [if_pos hz,Q0g hp hk (by omega)];rfl
   cases h0:Q0f Z.S.l Z.tb x s with
   | some e0=>exact .inl ⟨7,.inr (.inr (.inr ⟨hdz,hdm,hbk,by rw [hat,h0];rfl,rfl⟩)),fun W hb=>bad 7 W (by decide) hb⟩
   | none =>
    have hfull:((Z.tb (x%256)).at' (s:Int)).isSome=false:=by rw [hat,h0];rfl
    refine .inr ⟨hdz,hdm,rfl,hfull,fun W g B hb hg hbx=>?_⟩;have hi:=(pget_some.1 hp).1;have hst:=(pget_some.1 hp).2.2;have h0':(Z.tb (x%256)).en s=none:=by rw [<- Q0g hp hk hs2];exact h0
    refine (Q7U (hs.grown hb).sep ok.core ok.tpi (x:=x) (h:=0) (r:=15) hi hst hk hs2 h0' (by omega) (by omega) hg).mono ?_;rintro rv w5 ⟨er,rfl,⟨rfl,nd,S1,t1,T1,st1⟩|⟨he,hwhy,P',tr,st1⟩⟩
    ·have st:=(hs.grown hb).trans st1;have bx5:=hbx.step st1;exact⟨0,rfl,.inr ⟨rfl,Q4K (Z1:=Z.setS S1 (updT Z.tb (x%256) t1)) rfl T1.alt.c rfl st.sep bx5,Z6g ok hN hM hx hy hp hk hs2 h0 k lim hkz T1 st (hg.step st1 T1.alt.same.p) bx5⟩⟩
    ·refine⟨er,rfl,.inl ⟨by omega,.inl ⟨by omega,rfl,p.fac,?_⟩⟩⟩;refine LaidP.back (x:=x) (A:=fun _=>⟨0,0,0,false⟩) ok hp hk ((LaidP.start (x:=x) (A:=fun _=>⟨0,0,0,false⟩) ok (p.fac:Int)).tried tr) ?_;rw [Q1k];exact (hs.grown hb).trans st1
end
def Q0o (l:List Pl) (tb:Nat->TB) (x:Nat):List Int:=match pget l 1 x with
 | none=>[]
 | some p=>if p.kind=2 then Q0W (tb (x%256)) 256 else []
theorem NewIs.base {w w1 w':World} {L:List Int} {r:Ending} (hb:Below w.heap.size w w1) (h:NewIs w1 L r w'):NewIs w L r w':=by
 obtain⟨v,rfl,h1,h2⟩:=h;exact⟨v,rfl,Q1I h1 hb.size,hb.trans (h2.mono hb.size)⟩
theorem NewIs.nil {w w':World} (hb:Below w.heap.size w w'):NewIs w [] (.returned (.slice none 0 0)) w':=⟨_,rfl,World.ownsRow_nil _ _ _ _,hb⟩
theorem Q5b {w:World} {Z:SP} {fr:List Nat} {N K:Nat} {M:Int} (hs:Sep w Z.hl) (ok:Z.Ok fr N K M) {x:Nat} (hx:x<4294967296) :
  Calls prog 25 #[.pointer (some ⟨Z.s,0,none⟩),.int .u32 x] w (NewIs w (Q0o Z.S.l Z.tb x)):=by
 have herr:∀e:Int,e≠0->((pget Z.S.l 1 x=none/\e=8)∨∃p,pget Z.S.l 1 x=some p/\p.kind≠2/\e=10)->Calls prog 25 #[.pointer (some ⟨Z.s,0,none⟩),.int .u32 x] w (NewIs w []):=fun e he hw=>by
  have ks:=Q0I hs ok.core hx e hw;have hnb:(e==0)=false:=by simpa using he
  have HR:Hid (∀w',Below w.heap.size w w'->∀o,NewIs w [] (.returned (.slice none 0 0)) (w'.alloc o)):=fun w' hb o=>NewIs.nil (hb.alloc hb.size o)
  clear hs ok hx hw;go_enter func25,ntmps25;go_wp2_with fail;refine ks.mono ?_;rintro r w1 ⟨rfl,hb⟩;have HQ:=Q0a (HR.out w1 hb);clear hb HR ks;go_wp2_with fail
  first|exact HQ.out _|(go_ret;exact HQ.out _)
 cases hp:pget Z.S.l 1 x with
 | none =>
  have:=herr 8 (by decide) (.inl ⟨hp,rfl⟩);unfold Q0o;rw [hp];exact this
 | some p =>
  by_cases hk:p.kind=2
  ·have ks:=Q0T hs ok.core hx hp hk;have hi:=(pget_some.1 hp).1;have hst:=(pget_some.1 hp).2.2;have hL:Q0o Z.S.l Z.tb x=Q0W (Z.tb (x%256)) 256:=by
    unfold Q0o;rw [hp];simp only [if_pos hk]
   rw [hL];have HC:Hid (∀(w2:World) (g:Nat),Below w.heap.size w w2->TblZ Z p g w2->Calls prog 89 #[.pointer (some ⟨g,0,none⟩)] (w2.alloc (.cells #[.pointer (some ⟨g,0,none⟩),.int .u32 x,.int .i64 (p.fac:Int)] 155)) (NewIs w (Q0W (Z.tb (x%256)) 256))):=fun w2 g hb2 hg=>by
    have hb3:Below w2.heap.size w2 (w2.alloc (.cells #[.pointer (some ⟨g,0,none⟩),.int .u32 x,.int .i64 (p.fac:Int)] 155)):=(Below.refl _ _).alloc (J1x _) _;have s2:=(hs.grown hb2).sep;have T:=(ok.tpi.x (p.fac:Int)).tt ok.core hi hst hk (SP.sS (s2.grown hb3).sep) (hg.grown s2 hb3).c;exact (Q7i T).mono fun r w' h=>h.base (hb2.trans (hb3.mono hb2.size))
   clear hs ok hx hp hk hi hst hL herr;generalize Q0W (Z.tb (x%256)) 256=L at *
   go_enter func25,ntmps25;go_wp2_with fail;refine ks.mono ?_;rintro r w2 ⟨g,rfl,hb2,hg⟩;have kt:=HC.out w2 g hb2 hg;clear hb2 hg HC ks;go_wp2_with fail;refine kt.mono ?_;rintro r w3 ⟨v,rfl,hq⟩;have HQ:Hid (NewIs w L (.returned v) w3):=⟨v,rfl,hq⟩
   clear hq kt;go_wp2_with fail
   first|exact HQ.out|(go_ret;exact HQ.out)
  ·have:=herr 10 (by decide) (.inr ⟨p,hp,hk,rfl⟩);unfold Q0o;rw [hp];simp only [if_neg hk];exact this
theorem Q2o {w:World} {Z:SP} (hs:Sep w Z.hl):Calls prog 29 #[.pointer (some ⟨Z.s,0,none⟩)] w fun r w'=>r=.returned (.pointer (some ⟨Z.S.c,0,none⟩))/\w=w':=by
 have c0:=SP.c0 hs;clear hs;go_enter func29,ntmps29
 go_wp2
 go_ret;exact⟨rfl,rfl⟩
def encS (p:Int×Int):List Value:=[.int .i64 p.1,.int .i64 p.2]
theorem Z8l:(prog.info? 46).map (fun i=>(i.zero,i.size,i.bytes))=some (some (.agg #[.int .i64 0,.int .i64 0]),2,16):=by kernel_rfl
def OutS (w wr:World) (v:Value) (L:List (Int×Int)):Prop:=wr.ownsRow w.heap.size 46 2 v L.length (L.flatMap encS)/\Below w.heap.size w wr
theorem OutS.nil (w:World):OutS w w (.slice none 0 0) []:=⟨World.ownsRow_nil _ _ _ _,Below.refl _ _⟩
theorem OutS.below {w wr w1:World} {v:Value} {L:List (Int×Int)} (h:OutS w wr v L) (hb:Below wr.heap.size wr w1):OutS w w1 v L:=
 ⟨h.1.kept (row:=none) ⟨hb.os,hb.tape,hb.output,hb.size,fun k hk _=>hb.block k hk⟩ (by cases hv:v.ownBlock with|none=>exact .inl rfl|some b=>exact .inr (by simp)),h.2.trans (hb.mono h.2.size)⟩
theorem OutS.app {w wr:World} {v:Value} {L:List (Int×Int)} (h:OutS w wr v L) (hl:L.length<=16777216) (x y:Int) (ty:TypeId):∃v' w',(Builtin.append_ #[49,49] ty #[v,.slice (some ⟨wr.heap.size,0,none⟩) 1 1]).run prog (wr.alloc (.cells #[.int .i64 x,.int .i64 y] 46))=.ok v' w'/\OutS w w' v' (L++[(x,y)])/\(∀b,b<wr.heap.size->v.ownBlock≠some b->w'.heap[b]?=wr.heap[b]?)/\(v'.ownBlock=v.ownBlock∨∀b,v'.ownBlock=some b->wr.heap.size<=b)/\wr.heap.size<=w'.heap.size:=by
 obtain⟨i0,hi,hz0,hz1,hz2⟩:=info_parts Z8l;have h2:=h.below ((Below.refl _ _).alloc (J1x _) (.cells #[.int .i64 x,.int .i64 y] 46));obtain⟨v',w',hr,q1,q2,_,q4⟩:=run_append_own_at (P:=prog) (wr.alloc (.cells #[.int .i64 x,.int .i64 y] 46)) w.heap.size 49 ty 46 i0 (.agg #[.int .i64 0,.int .i64 0]) 2 16 underlying49 hi hz0 hz1 hz2 rfl (by decide) v L.length (L.flatMap encS) h2.1 ⟨wr.heap.size,0,none⟩ 1 1 [.int .i64 x,.int .i64 y] rfl (by
  intro j u hj;have:=(Cells.new wr 46 [.int .i64 x,.int .i64 y]).cell j u hj;have e:(⟨wr.heap.size,0,none⟩:Addr).add j=⟨wr.heap.size,j,none⟩:=by unfold Addr.add;split <;> simp_all
  rw [e];exact this) (fun u hu=>by
   rcases J1C.1 hu with rfl|hu
   ·rfl
   ·rw [J3E.1 hu];rfl) (by unfold maxLen;omega) (by omega) h2.2.size
 refine⟨v',w',hr,⟨?_,?_⟩,fun b hb hne=>?_,?_,?_⟩
 ·rw [J2h,J2f];exact q1
 ·exact h2.2.trans ((Below.refl _ _).mono h2.2.size |>.grown q2 h2.2.size (fun b hb=>(h2.1.lt b hb).1))
 ·rw [q2.block b (by simp;omega) (fun e=>hne e.symm)];exact Below.heap_alloc _ _ _ hb
 ·rcases q4 with q4|q4
  ·exact .inl q4
  ·refine .inr fun b hb=>?_
   rw [q4] at hb;cases hb;simp
 ·have:=q2.size;simp at this;omega
def NewSp (w:World) (L:List (Int×Int)) (r:Ending) (w':World):Prop:=∃v,r=.returned v/\w'.ownsRow w.heap.size 46 2 v L.length (L.flatMap encS)/\Below w.heap.size w w'
def hasH (l:List Pl) (tb:Nat->TB) (h x:Nat) (s:Int):Bool:=match Q0f l tb x s.toNat with
 | some e=>decide (e.h=h)
 | none=>false
def Q3q (l:List Pl) (tb:Nat->TB) (h x:Nat) (L:List Int):List (Int×Int):=(L.filter (hasH l tb h x)).map fun s=>((x:Int),s)
def Q5q (l:List Pl) (tb:Nat->TB) (h x:Nat):List (Int×Int):=Q3q l tb h x (Q0o l tb x)
def Q1P (l:List Pl) (tb:Nat->TB) (h:Nat) (T:List Nat):List (Int×Int):=T.flatMap (Q5q l tb h)
def Q2R (l:List Pl) (tb:Nat->TB) (h:Nat):List (Int×Int):=Q1P l tb h (allL l 1)
theorem Z3i (l:List Pl) (tb:Nat->TB) (h x:Nat) (L:List Int) (s:Int):Q3q l tb h x (L++[s])=Q3q l tb h x L++if hasH l tb h x s=true then [((x:Int),s)] else []:=by
 unfold Q3q;rw [J3u,J5a];cases hh:hasH l tb h x s <;> simp [hh]
theorem Q9v (l:List Pl) (tb:Nat->TB) (h x:Nat) (L:List Int):(Q3q l tb h x L).length<=L.length:=by
 unfold Q3q;rw [J3g];exact J3M _ _
theorem Z3j (l:List Pl) (tb:Nat->TB) (h:Nat) (T:List Nat) (x:Nat):Q1P l tb h (T++[x])=Q1P l tb h T++Q5q l tb h x:=by
 unfold Q1P;rw [J2f];simp
theorem Q2S (l:List Pl) (tb:Nat->TB) (x:Nat):(Q0o l tb x).length<=256:=by
 unfold Q0o;split
 ·simp
 ·split
  ·exact Q4d _ _
  ·simp
theorem Q6x (l:List Pl) (tb:Nat->TB) (h:Nat):∀T:List Nat,(Q1P l tb h T).length<=256*T.length
 | []=>J1x _
 | x::r=>by
  have h1:=Q6x l tb h r;have h2:=Q9v l tb h x (Q0o l tb x);have h3:=Q2S l tb x;show ((x::r).flatMap (Q5q l tb h)).length<=_;rw [J1U,J2h,J2i];unfold Q1P at h1;unfold Q5q at h1 ⊢;omega
theorem mem_slotsL {l:List Pl} {tb:Nat->TB} {x:Nat} {z:Int}:z∈Q0o l tb x↔∃s:Nat,z=(s:Int)/\s<256/\∃e,Q0f l tb x s=some e:=by
 unfold Q0o Q0f;cases hp:pget l 1 x with
 | none=>simp
 | some p =>
  simp only;by_cases hk:p.kind=2
  ·rw [if_pos hk];unfold Q0W;simp only [J1D,J1R,J1N,J5c]
   constructor
   ·rintro⟨s,⟨h1,e,h2⟩,rfl⟩;exact⟨s,rfl,h1,e,by rw [if_pos ⟨hk,h1⟩];exact h2⟩
   ·rintro⟨s,rfl,h1,e,h2⟩;rw [if_pos ⟨hk,h1⟩] at h2;exact⟨s,⟨h1,e,h2⟩,rfl⟩
  ·rw [if_neg hk]
   constructor
   ·intro h;cases h
   ·rintro⟨s,rfl,h1,e,h2⟩;rw [if_neg (by simp [hk])] at h2;cases h2
theorem mem_holdL {l:List Pl} {tb:Nat->TB} {h:Nat} {T:List Nat} {p:Int×Int}:p∈Q1P l tb h T↔∃x∈T,∃s:Nat,p=((x:Int),(s:Int))/\s<256/\∃e,Q0f l tb x s=some e/\e.h=h:=by
 unfold Q1P Q5q Q3q;simp only [J1X,J1D,J1R]
 constructor
 ·rintro⟨x,hx,z,⟨h1,h2⟩,rfl⟩;obtain⟨s,rfl,h3,e,h4⟩:=mem_slotsL.1 h1;refine⟨x,hx,s,rfl,h3,e,h4,?_⟩;unfold hasH at h2;rw [J2C,h4] at h2
  simpa using h2
 ·rintro⟨x,hx,s,rfl,h3,e,h4,h5⟩;refine⟨x,hx,(s:Int),⟨mem_slotsL.2 ⟨s,rfl,h3,e,h4⟩,?_⟩,rfl⟩;unfold hasH;rw [J2C,h4]
  simpa using h5
end Go.Proofs.YtlakjlmaboioiaaGreatDoor

/- What the laws of spaces share is proved. No condition. Part of a proof. -/
import Derived.Test.YtfidemmgofcnmaaGreatDoorAt10
import Derived.RangeFuncWrites
import Derived.Maps.OwnIn
import Derived.Sort.WalkB12
import Derived.Lib.SlicesMore
import Derived.Laws.OwnMore
import Derived.Shelf.RegionOpenPlain
import Derived.Great.Ranges
set_option maxHeartbeats 8000000
set_option maxRecDepth 100000
set_option linter.unusedVariables false
namespace Go.Proofs.YtfidemmgofcnmaaGreatDoor
open Go.RowKit Go.Proofs.Tryz
theorem Q5e{w w1:World}{o:Obj}(hb:Below (w.alloc o).heap.size (w.alloc o) w1){i:Nat}{v:Value}(hv:(w.alloc o).cell? ⟨w.heap.size,i,none⟩=some v):w1.cell? ⟨w.heap.size,i,none⟩=some v:=
 (World.cell?_of_block (w:=w.alloc o) (hb.block _ (by simp))).trans hv
theorem Q9L{w:World}{S:CO}(h:Sep w S.hl)(lok:LOk S.l)(hf:∀p∈S.l,p.st≠0)(own n a:Nat)(lim:Int)(e:En Fa) :
  Calls prog 153 #[.pointer (some ⟨S.c,0,none⟩),.agg #[.int .i64 n,.int .i64 a,.int .i64 own],.int .i64 lim] w (Q2I S own n a lim e w):=by
 have s0:=h.alloc (.cells #[.int .i64 n,.int .i64 a,.int .i64 own] 54);have c1:=CO.c1 s0;have hr:=Q5A (h:=S.ht) (CO.sT s0) lok;rw[show allL S.ht.l 0=[] from empty_iff.2 hf] at hr;have HR:Hid (∀w1,Below (w.alloc (.cells #[.int .i64 n,.int .i64 a,.int .i64 own] 54)).heap.size (w.alloc (.cells #[.int .i64 n,.int .i64 a,.int .i64 own] 54)) w1->Q2I S own n a lim e w (.returned (.int .i64 11)) w1):=fun w1 hb=>.inl ⟨hf,rfl,h.grown (Q0b hb)⟩
 generalize Q2I S own n a lim e w=Q at *
 unfold CO.ht at hr;clear h lok hf s0;go_enter func153,ntmps153;go_wp2_with fail;refine hr.mono ?_;rintro r w1⟨rfl,hb⟩;have HX:=Q0a (HR.out w1 hb);clear hb;go_wp2_with fail
 (try go_ret);exact HX.out
theorem Z4H{l:List Pl}(AI:∃i p,Fst l i p):(allL l 0).length≠0:=fun h=>by
 obtain⟨i,p,h1,h2,_⟩:=AI;exact empty_iff.1 (J3N h) p (J3L h1) h2
theorem Z7r{w:World}{S:CO}(h:Sep w S.hl)(lok:LOk S.l)(AI:∃i p,Fst S.l i p)(own n a:Nat)(lim:Int)(e:En Fa)(hn:n≠1) :
  Calls prog 153 #[.pointer (some ⟨S.c,0,none⟩),.agg #[.int .i64 n,.int .i64 a,.int .i64 own],.int .i64 lim] w (Q2I S own n a lim e w):=by
 have s0:=h.alloc (.cells #[.int .i64 n,.int .i64 a,.int .i64 own] 54);have hB:=Cells.new w 54 [.int .i64 n,.int .i64 a,.int .i64 own];have c1:=CO.c1 s0;have hr:=Q5A (h:=S.ht) (CO.sT s0) lok;have hm:=Z4H AI;have HR:Hid (∀w1,Below (w.alloc (.cells #[.int .i64 n,.int .i64 a,.int .i64 own] 54)).heap.size (w.alloc (.cells #[.int .i64 n,.int .i64 a,.int .i64 own] 54)) w1->w1.cell? ⟨w.heap.size,0,none⟩=some (.int .i64 n)/\Q2I S own n a lim e w (.returned (.int .i64 0)) w1):=fun w1 hb=>⟨Q5e hb (hB.cell 0 _ rfl),.inr (.inl ⟨AI,hn,rfl,h.grown (Q0b hb)⟩)⟩
 generalize Q2I S own n a lim e w=Q at *
 unfold CO.ht at hr;simp only at hr;generalize (allL S.l 0).length=m at *
 have Ar:(((m:Nat):Int)==0)=false:=by simp;omega
 have Ae:(((n:Nat):Int) != 1)=true:=by simp;omega
 have An:(((n:Nat):Int)==1)=false:=by simp;omega
 clear h lok AI s0 hB hm hn;go_enter func153,ntmps153;go_wp2_with fail;refine hr.mono ?_;rintro r w1⟨rfl,hb⟩;obtain⟨e0,hx⟩:=HR.out w1 hb;have HX:=Q0a hx;clear hb hx;go_wp2_with fail
 (try go_ret);exact HX.out
theorem Z7s{w:World}{S:CO}{fr:List Nat}(h:Sep w S.hl)(ok:S.P.Ok fr)(lok:LOk S.l)(AI:∃i p,Fst S.l i p){own a:Nat}{e:En Fa}(hf:find S.P.q.E own=some e){lim:Int}(h0:0<=lim)(Da:S.P.q.next+1<1048576)(ha:a%8=0)(hl:a+8<=S.P.a.mem.length) :
  Calls prog 153 #[.pointer (some ⟨S.c,0,none⟩),.agg #[.int .i64 1,.int .i64 a,.int .i64 own],.int .i64 lim] w (Q2I S own 1 a lim e w):=by
 have s0:=h.alloc (.cells #[.int .i64 1,.int .i64 a,.int .i64 own] 54);have hB:=Cells.new w 54 [.int .i64 1,.int .i64 a,.int .i64 own];have c1:=CO.c1 s0;have hr:=Q5A (h:=S.ht) (CO.sT s0) lok;have hm:=Z4H AI;have HR:Hid (∀w1,Below (w.alloc (.cells #[.int .i64 1,.int .i64 a,.int .i64 own] 54)).heap.size (w.alloc (.cells #[.int .i64 1,.int .i64 a,.int .i64 own] 54)) w1 ->
   (w1.cell? ⟨w.heap.size,0,none⟩=some (.int .i64 1)/\w1.cell? ⟨w.heap.size,1,none⟩=some (.int .i64 a)/\w1.cell? ⟨w.heap.size,2,none⟩=some (.int .i64 own)/\w1.cell? ⟨S.c,0,none⟩=some (.pointer (some ⟨S.P.p,0,none⟩))/\w1.cell? ⟨S.P.p,0,none⟩=some (.pointer (some ⟨S.P.q.t,0,none⟩))/\w.heap.size<w1.heap.size) /\
   Calls prog 14 #[.pointer (some ⟨S.P.q.t,0,none⟩),.int .i64 own,.int .i64 lim] w1.drew fun r w2=>∃(x:Nat) (er:Int),r=.returned (.tuple #[.int .i64 x,.int .i64 er])/\x<1048576 /\
    (w2.cell? ⟨S.c,0,none⟩=some (.pointer (some ⟨S.P.p,0,none⟩))/\w2.cell? ⟨S.P.p,0,none⟩=some (.pointer (some ⟨S.P.q.t,0,none⟩))/\w2.cell? ⟨w.heap.size,1,none⟩=some (.int .i64 a)/\w2.cell? ⟨w.heap.size,2,none⟩=some (.int .i64 own)/\w.heap.size<w2.heap.size/\S.c<w2.heap.size) /\
    (Calls prog 50 #[.pointer (some ⟨S.P.p,0,none⟩)] w2.drew fun r w'=>r=.returned (.pointer (some ⟨S.P.a.a,0,none⟩))/\w2.drew=w') /\
    (Calls prog 50 #[.pointer (some ⟨S.P.p,0,none⟩)] (w2.alloc (.cells #[.int .u64 x] 83)).drew fun r w'=>r=.returned (.pointer (some ⟨S.P.a.a,0,none⟩))/\(w2.alloc (.cells #[.int .u64 x] 83)).drew=w') /\
    Calls prog 57 #[.pointer (some ⟨S.P.a.a,0,none⟩),.int .i64 a,.slice (some ⟨w2.heap.size,0,none⟩) 1 1] (w2.alloc (.cells #[.int .u64 x] 83)).drew fun r w3=>r=.returned (.int .i64 0)/\(w3.cell? ⟨S.c,0,none⟩=some (.pointer (some ⟨S.P.p,0,none⟩))/\w3.cell? ⟨w.heap.size,1,none⟩=some (.int .i64 a))/\Q2I S own 1 a lim e w (.returned (.int .i64 er)) w3):=fun w1 hb=>by
  have Aj:=Q0b hb;have s1:=(h.grown Aj).sep;have b1:=Q5e hb (hB.cell 1 _ rfl);have b2:=Q5e hb (hB.cell 2 _ rfl);have Aa:w.heap.size<w1.heap.size:=by have:=hb.size;rw[World.size_alloc] at this;omega
  refine⟨⟨Q5e hb (hB.cell 0 _ rfl),b1,b2,CO.c0 s1,PL.c0 (CO.sP s1),Aa⟩,?_⟩;refine Calls.mono (Q9K h Aj.drew ok AI hf h0 Da ha hl) ?_;rintro r w2⟨x,er,rfl,hx,hs,hk,A4⟩;have Wq:w1.heap.size<=w2.heap.size:=hs;have Am:∀i v,w1.cell? ⟨w.heap.size,i,none⟩=some v->w2.cell? ⟨w.heap.size,i,none⟩=some v:=fun i v hv=>(World.cell?_of_block (w:=w1) (hk _ (J1E _) Aa)).trans hv
  obtain⟨a1,a2,a3,_⟩:=A4 w2 (Below.refl _ _);obtain⟨_,_,d3,_⟩:=A4 w2.drew (Below.refl _ _).drew;obtain⟨_,_,g3,g4⟩:=A4 (w2.alloc (.cells #[.int .u64 x] 83)).drew ((Below.refl _ _).alloc (J1E _) _).drew;have Ba:S.c<w2.heap.size:=by
   have:=(CO.cells h).lt;have:=Aj.size;omega
  refine⟨x,er,rfl,hx,⟨a1,a2,Am _ _ b1,Am _ _ b2,by omega,Ba⟩,d3,g3,?_⟩;refine Calls.mono (g4 w2.heap.size ((Cells.new w2 83 [.int .u64 x]).cell 0 _ rfl) (J1E _) (by simp[World.drew])) ?_;rintro r w3⟨rfl,⟨k1,k2⟩,hx⟩;refine⟨rfl,⟨k1,?_⟩,hx⟩;refine(World.cell?_of_block (w:=(w2.alloc (.cells #[.int .u64 x] 83)).drew) (k2 _ (J1E _) (by simp[World.drew];omega))).trans ?_;exact Q0M (Am _ _ b1)
 generalize Q2I S own 1 a lim e w=Q at *
 unfold CO.ht at hr;simp only at hr;generalize (allL S.l 0).length=m at *
 have Ar:(((m:Nat):Int)==0)=false:=by simp;omega
 clear h ok lok AI s0 hB hm hf h0 Da ha hl;go_enter func153,ntmps153;go_wp2_with fail;refine hr.mono ?_;rintro r w1⟨rfl,hb⟩;obtain⟨⟨e0,e1,e2,e3,e4,Aa⟩,B5⟩:=HR.out w1 hb;have f2:w1.drew.cell? ⟨w.heap.size,2,none⟩=some (.int .i64 own):=e2;have f3:w1.drew.cell? ⟨S.c,0,none⟩=some (.pointer (some ⟨S.P.p,0,none⟩)):=e3;have f4:w1.drew.cell? ⟨S.P.p,0,none⟩=some (.pointer (some ⟨S.P.q.t,0,none⟩)):=e4;clear hb hr c1;go_wp2_with fail
 go_region_held3 (fun w'=>w'.cell? ⟨S.c,0,none⟩=some (.pointer (some ⟨S.P.p,0,none⟩))/\w'.cell? ⟨S.P.p,0,none⟩=some (.pointer (some ⟨S.P.q.t,0,none⟩))/\w'.cell? ⟨w.heap.size,2,none⟩=some (.int .i64 own)) (first|exact⟨e3,e4,e2⟩|exact⟨f3,f4,f2⟩|exact⟨t0,t1,t3⟩)
  (first|(go_at_call 14;refine B5.mono ?_;rintro r w2⟨x,er,rfl,CU,⟨t0,t1,t2,t3,t4,t5⟩,QC,UG,hS⟩;have HS:=Q0a hS;clear hS))
 have hw:IntKind.u64.wrap (x:Int)=(x:Int):=Go.IntWalk.u64_in _ (by omega);have x0:w2.drew.cell? ⟨S.c,0,none⟩=some (.pointer (some ⟨S.P.p,0,none⟩)):=t0;have x1:w2.drew.cell? ⟨w.heap.size,1,none⟩=some (.int .i64 a):=t2;have y0:(w2.alloc (.cells #[.int .u64 x] 83)).drew.cell? ⟨S.c,0,none⟩=some (.pointer (some ⟨S.P.p,0,none⟩)):=Q0M t0;have y1:(w2.alloc (.cells #[.int .u64 x] 83)).drew.cell? ⟨w.heap.size,1,none⟩=some (.int .i64 a):=Q0M t2;clear e0 e1 e2 e3 e4 f2 f3 f4 B5 Aa;go_wp2_with fail
 go_region_held3 (fun w'=>w'.cell? ⟨S.c,0,none⟩=some (.pointer (some ⟨S.P.p,0,none⟩))/\w'.cell? ⟨w.heap.size,1,none⟩=some (.int .i64 a)) (first|exact⟨t0,t2⟩|exact⟨x0,x1⟩|exact⟨y0,y1⟩|exact⟨z0,z1⟩)
  (first|(go_at_call 50;refine QC.mono ?_;rintro r w'⟨rfl,rfl⟩)|(go_at_call 50;refine UG.mono ?_;rintro r w'⟨rfl,rfl⟩)|(go_at_call 57;refine HS.out.mono ?_;rintro r w3⟨rfl,⟨z0,z1⟩,hx⟩;have HX:=Q0a hx;clear hx))
 all_goals
  go_wp2_with fail
  (try go_ret);exact HX.out
theorem Z2b{w:World}{S:CO}{fr:List Nat}(h:Sep w S.hl)(ok:S.P.Ok fr)(lok:LOk S.l){own n a:Nat}{e:En Fa}(hf:find S.P.q.E own=some e){lim:Int}(Da:S.P.q.next+1<1048576)(h1:n=1->0<=lim/\a%8=0/\a+8<=S.P.a.mem.length) :
  Calls prog 153 #[.pointer (some ⟨S.c,0,none⟩),.agg #[.int .i64 n,.int .i64 a,.int .i64 own],.int .i64 lim] w (Q2I S own n a lim e w):=by
 rcases Z7l S.l with Aw|AI
 ·exact Q9L h lok Aw own n a lim e
 ·by_cases hn:n=1
  ·subst hn;obtain⟨k1,k2,k3⟩:=h1 rfl;exact Z7s h ok lok AI hf k1 Da k2 k3
  ·exact Z7r h lok AI own n a lim e hn
theorem Z2c{w w1:World}{S:CO}{fr:List Nat}{N K:Nat}(h:Sep w S.hl)(hb:Below w.heap.size w w1)(ok:S.Ok fr N K)(hN:N+1<1048576){x:Nat}{f:Pl}(hf:pget S.l 1 x=some f)(Dv:f.kind=1){n:Nat}(hn:n=8∨1<=n/\n<=5){lim:Int}(hlim:n=1->0<=lim) :
  Calls prog 152 #[.pointer (some ⟨S.c,0,none⟩),.int .i64 (f.own:Int),.int .i64 n] w1 fun r w2 =>
   (∃er:Int,er≠0/\r=.returned (.tuple #[.int .i64 0,.int .i64 er])/\MakeR S fr x n lim w (.returned (.tuple #[.int .u32 0,.int .i64 er])) w2) ∨
   ∃a:Nat,r=.returned (.tuple #[.int .i64 a,.int .i64 0])/\∀w3,Below w2.heap.size w2 w3 ->
    Calls prog 153 #[.pointer (some ⟨S.c,0,none⟩),.agg #[.int .i64 n,.int .i64 a,.int .i64 (f.own:Int)],.int .i64 lim] w3 fun r w4=>(∀b,w2.heap.size<=b->b<w3.heap.size->w4.heap[b]?=w3.heap[b]?)/\w3.heap.size<=w4.heap.size /\
     ((∃er:Int,er≠0/\r=.returned (.int .i64 er)/\Calls prog 154 #[.pointer (some ⟨S.c,0,none⟩),.agg #[.int .i64 n,.int .i64 a,.int .i64 (f.own:Int)]] w4 fun r w5=>r=.returned (.tuple #[])/\MakeR S fr x n lim w (.returned (.tuple #[.int .u32 0,.int .i64 er])) w5) ∨
      (r=.returned (.int .i64 0)/\w4.cell? ⟨S.c,1,none⟩=some (.pointer (some ⟨S.t,0,none⟩))/\Calls prog 149 #[.pointer (some ⟨S.t,0,none⟩),.agg #[.int .i64 n,.int .i64 a,.int .i64 (f.own:Int)]] w4.drew fun r w5=>∃y:Nat,r=.returned (.tuple #[.int .u32 y,.int .i64 0])/\w5.cell? ⟨S.c,1,none⟩=some (.pointer (some ⟨S.t,0,none⟩))/\(∀b,w2.heap.size<=b->b<w4.heap.size->w5.heap[b]?=w4.heap[b]?)/\MakeR S fr x n lim w (.returned (.tuple #[.int .u32 y,.int .i64 0])) w5)):=by
 obtain⟨e,he⟩:=ok.inv.tre.acc (Q1i hf) (Pl.is_iff.2 (.inl (pget_some.1 hf).2.2)) Dv;have s1:=h.grown hb;have IN:=ok.inv.mem.pool;have Nn:=ok.inv.lok;have Ly:=ok.next;have Fi:∀(r:Ending) (w':World),J0R S fr f e n lim w r w'->MakeR S fr x n lim w r w':=fun r w' hk=>.inr ⟨f,hf,.inr (.inr ⟨n,e,rfl,Dv,hn,hlim,he,hk⟩)⟩
 refine Calls.mono (Z7p s1.sep IN he (by omega)) ?_;rintro r w2 (⟨hq,rfl,st⟩|⟨hq,SF,rfl,st⟩|⟨a,P',fr',hq,g,rfl,st⟩)
 ·exact .inl ⟨5,by decide,rfl,Fi _ _ (.inl ⟨hq,rfl,s1.trans st⟩)⟩
 ·exact .inl ⟨4,by decide,rfl,Fi _ _ (.inr (.inl ⟨hq,SF,rfl,s1.trans st⟩))⟩
 ·refine .inr ⟨a,rfl,fun w3 An=>?_⟩;have s2:=s1.trans st;have s3:=s2.sep.grown An;have s23:=s2.trans s3;obtain⟨MZ,hE,Bm,Lu⟩:=g.acc he;have Ex:=g.room.1;have Ab:=g.same.len;have key:∀{H':HL} {w4:World},Step (S.setP P').hl H' w3 w4->(∀b,w2.heap.size<=b->b<w3.heap.size->w4.heap[b]?=w3.heap[b]?)/\w3.heap.size<=w4.heap.size:=fun st4=>⟨fun b h1 h2=>st4.chg.block b h2 (fun hk=>by have:=s2.sep.lt hk;omega),st4.chg.size⟩
  have Bv:∀{w4:World} (er:Int),er≠0->Step (S.setP P').hl (S.setP P').hl w3 w4->((er=11/\((∀p∈S.l,p.st≠0)∨n=1/\S.P.q.E.length=32))∨(er=5/\n=1/\Q0u e-64<lim)) ->
    Calls prog 154 #[.pointer (some ⟨S.c,0,none⟩),.agg #[.int .i64 n,.int .i64 a,.int .i64 (f.own:Int)]] w4 fun r w5=>r=.returned (.tuple #[])/\MakeR S fr x n lim w (.returned (.tuple #[.int .u32 0,.int .i64 er])) w5:=fun {w4} er Ci st4 hc=>by
   refine Calls.mono (Z7q st4.sep g.ok (g.held IN he)) ?_;rintro r w5⟨rfl,P2,fr2,bk,st5⟩;have ht:=g.back ok.inv.mem bk;exact⟨rfl,Fi _ _ (.inr (.inr (.inl ⟨hq,er,P2,hc,ht,rfl,(s23.trans st4).trans st5⟩)))⟩
  have Bp:∀{w4:World} {P2:PL} {i:Nat} {p:Pl} {y:Nat},Fst S.l i p->Step (S.setP P').hl (S.setP P2).hl w3 w4->MadeOk S fr f e n a lim y i p P2 fr' ->
    w4.cell? ⟨S.c,1,none⟩=some (.pointer (some ⟨S.t,0,none⟩))/\Calls prog 149 #[.pointer (some ⟨S.t,0,none⟩),.agg #[.int .i64 n,.int .i64 a,.int .i64 (f.own:Int)]] w4.drew fun r w5=>∃y:Nat,r=.returned (.tuple #[.int .u32 y,.int .i64 0])/\w5.cell? ⟨S.c,1,none⟩=some (.pointer (some ⟨S.t,0,none⟩))/\(∀b,w2.heap.size<=b->b<w4.heap.size->w5.heap[b]?=w4.heap[b]?)/\MakeR S fr x n lim w (.returned (.tuple #[.int .u32 y,.int .i64 0])) w5:=fun {w4 P2 i p y} hi st4 hm=>by
   have s4:=s3.trans st4;refine⟨CO.c1 (S:=S.setP P2) s4.sep,?_⟩;refine Calls.mono (Z4B (h:=(S.setP P2).ht) (CO.sT s4.drew.sep) Nn hi n a f.own y) ?_;rintro r w5⟨rfl,st5⟩;have s5:=CO.stepL (S:=S.setP P2) s4.drew.sep _ st5;refine⟨nm i p,rfl,CO.c1 (S:=(S.setP P2).setL _) s5.sep,fun b h1 h2=>?_,Fi _ _ (.inr (.inr (.inr ⟨i,p,a,y,P2,fr',hi.1,hi.2.1,hi.2.2,hq,rfl,hm,(s2.trans s4.drew).trans s5⟩)))⟩;have VK:∀k∈keys (S.setP P2).hl,k<w2.heap.size∨w3.heap.size<=k:=fun k hk=>by
    rcases st4.new k hk with h'|h'
    ·exact .inl (s2.sep.lt h')
    ·exact .inr h'
   exact st5.chg.block b h2 (fun hk=>by
    have Aa:=(CO.sT (S:=S.setP P') s2.sep).lt (b:=b) hk;omega)
  refine Calls.mono (Z2b (S:=S.setP P') s3.sep g.ok Nn MZ (by show P'.q.next+1<_;rw[Bm];omega) (fun h1=>?_)) ?_
  ·subst h1;have hm:a∈P'.usedOf 1:=(g.used (by decide)).mem_iff.2 (by simp);have DK:costK 1=64:=rfl;rw[DK] at Ex;exact⟨hlim rfl,Q1V g.ok hm,by show a+8<=P'.a.mem.length;rw[Ab];omega⟩
  ·rintro r w4 (⟨Bl,rfl,st4⟩|⟨⟨i,p,hi⟩,Da,rfl,st4⟩|⟨⟨i,p,hi⟩,Da,⟨er,hc,rfl⟩,st4⟩|⟨⟨i,p,hi⟩,Da,GZ,rfl,b,st4⟩)
   ·exact⟨(key st4).1,(key st4).2,.inl ⟨11,by decide,rfl,Bv 11 (by decide) st4 (.inl ⟨rfl,.inl Bl⟩)⟩⟩
   ·obtain⟨c1,hp⟩:=Bp hi st4 (J0T ok hf Dv (by omega) he g hi);exact⟨(key st4).1,(key st4).2,.inr ⟨rfl,c1,hp⟩⟩
   ·subst Da;have DK:costK 1=64:=rfl;have A8:=g.mem;rw[DK] at Ex A8;have Du:P'.setA (put_ P'.a.mem a (Q0c 0))=P':=by
     have:put_ P'.a.mem a (Q0c 0)=P'.a.mem:=by
      rw[A8];exact Z7m (by omega) Ex
     rw[this];rfl
    have st4':Step (S.setP P').hl (S.setP (P'.setA (put_ P'.a.mem a (Q0c 0)))).hl w3 w4:=st4;rw[Du] at st4';have Ci:er≠0:=by rcases hc with ⟨rfl,_⟩|⟨rfl,_⟩ <;> decide
    have J1:Q0u ({e with q:={e.q with charged:=e.q.charged+((costK 1:Nat):Int)}}:En Fa)=Q0u e-64:=by
     unfold Q0u;rw[DK];simp only;omega
    refine⟨(key st4').1,(key st4').2,.inl ⟨er,Ci,rfl,Bv er Ci st4' ?_⟩⟩;rcases hc with ⟨rfl,hc⟩|⟨rfl,hc⟩
    ·exact .inr ⟨rfl,rfl,by rw[J1] at hc;exact hc⟩
    ·exact .inl ⟨rfl,.inr ⟨rfl,by rw[<- Lu];exact hc⟩⟩
   ·subst Da;have DK:costK 1=64:=rfl;have J1:Q0u ({e with q:={e.q with charged:=e.q.charged+((costK 1:Nat):Int)}}:En Fa)=Q0u e-64:=by
     unfold Q0u;rw[DK];simp only;omega
    rw[J1] at GZ;have hm:=J0U (b:=b) (a:=a) ok hN hf Dv he (hlim rfl) GZ g hi;have st4':Step (S.setP P').hl (S.setP ((P'.setQ (Q3x P'.q f.own {e with q:={e.q with charged:=e.q.charged+64}} b lim)).setA (put_ P'.a.mem a (Q0c S.P.q.next.toNat)))).hl w3 w4:=by
     rw[<- Bm];exact st4
    obtain⟨c1,hp⟩:=Bp hi st4' hm;exact⟨(key st4').1,(key st4').2,.inr ⟨rfl,c1,hp⟩⟩
theorem Q8z{w:World}{S:CO}{x:Nat}(k lim er:Int)(he:er≠0)(hO:Calls prog 150 #[.pointer (some ⟨S.c,0,none⟩),.int .u32 x] w (Told w (.tuple #[.int .i64 0,.int .i64 er]))) :
  Calls prog 79 #[.pointer (some ⟨S.c,0,none⟩),.int .u32 x,.int .i64 k,.int .i64 lim] w (Told w (.tuple #[.int .u32 0,.int .i64 er])):=by
 have Ar:(er==0)=false:=by simpa using he
 have Ae:(er != 0)=true:=by simpa using he
 go_enter func79,ntmps79;go_wp2_with fail;refine hO.mono ?_;rintro r w1⟨rfl,hb⟩;have HB:Hid (Told w (.tuple #[.int .u32 0,.int .i64 er]) (.returned (.tuple #[.int .u32 0,.int .i64 er])) w1):=⟨rfl,hb⟩
 clear hb;go_wp2_with fail
 (try go_ret2);exact HB.out
theorem Z4I{w:World}{S:CO}{x:Nat}(own:Nat)(k lim:Int)(hk:¬(k=8∨1<=k/\k<=5)∨k=1/\lim<0)(hO:Calls prog 150 #[.pointer (some ⟨S.c,0,none⟩),.int .u32 x] w (Told w (.tuple #[.int .i64 own,.int .i64 0]))) :
  Calls prog 79 #[.pointer (some ⟨S.c,0,none⟩),.int .u32 x,.int .i64 k,.int .i64 lim] w (Told w (.tuple #[.int .u32 0,.int .i64 1])):=by
 have HM:Hid (∀w1,Below w.heap.size w w1->Calls prog 151 #[.int .i64 k] w1 (fun r w'=>r=.returned (.bool (decide (k=8∨1<=k/\k<=5)))/\w1=w')/\Told w (.tuple #[.int .u32 0,.int .i64 1]) (.returned (.tuple #[.int .u32 0,.int .i64 1])) w1):=fun w1 hb=>⟨Z0Q w1 k,rfl,hb⟩
 have Az:decide (k=8∨1<=k/\k<=5)=false∨decide (k=8∨1<=k/\k<=5)=true/\k=1/\lim<0:=by
  by_cases hm:k=8∨1<=k/\k<=5
  ·rcases hk with hk|hk
   ·exact absurd hm hk
   ·exact .inr ⟨by rw[decide_eq_true_eq];exact hm,hk⟩
  ·exact .inl (by rw[decide_eq_false_iff_not];exact hm)
 clear hk;generalize decide (k=8∨1<=k/\k<=5)=m at *
 rcases Az with rfl|⟨rfl,rfl,hl⟩
 all_goals
  go_enter func79,ntmps79;go_wp2_with fail;refine hO.mono ?_;rintro r w1⟨rfl,hb⟩;obtain⟨GA,hx⟩:=HM.out w1 hb;have HX:=Q0a hx;clear hb hx hO;go_wp2_with fail;refine GA.mono ?_;rintro r w2⟨rfl,rfl⟩;clear GA;go_wp2_with fail
  (try go_ret2);exact HX.out
theorem Z2d{w:World}{S:CO}{fr:List Nat}{N K:Nat}(h:Sep w S.hl)(ok:S.Ok fr N K)(hN:N+1<1048576){x:Nat}(hx:x<4294967296){f:Pl}(hf:pget S.l 1 x=some f)(Dv:f.kind=1){n:Nat}(hn:n=8∨1<=n/\n<=5){lim:Int}(hlim:n=1->0<=lim) :
  Calls prog 79 #[.pointer (some ⟨S.c,0,none⟩),.int .u32 x,.int .i64 n,.int .i64 lim] w (MakeR S fr x n lim w):=by
 have hO:=Q8y h ok hx hf Dv;have HC:Hid (∀w1,Below w.heap.size w w1->_):=fun w1 hb=>Z2c (w1:=w1) h hb ok hN hf Dv hn hlim
 have HM:Hid (∀w1,Calls prog 151 #[.int .i64 n] w1 (fun r w'=>r=.returned (.bool true)/\w1=w')):=fun w1=>by
  have:=Z0Q w1 (n:Int);rw[show decide ((n:Int)=8∨1<=(n:Int)/\(n:Int)<=5)=true by rw[decide_eq_true_eq];omega] at this;exact this
 have Az:(n:Int)=1/\0<=lim∨((n:Int)==1)=false:=by
  by_cases h1:n=1
  ·exact .inl ⟨by omega,hlim h1⟩
  ·exact .inr (by simp;omega)
 generalize MakeR S fr x n lim w=Q at *
 generalize f.own=own at *
 clear h ok hN hf Dv hn hlim;generalize (n:Int)=nz at *
 rcases Az with ⟨rfl,h0⟩|h0
 all_goals
  go_enter func79,ntmps79;go_wp2_with fail;refine hO.mono ?_;rintro r w1⟨rfl,hb⟩;have hc:=HC.out w1 hb;have GA:=HM.out w1;clear hb hO HC HM;go_wp2_with fail;refine GA.mono ?_;rintro r w2⟨rfl,rfl⟩;clear GA;go_wp2_with fail;refine hc.mono ?_;rintro r w2 (⟨er,Ci,rfl,hx⟩|⟨a,rfl,hx⟩)
  ·have HX:=Q0a hx;have Ar:(er==0)=false:=by simpa using Ci
   have Ae:(er != 0)=true:=by simpa using Ci
   clear hx hc Ci;go_wp2_with fail
   (try go_ret2);exact HX.out
  ·have HX:=Q0a hx;clear hx hc;go_wp2_with fail;refine(HX.out _ ((Below.refl _ _).alloc (J1E _) _)).mono ?_;rintro r w4⟨hk,Be,hx⟩;have hB:∀i v,(w2.alloc (.cells #[.int .i64 _,.int .i64 a,.int .i64 own] 54)).cell? ⟨w2.heap.size,i,none⟩=some v->w4.cell? ⟨w2.heap.size,i,none⟩=some v:=fun i v hv=>(World.cell?_of_block (hk _ (J1E _) (by simp))).trans hv
   have e0:=hB 0 _ ((Cells.new w2 54 [.int .i64 _,.int .i64 a,.int .i64 own]).cell 0 _ rfl);have e1:=hB 1 _ ((Cells.new w2 54 [.int .i64 _,.int .i64 a,.int .i64 own]).cell 1 _ rfl);have e2:=hB 2 _ ((Cells.new w2 54 [.int .i64 _,.int .i64 a,.int .i64 own]).cell 2 _ rfl);have Aa:w2.heap.size<w4.heap.size:=by rw[World.size_alloc] at Be;omega
   clear hk Be hB HX;rcases hx with ⟨er,Ci,rfl,hx⟩|⟨rfl,c1,hx⟩
   ·have HX:=Q0a hx;have Ar:(er==0)=false:=by simpa using Ci
    have Ae:(er != 0)=true:=by simpa using Ci
    clear hx Ci;go_wp2_with fail;refine HX.out.mono ?_;rintro r w5⟨rfl,hx⟩;have HY:=Q0a hx;clear hx HX;go_wp2_with fail
    (try go_ret2);exact HY.out
   ·have HX:=Q0a hx;have x1:w4.drew.cell? ⟨S.c,1,none⟩=some (.pointer (some ⟨S.t,0,none⟩)):=c1;have f0:w4.drew.cell? ⟨w2.heap.size,0,none⟩=_:=e0;have f1:w4.drew.cell? ⟨w2.heap.size,1,none⟩=_:=e1;have f2:w4.drew.cell? ⟨w2.heap.size,2,none⟩=_:=e2;clear hx;go_wp2_with fail
    go_region_held3 (fun w'=>w'.cell? ⟨S.c,1,none⟩=some (.pointer (some ⟨S.t,0,none⟩))/\w'.cell? ⟨w2.heap.size,0,none⟩=w4.cell? ⟨w2.heap.size,0,none⟩/\w'.cell? ⟨w2.heap.size,1,none⟩=some (.int .i64 a)/\w'.cell? ⟨w2.heap.size,2,none⟩=some (.int .i64 own)) (first|exact⟨c1,rfl,e1,e2⟩|exact⟨x1,rfl,f1,f2⟩|exact⟨t0,t1,t2,t3⟩)
     (first|(go_at_call 149;refine HX.out.mono ?_;rintro r w5⟨y,rfl,t0,tk,hx⟩;have t1:w5.cell? ⟨w2.heap.size,0,none⟩=w4.cell? ⟨w2.heap.size,0,none⟩:=World.cell?_of_block (tk _ (J1E _) Aa);have t2:=(World.cell?_of_block (w:=w4) (tk _ (J1E _) Aa)).trans e1;have t3:=(World.cell?_of_block (w:=w4) (tk _ (J1E _) Aa)).trans e2;have HY:=Q0a hx;clear hx tk))
    go_wp2_with fail
    (try go_ret2);exact HY.out
theorem Q8A{w:World}{S:CO}{fr:List Nat}{N K:Nat}(h:Sep w S.hl)(ok:S.Ok fr N K)(hN:N+1<1048576){x:Nat}(hx:x<4294967296)(k lim:Int) :
  Calls prog 79 #[.pointer (some ⟨S.c,0,none⟩),.int .u32 x,.int .i64 k,.int .i64 lim] w (MakeR S fr x k lim w):=by
 cases hp:pget S.l 1 x with
 | none =>
  refine(Q8z k lim 8 (by decide) (Z0P (by decide) (Q3b h ok.inv.lok hx 1 hp))).mono ?_;rintro r w'⟨rfl,hb⟩;exact .inl ⟨hp,rfl,h.grown hb⟩
 | some f =>
  by_cases hk:f.kind=1
  ·have hO:=Q8y h ok hx hp hk;by_cases JS:¬(k=8∨1<=k/\k<=5)∨k=1/\lim<0
   ·refine(Z4I f.own k lim JS hO).mono ?_;rintro r w'⟨rfl,hb⟩;exact .inr ⟨f,hp,.inr (.inl ⟨hk,JS,rfl,h.grown hb⟩)⟩
   ·have CY:∃n:Nat,k=(n:Int)/\(n=8∨1<=n/\n<=5)/\(n=1->0<=lim):=⟨k.toNat,by omega,by omega,by omega⟩
    obtain⟨n,rfl,h1,h2⟩:=CY;exact Z2d h ok hN hx hp hk h1 h2
  ·refine(Q8z k lim 10 (by decide) (Z0P (by decide) (Q2J h ok.inv.lok hx 1 hp (by decide) (by omega)))).mono ?_;rintro r w'⟨rfl,hb⟩;exact .inr ⟨f,hp,.inl ⟨hk,rfl,h.grown hb⟩⟩
attribute [local go_sem] Oper.semAt_some
theorem Q4O{w:World}{B B' size n:Nat}{T:TypeId}{v:Value}{xs:List Value}(h:w.ownsRow B T size v n xs)(hB:B'<=B):w.ownsRow B' T size v n xs:=by
 refine⟨h.1,?_⟩;rcases h.2 with h|⟨g,cap,Ao,e,hg,rest⟩
 ·exact .inl h
 ·exact .inr ⟨g,cap,Ao,e,J1F hB hg,rest⟩
def Two(w wr:World)(v:Value)(L:List Nat)(u:Value)(M:List Nat):Prop:=OutH w wr v L/\OutH w wr u M/\∀b,v.ownBlock=some b->u.ownBlock≠some b
open Go.Sort (Holds putRow holds_putRow holds_ahead putRow_self reverseLoop swp size_swp)
end Go.Proofs.YtfidemmgofcnmaaGreatDoor
namespace Go.Proofs.YtfidemmgofcnmaaGreatDoor
open Go.RowKit Go.Proofs.Tryz
theorem Q8B{w w1:World}{B size n:Nat}{T:TypeId}{v:Value}{xs:List Value}(h:w.ownsRow B T size v n xs)(hk:∀b,v.ownBlock=some b->w1.heap[b]?=w.heap[b]?):w1.ownsRow B T size v n xs:=by
 refine⟨h.1,?_⟩;rcases h.2 with h|⟨g,cap,Ao,rfl,hB,hg,rest⟩
 ·exact .inl h
 ·exact .inr ⟨g,cap,Ao,rfl,hB,(hk g rfl).trans hg,rest⟩
theorem Q7E{P:Program}{ops:Array Oper}{rest:List Oper}{o:Oper}{a:Act}{w:World}{Q:Exit->Act->World->Prop}(hg:o.guard=none)(t:TypeId)(ho:o.op=.build t #[])(dst:Option Tmp)(hdst:o.dst=dst)(cells:Array Value)
  (hb:P.built t []=some cells)
  (h:wpList P ops Q rest (a.put dst (.agg cells)) w):wpList P ops Q (o::rest) a w:=by
 subst hdst;have e:(Array.map (fun(x:Nat×Operand)=>match x with|(i,x)=>(i,a.eval x)) #[]).toList=[]:=by simp
 refine wpList_build hg t #[] ho (by rw[e,hb];rfl) ?_;rw[e,hb];exact h
def tabZ:List Value:=(List.replicate 256 (noPl 0)).flatMap Pl.cells
theorem Z2e:prog.built 302 (([]:List (Nat×Value)))=some tabZ.toArray:=by kernel_rfl
theorem Z2f:(Value.agg tabZ.toArray).cells=tabZ.toArray:=by kernel_rfl
def J0V(H:HL)(w:World)(r:Ending)(w':World):Prop:=∃t,r=.returned (.pointer (some ⟨t,0,none⟩))/\Step H ((⟨t,List.replicate 256 (noPl 0)⟩:HT).hl++H) w w'
theorem Z7t{w:World}{H:HL}(h:Sep w H):Calls prog 147 #[] w (J0V H w):=by
 have HR:Hid (J0V H w (.returned (.pointer (some ⟨w.heap.size,0,none⟩))) (w.alloc (.cells tabZ.toArray 302))):=⟨_,rfl,h.new 302 tabZ⟩
 clear h;have hz:=Z2e;have hc:=Z2f;generalize tabZ.toArray=Z at *
 go_enter func147,ntmps147
 repeat (first|refine Q7E rfl 302 rfl _ rfl Z hz ?_|refine Go.Great.wpList_boxTo rfl 302 _ rfl _ rfl _ rfl Z hc ?_|go_step)
 (try go_ret);exact HR.out
theorem Z4J(top k i:Nat):fre (uOf []) top k i=(k==top):=by
 have hc:∀k i,clr (uOf []) k i=true:=fun k i=>(clr_iff _ _ _).2 fun p _=>by simp[uOf]
 unfold fre;rw[hc,hc];simp
theorem Z0R(top:Nat):(∀k,k<top->fstG (fre (uOf []) top) top k 0=none)/\fstG (fre (uOf []) top) top top 0=some 0:=by
 refine⟨fun k hk=>Q5m fun i _ hi=>?_,Q5l ?_ (J1E _) ?_ fun i h0 h1=>by omega⟩
 ·rw[J3i];have:i<2 ^ (top-k):=by simpa using hi
  rw[J3k this];show(fre (uOf []) top k i)≠true;rw[Z4J];simp;omega
 ·simp
 ·rw[J4O];show((List.map _ [0])[0]?).getD false=true;show fre (uOf []) top top 0=true;rw[Z4J];simp
theorem Z4K{c:CA}{d:BD}{a:Nat}{ps':List Nat}(Ds:c.pg=[])(Hn:d.ps=[])(h:J0N c d a ps'):a=64/\ps'=[0]:=by
 rcases h with ⟨k,x,i,hx,_⟩|⟨_,k0,i0,hk,hf,hp,ha,hq⟩
 ·rw[Ds] at hx;simp at hx
 ·rw[Hn] at hf hp;obtain⟨f1,f2⟩:=Z0R d.top;have Pu:k0=d.top:=by
   rcases J4g k0 d.top with e|e
   ·rw[f1 k0 e] at hf;cases hf
   ·omega
  subst Pu;rw[f2] at hf;cases hf;rw[Hn] at hq;exact⟨by rw[ha];unfold addr;omega,by rw[hq];simp⟩
theorem Q9M{P:PL}{n:Nat}(Hn:P.d.ps=[]):¬NoRoom P n:=by
 rintro⟨c,hc,_,hn⟩;rw[Hn] at hn;have:=hn P.d.top (J1E _);rw[(Z0R P.d.top).2] at this;cases this
theorem Z7u{w:World}{P:PL}(h:Sep w P.hl){top:Nat}{limit:Int}(hf:FreshP P top limit)(hl:P.cs.length=7)(h1:6<=top)(h0:64<=limit)(hm:limit<=1073741824) :
  Calls prog 15 #[.pointer (some ⟨P.p,0,none⟩),.int .i64 0,.int .i64 1] w fun r w'=>r=.returned (.tuple #[.int .i64 64,.int .i64 0])/\∃P',GotM P [] 0 1 64 P' []/\P'.d.ps=[0]/\(∃b,P'.q.E=[⟨0,b,⟨limit,64,0,-1,0⟩⟩])/\P'.q.next=1/\Step P.hl P'.hl w w':=by
 have ok:=hf.ok hl h1 (by omega) hm;have Ds:=Z7e ok fun j=>Q6O hf j
 obtain⟨t,m,b,hq⟩:=hf.q;have DI:find P.q.E 0=some ⟨0,b,⟨limit,0,0,-1,0⟩⟩:=by rw[hq];rfl
 refine(Q5c h ok 0 1).mono ?_;rintro r w' (⟨h0,_⟩|⟨_,h0,_⟩|⟨_,⟨e',h2,h3⟩,_⟩|⟨n,e',hn,_,_,h2,_,hr⟩)
 ·exact absurd h0 (by decide)
 ·rw[DI] at h0;cases h0
 ·rw[DI] at h2;cases h2;have:((Q0X 1:Nat):Int)=64:=rfl;rw[this] at h3;simp at h3;omega
 ·have Da:n=1:=by omega
  subst Da;rcases hr with ⟨a,P',rfl,g,Aq⟩|⟨Aw,_⟩
  ·obtain⟨c,_,hc,_,ht⟩:=g.which;obtain⟨rfl,Or⟩:=Z4K (Ds _ c hc.2) hf.ps ht.which;have gm:=g.gotM ok;obtain⟨MZ,hE,Bm,_⟩:=gm.acc (own:=0) DI;refine⟨rfl,P',gm,Or,⟨b,?_⟩,?_,Aq⟩
   ·rw[hE,hq];simp[Q1W,upd,costK,Q0e]
   ·rw[Bm,hq];rfl
  ·exact absurd Aw (Q9M hf.ps)
structure Z4L(S:CO)(top:Nat)(limit:Int)(period:Nat):Prop where
 ok:S.Ok [] 1 0
 l:S.l=newL 64
 ts:S.ts=[]
 now:S.now=0
 period:S.period=period
 top:S.P.d.top=top
 next:S.P.q.next=1
 ps:S.P.d.ps=[0]
 q:∃b,S.P.q.E=[⟨0,b,⟨limit,64,0,-1,0⟩⟩]
 xc:S.xc=x0
 high:∀j,2<=j->S.P.usedOf j=[]
def Z7v(top:Nat)(limit:Int)(period:Nat)(H:HL)(w:World)(r:Ending)(w':World):Prop:=∃S:CO,r=.returned (.pointer (some ⟨S.c,0,none⟩))/\Z4L S top limit period/\Step H (S.hl++H) w w'
theorem Z9T:LOk (List.replicate 256 (noPl 0)):=⟨J1O,fun p hp=>by rw[J1M hp];exact⟨J3z _,J3z _⟩⟩
theorem Z7w:Fst (List.replicate 256 (noPl 0)) 0 (noPl 0):=⟨rfl,rfl,fun j q h _=>by omega⟩
theorem Z4M{w w1 w2 w3:World}{H:HL}{P:PL}{top period:Nat}{limit:Int}{t g:Nat}(hf:FreshP P top limit)(hl:P.cs.length=7)(h1:6<=top)(h0:64<=limit)(hm:limit<=1073741824)(A9:1<=period)(Ax:period<=16)
  (s1:Step H (P.hl++H) w w1) (s2:Step (P.hl++H) ((⟨t,List.replicate 256 (noPl 0)⟩:HT).hl++(P.hl++H)) w1 w2) (s3:Step ((⟨t,List.replicate 256 (noPl 0)⟩:HT).hl++(P.hl++H)) (qhl g period 0 none []++((⟨t,List.replicate 256 (noPl 0)⟩:HT).hl++(P.hl++H))) w2 w3) :
  (w3.alloc (.cells #[.pointer (some ⟨P.p,0,none⟩),.pointer (some ⟨t,0,none⟩),.pointer (some ⟨g,0,none⟩)] 187)).cell? ⟨w3.heap.size,0,none⟩=some (.pointer (some ⟨P.p,0,none⟩)) /\
  (w3.alloc (.cells #[.pointer (some ⟨P.p,0,none⟩),.pointer (some ⟨t,0,none⟩),.pointer (some ⟨g,0,none⟩)] 187)).cell? ⟨w3.heap.size,2,none⟩=some (.pointer (some ⟨g,0,none⟩)) /\
  Calls prog 15 #[.pointer (some ⟨P.p,0,none⟩),.int .i64 0,.int .i64 1] (w3.alloc (.cells #[.pointer (some ⟨P.p,0,none⟩),.pointer (some ⟨t,0,none⟩),.pointer (some ⟨g,0,none⟩)] 187)) fun r w4=>r=.returned (.tuple #[.int .i64 64,.int .i64 0])/\w4.cell? ⟨w3.heap.size,1,none⟩=some (.pointer (some ⟨t,0,none⟩)) /\
   Calls prog 149 #[.pointer (some ⟨t,0,none⟩),.agg #[.int .i64 1,.int .i64 64,.int .i64 0]] w4 fun r w5=>(∃x y:Value,r=.returned (.tuple #[x,y]))/\Z7v top limit period H w (.returned (.pointer (some ⟨w3.heap.size,0,none⟩))) w5:=by
 have s123:=(s1.trans s2).trans s3;have s4:=s123.trans (s123.sep.new 187 [.pointer (some ⟨P.p,0,none⟩),.pointer (some ⟨t,0,none⟩),.pointer (some ⟨g,0,none⟩)]);have hc:=Cells.new w3 187 [.pointer (some ⟨P.p,0,none⟩),.pointer (some ⟨t,0,none⟩),.pointer (some ⟨g,0,none⟩)];obtain⟨S,hS⟩:∃S:CO,S=⟨w3.heap.size,P,t,List.replicate 256 (noPl 0),g,period,0,none,[],x0⟩:=⟨_,rfl⟩
 have Cp:((w3.heap.size,isC 187 [.pointer (some ⟨P.p,0,none⟩),.pointer (some ⟨t,0,none⟩),.pointer (some ⟨g,0,none⟩)])::(qhl g period 0 none []++((⟨t,List.replicate 256 (noPl 0)⟩:HT).hl++(P.hl++H)))).Perm (S.hl++H):=by
  refine Q0V fun a=>?_
  rw[hS];simp only[CO.hl,CO.head,CO.ht,CO.qh,hc_append,hc_cons,ptr];omega
 have s5:=s4.perm (J4Q _) Cp;have sS:Sep (w3.alloc (.cells #[.pointer (some ⟨P.p,0,none⟩),.pointer (some ⟨t,0,none⟩),.pointer (some ⟨g,0,none⟩)] 187)) S.hl:=s5.sep.left;refine⟨hc.cell 0 _ rfl,hc.cell 2 _ rfl,?_⟩;have sP:=CO.sP sS;have eP:S.P=P:=by rw[hS]
 rw[eP] at sP;refine(Z7u sP hf hl h1 h0 hm).mono ?_;rintro r w4⟨rfl,P',gm,Hn,hq,Bm,st⟩;have st':Step S.hl (S.setP P').hl _ w4:=CO.stepP sS P' (by rw[gm.same.p,hS]) (by rw[hS];exact st);have c1:=CO.c1 st'.sep;have Bv:=Z4B (h:=(S.setP P').ht) (CO.sT st'.sep) (by rw[hS];exact Z9T) (i:=0) (p:=noPl 0) (by rw[hS];exact Z7w) 1 64 0 0;have ect:S.t=t:=by rw[hS]
 have ecc:S.c=w3.heap.size:=by rw[hS]
 have Sx:w4.cell? ⟨w3.heap.size,1,none⟩=some (.pointer (some ⟨t,0,none⟩)):=by
  rw[<- ect,<- ecc];exact c1
 refine⟨rfl,Sx,?_⟩;have M7:Calls prog 149 #[.pointer (some ⟨t,0,none⟩),.agg #[.int .i64 1,.int .i64 64,.int .i64 0]] w4 (PutT (S.setP P').ht ⟨1,64,0,1,(noPl 0).age,0⟩ 0 w4):=by
  rw[<- ect];exact Bv
 refine M7.mono ?_;rintro r w5⟨rfl,st5⟩;refine⟨⟨_,_,rfl⟩,(S.setP P').setL (newL 64),by show _=Ending.returned (.pointer (some ⟨S.c,0,none⟩));rw[ecc],?_,?_⟩
 ·have PP:=Z9O hf hl h1 (by omega) hm gm;refine⟨⟨?_,?_,?_,?_,?_,?_,?_,?_⟩,rfl,?_,?_,?_,?_,Bm,Hn,hq,by show S.xc=x0;rw[hS],fun j hj=>?_⟩
  ·show Inv P' (newL 64) [] S.xc (S.ts.map Prod.fst);rw[hS];exact PP
  ·show 1<=S.period/\_;rw[hS];exact⟨A9,Ax⟩
  ·show ∀x∈S.ts,_;rw[hS];exact fun x hx=>by cases hx
  ·show S.ts.Pairwise _;rw[hS];exact .nil
  ·show ovOk S.rv S.ts.length;rw[hS];exact rfl
  ·show P'.q.next<=_;rw[Bm];decide
  ·show S.now<=0;rw[hS];exact J1E _
  ·intro p hp;rcases Q1J hp with rfl|rfl <;> exact J3z _
  ·show S.ts=[];rw[hS]
  ·show S.now=0;rw[hS]
  ·show S.period=period;rw[hS]
  ·show P'.d.top=top;rw[gm.same.top,hf.etop]
  ·show P'.usedOf j=[];rw[gm.other j (by omega)];unfold PL.usedOf;split
   ·split
    ·rename_i c hc;unfold CA.used;rw[(hf.cs _ c hc).2.2.2];rfl
    ·rfl
   ·rfl
 ·have e1:(S.setP P').ht.l.set 0 ⟨1,64,0,1,(noPl 0).age,0⟩=newL 64:=by rw[hS];rfl
  have st6:Step (S.setP P').hl ((S.setP P').setL (newL 64)).hl w4 w5:=by
   have:=CO.stepL (S:=S.setP P') st'.sep _ st5;rw[e1] at this;exact this
  have f1:=Step.frame [] H (by simpa using s5.sep) (st'.trans st6);simp only[J3H] at f1;exact s5.trans f1
theorem Z7x{w:World}{H:HL}(h:Sep w H)(top:Nat)(h1:6<=top)(h2:top<=20)(limit:Int)(h0:64<=limit)(hl:limit<=((2 ^ (top+10):Nat):Int))(period:Nat)(A9:1<=period)(Ax:period<=16) :
  Calls prog 78 #[.int .i64 ((2 ^ (top+10):Nat):Int),.int .i64 limit,.int .i64 period] w (Z7v top limit period H w):=by
 have b2:2 ^ (top+10)<=1073741824:=J1F (J2L (by omega) (by omega)) (by decide:2 ^ 30<=1073741824);have k1:=Z7c h top h1 h2 limit (by omega) hl;have HQ:Hid (∀r w1,Z9N top limit H w r w1->∃pp,r=.returned (.pointer (some ⟨pp,0,none⟩))/\Calls prog 147 #[] w1 fun r w2=>∃t,r=.returned (.pointer (some ⟨t,0,none⟩)) /\
   Calls prog 148 #[.int .i64 period] w2 fun r w3=>∃g,r=.returned (.pointer (some ⟨g,0,none⟩)) /\
    (w3.alloc (.cells #[.pointer (some ⟨pp,0,none⟩),.pointer (some ⟨t,0,none⟩),.pointer (some ⟨g,0,none⟩)] 187)).cell? ⟨w3.heap.size,0,none⟩=some (.pointer (some ⟨pp,0,none⟩)) /\
    (w3.alloc (.cells #[.pointer (some ⟨pp,0,none⟩),.pointer (some ⟨t,0,none⟩),.pointer (some ⟨g,0,none⟩)] 187)).cell? ⟨w3.heap.size,2,none⟩=some (.pointer (some ⟨g,0,none⟩)) /\
    Calls prog 15 #[.pointer (some ⟨pp,0,none⟩),.int .i64 0,.int .i64 1] (w3.alloc (.cells #[.pointer (some ⟨pp,0,none⟩),.pointer (some ⟨t,0,none⟩),.pointer (some ⟨g,0,none⟩)] 187)) fun r w4=>r=.returned (.tuple #[.int .i64 64,.int .i64 0])/\w4.cell? ⟨w3.heap.size,1,none⟩=some (.pointer (some ⟨t,0,none⟩)) /\
     Calls prog 149 #[.pointer (some ⟨t,0,none⟩),.agg #[.int .i64 1,.int .i64 64,.int .i64 0]] w4 fun r w5=>(∃x y:Value,r=.returned (.tuple #[x,y]))/\Z7v top limit period H w (.returned (.pointer (some ⟨w3.heap.size,0,none⟩))) w5):=by
  rintro r w1⟨P,rfl,Ab,hf,s1⟩;refine⟨P.p,rfl,(Z7t s1.sep).mono ?_⟩;rintro r w2⟨t,rfl,s2⟩;refine⟨t,rfl,(Z7n s2.sep period A9 Ax).mono ?_⟩;rintro r w3⟨g,rfl,s3⟩;exact⟨g,rfl,Z4M hf Ab h1 h0 (by omega) A9 Ax s1 s2 s3⟩
 generalize Z7v top limit period H w=Q at *
 clear h;go_enter func78,ntmps78;go_wp2_with fail;refine k1.mono ?_;intro r w1 hx;obtain⟨pp,rfl,ht⟩:=HQ.out _ _ hx;have HT:=Q0a ht;clear hx ht HQ k1;go_wp2_with fail;refine HT.out.mono ?_;rintro r w2⟨t,rfl,hg⟩;have HG:=Q0a hg;clear hg HT;go_wp2_with fail;refine HG.out.mono ?_;rintro r w3⟨g,rfl,c0,c2,BW⟩;have Cc:=Q0a BW;clear BW HG;go_wp2_with fail;refine Cc.out.mono ?_;rintro r w4⟨rfl,c1,Bv⟩;have Mm:=Q0a Bv;clear Bv Cc c0 c2;go_wp2_with fail;refine Mm.out.mono ?_;rintro r w5⟨⟨x,y,rfl⟩,hq⟩;have HX:=Q0a hq;clear hq Mm c1;go_wp2_with fail
 (try go_ret);exact HX.out
structure Able(S:CO)(f:Pl)(e:En Fa)(n:Nat)(lim:Int)(i:Nat)(p:Pl):Prop where
 kind:f.kind=1
 may:n=8∨1<=n/\n<=5
 acc:find S.P.q.E f.own=some e
 cost:((costK n:Nat):Int)<=Q0u e
 page:S.P.d.ps.length<2 ^ S.P.d.top
 place:Fst S.l i p
 lim:n=1->0<=lim/\lim<=Q0u e-64/\S.P.q.E.length<32
theorem MakeR.able{S:CO}{fr:List Nat}{h:Nat}{n:Nat}{lim:Int}{w w':World}{r:Ending}(m:MakeR S fr h (n:Int) lim w r w'){f:Pl}(hf:pget S.l 1 h=some f){e:En Fa}{i:Nat}{p:Pl}(a:Able S f e n lim i p) :
  ∃b x P' fr',r=two (nm i p) 0/\MadeOk S fr f e n b lim x i p P' fr'/\Step S.hl (S.made f n b x i p P').hl w w':=by
 rcases m with ⟨h0,_⟩|⟨f',Sn,hm⟩
 ·rw[hf] at h0;cases h0
 ·rw[hf] at Sn;cases Sn;rcases hm with ⟨h0,_⟩|⟨_,hc,_⟩|⟨n',e',hn,_,_,_,he,hk⟩
  ·exact absurd a.kind h0
  ·exfalso;have:=a.may;rcases hc with h1|⟨h1,h2⟩
   ·apply h1;omega
   ·have:=a.lim (by omega);omega
  ·have:n'=n:=by omega
   subst this;rw[a.acc] at he;cases he;rcases hk with ⟨h0,_⟩|⟨_,h0,_⟩|⟨_,er,P',hc,_⟩|⟨i',p',b,x,P',fr',h1,h2,h3,_,rfl,hm,st⟩
   ·have:=a.cost;omega
   ·have:=h0.len;have:=a.page;omega
   ·exfalso;obtain⟨p1,p2,p3⟩:=a.place;rcases hc with ⟨_,h1|⟨h1,h2⟩⟩|⟨_,h1,h2⟩
    ·exact h1 p (J3L p1) p2
    ·have:=a.lim h1;omega
    ·have:=a.lim h1;omega
   ·obtain⟨p1,p2,p3⟩:=a.place;have hi:i'=i:=by
     rcases J4y i' i with h|h|h
     ·exact absurd h2 (p3 i' p' h h1)
     ·exact h
     ·exact absurd p2 (h3 i p h p1)
    subst hi;rw[p1] at h1;cases h1;exact⟨b,x,P',fr',rfl,hm,st⟩
structure Ent where
 h:Nat
 r:Nat
 nd:Nat
def Ent.a(e:Ent):Nat:=e.h+1+4294967296*e.r
def Q0t:Option Ent->Nat
 | none=>0
 | some e=>e.a
def Q0T:Option Ent->Nat
 | none=>0
 | some e=>e.nd
theorem codeA_zero{o:Option Ent}:Q0t o=0↔o=none:=by
 cases o with
 | none=>simp[Q0t]
 | some e=>simp[Q0t,Ent.a]
structure TB where
 lf:Nat->Nat
 en:Nat->Option Ent
def TB.emp:TB:=⟨fun _=>0,fun _=>none⟩
structure TB.In(t:TB)(m:List Nat)(a:Nat):Prop where
 root:∀k,k<16->Q0m m (a+8*k)=t.lf k
 ent:∀s,s<256->t.lf (s/16)≠0->Q0m m (t.lf (s/16)+16*(s%16))=Q0t (t.en s)/\Q0m m (t.lf (s/16)+16*(s%16)+8)=Q0T (t.en s)
 hole:∀s,s<256->t.lf (s/16)=0->t.en s=Option.none
def TB.Full(t:TB):Prop:=∀k,k<16->t.lf k≠0->∃s,s<256/\s/16=k/\t.en s≠none
def TB.Nil(t:TB):Prop:=(∀k,k<16->t.lf k=0)/\∀s,s<256->t.en s=none
theorem TB.emp_nil:TB.emp.Nil:=⟨fun _ _=>rfl,fun _ _=>rfl⟩
theorem TB.In.kept{t:TB}{m m':List Nat}{a:Nat}(h:t.In m a)(k1:Kept m m' a 128)(k2:∀k,k<16->t.lf k≠0->Kept m m' (t.lf k) 256):t.In m' a:=by
 refine⟨fun k hk=>?_,fun s hs hl=>?_,h.hole⟩
 ·rw[(k1.sub (b:=a+8*k) (k:=8) (by omega) (by omega)).word];exact h.root k hk
 ·have:=k2 (s/16) (by omega) hl;rw[(this.sub (b:=t.lf (s/16)+16*(s%16)) (k:=8) (by omega) (by omega)).word,(this.sub (b:=t.lf (s/16)+16*(s%16)+8) (k:=8) (by omega) (by omega)).word];exact h.ent s hs hl
theorem TB.Nil.new{t:TB}(hn:t.Nil){m:List Nat}{a:Nat}(h:∀j,a<=j->j<a+128->m[j]?=some 0):t.In m a:=by
 refine⟨fun k hk=>?_,fun s hs hl=>absurd (hn.1 (s/16) (by omega)) hl,fun s hs _=>hn.2 s hs⟩;have:(m.drop (a+8*k)).take 8=List.replicate 8 0:=by
  apply J3f
  intro j;rw[J3A,J3y];split
  ·rw[J3Z];exact h _ (by omega) (by omega)
  ·rfl
 unfold Q0m;rw[this,hn.1 k hk];rfl
theorem TB.Nil.full{t:TB}(hn:t.Nil):t.Full:=fun k hk h=>absurd (hn.1 k hk) h
def TB.setE(t:TB)(s:Nat)(o:Option Ent):TB:={t with en:=fun x=>if x=s then o else t.en x}
def TB.setL(t:TB)(k a:Nat):TB:={t with lf:=fun x=>if x=k then a else t.lf x}
theorem TB.In.set{t:TB}{m m':List Nat}{a s:Nat}{o:Option Ent}(h:t.In m a)(hs:s<256)(hl:t.lf (s/16)≠0)(hk:∀b n,b+n<=t.lf (s/16)+16*(s%16)∨t.lf (s/16)+16*(s%16)+16<=b->Kept m m' b n)
  (ha:Q0m m' (t.lf (s/16)+16*(s%16))=Q0t o) (hb:Q0m m' (t.lf (s/16)+16*(s%16)+8)=Q0T o) (AW:a+128<=t.lf (s/16)∨t.lf (s/16)+256<=a)
  (F5:∀k,k<16->k≠s/16->t.lf k≠0->t.lf k+256<=t.lf (s/16)∨t.lf (s/16)+256<=t.lf k):(t.setE s o).In m' a:=by
 refine⟨fun k BE=>?_,fun x hx CU=>?_,fun x hx CU=>?_⟩
 ·show Q0m m' _=t.lf k;rw[(hk (a+8*k) 8 (by omega)).word];exact h.root k BE
 ·have EN:t.lf (x/16)≠0:=CU;show Q0m m' (t.lf (x/16)+_)=Q0t (if x=s then o else t.en x)/\Q0m m' (t.lf (x/16)+_+8)=Q0T (if x=s then o else t.en x);by_cases e:x=s
  ·subst e;rw[if_pos rfl];exact⟨ha,hb⟩
  ·rw[if_neg e];by_cases e2:x/16=s/16
   ·rw[e2] at EN ⊢;have Ac:x%16≠s%16:=by omega
    have h0:=h.ent x hx (by rw[e2];exact EN);rw[e2] at h0;rw[(hk (t.lf (s/16)+16*(x%16)) 8 (by omega)).word,(hk (t.lf (s/16)+16*(x%16)+8) 8 (by omega)).word];exact h0
   ·have:=F5 (x/16) (by omega) e2 EN;rw[(hk (t.lf (x/16)+16*(x%16)) 8 (by omega)).word,(hk (t.lf (x/16)+16*(x%16)+8) 8 (by omega)).word];exact h.ent x hx EN
 ·have EN:t.lf (x/16)=0:=CU;show(if x=s then o else t.en x)=none;by_cases e:x=s
  ·subst e;exact absurd EN hl
  ·rw[if_neg e];exact h.hole x hx EN
theorem TB.In.grow{t:TB}{m m':List Nat}{a k L:Nat}(h:t.In m a)(hk:k<16)(hl:t.lf k=0)(hL:L≠0)(Br:Q0m m' (a+8*k)=L)(hz:∀j,L<=j->j<L+256->m'[j]?=some 0)
  (hr:∀x,x<16->x≠k->Kept m m' (a+8*x) 8) (F5:∀x,x<16->t.lf x≠0->Kept m m' (t.lf x) 256):(t.setL k L).In m' a:=by
 refine⟨fun x hx=>?_,fun s hs hsl=>?_,fun s hs hsl=>?_⟩
 ·show Q0m m' _=if x=k then L else t.lf x
  by_cases e:x=k
  ·subst e;rw[if_pos rfl];exact Br
  ·rw[if_neg e,(hr x hx e).word];exact h.root x hx
 ·show Q0m m' ((if s/16=k then L else t.lf (s/16))+_)=Q0t (t.en s)/\Q0m m' ((if s/16=k then L else t.lf (s/16))+_+8)=Q0T (t.en s);by_cases e:s/16=k
  ·rw[if_pos e];have hn:=h.hole s hs (by rw[e];exact hl);rw[hn];have zw:∀b,L<=b->b+8<=L+256->Q0m m' b=0:=fun b h1 h2=>by
    have:(m'.drop b).take 8=List.replicate 8 0:=by
     apply J3f
     intro j;rw[J3A,J3y];split
     ·rw[J3Z];exact hz _ (by omega) (by omega)
     ·rfl
    unfold Q0m;rw[this];rfl
   exact⟨zw _ (by omega) (by omega),zw _ (by omega) (by omega)⟩
  ·rw[if_neg e];have EJ:t.lf (s/16)≠0:=by
    have:(if s/16=k then L else t.lf (s/16))≠0:=hsl
    rwa [if_neg e] at this
   have:=F5 (s/16) (by omega) EJ;rw[(this.sub (b:=t.lf (s/16)+16*(s%16)) (k:=8) (by omega) (by omega)).word,(this.sub (b:=t.lf (s/16)+16*(s%16)+8) (k:=8) (by omega) (by omega)).word];exact h.ent s hs EJ
 ·have EJ:(if s/16=k then L else t.lf (s/16))=0:=hsl;show t.en s=none;by_cases e:s/16=k
  ·rw[if_pos e] at EJ;exact absurd EJ hL
  ·rw[if_neg e] at EJ;exact h.hole s hs EJ
theorem TB.In.drop{t:TB}{m m':List Nat}{a k:Nat}(h:t.In m a)(hk:k<16)(he:∀s,s<256->s/16=k->t.en s=none)(Br:Q0m m' (a+8*k)=0)
  (hr:∀x,x<16->x≠k->Kept m m' (a+8*x) 8) (F5:∀x,x<16->x≠k->t.lf x≠0->Kept m m' (t.lf x) 256):(t.setL k 0).In m' a:=by
 refine⟨fun x hx=>?_,fun s hs hsl=>?_,fun s hs hsl=>?_⟩
 ·show Q0m m' _=if x=k then 0 else t.lf x
  by_cases e:x=k
  ·subst e;rw[if_pos rfl];exact Br
  ·rw[if_neg e,(hr x hx e).word];exact h.root x hx
 ·have EC:(if s/16=k then 0 else t.lf (s/16))≠0:=hsl;have e:s/16≠k:=fun e=>EC (by rw[if_pos e])
  rw[if_neg e] at EC;show Q0m m' ((if s/16=k then 0 else t.lf (s/16))+_)=Q0t (t.en s)/\Q0m m' ((if s/16=k then 0 else t.lf (s/16))+_+8)=Q0T (t.en s);rw[if_neg e];have:=F5 (s/16) (by omega) e EC;rw[(this.sub (b:=t.lf (s/16)+16*(s%16)) (k:=8) (by omega) (by omega)).word,(this.sub (b:=t.lf (s/16)+16*(s%16)+8) (k:=8) (by omega) (by omega)).word];exact h.ent s hs EC
 ·have EC:(if s/16=k then 0 else t.lf (s/16))=0:=hsl;show t.en s=none;by_cases e:s/16=k
  ·exact he s hs e
  ·rw[if_neg e] at EC;exact h.hole s hs EC
def TB.lvs(t:TB):List Nat:=(List.range 16).filterMap fun k=>if t.lf k=0 then none else some (t.lf k)
def TB.nds(t:TB):List Nat:=(List.range 256).filterMap fun s=>(t.en s).map Ent.nd
def TB.cost(t:TB):Int:=256*(t.lvs.length:Int)+48*(t.nds.length:Int)
theorem mem_lvs{t:TB}{a:Nat}:a∈t.lvs↔∃k,k<16/\t.lf k=a/\a≠0:=by
 unfold TB.lvs;simp only[J1T,J1U]
 constructor
 ·rintro⟨k,hk,h⟩;split at h
  ·cases h
  ·rename_i h0;cases h;exact⟨k,hk,rfl,h0⟩
 ·rintro⟨k,hk,rfl,h0⟩;exact⟨k,hk,by rw[if_neg h0]⟩
theorem mem_nds{t:TB}{a:Nat}:a∈t.nds↔∃s e,s<256/\t.en s=some e/\e.nd=a:=by
 unfold TB.nds;simp only[J1T,J1U]
 constructor
 ·rintro⟨s,hs,h⟩;obtain⟨e,h1,h2⟩:=J5q.1 h;exact⟨s,e,hs,h1,h2⟩
 ·rintro⟨s,e,hs,h1,h2⟩;exact⟨s,hs,by rw[h1,<- h2];rfl⟩
theorem Q3X{α β:Type}{f g:α->Option β}:∀{l:List α},(∀x∈l,f x=g x)->l.filterMap f=l.filterMap g
 | [],_=>rfl
 | x::r,h=>by rw[J1R,J1R,h x (by simp),Q3X (l:=r) fun y hy=>h y (by simp[hy])]
theorem Q7F{α β:Type}(f g:Nat->Option β)(n i:Nat)(hi:i<n)(h:∀j,j<n->j≠i->g j=f j):∃A B,(List.range n).filterMap f=A++(f i).toList++B/\(List.range n).filterMap g=A++(g i).toList++B:=by
 have e:List.range n=List.range i++i::(List.range' (i+1) (n-(i+1))):=by
  rw[List.range_eq_range',List.range_eq_range'];have h1:List.range' 0 n=List.range' 0 i++List.range' i (n-i):=by
   have:=List.range'_append (s:=0) (m:=i) (n:=n-i) (step:=1);simp only[Nat.one_mul,J4b] at this;rw[this];congr 1;omega
  rw[h1];congr 1;have:n-i=(n-(i+1))+1:=by omega
  rw[this,List.range'_succ]
 have s1:∀(f:Nat->Option β),(List.range n).filterMap f=(List.range i).filterMap f++(f i).toList++(List.range' (i+1) (n-(i+1))).filterMap f:=fun f=>by
  rw[e,J1Q,J1R];cases f i <;> simp
 refine⟨(List.range i).filterMap f,(List.range' (i+1) (n-(i+1))).filterMap f,s1 f,?_⟩;rw[s1 g];have c1:(List.range i).filterMap g=(List.range i).filterMap f:=Q3X fun j hj=>h j (by have:=J1U.1 hj;omega) (by have:=J1U.1 hj;omega)
 have c2:(List.range' (i+1) (n-(i+1))).filterMap g=(List.range' (i+1) (n-(i+1))).filterMap f:=Q3X fun j hj=>by
  have:=List.mem_range'_1.1 hj;exact h j (by omega) (by omega)
 rw[c1,c2]
theorem TB.nds_set{t:TB}{s:Nat}(hs:s<256){e:Ent}(h0:t.en s=none):(t.setE s (some e)).nds.Perm (e.nd::t.nds):=by
 obtain⟨A,B,e1,e2⟩:=Q7F (α:=Nat) (fun s=>(t.en s).map Ent.nd) (fun x=>((t.setE s (some e)).en x).map Ent.nd) 256 s hs (fun j _ hj=>by simp[TB.setE,hj]);unfold TB.nds;rw[e1,e2];simp only[TB.setE,if_true,h0,J3l,Option.map_none,J5r,J5s,J3D];rw[J2x];exact J5a
theorem TB.nds_clr{t:TB}{s:Nat}(hs:s<256){e:Ent}(h0:t.en s=some e):t.nds.Perm (e.nd::(t.setE s none).nds):=by
 obtain⟨A,B,e1,e2⟩:=Q7F (α:=Nat) (fun s=>(t.en s).map Ent.nd) (fun x=>((t.setE s none).en x).map Ent.nd) 256 s hs (fun j _ hj=>by simp[TB.setE,hj]);unfold TB.nds;rw[e1,e2];simp only[TB.setE,if_true,h0,J3l,Option.map_none,J5r,J5s,J3D];rw[J2x];exact J5a
theorem TB.nds_same{t:TB}{s:Nat}(hs:s<256){e e':Ent}(h0:t.en s=some e)(hn:e'.nd=e.nd):(t.setE s (some e')).nds=t.nds:=by
 unfold TB.nds;refine Q3X fun x _=>?_
 by_cases h:x=s
 ·subst h;simp[TB.setE,h0,hn]
 ·simp[TB.setE,h]
theorem TB.lvs_new{t:TB}{k a:Nat}(hk:k<16)(h0:t.lf k=0)(ha:a≠0):(t.setL k a).lvs.Perm (a::t.lvs):=by
 obtain⟨A,B,e1,e2⟩:=Q7F (α:=Nat) (fun k=>if t.lf k=0 then none else some (t.lf k)) (fun x=>if (t.setL k a).lf x=0 then none else some ((t.setL k a).lf x)) 16 k hk (fun j _ hj=>by simp[TB.setL,hj]);unfold TB.lvs;rw[e1,e2];simp only[TB.setL,if_true,h0,if_neg ha,J5r,J5s,J3D];rw[J2x];exact J5a
theorem TB.lvs_drop{t:TB}{k:Nat}(hk:k<16)(h0:t.lf k≠0):t.lvs.Perm (t.lf k::(t.setL k 0).lvs):=by
 obtain⟨A,B,e1,e2⟩:=Q7F (α:=Nat) (fun k=>if t.lf k=0 then none else some (t.lf k)) (fun x=>if (t.setL k 0).lf x=0 then none else some ((t.setL k 0).lf x)) 16 k hk (fun j _ hj=>by simp[TB.setL,hj]);unfold TB.lvs;rw[e1,e2];simp only[TB.setL,if_true,if_neg h0,J5r,J5s,J3D];rw[J2x];exact J5a
theorem TB.Nil.lists{t:TB}(hn:t.Nil):t.lvs=[]/\t.nds=[]/\t.cost=0:=by
 have h1:t.lvs=[]:=by
  apply J5t.2
  intro a ha;obtain⟨k,hk,e,h0⟩:=mem_lvs.1 ha;rw[hn.1 k hk] at e;exact h0 e.symm
 have h2:t.nds=[]:=by
  apply J5t.2
  intro a ha;obtain⟨s,e,hs,h,_⟩:=mem_nds.1 ha;rw[hn.2 s hs] at h;cases h
 refine⟨h1,h2,?_⟩;unfold TB.cost;rw[h1,h2];rfl
theorem TB.cost_nn(t:TB):0<=t.cost:=by unfold TB.cost;omega
end Go.Proofs.YtfidemmgofcnmaaGreatDoor

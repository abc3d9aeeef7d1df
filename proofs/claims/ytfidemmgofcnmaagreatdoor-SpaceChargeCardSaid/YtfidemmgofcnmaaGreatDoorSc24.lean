/- SpaceCharge returns true at every input. No condition. Part of its proof. -/
import Derived.Test.YtfidemmgofcnmaaGreatDoorSc23
set_option maxHeartbeats 8000000
set_option maxRecDepth 100000
set_option linter.unusedVariables false
namespace Go.Proofs.YtfidemmgofcnmaaGreatDoor
open Go.RowKit Go.Proofs.Tryz
theorem Q5K {w w1:World} {o:Obj} (hb:Below (w.alloc o).heap.size (w.alloc o) w1) {i:Nat} {v:Value} (hv:(w.alloc o).cell? ⟨w.heap.size,i,none⟩=some v):w1.cell? ⟨w.heap.size,i,none⟩=some v:=
 (World.cell?_of_block (w:=w.alloc o) (hb.block _ (by simp))).trans hv
theorem Z0O {w:World} {S:CO} (h:Sep w S.hl) (lok:LOk S.l) (hf:∀p∈S.l,p.st≠0) (own n a:Nat) (lim:Int) (e:En Fa) :
  Calls prog 153 #[.pointer (some ⟨S.c,0,none⟩),.agg #[.int .i64 n,.int .i64 a,.int .i64 own],.int .i64 lim] w (Q3o S own n a lim e w):=by
 have s0:=h.alloc (.cells #[.int .i64 n,.int .i64 a,.int .i64 own] 54);have c1:=CO.c1 s0;have hr:=Q6l (h:=S.ht) (CO.sT s0) lok;rw [show allL S.ht.l 0=[] from empty_iff.2 hf] at hr;have HR:Hid (∀w1,Below (w.alloc (.cells #[.int .i64 n,.int .i64 a,.int .i64 own] 54)).heap.size (w.alloc (.cells #[.int .i64 n,.int .i64 a,.int .i64 own] 54)) w1->Q3o S own n a lim e w (.returned (.int .i64 11)) w1):=fun w1 hb=>.inl ⟨hf,rfl,h.grown (Q0e hb)⟩
 generalize Q3o S own n a lim e w=Q at *
 unfold CO.ht at hr;clear h lok hf s0;go_enter func153,ntmps153;go_wp2_with fail;refine hr.mono ?_;rintro r w1 ⟨rfl,hb⟩;have HX:=Q0a (HR.out w1 hb);clear hb;go_wp2_with fail
 first|exact HX.out|(go_ret;exact HX.out)
theorem Z6z {l:List Pl} (AD:∃i p,Fst l i p):(allL l 0).length≠0:=fun h=>by
 obtain⟨i,p,h1,h2,_⟩:=AD;exact empty_iff.1 (J4Q h) p (J4O h1) h2
theorem Z8M {w:World} {S:CO} (h:Sep w S.hl) (lok:LOk S.l) (AD:∃i p,Fst S.l i p) (own n a:Nat) (lim:Int) (e:En Fa) (hn:n≠1) :
  Calls prog 153 #[.pointer (some ⟨S.c,0,none⟩),.agg #[.int .i64 n,.int .i64 a,.int .i64 own],.int .i64 lim] w (Q3o S own n a lim e w):=by
 have s0:=h.alloc (.cells #[.int .i64 n,.int .i64 a,.int .i64 own] 54);have hB:=Cells.new w 54 [.int .i64 n,.int .i64 a,.int .i64 own];have c1:=CO.c1 s0;have hr:=Q6l (h:=S.ht) (CO.sT s0) lok;have hm:=Z6z AD;have HR:Hid (∀w1,Below (w.alloc (.cells #[.int .i64 n,.int .i64 a,.int .i64 own] 54)).heap.size (w.alloc (.cells #[.int .i64 n,.int .i64 a,.int .i64 own] 54)) w1->w1.cell? ⟨w.heap.size,0,none⟩=some (.int .i64 n)/\Q3o S own n a lim e w (.returned (.int .i64 0)) w1):=fun w1 hb=>⟨Q5K hb (hB.cell 0 _ rfl),.inr (.inl ⟨AD,hn,rfl,h.grown (Q0e hb)⟩)⟩
 generalize Q3o S own n a lim e w=Q at *
 unfold CO.ht at hr;simp only at hr;generalize (allL S.l 0).length=m at *
 have Av:(((m:Nat):Int)==0)=false:=by simp;omega
 have Ag:(((n:Nat):Int) != 1)=true:=by simp;omega
 have Ar:(((n:Nat):Int)==1)=false:=by simp;omega
 clear h lok AD s0 hB hm hn;go_enter func153,ntmps153;go_wp2_with fail;refine hr.mono ?_;rintro r w1 ⟨rfl,hb⟩;obtain⟨e0,hx⟩:=HR.out w1 hb;have HX:=Q0a hx;clear hb hx;go_wp2_with fail
 first|exact HX.out|(go_ret;exact HX.out)
theorem Z8N {w:World} {S:CO} {fr:List Nat} (h:Sep w S.hl) (ok:S.P.Ok fr) (lok:LOk S.l) (AD:∃i p,Fst S.l i p) {own a:Nat} {e:En Fa} (hf:find S.P.q.E own=some e) {lim:Int} (h0:0<=lim) (CP:S.P.q.next+1<1048576) (ha:a%8=0) (hl:a+8<=S.P.a.mem.length) :
  Calls prog 153 #[.pointer (some ⟨S.c,0,none⟩),.agg #[.int .i64 1,.int .i64 a,.int .i64 own],.int .i64 lim] w (Q3o S own 1 a lim e w):=by
 have s0:=h.alloc (.cells #[.int .i64 1,.int .i64 a,.int .i64 own] 54);have hB:=Cells.new w 54 [.int .i64 1,.int .i64 a,.int .i64 own];have c1:=CO.c1 s0;have hr:=Q6l (h:=S.ht) (CO.sT s0) lok;have hm:=Z6z AD;have HR:Hid (∀w1,Below (w.alloc (.cells #[.int .i64 1,.int .i64 a,.int .i64 own] 54)).heap.size (w.alloc (.cells #[.int .i64 1,.int .i64 a,.int .i64 own] 54)) w1 ->
   (w1.cell? ⟨w.heap.size,0,none⟩=some (.int .i64 1)/\w1.cell? ⟨w.heap.size,1,none⟩=some (.int .i64 a)/\w1.cell? ⟨w.heap.size,2,none⟩=some (.int .i64 own)/\w1.cell? ⟨S.c,0,none⟩=some (.pointer (some ⟨S.P.p,0,none⟩))/\w1.cell? ⟨S.P.p,0,none⟩=some (.pointer (some ⟨S.P.q.t,0,none⟩))/\w.heap.size<w1.heap.size) /\
   Calls prog 14 #[.pointer (some ⟨S.P.q.t,0,none⟩),.int .i64 own,.int .i64 lim] w1.drew fun r w2=>∃(x:Nat) (er:Int),r=.returned (.tuple #[.int .i64 x,.int .i64 er])/\x<1048576 /\
    (w2.cell? ⟨S.c,0,none⟩=some (.pointer (some ⟨S.P.p,0,none⟩))/\w2.cell? ⟨S.P.p,0,none⟩=some (.pointer (some ⟨S.P.q.t,0,none⟩))/\w2.cell? ⟨w.heap.size,1,none⟩=some (.int .i64 a)/\w2.cell? ⟨w.heap.size,2,none⟩=some (.int .i64 own)/\w.heap.size<w2.heap.size/\S.c<w2.heap.size) /\
    (Calls prog 50 #[.pointer (some ⟨S.P.p,0,none⟩)] w2.drew fun r w'=>r=.returned (.pointer (some ⟨S.P.a.a,0,none⟩))/\w2.drew=w') /\
    (Calls prog 50 #[.pointer (some ⟨S.P.p,0,none⟩)] (w2.alloc (.cells #[.int .u64 x] 83)).drew fun r w'=>r=.returned (.pointer (some ⟨S.P.a.a,0,none⟩))/\(w2.alloc (.cells #[.int .u64 x] 83)).drew=w') /\
    Calls prog 57 #[.pointer (some ⟨S.P.a.a,0,none⟩),.int .i64 a,.slice (some ⟨w2.heap.size,0,none⟩) 1 1] (w2.alloc (.cells #[.int .u64 x] 83)).drew fun r w3=>r=.returned (.int .i64 0)/\(w3.cell? ⟨S.c,0,none⟩=some (.pointer (some ⟨S.P.p,0,none⟩))/\w3.cell? ⟨w.heap.size,1,none⟩=some (.int .i64 a))/\Q3o S own 1 a lim e w (.returned (.int .i64 er)) w3):=fun w1 hb=>by
  have Ak:=Q0e hb;have s1:=(h.grown Ak).sep;have b1:=Q5K hb (hB.cell 1 _ rfl);have b2:=Q5K hb (hB.cell 2 _ rfl);have Ab:w.heap.size<w1.heap.size:=by have:=hb.size;rw [World.size_alloc] at this;omega
  refine⟨⟨Q5K hb (hB.cell 0 _ rfl),b1,b2,CO.c0 s1,PL.c0 (CO.sP s1),Ab⟩,?_⟩;refine Calls.mono (Z0N h Ak.drew ok AD hf h0 CP ha hl) ?_;rintro r w2 ⟨x,er,rfl,hx,hs,hk,AQ⟩;have N3:w1.heap.size<=w2.heap.size:=hs;have Al:∀i v,w1.cell? ⟨w.heap.size,i,none⟩=some v->w2.cell? ⟨w.heap.size,i,none⟩=some v:=fun i v hv=>(World.cell?_of_block (w:=w1) (hk _ (J2y _) Ab)).trans hv
  obtain⟨a1,a2,a3,_⟩:=AQ w2 (Below.refl _ _);obtain⟨_,_,d3,_⟩:=AQ w2.drew (Below.refl _ _).drew;obtain⟨_,_,g3,g4⟩:=AQ (w2.alloc (.cells #[.int .u64 x] 83)).drew ((Below.refl _ _).alloc (J2y _) _).drew;have AJ:S.c<w2.heap.size:=by
   have:=(CO.cells h).lt;have:=Ak.size;omega
  refine⟨x,er,rfl,hx,⟨a1,a2,Al _ _ b1,Al _ _ b2,by omega,AJ⟩,d3,g3,?_⟩;refine Calls.mono (g4 w2.heap.size ((Cells.new w2 83 [.int .u64 x]).cell 0 _ rfl) (J2y _) (by simp [World.drew])) ?_;rintro r w3 ⟨rfl,⟨k1,k2⟩,hx⟩;refine⟨rfl,⟨k1,?_⟩,hx⟩;refine (World.cell?_of_block (w:=(w2.alloc (.cells #[.int .u64 x] 83)).drew) (k2 _ (J2y _) (by simp [World.drew];omega))).trans ?_;exact Q0J (Al _ _ b1)
 generalize Q3o S own 1 a lim e w=Q at *
 unfold CO.ht at hr;simp only at hr;generalize (allL S.l 0).length=m at *
 have Av:(((m:Nat):Int)==0)=false:=by simp;omega
 clear h ok lok AD s0 hB hm hf h0 CP ha hl;go_enter func153,ntmps153;go_wp2_with fail;refine hr.mono ?_;rintro r w1 ⟨rfl,hb⟩;obtain⟨⟨e0,e1,e2,e3,e4,Ab⟩,Ca⟩:=HR.out w1 hb;have f2:w1.drew.cell? ⟨w.heap.size,2,none⟩=some (.int .i64 own):=e2;have f3:w1.drew.cell? ⟨S.c,0,none⟩=some (.pointer (some ⟨S.P.p,0,none⟩)):=e3;have f4:w1.drew.cell? ⟨S.P.p,0,none⟩=some (.pointer (some ⟨S.P.q.t,0,none⟩)):=e4;clear hb hr c1;go_wp2_with fail
 go_region_held3 (fun w'=>w'.cell? ⟨S.c,0,none⟩=some (.pointer (some ⟨S.P.p,0,none⟩))/\w'.cell? ⟨S.P.p,0,none⟩=some (.pointer (some ⟨S.P.q.t,0,none⟩))/\w'.cell? ⟨w.heap.size,2,none⟩=some (.int .i64 own)) (first|exact⟨e3,e4,e2⟩|exact⟨f3,f4,f2⟩|exact⟨t0,t1,t3⟩)
  (first|(go_at_call 14;refine Ca.mono ?_;rintro r w2 ⟨x,er,rfl,Dr,⟨t0,t1,t2,t3,t4,t5⟩,Ru,TR,hS⟩;have HS:=Q0a hS;clear hS))
 have hw:IntKind.u64.wrap (x:Int)=(x:Int):=Go.IntWalk.u64_in _ (by omega);have x0:w2.drew.cell? ⟨S.c,0,none⟩=some (.pointer (some ⟨S.P.p,0,none⟩)):=t0;have x1:w2.drew.cell? ⟨w.heap.size,1,none⟩=some (.int .i64 a):=t2;have y0:(w2.alloc (.cells #[.int .u64 x] 83)).drew.cell? ⟨S.c,0,none⟩=some (.pointer (some ⟨S.P.p,0,none⟩)):=Q0J t0;have y1:(w2.alloc (.cells #[.int .u64 x] 83)).drew.cell? ⟨w.heap.size,1,none⟩=some (.int .i64 a):=Q0J t2;clear e0 e1 e2 e3 e4 f2 f3 f4 Ca Ab;go_wp2_with fail
 go_region_held3 (fun w'=>w'.cell? ⟨S.c,0,none⟩=some (.pointer (some ⟨S.P.p,0,none⟩))/\w'.cell? ⟨w.heap.size,1,none⟩=some (.int .i64 a)) (first|exact⟨t0,t2⟩|exact⟨x0,x1⟩|exact⟨y0,y1⟩|exact⟨z0,z1⟩)
  (first|(go_at_call 50;refine Ru.mono ?_;rintro r w' ⟨rfl,rfl⟩)|(go_at_call 50;refine TR.mono ?_;rintro r w' ⟨rfl,rfl⟩)|(go_at_call 57;refine HS.out.mono ?_;rintro r w3 ⟨rfl,⟨z0,z1⟩,hx⟩;have HX:=Q0a hx;clear hx))
 all_goals
  go_wp2_with fail
  first|exact HX.out|(go_ret;exact HX.out)
theorem Z3y {w:World} {S:CO} {fr:List Nat} (h:Sep w S.hl) (ok:S.P.Ok fr) (lok:LOk S.l) {own n a:Nat} {e:En Fa} (hf:find S.P.q.E own=some e) {lim:Int} (CP:S.P.q.next+1<1048576) (h1:n=1->0<=lim/\a%8=0/\a+8<=S.P.a.mem.length) :
  Calls prog 153 #[.pointer (some ⟨S.c,0,none⟩),.agg #[.int .i64 n,.int .i64 a,.int .i64 own],.int .i64 lim] w (Q3o S own n a lim e w):=by
 rcases Z8q S.l with Aq|AD
 ·exact Z0O h lok Aq own n a lim e
 ·by_cases hn:n=1
  ·subst hn;obtain⟨k1,k2,k3⟩:=h1 rfl;exact Z8N h ok lok AD hf k1 CP k2 k3
  ·exact Z8M h lok AD own n a lim e hn
theorem Z3z {w w1:World} {S:CO} {fr:List Nat} {N K:Nat} (h:Sep w S.hl) (hb:Below w.heap.size w w1) (ok:S.Ok fr N K) (hN:N+1<1048576) {x:Nat} {f:Pl} (hf:pget S.l 1 x=some f) (Dd:f.kind=1) {n:Nat} (hn:n=8∨1<=n/\n<=5) {lim:Int} (hlim:n=1->0<=lim) :
  Calls prog 152 #[.pointer (some ⟨S.c,0,none⟩),.int .i64 (f.own:Int),.int .i64 n] w1 fun r w2 =>
   (∃er:Int,er≠0/\r=.returned (.tuple #[.int .i64 0,.int .i64 er])/\MakeR S fr x n lim w (.returned (.tuple #[.int .u32 0,.int .i64 er])) w2) ∨
   ∃a:Nat,r=.returned (.tuple #[.int .i64 a,.int .i64 0])/\∀w3,Below w2.heap.size w2 w3 ->
    Calls prog 153 #[.pointer (some ⟨S.c,0,none⟩),.agg #[.int .i64 n,.int .i64 a,.int .i64 (f.own:Int)],.int .i64 lim] w3 fun r w4=>(∀b,w2.heap.size<=b->b<w3.heap.size->w4.heap[b]?=w3.heap[b]?)/\w3.heap.size<=w4.heap.size /\
     ((∃er:Int,er≠0/\r=.returned (.int .i64 er)/\Calls prog 154 #[.pointer (some ⟨S.c,0,none⟩),.agg #[.int .i64 n,.int .i64 a,.int .i64 (f.own:Int)]] w4 fun r w5=>r=.returned (.tuple #[])/\MakeR S fr x n lim w (.returned (.tuple #[.int .u32 0,.int .i64 er])) w5) ∨
      (r=.returned (.int .i64 0)/\w4.cell? ⟨S.c,1,none⟩=some (.pointer (some ⟨S.t,0,none⟩))/\Calls prog 149 #[.pointer (some ⟨S.t,0,none⟩),.agg #[.int .i64 n,.int .i64 a,.int .i64 (f.own:Int)]] w4.drew fun r w5=>∃y:Nat,r=.returned (.tuple #[.int .u32 y,.int .i64 0])/\w5.cell? ⟨S.c,1,none⟩=some (.pointer (some ⟨S.t,0,none⟩))/\(∀b,w2.heap.size<=b->b<w4.heap.size->w5.heap[b]?=w4.heap[b]?)/\MakeR S fr x n lim w (.returned (.tuple #[.int .u32 y,.int .i64 0])) w5)):=by
 obtain⟨e,he⟩:=ok.inv.tre.acc (Q0A hf) (Pl.is_iff.2 (.inl (pget_some.1 hf).2.2)) Dd;have s1:=h.grown hb;have Bx:=ok.inv.mem.pool;have Bb:=ok.inv.lok;have Ma:=ok.next;have Ff:∀(r:Ending) (w':World),J1C S fr f e n lim w r w'->MakeR S fr x n lim w r w':=fun r w' hk=>.inr ⟨f,hf,.inr (.inr ⟨n,e,rfl,Dd,hn,hlim,he,hk⟩)⟩
 refine Calls.mono (Z8L s1.sep Bx he (by omega)) ?_;rintro r w2 (⟨hq,rfl,st⟩|⟨hq,Se,rfl,st⟩|⟨a,P',fr',hq,g,rfl,st⟩)
 ·exact .inl ⟨5,by decide,rfl,Ff _ _ (.inl ⟨hq,rfl,s1.trans st⟩)⟩
 ·exact .inl ⟨4,by decide,rfl,Ff _ _ (.inr (.inl ⟨hq,Se,rfl,s1.trans st⟩))⟩
 ·refine .inr ⟨a,rfl,fun w3 Ar=>?_⟩;have s2:=s1.trans st;have s3:=s2.sep.grown Ar;have s23:=s2.trans s3;obtain⟨L1,hE,Bq,MF⟩:=g.acc he;have Cr:=g.room.1;have Ae:=g.same.len;have key:∀{H':HL} {w4:World},Step (S.setP P').hl H' w3 w4->(∀b,w2.heap.size<=b->b<w3.heap.size->w4.heap[b]?=w3.heap[b]?)/\w3.heap.size<=w4.heap.size:=fun st4=>⟨fun b h1 h2=>st4.chg.block b h2 (fun hk=>by have:=s2.sep.lt hk;omega),st4.chg.size⟩
  have By:∀{w4:World} (er:Int),er≠0->Step (S.setP P').hl (S.setP P').hl w3 w4->((er=11/\((∀p∈S.l,p.st≠0)∨n=1/\S.P.q.E.length=32))∨(er=5/\n=1/\Q0x e-64<lim)) ->
    Calls prog 154 #[.pointer (some ⟨S.c,0,none⟩),.agg #[.int .i64 n,.int .i64 a,.int .i64 (f.own:Int)]] w4 fun r w5=>r=.returned (.tuple #[])/\MakeR S fr x n lim w (.returned (.tuple #[.int .u32 0,.int .i64 er])) w5:=fun {w4} er Cu st4 hc=>by
   refine Calls.mono (Q8k st4.sep g.ok (g.held Bx he)) ?_;rintro r w5 ⟨rfl,P2,fr2,bk,st5⟩;have ht:=g.back ok.inv.mem bk;exact⟨rfl,Ff _ _ (.inr (.inr (.inl ⟨hq,er,P2,hc,ht,rfl,(s23.trans st4).trans st5⟩)))⟩
  have Bz:∀{w4:World} {P2:PL} {i:Nat} {p:Pl} {y:Nat},Fst S.l i p->Step (S.setP P').hl (S.setP P2).hl w3 w4->MadeOk S fr f e n a lim y i p P2 fr' ->
    w4.cell? ⟨S.c,1,none⟩=some (.pointer (some ⟨S.t,0,none⟩))/\Calls prog 149 #[.pointer (some ⟨S.t,0,none⟩),.agg #[.int .i64 n,.int .i64 a,.int .i64 (f.own:Int)]] w4.drew fun r w5=>∃y:Nat,r=.returned (.tuple #[.int .u32 y,.int .i64 0])/\w5.cell? ⟨S.c,1,none⟩=some (.pointer (some ⟨S.t,0,none⟩))/\(∀b,w2.heap.size<=b->b<w4.heap.size->w5.heap[b]?=w4.heap[b]?)/\MakeR S fr x n lim w (.returned (.tuple #[.int .u32 y,.int .i64 0])) w5:=fun {w4 P2 i p y} hi st4 hm=>by
   have s4:=s3.trans st4;refine⟨CO.c1 (S:=S.setP P2) s4.sep,?_⟩;refine Calls.mono (Z5P (h:=(S.setP P2).ht) (CO.sT s4.drew.sep) Bb hi n a f.own y) ?_;rintro r w5 ⟨rfl,st5⟩;have s5:=CO.stepL (S:=S.setP P2) s4.drew.sep _ st5;refine⟨nm i p,rfl,CO.c1 (S:=(S.setP P2).setL _) s5.sep,fun b h1 h2=>?_,Ff _ _ (.inr (.inr (.inr ⟨i,p,a,y,P2,fr',hi.1,hi.2.1,hi.2.2,hq,rfl,hm,(s2.trans s4.drew).trans s5⟩)))⟩;have VP:∀k∈keys (S.setP P2).hl,k<w2.heap.size∨w3.heap.size<=k:=fun k hk=>by
    rcases st4.new k hk with h'|h'
    ·exact .inl (s2.sep.lt h')
    ·exact .inr h'
   exact st5.chg.block b h2 (fun hk=>by
    have Ab:=(CO.sT (S:=S.setP P') s2.sep).lt (b:=b) hk;omega)
  refine Calls.mono (Z3y (S:=S.setP P') s3.sep g.ok Bb L1 (by show P'.q.next+1<_;rw [Bq];omega) (fun h1=>?_)) ?_
  ·subst h1;have hm:a∈P'.usedOf 1:=(g.used (by decide)).mem_iff.2 (by simp);have Dp:costK 1=64:=rfl;rw [Dp] at Cr;exact⟨hlim rfl,Q2o g.ok hm,by show a+8<=P'.a.mem.length;rw [Ae];omega⟩
  ·rintro r w4 (⟨Bp,rfl,st4⟩|⟨⟨i,p,hi⟩,CP,rfl,st4⟩|⟨⟨i,p,hi⟩,CP,⟨er,hc,rfl⟩,st4⟩|⟨⟨i,p,hi⟩,CP,CN,rfl,b,st4⟩)
   ·exact⟨(key st4).1,(key st4).2,.inl ⟨11,by decide,rfl,By 11 (by decide) st4 (.inl ⟨rfl,.inl Bp⟩)⟩⟩
   ·obtain⟨c1,hp⟩:=Bz hi st4 (J1N ok hf Dd (by omega) he g hi);exact⟨(key st4).1,(key st4).2,.inr ⟨rfl,c1,hp⟩⟩
   ·subst CP;have Dp:costK 1=64:=rfl;have Az:=g.mem;rw [Dp] at Cr Az;have G8:P'.setA (put_ P'.a.mem a (Q0d 0))=P':=by
     have:put_ P'.a.mem a (Q0d 0)=P'.a.mem:=by
      rw [Az];exact Z8K (by omega) Cr
     rw [this];rfl
    have st4':Step (S.setP P').hl (S.setP (P'.setA (put_ P'.a.mem a (Q0d 0)))).hl w3 w4:=st4;rw [G8] at st4';have Cu:er≠0:=by rcases hc with ⟨rfl,_⟩|⟨rfl,_⟩ <;> decide
    have Iw:Q0x ({e with q:={e.q with charged:=e.q.charged+((costK 1:Nat):Int)}}:En Fa)=Q0x e-64:=by
     unfold Q0x;rw [Dp];simp only;omega
    refine⟨(key st4').1,(key st4').2,.inl ⟨er,Cu,rfl,By er Cu st4' ?_⟩⟩;rcases hc with ⟨rfl,hc⟩|⟨rfl,hc⟩
    ·exact .inr ⟨rfl,rfl,by rw [Iw] at hc;exact hc⟩
    ·exact .inl ⟨rfl,.inr ⟨rfl,by rw [<- MF];exact hc⟩⟩
   ·subst CP;have Dp:costK 1=64:=rfl;have Iw:Q0x ({e with q:={e.q with charged:=e.q.charged+((costK 1:Nat):Int)}}:En Fa)=Q0x e-64:=by
     unfold Q0x;rw [Dp];simp only;omega
    rw [Iw] at CN;have hm:=J1O (b:=b) (a:=a) ok hN hf Dd he (hlim rfl) CN g hi;have st4':Step (S.setP P').hl (S.setP ((P'.setQ (Q3W P'.q f.own {e with q:={e.q with charged:=e.q.charged+64}} b lim)).setA (put_ P'.a.mem a (Q0d S.P.q.next.toNat)))).hl w3 w4:=by
     rw [<- Bq];exact st4
    obtain⟨c1,hp⟩:=Bz hi st4' hm;exact⟨(key st4').1,(key st4').2,.inr ⟨rfl,c1,hp⟩⟩
theorem Q9J {w:World} {S:CO} {x:Nat} (k lim er:Int) (he:er≠0) (hO:Calls prog 150 #[.pointer (some ⟨S.c,0,none⟩),.int .u32 x] w (Told w (.tuple #[.int .i64 0,.int .i64 er]))) :
  Calls prog 79 #[.pointer (some ⟨S.c,0,none⟩),.int .u32 x,.int .i64 k,.int .i64 lim] w (Told w (.tuple #[.int .u32 0,.int .i64 er])):=by
 have Av:(er==0)=false:=by simpa using he
 have Ag:(er != 0)=true:=by simpa using he
 go_enter func79,ntmps79;go_wp2_with fail;refine hO.mono ?_;rintro r w1 ⟨rfl,hb⟩;have HB:Hid (Told w (.tuple #[.int .u32 0,.int .i64 er]) (.returned (.tuple #[.int .u32 0,.int .i64 er])) w1):=⟨rfl,hb⟩
 clear hb;go_wp2_with fail
 first|exact HB.out|(go_ret2;exact HB.out)
theorem Z6A {w:World} {S:CO} {x:Nat} (own:Nat) (k lim:Int) (hk:¬(k=8∨1<=k/\k<=5)∨k=1/\lim<0) (hO:Calls prog 150 #[.pointer (some ⟨S.c,0,none⟩),.int .u32 x] w (Told w (.tuple #[.int .i64 own,.int .i64 0]))) :
  Calls prog 79 #[.pointer (some ⟨S.c,0,none⟩),.int .u32 x,.int .i64 k,.int .i64 lim] w (Told w (.tuple #[.int .u32 0,.int .i64 1])):=by
 have HM:Hid (∀w1,Below w.heap.size w w1->Calls prog 151 #[.int .i64 k] w1 (fun r w'=>r=.returned (.bool (decide (k=8∨1<=k/\k<=5)))/\w1=w')/\Told w (.tuple #[.int .u32 0,.int .i64 1]) (.returned (.tuple #[.int .u32 0,.int .i64 1])) w1):=fun w1 hb=>⟨Z1W w1 k,rfl,hb⟩
 have As:decide (k=8∨1<=k/\k<=5)=false∨decide (k=8∨1<=k/\k<=5)=true/\k=1/\lim<0:=by
  by_cases hm:k=8∨1<=k/\k<=5
  ·rcases hk with hk|hk
   ·exact absurd hm hk
   ·exact .inr ⟨by rw [decide_eq_true_eq];exact hm,hk⟩
  ·exact .inl (by rw [decide_eq_false_iff_not];exact hm)
 clear hk;generalize decide (k=8∨1<=k/\k<=5)=m at *
 rcases As with rfl|⟨rfl,rfl,hl⟩
 all_goals
  go_enter func79,ntmps79;go_wp2_with fail;refine hO.mono ?_;rintro r w1 ⟨rfl,hb⟩;obtain⟨GW,hx⟩:=HM.out w1 hb;have HX:=Q0a hx;clear hb hx hO;go_wp2_with fail;refine GW.mono ?_;rintro r w2 ⟨rfl,rfl⟩;clear GW;go_wp2_with fail
  first|exact HX.out|(go_ret2;exact HX.out)
theorem Z3A {w:World} {S:CO} {fr:List Nat} {N K:Nat} (h:Sep w S.hl) (ok:S.Ok fr N K) (hN:N+1<1048576) {x:Nat} (hx:x<4294967296) {f:Pl} (hf:pget S.l 1 x=some f) (Dd:f.kind=1) {n:Nat} (hn:n=8∨1<=n/\n<=5) {lim:Int} (hlim:n=1->0<=lim) :
  Calls prog 79 #[.pointer (some ⟨S.c,0,none⟩),.int .u32 x,.int .i64 n,.int .i64 lim] w (MakeR S fr x n lim w):=by
 have hO:=Q6m h ok hx hf Dd;have HC:Hid (∀w1,Below w.heap.size w w1->_):=fun w1 hb=>Z3z (w1:=w1) h hb ok hN hf Dd hn hlim
 have HM:Hid (∀w1,Calls prog 151 #[.int .i64 n] w1 (fun r w'=>r=.returned (.bool true)/\w1=w')):=fun w1=>by
  have:=Z1W w1 (n:Int);rw [show decide ((n:Int)=8∨1<=(n:Int)/\(n:Int)<=5)=true by rw [decide_eq_true_eq];omega] at this;exact this
 have As:(n:Int)=1/\0<=lim∨((n:Int)==1)=false:=by
  by_cases h1:n=1
  ·exact .inl ⟨by omega,hlim h1⟩
  ·exact .inr (by simp;omega)
 generalize MakeR S fr x n lim w=Q at *
 generalize f.own=own at *
 clear h ok hN hf Dd hn hlim;generalize (n:Int)=nz at *
 rcases As with ⟨rfl,h0⟩|h0
 all_goals
  go_enter func79,ntmps79;go_wp2_with fail;refine hO.mono ?_;rintro r w1 ⟨rfl,hb⟩;have hc:=HC.out w1 hb;have GW:=HM.out w1;clear hb hO HC HM;go_wp2_with fail;refine GW.mono ?_;rintro r w2 ⟨rfl,rfl⟩;clear GW;go_wp2_with fail;refine hc.mono ?_;rintro r w2 (⟨er,Cu,rfl,hx⟩|⟨a,rfl,hx⟩)
  ·have HX:=Q0a hx;have Av:(er==0)=false:=by simpa using Cu
   have Ag:(er != 0)=true:=by simpa using Cu
   clear hx hc Cu;go_wp2_with fail
   first|exact HX.out|(go_ret2;exact HX.out)
  ·have HX:=Q0a hx;clear hx hc;go_wp2_with fail;refine (HX.out _ ((Below.refl _ _).alloc (J2y _) _)).mono ?_;rintro r w4 ⟨hk,Bj,hx⟩;have hB:∀i v,(w2.alloc (.cells #[.int .i64 _,.int .i64 a,.int .i64 own] 54)).cell? ⟨w2.heap.size,i,none⟩=some v->w4.cell? ⟨w2.heap.size,i,none⟩=some v:=fun i v hv=>(World.cell?_of_block (hk _ (J2y _) (by simp))).trans hv
   have e0:=hB 0 _ ((Cells.new w2 54 [.int .i64 _,.int .i64 a,.int .i64 own]).cell 0 _ rfl);have e1:=hB 1 _ ((Cells.new w2 54 [.int .i64 _,.int .i64 a,.int .i64 own]).cell 1 _ rfl);have e2:=hB 2 _ ((Cells.new w2 54 [.int .i64 _,.int .i64 a,.int .i64 own]).cell 2 _ rfl);have Ab:w2.heap.size<w4.heap.size:=by rw [World.size_alloc] at Bj;omega
   clear hk Bj hB HX;rcases hx with ⟨er,Cu,rfl,hx⟩|⟨rfl,c1,hx⟩
   ·have HX:=Q0a hx;have Av:(er==0)=false:=by simpa using Cu
    have Ag:(er != 0)=true:=by simpa using Cu
    clear hx Cu;go_wp2_with fail;refine HX.out.mono ?_;rintro r w5 ⟨rfl,hx⟩;have HY:=Q0a hx;clear hx HX;go_wp2_with fail
    first|exact HY.out|(go_ret2;exact HY.out)
   ·have HX:=Q0a hx;have x1:w4.drew.cell? ⟨S.c,1,none⟩=some (.pointer (some ⟨S.t,0,none⟩)):=c1;have f0:w4.drew.cell? ⟨w2.heap.size,0,none⟩=_:=e0;have f1:w4.drew.cell? ⟨w2.heap.size,1,none⟩=_:=e1;have f2:w4.drew.cell? ⟨w2.heap.size,2,none⟩=_:=e2;clear hx;go_wp2_with fail
    go_region_held3 (fun w'=>w'.cell? ⟨S.c,1,none⟩=some (.pointer (some ⟨S.t,0,none⟩))/\w'.cell? ⟨w2.heap.size,0,none⟩=w4.cell? ⟨w2.heap.size,0,none⟩/\w'.cell? ⟨w2.heap.size,1,none⟩=some (.int .i64 a)/\w'.cell? ⟨w2.heap.size,2,none⟩=some (.int .i64 own)) (first|exact⟨c1,rfl,e1,e2⟩|exact⟨x1,rfl,f1,f2⟩|exact⟨t0,t1,t2,t3⟩)
     (first|(go_at_call 149;refine HX.out.mono ?_;rintro r w5 ⟨y,rfl,t0,tk,hx⟩;have t1:w5.cell? ⟨w2.heap.size,0,none⟩=w4.cell? ⟨w2.heap.size,0,none⟩:=World.cell?_of_block (tk _ (J2y _) Ab);have t2:=(World.cell?_of_block (w:=w4) (tk _ (J2y _) Ab)).trans e1;have t3:=(World.cell?_of_block (w:=w4) (tk _ (J2y _) Ab)).trans e2;have HY:=Q0a hx;clear hx tk))
    go_wp2_with fail
    first|exact HY.out|(go_ret2;exact HY.out)
theorem Q6B {w:World} {S:CO} {fr:List Nat} {N K:Nat} (h:Sep w S.hl) (ok:S.Ok fr N K) (hN:N+1<1048576) {x:Nat} (hx:x<4294967296) (k lim:Int) :
  Calls prog 79 #[.pointer (some ⟨S.c,0,none⟩),.int .u32 x,.int .i64 k,.int .i64 lim] w (MakeR S fr x k lim w):=by
 cases hp:pget S.l 1 x with
 | none =>
  refine (Q9J k lim 8 (by decide) (Q5I (by decide) (Q4J h ok.inv.lok hx 1 hp))).mono ?_;rintro r w' ⟨rfl,hb⟩;exact .inl ⟨hp,rfl,h.grown hb⟩
 | some f =>
  by_cases hk:f.kind=1
  ·have hO:=Q6m h ok hx hp hk;by_cases Kk:¬(k=8∨1<=k/\k<=5)∨k=1/\lim<0
   ·refine (Z6A f.own k lim Kk hO).mono ?_;rintro r w' ⟨rfl,hb⟩;exact .inr ⟨f,hp,.inr (.inl ⟨hk,Kk,rfl,h.grown hb⟩)⟩
   ·have CW:∃n:Nat,k=(n:Int)/\(n=8∨1<=n/\n<=5)/\(n=1->0<=lim):=⟨k.toNat,by omega,by omega,by omega⟩
    obtain⟨n,rfl,h1,h2⟩:=CW;exact Z3A h ok hN hx hp hk h1 h2
  ·refine (Q9J k lim 10 (by decide) (Q5I (by decide) (Q4K h ok.inv.lok hx 1 hp (by decide) (by omega)))).mono ?_;rintro r w' ⟨rfl,hb⟩;exact .inr ⟨f,hp,.inl ⟨hk,rfl,h.grown hb⟩⟩
structure GoneZ (Z Z':SP):Prop where
 s:Z'.s=Z.s
 f:Z'.F.f=Z.F.f
 c:Z'.S.c=Z.S.c
 per:Z'.S.period=Z.S.period
 same:SameP Z.S.P Z'.S.P
 root:pget Z'.S.l 1 0=pget Z.S.l 1 0
theorem GoneZ.refl (Z:SP):GoneZ Z Z:=⟨rfl,rfl,rfl,rfl,SameP.refl _,rfl⟩
theorem SameN.gone {Z Z':SP} (h:SameN Z Z'):GoneZ Z Z':=⟨h.s,h.f,h.alt.c,h.alt.per,h.alt.same,by rw [h.alt.l]⟩
theorem Q9K {l l':List Pl} (h:l'[0]?=l[0]?):pget l' 1 0=pget l 1 0:=by
 unfold pget;rw [show 0%256=0 from rfl,h]
theorem Went.gone {Z:SP} {S':CO} (h:Went Z.S S') (tb:Nat->TB):GoneZ Z (Z.setS S' tb):=⟨rfl,rfl,h.c,h.per,h.same,Q9K h.root⟩
theorem Alt.gone {Z:SP} {S':CO} {own:Int} (h:Alt Z.S S' own) (tb:Nat->TB):GoneZ Z (Z.setS S' tb):=⟨rfl,rfl,h.c,h.per,h.same,by show pget S'.l 1 0=_;rw [h.l]⟩
theorem Tried.alt {S:CO} {fr:List Nat} {P':PL} (h:Tried S.P fr S.l P') (own:Int):Alt S (S.setP P') own:=
 ⟨rfl,rfl,rfl,rfl,rfl,rfl,rfl,rfl,h.same,by show P'.q.next=_;rw [h.q],fun id e he=>⟨e,by show find P'.q.E id=_;rw [h.q];exact he,rfl,fun _=>rfl⟩,by show P'.q.E.map En.id=_;rw [h.q],fun r hr Ap _=>h.mem r hr Ap⟩
theorem MakeR.cases {S:CO} {fr:List Nat} {N K:Nat} (ok:S.Ok fr N K) {y:Nat} {k lim:Int} {w w':World} {r:Ending} (m:MakeR S fr y k lim w r w') :
  (∃(er:Int) (P':PL),er≠0/\r=two 0 er/\Tried S.P fr S.l P'/\Step S.hl (S.setP P').hl w w') ∨
  (∃(f:Pl) (n:Nat) (e:En Fa) (i:Nat) (q:Pl) (a v:Nat) (P':PL) (fr':List Nat),pget S.l 1 y=some f/\f.kind=1/\k=(n:Int)/\(n=8∨1<=n/\n<=5)/\find S.P.q.E f.own=some e/\S.l[i]?=some q/\q.st=0/\r=two (nm i q) 0/\MadeOk S fr f e n a lim v i q P' fr'/\Step S.hl (S.made f n a v i q P').hl w w'):=by
 have same:∀er:Int,er≠0->r=two 0 er->Step S.hl S.hl w w'->(∃(er:Int) (P':PL),er≠0/\r=two 0 er/\Tried S.P fr S.l P'/\Step S.hl (S.setP P').hl w w'):=fun er h1 h2 h3=>⟨er,S.P,h1,h2,Tried.refl ok.inv.mem.pool _,h3⟩
 rcases m with ⟨_,rfl,st⟩|⟨f,hf,⟨_,rfl,st⟩|⟨_,_,rfl,st⟩|⟨n,e,hn,hk,FT,_,he,hm⟩⟩
 ·exact .inl (same 8 (by decide) rfl st)
 ·exact .inl (same 10 (by decide) rfl st)
 ·exact .inl (same 1 (by decide) rfl st)
 ·rcases hm with ⟨_,rfl,st⟩|⟨_,_,rfl,st⟩|⟨_,er,P',Cu,tr,rfl,st⟩|⟨i,q,a,v,P',fr',hi,hq,_,_,rfl,mk,st⟩
  ·exact .inl (same 5 (by decide) rfl st)
  ·exact .inl (same 4 (by decide) rfl st)
  ·refine .inl ⟨er,P',?_,rfl,tr,st⟩;rcases Cu with ⟨rfl,_⟩|⟨rfl,_⟩ <;> decide
  ·exact .inr ⟨f,n,e,i,q,a,v,P',fr',hf,hk,hn,FT,he,hi,hq,rfl,mk,st⟩
theorem Q4P {Z Z1:SP} {g x f B:Nat} {w:World} (es:Z1.s=Z.s) (ec:Z1.S.c=Z.S.c) (ef:Z1.F.f=Z.F.f) (sep:Sep w Z1.hl) (bx:AsideV Z1.hl [.pointer (some ⟨g,0,none⟩),.int .u32 x,.int .i64 f] (some ⟨B,0,none⟩) w):Z6s Z g x f B w:=by
 have c0:=SP.c0 sep;have c1:=SP.c1 sep;rw [es,ec] at c0;rw [es,ef] at c1;exact⟨c0,c1,bx.at 0 _ rfl,bx.at 1 _ rfl,bx.at 2 _ rfl⟩
def MkR (Z:SP) (fr:List Nat) (N K:Nat) (M:Int) (x:Nat) (z k:Int) (w:World) (hh:Nat) (er:Int) (w':World):Prop:=
 (er≠0/\hh=0/\∃own,BackZ Z fr N K x own w w') ∨
 (er=0/\∃(Z':SP) (fr':List Nat) (s i:Nat) (q q':Pl),z=(s:Int)/\s<256/\Z.S.l[i]?=some q/\q.st=0/\hh=nm i q/\(q'.kind:Int)=k/\q'.st=1/\q'.age=q.age/\Z'.Ok fr' (N+1) K (M+1)/\GoneZ Z Z'/\Z'.S.l=Z.S.l.set i q'/\Z'.av.en=setA Z.av.en x s (some (hh,15))/\Step Z.hl Z'.hl w w')
section
variable {Z:SP} {fr:List Nat} {N K:Nat} {M:Int}
theorem Z6B (ok:Z.Ok fr N K M) {x s:Nat} {p:Pl} (hp:pget Z.S.l 1 x=some p) (hk:p.kind=2) (hs:s<256) (h0:(Z.tb (x%256)).en s=none) {S1 S2 S3:CO} {t1 t3:TB} {e1:Ent} {own:Int} (T1:TurnP Z.S fr N K Z.tb own (x%256) s (some e1) S1 t1) (al:Alt S1 S2 own)
  (T3:TurnP S2 fr N K (updT Z.tb (x%256) t1) own (x%256) s none S3 t3) {w w':World} (st:Step Z.hl (Z.setS S3 (updT Z.tb (x%256) t3)).hl w w'):BackZ Z fr N K x own w w':=by
 have hi:=(pget_some.1 hp).1;have h1:=(pget_some.1 hp).2.2;have al3:=(T1.alt.trans al).trans T3.alt;have AX:∀q,t3.en q=(Z.tb (x%256)).en q:=fun q=>by
  rw [T3.en,updT_same,T1.en];split
  ·rename_i e;rw [e,h0]
  ·rfl
 have Kj:=T3.tpi;have lf1:∀q,q<16->(Z.tb (x%256)).lf q≠0->t1.lf q=(Z.tb (x%256)).lf q:=
  LaidP.lf_keep (own:=own) (S1:=Z.S) (t1:=Z.tb (x%256)) (J5G _ (by omega)) (ok.tpi.full _ (J5G _ (by omega))) hi h1 hk (by rw [Q1k];exact T1.tpi) T1.alt.l
   (fun q hq=>by
    rw [T1.en];split
    ·exact Option.some_ne_none _
    ·exact hq) (fun _ _ _=>rfl) (by rw [Q1k];exact T1.lf)
 have lf3:∀q,q<16->(Z.tb (x%256)).lf q≠0->t3.lf q=(Z.tb (x%256)).lf q:=
  LaidP.lf_keep (own:=own) (S1:=Z.S) (J5G _ (by omega)) (ok.tpi.full _ (J5G _ (by omega))) hi h1 hk Kj al3.l (fun q hq=>by rw [AX];exact hq) lf1 T3.lf
 rw [Q1c] at Kj;refine⟨S3,t3,T3.ok,Kj,al3,fun q hq=>?_,AX,st⟩;by_cases hz:(Z.tb (x%256)).lf q=0
 ·rw [hz];refine Classical.byContradiction fun Aa=>?_
  have Ku:=Kj.full (x%256) (J5G _ (by omega));rw [updT_same] at Ku;obtain⟨r,hr,Ue,Qk⟩:=Ku q hq Aa;rw [AX r] at Qk;exact Qk ((ok.tpi.tin (x%256) p hi h1 hk).hole r hr (by rw [Ue];exact hz))
 ·exact lf3 q hq hz
theorem Z6C {w w5:World} (ok:Z.Ok fr N K M) (hN:N+1<1048576) (hM:M+1<1099511627776) {x y s g B nd:Nat} {p:Pl} (hx:x<4294967296) (hy:y<4294967296) (hp:pget Z.S.l 1 x=some p) (hk:p.kind=2) (hs:s<256) (h0:Q0f Z.S.l Z.tb x s=none) (k lim:Int) (KS:k=8↔128<=s)
  {S1:CO} {t1:TB} (T1:TurnP Z.S fr N K Z.tb (p.fac:Int) (x%256) s (some ⟨0,15,nd⟩) S1 t1) (st:Step Z.hl (Z.setS S1 (updT Z.tb (x%256) t1)).hl w w5) (hg:TblZ (Z.setS S1 (updT Z.tb (x%256) t1)) p g w5)
  (bx:AsideV (Z.setS S1 (updT Z.tb (x%256) t1)).hl [.pointer (some ⟨g,0,none⟩),.int .u32 x,.int .i64 (p.fac:Int)] (some ⟨B,0,none⟩) w5) :
  Z1T Z g x p.fac B y (s:Int) k lim (fun hh er w'=>MkR Z fr N K M x (s:Int) k w hh er w') w5:=by
 have hi:=(pget_some.1 hp).1;have Ao:=(pget_some.1 hp).2.2;have Df:(Z.tb (x%256)).en s=none:=by rw [<- Q0g hp hk hs];exact h0
 have Dq:=T1.alt.l;have Fu:(updT Z.tb (x%256) t1 (x%256)).en s=some ⟨0,15,nd⟩:=by rw [updT_same,T1.en,if_pos rfl]
 have km:=Q6B (S:=S1) (SP.sS (Z:=Z.setS S1 (updT Z.tb (x%256) t1)) st.sep) T1.ok hN hy k lim;rw [T1.alt.c] at km;refine km.mono ?_;rintro rv w6 hm;rcases hm.cases T1.ok with ⟨er,P',Aa,rfl,tr,st2⟩|⟨f,n,e,i,q,a,v,P',fr',hf,Dd,rfl,hn,he,Jn,hq,rfl,mk,st2⟩
 ·have al2:=tr.alt (S:=S1) (p.fac:Int);have A7:Step (Z.setS S1 (updT Z.tb (x%256) t1)).hl (Z.setS (S1.setP P') (updT Z.tb (x%256) t1)).hl w5 w6:=SP.stepS st.sep (S1.setP P') (updT Z.tb (x%256) t1) rfl st2;have bx2:=bx.step A7;have B3:TblZ (Z.setS (S1.setP P') (updT Z.tb (x%256) t1)) p g w6:=hg.step A7 tr.same.p;refine⟨0,er,rfl,Q4P (Z1:=Z.setS (S1.setP P') (updT Z.tb (x%256) t1)) rfl T1.alt.c rfl A7.sep bx2,.inl ⟨Aa,?_⟩⟩;refine (Q4N (Z:=Z.setS (S1.setP P') (updT Z.tb (x%256) t1)) (x:=x) A7.sep (T1.ok.tried tr) (T1.tpi.tried T1.ok tr) (i:=x%256) (by show S1.l[x%256]?=_;rw [Dq];exact hi) Ao hk hs Fu B3).mono ?_
  rintro rv w7 ⟨rfl,S3,t3,T3,st3⟩;refine⟨rfl,.inl ⟨Aa,rfl,_,Z6B ok hp hk hs Df T1 al2 T3 ?_⟩⟩;have h3:=(st.trans A7).trans st3;have e:((Z.setS (S1.setP P') (updT Z.tb (x%256) t1)).setS S3 (updT (updT Z.tb (x%256) t1) (x%256) t3))=Z.setS S3 (updT Z.tb (x%256) t3):=by rw [Q1c];rfl
  have h4:Step Z.hl ((Z.setS (S1.setP P') (updT Z.tb (x%256) t1)).setS S3 (updT (updT Z.tb (x%256) t1) (x%256) t3)).hl w w7:=h3
  rwa [e] at h4
 ·have ok2:=mk.ok T1.ok Jn;have tp2:=T1.tpi.made T1.ok mk Jn hq;have wn2:=mk.went T1.ok Jn hq;have Am:=Q1p T1.ok.inv.len Jn;have A7:Step (Z.setS S1 (updT Z.tb (x%256) t1)).hl (Z.setS (S1.made f n a v i q P') (updT Z.tb (x%256) t1)).hl w5 w6:=SP.stepS st.sep (S1.made f n a v i q P') (updT Z.tb (x%256) t1) rfl st2;have bx2:=bx.step A7;have B3:TblZ (Z.setS (S1.made f n a v i q P') (updT Z.tb (x%256) t1)) p g w6:=hg.step A7 wn2.same.p;have Fi:(S1.made f n a v i q P').l=S1.l.set i ⟨n,a,f.own,1,q.age,v⟩:=rfl;have A4:pget (S1.made f n a v i q P').l 1 x=some p:=by rw [Fi];exact Q9B Jn hq (by rw [Dq];exact hp)
  have E6:=(pget_some.1 A4).1;have Ck:pget (S1.made f n a v i q P').l 1 (nm i q)=some ⟨n,a,f.own,1,q.age,v⟩:=by
   rw [Fi,Q0B _ Jn,if_pos (Q1m Am q),if_pos ⟨rfl,rfl⟩]
  have A5:nm i q<4294967295:=Q9z ok2.inv.lok Ck;have AE:Q6O (S1.made f n a v i q P').l s ⟨nm i q,15,nd⟩:=⟨⟨_,Ck,by show n=8↔_;rw [<- KS];omega⟩,by dsimp only;omega⟩
  have SF:=Q4P (Z:=Z) (Z1:=Z.setS (S1.made f n a v i q P') (updT Z.tb (x%256) t1)) rfl T1.alt.c rfl A7.sep bx2;refine⟨nm i q,0,rfl,SF,.inr ⟨rfl,(⟨0,15,nd⟩:Ent).a,nd,(⟨nm i q,15,0⟩:Ent).a,?_,fun w8 FL=>?_⟩⟩
  ·have T:=(tp2.x (p.fac:Int)).tt ok2 E6 Ao hk (SP.sS A7.sep) B3.c;refine (Q3H T (s:Int)).mono ?_;rintro rv w7 ⟨rfl,rfl⟩;refine⟨?_,rfl⟩;unfold getV TB.at';rw [if_pos (by omega),J3F,Fu];rfl
  ·have st8:=A7.sep.grown FL;have bx8:=bx2.step st8;have Tq:=B3.step st8 rfl;refine⟨Q4P (Z1:=Z.setS (S1.made f n a v i q P') (updT Z.tb (x%256) t1)) rfl T1.alt.c rfl st8.sep bx8,Q6r w8 (nm i q) 15 A5 (by omega),?_⟩;refine (Q7u (S:=S1.made f n a v i q P') (tb:=updT Z.tb (x%256) t1) ok2 tp2 E6 Ao hk hs (e2:=⟨nm i q,15,nd⟩) Fu rfl ⟨A5,by show 15<16;omega⟩ (SP.sS st8.sep) Tq.c).mono ?_;rintro rv w9 ⟨rfl,S3,t3,T3,st9⟩;have N1:Step (Z.setS (S1.made f n a v i q P') (updT Z.tb (x%256) t1)).hl (Z.setS S3 (updT (updT Z.tb (x%256) t1) (x%256) t3)).hl w8 w9:=SP.stepS st8.sep S3 (updT (updT Z.tb (x%256) t1) (x%256) t3) T3.alt.c st9
   have bx9:=bx8.step N1;refine⟨⟨0,rfl⟩,Q4P (Z1:=Z.setS S3 (updT (updT Z.tb (x%256) t1) (x%256) t3)) rfl (T3.alt.c.trans T1.alt.c) rfl N1.sep bx9,fun m=>?_⟩;have std:=N1.trans (N1.sep.grown (Q0Q (Below.refl w9.heap.size w9) m));have AQ:=((st.trans A7).trans st8).trans std;have Cx:Z.F.N.length<65536:=ok.fpi.few ok.fo.n hp hs h0;refine (Q8d (q:=Z.F) (SP.sF (Z:=Z.setS S3 (updT (updT Z.tb (x%256) t1) (x%256) t3)) std.sep) ok.fo (.inl rfl) (by omega) (by omega) (by omega) (by omega) (ok.fpi.free ok.fo.n h0) (by have:=ok.next;omega) Cx).mono ?_;rintro rv w' ⟨rfl,F',AF,stF⟩;refine⟨⟨_,_,rfl⟩,.inr ⟨rfl,?_⟩⟩
   obtain⟨okz,AX,-⟩:=ok.made_added hp hk hs h0 T1 mk Jn hq AE T3 AF;have stZ:Step (Z.setS S3 (updT (updT Z.tb (x%256) t1) (x%256) t3)).hl ((Z.setF F').setS S3 (updT Z.tb (x%256) t3)).hl (w9.drewN m) w':=by
    have:=SP.stepF (Z:=Z.setS S3 (updT (updT Z.tb (x%256) t1) (x%256) t3)) std.sep F' AF.f stF;have e:((Z.setS S3 (updT (updT Z.tb (x%256) t1) (x%256) t3)).setF F')=(Z.setF F').setS S3 (updT Z.tb (x%256) t3):=by rw [Q1c];rfl
    rwa [e] at this
   refine⟨(Z.setF F').setS S3 (updT Z.tb (x%256) t3),fr',s,i,q,⟨n,a,f.own,1,q.age,v⟩,rfl,hs,by rw [<- Dq];exact Jn,hq,rfl,rfl,rfl,rfl,okz,⟨rfl,AF.f,(T3.alt.c.trans T1.alt.c),T3.alt.per.trans (wn2.per.trans T1.alt.per),(T1.alt.same.trans wn2.same).trans T3.alt.same,?_⟩,?_,AX,AQ.trans stZ⟩
   ·show pget S3.l 1 0=_;rw [T3.alt.l,Q9K wn2.root,Dq]
   ·show S3.l=_;rw [T3.alt.l,Fi,Dq]
theorem Z6D {w:World} (hs:Sep w Z.hl) (ok:Z.Ok fr N K M) (hN:N+1<1048576) (hM:M+1<1099511627776) {x y:Nat} (hx:x<4294967296) (hy:y<4294967296) (z k lim:Int) :
  Calls prog 40 #[.pointer (some ⟨Z.s,0,none⟩),.int .u32 x,.int .i64 z,.int .u32 y,.int .i64 k,.int .i64 lim] w fun rv w'=>∃(hh:Nat) (er:Int),rv=.returned (.tuple #[.int .u32 hh,.int .i64 er])/\MkR Z fr N K M x z k w hh er w':=by
 have bad:∀(er:Int) (W:World),er≠0->Below w.heap.size w W->MkR Z fr N K M x z k w 0 er W:=fun er W he hb=>.inl ⟨he,rfl,0,BackZ.of 0 hs ok hb⟩
 cases hp:pget Z.S.l 1 x with
 | none =>
  refine (Q7y (y:=y) (z:=z) (k:=k) (lim:=lim) (e:=8) (by decide) (Q0I hs ok.core hx 8 (.inl ⟨hp,rfl⟩))).mono ?_;rintro rv w' ⟨rfl,hb⟩;exact⟨0,8,rfl,bad 8 _ (by decide) hb⟩
 | some p =>
  by_cases hk:p.kind=2
  case neg =>
   refine (Q7y (y:=y) (z:=z) (k:=k) (lim:=lim) (e:=10) (by decide) (Q0I hs ok.core hx 10 (.inr ⟨p,hp,hk,rfl⟩))).mono ?_;rintro rv w' ⟨rfl,hb⟩;exact⟨0,10,rfl,bad 10 _ (by decide) hb⟩
  refine Z3l hs ok hx hp hk z k lim ?_;by_cases hz:0<=z/\z<256
  case neg=>exact .inl ⟨2,.inl ⟨decide_eq_false hz,rfl⟩,fun W hb=>bad 2 W (by decide) hb⟩
  have Ho:decide (0<=z/\z<256)=true:=decide_eq_true hz;by_cases hm:k=8∨1<=k/\k<=5
  case neg=>exact .inl ⟨1,.inr (.inl ⟨Ho,decide_eq_false hm,rfl⟩),fun W hb=>bad 1 W (by decide) hb⟩
  have EQ:decide (k=8∨1<=k/\k<=5)=true:=decide_eq_true hm;cases A9:(decide (z<128)==(k==8)) with
  | true=>exact .inl ⟨1,.inr (.inr (.inl ⟨Ho,EQ,A9,rfl⟩)),fun W hb=>bad 1 W (by decide) hb⟩
  | false =>
   obtain⟨s,rfl⟩:∃s:Nat,z=(s:Int):=⟨z.toNat,by omega⟩
   have A7:s<256:=by omega
   have KS:k=8↔128<=s:=by
    rcases Q3l A9 with ⟨h1,_,h3⟩|⟨h1,h2⟩
    ·have h1:=of_decide_eq_true h1;have h3:=of_decide_eq_false h3;omega
    ·have h1:=of_decide_eq_false h1;omega
   have AA:(Z.tb (x%256)).at' (s:Int)=Q0f Z.S.l Z.tb x s:=by
    unfold TB.at';rw [if_pos hz,Q0g hp hk (by omega)];rfl
   cases h0:Q0f Z.S.l Z.tb x s with
   | some e0=>exact .inl ⟨7,.inr (.inr (.inr ⟨Ho,EQ,A9,by rw [AA,h0];rfl,rfl⟩)),fun W hb=>bad 7 W (by decide) hb⟩
   | none =>
    have Bp:((Z.tb (x%256)).at' (s:Int)).isSome=false:=by rw [AA,h0];rfl
    refine .inr ⟨Ho,EQ,rfl,Bp,fun W g B hb hg BT=>?_⟩;have hi:=(pget_some.1 hp).1;have Ao:=(pget_some.1 hp).2.2;have Df:(Z.tb (x%256)).en s=none:=by rw [<- Q0g hp hk A7];exact h0
    refine (Q8f (hs.grown hb).sep ok.core ok.tpi (x:=x) (h:=0) (r:=15) hi Ao hk A7 Df (by omega) (by omega) hg).mono ?_;rintro rv w5 ⟨er,rfl,⟨rfl,nd,S1,t1,T1,st1⟩|⟨he,F1,P',tr,st1⟩⟩
    ·have st:=(hs.grown hb).trans st1;have bx5:=BT.step st1;exact⟨0,rfl,.inr ⟨rfl,Q4P (Z1:=Z.setS S1 (updT Z.tb (x%256) t1)) rfl T1.alt.c rfl st.sep bx5,Z6C ok hN hM hx hy hp hk A7 h0 k lim KS T1 st (hg.step st1 T1.alt.same.p) bx5⟩⟩
    ·refine⟨er,rfl,.inl ⟨by omega,.inl ⟨by omega,rfl,p.fac,?_⟩⟩⟩;refine LaidP.back (x:=x) (A:=fun _=>⟨0,0,0,false⟩) ok hp hk ((LaidP.start (x:=x) (A:=fun _=>⟨0,0,0,false⟩) ok (p.fac:Int)).tried tr) ?_;rw [Q1k];exact (hs.grown hb).trans st1
end
def Q0j (l:List Pl) (tb:Nat->TB) (x:Nat):List Int:=match pget l 1 x with
 | none=>[]
 | some p=>if p.kind=2 then Q0w (tb (x%256)) 256 else []
theorem NewIs.base {w w1 w':World} {L:List Int} {r:Ending} (hb:Below w.heap.size w w1) (h:NewIs w1 L r w'):NewIs w L r w':=by
 obtain⟨v,rfl,h1,h2⟩:=h;exact⟨v,rfl,Q2p h1 hb.size,hb.trans (h2.mono hb.size)⟩
theorem NewIs.nil {w w':World} (hb:Below w.heap.size w w'):NewIs w [] (.returned (.slice none 0 0)) w':=⟨_,rfl,World.ownsRow_nil _ _ _ _,hb⟩
theorem Q5f {w:World} {Z:SP} {fr:List Nat} {N K:Nat} {M:Int} (hs:Sep w Z.hl) (ok:Z.Ok fr N K M) {x:Nat} (hx:x<4294967296) :
  Calls prog 32 #[.pointer (some ⟨Z.s,0,none⟩),.int .u32 x] w (NewIs w (Q0j Z.S.l Z.tb x)):=by
 have K1:∀e:Int,e≠0->((pget Z.S.l 1 x=none/\e=8)∨∃p,pget Z.S.l 1 x=some p/\p.kind≠2/\e=10)->Calls prog 32 #[.pointer (some ⟨Z.s,0,none⟩),.int .u32 x] w (NewIs w []):=fun e he hw=>by
  have ks:=Q0I hs ok.core hx e hw;have FI:(e==0)=false:=by simpa using he
  have HR:Hid (∀w',Below w.heap.size w w'->∀o,NewIs w [] (.returned (.slice none 0 0)) (w'.alloc o)):=fun w' hb o=>NewIs.nil (hb.alloc hb.size o)
  clear hs ok hx hw;go_enter func32,ntmps32;go_wp2_with fail;refine ks.mono ?_;rintro r w1 ⟨rfl,hb⟩;have HQ:=Q0a (HR.out w1 hb);clear hb HR ks;go_wp2_with fail
  first|exact HQ.out _|(go_ret;exact HQ.out _)
 cases hp:pget Z.S.l 1 x with
 | none =>
  have:=K1 8 (by decide) (.inl ⟨hp,rfl⟩);unfold Q0j;rw [hp];exact this
 | some p =>
  by_cases hk:p.kind=2
  ·have ks:=Q0V hs ok.core hx hp hk;have hi:=(pget_some.1 hp).1;have Ao:=(pget_some.1 hp).2.2;have hL:Q0j Z.S.l Z.tb x=Q0w (Z.tb (x%256)) 256:=by
    unfold Q0j;rw [hp];simp only [if_pos hk]
   rw [hL];have HC:Hid (∀(w2:World) (g:Nat),Below w.heap.size w w2->TblZ Z p g w2->Calls prog 91 #[.pointer (some ⟨g,0,none⟩)] (w2.alloc (.cells #[.pointer (some ⟨g,0,none⟩),.int .u32 x,.int .i64 (p.fac:Int)] 191)) (NewIs w (Q0w (Z.tb (x%256)) 256))):=fun w2 g Ag hg=>by
    have Ar:Below w2.heap.size w2 (w2.alloc (.cells #[.pointer (some ⟨g,0,none⟩),.int .u32 x,.int .i64 (p.fac:Int)] 191)):=(Below.refl _ _).alloc (J2y _) _;have s2:=(hs.grown Ag).sep;have T:=(ok.tpi.x (p.fac:Int)).tt ok.core hi Ao hk (SP.sS (s2.grown Ar).sep) (hg.grown s2 Ar).c;exact (Q7r T).mono fun r w' h=>h.base (Ag.trans (Ar.mono Ag.size))
   clear hs ok hx hp hk hi Ao hL K1;generalize Q0w (Z.tb (x%256)) 256=L at *
   go_enter func32,ntmps32;go_wp2_with fail;refine ks.mono ?_;rintro r w2 ⟨g,rfl,Ag,hg⟩;have kt:=HC.out w2 g Ag hg;clear Ag hg HC ks;go_wp2_with fail;refine kt.mono ?_;rintro r w3 ⟨v,rfl,hq⟩;have HQ:Hid (NewIs w L (.returned v) w3):=⟨v,rfl,hq⟩
   clear hq kt;go_wp2_with fail
   first|exact HQ.out|(go_ret;exact HQ.out)
  ·have:=K1 10 (by decide) (.inr ⟨p,hp,hk,rfl⟩);unfold Q0j;rw [hp];simp only [if_neg hk];exact this
theorem Q3p {w:World} {Z:SP} (hs:Sep w Z.hl):Calls prog 26 #[.pointer (some ⟨Z.s,0,none⟩)] w fun r w'=>r=.returned (.pointer (some ⟨Z.S.c,0,none⟩))/\w=w':=by
 have c0:=SP.c0 hs;clear hs;go_enter func26,ntmps26
 go_wp2
 go_ret;exact⟨rfl,rfl⟩
def encS (p:Int×Int):List Value:=[.int .i64 p.1,.int .i64 p.2]
theorem Z8O:(prog.info? 173).map (fun i=>(i.zero,i.size,i.bytes))=some (some (.agg #[.int .i64 0,.int .i64 0]),2,16):=by kernel_rfl
def OutS (w wr:World) (v:Value) (L:List (Int×Int)):Prop:=wr.ownsRow w.heap.size 173 2 v L.length (L.flatMap encS)/\Below w.heap.size w wr
theorem OutS.nil (w:World):OutS w w (.slice none 0 0) []:=⟨World.ownsRow_nil _ _ _ _,Below.refl _ _⟩
theorem OutS.below {w wr w1:World} {v:Value} {L:List (Int×Int)} (h:OutS w wr v L) (hb:Below wr.heap.size wr w1):OutS w w1 v L:=
 ⟨h.1.kept (row:=none) ⟨hb.os,hb.tape,hb.output,hb.size,fun k hk _=>hb.block k hk⟩ (by cases hv:v.ownBlock with|none=>exact .inl rfl|some b=>exact .inr (by simp)),h.2.trans (hb.mono h.2.size)⟩
theorem OutS.app {w wr:World} {v:Value} {L:List (Int×Int)} (h:OutS w wr v L) (hl:L.length<=16777216) (x y:Int) (ty:TypeId):∃v' w',(Builtin.append_ #[176,176] ty #[v,.slice (some ⟨wr.heap.size,0,none⟩) 1 1]).run prog (wr.alloc (.cells #[.int .i64 x,.int .i64 y] 173))=.ok v' w'/\OutS w w' v' (L++[(x,y)])/\(∀b,b<wr.heap.size->v.ownBlock≠some b->w'.heap[b]?=wr.heap[b]?)/\(v'.ownBlock=v.ownBlock∨∀b,v'.ownBlock=some b->wr.heap.size<=b)/\wr.heap.size<=w'.heap.size:=by
 obtain⟨i0,hi,BH,Bi,Be⟩:=info_parts Z8O;have h2:=h.below ((Below.refl _ _).alloc (J2y _) (.cells #[.int .i64 x,.int .i64 y] 173));obtain⟨v',w',hr,q1,q2,_,q4⟩:=run_append_own_at (P:=prog) (wr.alloc (.cells #[.int .i64 x,.int .i64 y] 173)) w.heap.size 176 ty 173 i0 (.agg #[.int .i64 0,.int .i64 0]) 2 16 underlying176 hi BH Bi Be rfl (by decide) v L.length (L.flatMap encS) h2.1 ⟨wr.heap.size,0,none⟩ 1 1 [.int .i64 x,.int .i64 y] rfl (by
  intro j u hj;have:=(Cells.new wr 173 [.int .i64 x,.int .i64 y]).cell j u hj;have e:(⟨wr.heap.size,0,none⟩:Addr).add j=⟨wr.heap.size,j,none⟩:=by unfold Addr.add;split <;> simp_all
  rw [e];exact this) (fun u hu=>by
   rcases J2D.1 hu with rfl|hu
   ·rfl
   ·rw [J4H.1 hu];rfl) (by unfold maxLen;omega) (by omega) h2.2.size
 refine⟨v',w',hr,⟨?_,?_⟩,fun b hb Aa=>?_,?_,?_⟩
 ·rw [J3j,J3h];exact q1
 ·exact h2.2.trans ((Below.refl _ _).mono h2.2.size |>.grown q2 h2.2.size (fun b hb=>(h2.1.lt b hb).1))
 ·rw [q2.block b (by simp;omega) (fun e=>Aa e.symm)];exact Below.heap_alloc _ _ _ hb
 ·rcases q4 with q4|q4
  ·exact .inl q4
  ·refine .inr fun b hb=>?_
   rw [q4] at hb;cases hb;simp
 ·have:=q2.size;simp at this;omega
def NewSp (w:World) (L:List (Int×Int)) (r:Ending) (w':World):Prop:=∃v,r=.returned v/\w'.ownsRow w.heap.size 173 2 v L.length (L.flatMap encS)/\Below w.heap.size w w'
def hasH (l:List Pl) (tb:Nat->TB) (h x:Nat) (s:Int):Bool:=match Q0f l tb x s.toNat with
 | some e=>decide (e.h=h)
 | none=>false
def Q3q (l:List Pl) (tb:Nat->TB) (h x:Nat) (L:List Int):List (Int×Int):=(L.filter (hasH l tb h x)).map fun s=>((x:Int),s)
def Q5u (l:List Pl) (tb:Nat->TB) (h x:Nat):List (Int×Int):=Q3q l tb h x (Q0j l tb x)
def Q1S (l:List Pl) (tb:Nat->TB) (h:Nat) (T:List Nat):List (Int×Int):=T.flatMap (Q5u l tb h)
def Q2S (l:List Pl) (tb:Nat->TB) (h:Nat):List (Int×Int):=Q1S l tb h (allL l 1)
theorem Z3B (l:List Pl) (tb:Nat->TB) (h x:Nat) (L:List Int) (s:Int):Q3q l tb h x (L++[s])=Q3q l tb h x L++if hasH l tb h x s=true then [((x:Int),s)] else []:=by
 unfold Q3q;rw [J4x,J6d];cases hh:hasH l tb h x s <;> simp [hh]
theorem Q9L (l:List Pl) (tb:Nat->TB) (h x:Nat) (L:List Int):(Q3q l tb h x L).length<=L.length:=by
 unfold Q3q;rw [J4j];exact J4P _ _
theorem Z3C (l:List Pl) (tb:Nat->TB) (h:Nat) (T:List Nat) (x:Nat):Q1S l tb h (T++[x])=Q1S l tb h T++Q5u l tb h x:=by
 unfold Q1S;rw [J3h];simp
theorem Q2T (l:List Pl) (tb:Nat->TB) (x:Nat):(Q0j l tb x).length<=256:=by
 unfold Q0j;split
 ·simp
 ·split
  ·exact Q4g _ _
  ·simp
theorem Q6C (l:List Pl) (tb:Nat->TB) (h:Nat):∀T:List Nat,(Q1S l tb h T).length<=256*T.length
 | []=>J2y _
 | x::r=>by
  have h1:=Q6C l tb h r;have h2:=Q9L l tb h x (Q0j l tb x);have h3:=Q2T l tb x;show ((x::r).flatMap (Q5u l tb h)).length<=_;rw [J2W,J3j,J3k];unfold Q1S at h1;unfold Q5u at h1 ⊢;omega
theorem mem_slotsL {l:List Pl} {tb:Nat->TB} {x:Nat} {z:Int}:z∈Q0j l tb x↔∃s:Nat,z=(s:Int)/\s<256/\∃e,Q0f l tb x s=some e:=by
 unfold Q0j Q0f;cases hp:pget l 1 x with
 | none=>simp
 | some p =>
  simp only;by_cases hk:p.kind=2
  ·rw [if_pos hk];unfold Q0w;simp only [J2E,J2T,J2P,J6f]
   constructor
   ·rintro⟨s,⟨h1,e,h2⟩,rfl⟩;exact⟨s,rfl,h1,e,by rw [if_pos ⟨hk,h1⟩];exact h2⟩
   ·rintro⟨s,rfl,h1,e,h2⟩;rw [if_pos ⟨hk,h1⟩] at h2;exact⟨s,⟨h1,e,h2⟩,rfl⟩
  ·rw [if_neg hk]
   constructor
   ·intro h;cases h
   ·rintro⟨s,rfl,h1,e,h2⟩;rw [if_neg (by simp [hk])] at h2;cases h2
theorem mem_holdL {l:List Pl} {tb:Nat->TB} {h:Nat} {T:List Nat} {p:Int×Int}:p∈Q1S l tb h T↔∃x∈T,∃s:Nat,p=((x:Int),(s:Int))/\s<256/\∃e,Q0f l tb x s=some e/\e.h=h:=by
 unfold Q1S Q5u Q3q;simp only [J2Z,J2E,J2T]
 constructor
 ·rintro⟨x,hx,z,⟨h1,h2⟩,rfl⟩;obtain⟨s,rfl,h3,e,h4⟩:=mem_slotsL.1 h1;refine⟨x,hx,s,rfl,h3,e,h4,?_⟩;unfold hasH at h2;rw [J3F,h4] at h2
  simpa using h2
 ·rintro⟨x,hx,s,rfl,h3,e,h4,h5⟩;refine⟨x,hx,(s:Int),⟨mem_slotsL.2 ⟨s,rfl,h3,e,h4⟩,?_⟩,rfl⟩;unfold hasH;rw [J3F,h4]
  simpa using h5
end Go.Proofs.YtfidemmgofcnmaaGreatDoor

/- What the laws of spaces share is proved. No condition. Part of a proof. -/
import Derived.Test.YtlakjlmaboioiaaGreatDoorVa12
import Derived.RangeFuncWrites
import Derived.Maps.OwnIn
set_option maxHeartbeats 8000000
set_option maxRecDepth 100000
set_option linter.unusedVariables false
namespace Go.Proofs.YtlakjlmaboioiaaGreatDoor
open Go.RowKit Go.Proofs.Tryz
theorem Z3c {w w1:World} {S:CO} {fr:List Nat} {N K:Nat} (h:Sep w S.hl) (hb:Below w.heap.size w w1) (ok:S.Ok fr N K) (hN:N+1<1048576) {x:Nat} {f:Pl} (hf:pget S.l 1 x=some f) (Dp:f.kind=1) {n:Nat} (hn:n=8∨1<=n/\n<=5) {lim:Int} (hlim:n=1->0<=lim) :
  Calls prog 69 #[.pointer (some ⟨S.c,0,none⟩),.int .i64 (f.own:Int),.int .i64 n] w1 fun r w2 =>
   (∃er:Int,er≠0/\r=.returned (.tuple #[.int .i64 0,.int .i64 er])/\MakeR S fr x n lim w (.returned (.tuple #[.int .u32 0,.int .i64 er])) w2) ∨
   ∃a:Nat,r=.returned (.tuple #[.int .i64 a,.int .i64 0])/\∀w3,Below w2.heap.size w2 w3 ->
    Calls prog 70 #[.pointer (some ⟨S.c,0,none⟩),.agg #[.int .i64 n,.int .i64 a,.int .i64 (f.own:Int)],.int .i64 lim] w3 fun r w4=>(∀b,w2.heap.size<=b->b<w3.heap.size->w4.heap[b]?=w3.heap[b]?)/\w3.heap.size<=w4.heap.size /\
     ((∃er:Int,er≠0/\r=.returned (.int .i64 er)/\Calls prog 71 #[.pointer (some ⟨S.c,0,none⟩),.agg #[.int .i64 n,.int .i64 a,.int .i64 (f.own:Int)]] w4 fun r w5=>r=.returned (.tuple #[])/\MakeR S fr x n lim w (.returned (.tuple #[.int .u32 0,.int .i64 er])) w5) ∨
      (r=.returned (.int .i64 0)/\w4.cell? ⟨S.c,1,none⟩=some (.pointer (some ⟨S.t,0,none⟩))/\Calls prog 66 #[.pointer (some ⟨S.t,0,none⟩),.agg #[.int .i64 n,.int .i64 a,.int .i64 (f.own:Int)]] w4.drew fun r w5=>∃y:Nat,r=.returned (.tuple #[.int .u32 y,.int .i64 0])/\w5.cell? ⟨S.c,1,none⟩=some (.pointer (some ⟨S.t,0,none⟩))/\(∀b,w2.heap.size<=b->b<w4.heap.size->w5.heap[b]?=w4.heap[b]?)/\MakeR S fr x n lim w (.returned (.tuple #[.int .u32 y,.int .i64 0])) w5)):=by
 obtain⟨e,he⟩:=ok.inv.tre.acc (Q0z hf) (Pl.is_iff.2 (.inl (pget_some.1 hf).2.2)) Dp;have s1:=h.grown hb;have BG:=ok.inv.mem.pool;have A4:=ok.inv.lok;have Mu:=ok.next;have F7:∀(r:Ending) (w':World),J1t S fr f e n lim w r w'->MakeR S fr x n lim w r w':=fun r w' hk=>.inr ⟨f,hf,.inr (.inr ⟨n,e,rfl,Dp,hn,hlim,he,hk⟩)⟩
 refine Calls.mono (Z8x s1.sep BG he (by omega)) ?_;rintro r w2 (⟨hq,rfl,st⟩|⟨hq,Th,rfl,st⟩|⟨a,P',fr',hq,g,rfl,st⟩)
 ·exact .inl ⟨5,by decide,rfl,F7 _ _ (.inl ⟨hq,rfl,s1.trans st⟩)⟩
 ·exact .inl ⟨4,by decide,rfl,F7 _ _ (.inr (.inl ⟨hq,Th,rfl,s1.trans st⟩))⟩
 ·refine .inr ⟨a,rfl,fun w3 As=>?_⟩;have s2:=s1.trans st;have s3:=s2.sep.grown As;have s23:=s2.trans s3;obtain⟨LX,hE,BA,MP⟩:=g.acc he;have Cv:=g.room.1;have Ac:=g.same.len;have key:∀{H':HL} {w4:World},Step (S.setP P').hl H' w3 w4->(∀b,w2.heap.size<=b->b<w3.heap.size->w4.heap[b]?=w3.heap[b]?)/\w3.heap.size<=w4.heap.size:=fun st4=>⟨fun b h1 h2=>st4.chg.block b h2 (fun hk=>by have:=s2.sep.lt hk;omega),st4.chg.size⟩
  have Bo:∀{w4:World} (er:Int),er≠0->Step (S.setP P').hl (S.setP P').hl w3 w4->((er=11/\((∀p∈S.l,p.st≠0)∨n=1/\S.P.q.E.length=32))∨(er=5/\n=1/\Q0v e-64<lim)) ->
    Calls prog 71 #[.pointer (some ⟨S.c,0,none⟩),.agg #[.int .i64 n,.int .i64 a,.int .i64 (f.own:Int)]] w4 fun r w5=>r=.returned (.tuple #[])/\MakeR S fr x n lim w (.returned (.tuple #[.int .u32 0,.int .i64 er])) w5:=fun {w4} er Co st4 hc=>by
   refine Calls.mono (Q8r st4.sep g.ok (g.held BG he)) ?_;rintro r w5 ⟨rfl,P2,fr2,bk,st5⟩;have ht:=g.back ok.inv.mem bk;exact⟨rfl,F7 _ _ (.inr (.inr (.inl ⟨hq,er,P2,hc,ht,rfl,(s23.trans st4).trans st5⟩)))⟩
  have BE:∀{w4:World} {P2:PL} {i:Nat} {p:Pl} {y:Nat},Fst S.l i p->Step (S.setP P').hl (S.setP P2).hl w3 w4->MadeOk S fr f e n a lim y i p P2 fr' ->
    w4.cell? ⟨S.c,1,none⟩=some (.pointer (some ⟨S.t,0,none⟩))/\Calls prog 66 #[.pointer (some ⟨S.t,0,none⟩),.agg #[.int .i64 n,.int .i64 a,.int .i64 (f.own:Int)]] w4.drew fun r w5=>∃y:Nat,r=.returned (.tuple #[.int .u32 y,.int .i64 0])/\w5.cell? ⟨S.c,1,none⟩=some (.pointer (some ⟨S.t,0,none⟩))/\(∀b,w2.heap.size<=b->b<w4.heap.size->w5.heap[b]?=w4.heap[b]?)/\MakeR S fr x n lim w (.returned (.tuple #[.int .u32 y,.int .i64 0])) w5:=fun {w4 P2 i p y} hi st4 hm=>by
   have s4:=s3.trans st4;refine⟨CO.c1 (S:=S.setP P2) s4.sep,?_⟩;refine Calls.mono (Z5M (h:=(S.setP P2).ht) (CO.sT s4.drew.sep) A4 hi n a f.own y) ?_;rintro r w5 ⟨rfl,st5⟩;have s5:=CO.stepL (S:=S.setP P2) s4.drew.sep _ st5;refine⟨nm i p,rfl,CO.c1 (S:=(S.setP P2).setL _) s5.sep,fun b h1 h2=>?_,F7 _ _ (.inr (.inr (.inr ⟨i,p,a,y,P2,fr',hi.1,hi.2.1,hi.2.2,hq,rfl,hm,(s2.trans s4.drew).trans s5⟩)))⟩;have WS:∀k∈keys (S.setP P2).hl,k<w2.heap.size∨w3.heap.size<=k:=fun k hk=>by
    rcases st4.new k hk with h'|h'
    ·exact .inl (s2.sep.lt h')
    ·exact .inr h'
   exact st5.chg.block b h2 (fun hk=>by
    have Ab:=(CO.sT (S:=S.setP P') s2.sep).lt (b:=b) hk;omega)
  refine Calls.mono (Z3b (S:=S.setP P') s3.sep g.ok A4 LX (by show P'.q.next+1<_;rw [BA];omega) (fun h1=>?_)) ?_
  ·subst h1;have hm:a∈P'.usedOf 1:=(g.used (by decide)).mem_iff.2 (by simp);have D4:costK 1=64:=rfl;rw [D4] at Cv;exact⟨hlim rfl,Q2q g.ok hm,by show a+8<=P'.a.mem.length;rw [Ac];omega⟩
  ·rintro r w4 (⟨B4,rfl,st4⟩|⟨⟨i,p,hi⟩,Dq,rfl,st4⟩|⟨⟨i,p,hi⟩,Dq,⟨er,hc,rfl⟩,st4⟩|⟨⟨i,p,hi⟩,Dq,D3,rfl,b,st4⟩)
   ·exact⟨(key st4).1,(key st4).2,.inl ⟨11,by decide,rfl,Bo 11 (by decide) st4 (.inl ⟨rfl,.inl B4⟩)⟩⟩
   ·obtain⟨c1,hp⟩:=BE hi st4 (J1v ok hf Dp (by omega) he g hi);exact⟨(key st4).1,(key st4).2,.inr ⟨rfl,c1,hp⟩⟩
   ·subst Dq;have D4:costK 1=64:=rfl;have Aw:=g.mem;rw [D4] at Cv Aw;have GD:P'.setA (put_ P'.a.mem a (Q0d 0))=P':=by
     have:put_ P'.a.mem a (Q0d 0)=P'.a.mem:=by
      rw [Aw];exact Z8t (by omega) Cv
     rw [this];rfl
    have st4':Step (S.setP P').hl (S.setP (P'.setA (put_ P'.a.mem a (Q0d 0)))).hl w3 w4:=st4;rw [GD] at st4';have Co:er≠0:=by rcases hc with ⟨rfl,_⟩|⟨rfl,_⟩ <;> decide
    have Kg:Q0v ({e with q:={e.q with charged:=e.q.charged+((costK 1:Nat):Int)}}:En Fa)=Q0v e-64:=by
     unfold Q0v;rw [D4];simp only;omega
    refine⟨(key st4').1,(key st4').2,.inl ⟨er,Co,rfl,Bo er Co st4' ?_⟩⟩;rcases hc with ⟨rfl,hc⟩|⟨rfl,hc⟩
    ·exact .inr ⟨rfl,rfl,by rw [Kg] at hc;exact hc⟩
    ·exact .inl ⟨rfl,.inr ⟨rfl,by rw [<- MP];exact hc⟩⟩
   ·subst Dq;have D4:costK 1=64:=rfl;have Kg:Q0v ({e with q:={e.q with charged:=e.q.charged+((costK 1:Nat):Int)}}:En Fa)=Q0v e-64:=by
     unfold Q0v;rw [D4];simp only;omega
    rw [Kg] at D3;have hm:=J1w (b:=b) (a:=a) ok hN hf Dp he (hlim rfl) D3 g hi;have st4':Step (S.setP P').hl (S.setP ((P'.setQ (Q4b P'.q f.own {e with q:={e.q with charged:=e.q.charged+64}} b lim)).setA (put_ P'.a.mem a (Q0d S.P.q.next.toNat)))).hl w3 w4:=by
     rw [<- BA];exact st4
    obtain⟨c1,hp⟩:=BE hi st4' hm;exact⟨(key st4').1,(key st4').2,.inr ⟨rfl,c1,hp⟩⟩
theorem Q9j {w:World} {S:CO} {x:Nat} (k lim er:Int) (he:er≠0) (hO:Calls prog 67 #[.pointer (some ⟨S.c,0,none⟩),.int .u32 x] w (Told w (.tuple #[.int .i64 0,.int .i64 er]))) :
  Calls prog 16 #[.pointer (some ⟨S.c,0,none⟩),.int .u32 x,.int .i64 k,.int .i64 lim] w (Told w (.tuple #[.int .u32 0,.int .i64 er])):=by
 have Av:(er==0)=false:=by simpa using he
 have Af:(er != 0)=true:=by simpa using he
 go_enter func16,ntmps16;go_wp2_with fail;refine hO.mono ?_;rintro r w1 ⟨rfl,hb⟩;have HB:Hid (Told w (.tuple #[.int .u32 0,.int .i64 er]) (.returned (.tuple #[.int .u32 0,.int .i64 er])) w1):=⟨rfl,hb⟩
 clear hb;go_wp2_with fail
 first|exact HB.out|(go_ret2;exact HB.out)
theorem Z5Y {w:World} {S:CO} {x:Nat} (own:Nat) (k lim:Int) (hk:¬(k=8∨1<=k/\k<=5)∨k=1/\lim<0) (hO:Calls prog 67 #[.pointer (some ⟨S.c,0,none⟩),.int .u32 x] w (Told w (.tuple #[.int .i64 own,.int .i64 0]))) :
  Calls prog 16 #[.pointer (some ⟨S.c,0,none⟩),.int .u32 x,.int .i64 k,.int .i64 lim] w (Told w (.tuple #[.int .u32 0,.int .i64 1])):=by
 have HM:Hid (∀w1,Below w.heap.size w w1->Calls prog 68 #[.int .i64 k] w1 (fun r w'=>r=.returned (.bool (decide (k=8∨1<=k/\k<=5)))/\w1=w')/\Told w (.tuple #[.int .u32 0,.int .i64 1]) (.returned (.tuple #[.int .u32 0,.int .i64 1])) w1):=fun w1 hb=>⟨Z1P w1 k,rfl,hb⟩
 have Ay:decide (k=8∨1<=k/\k<=5)=false∨decide (k=8∨1<=k/\k<=5)=true/\k=1/\lim<0:=by
  by_cases hm:k=8∨1<=k/\k<=5
  ·rcases hk with hk|hk
   ·exact absurd hm hk
   ·exact .inr ⟨by rw [decide_eq_true_eq];exact hm,hk⟩
  ·exact .inl (by rw [decide_eq_false_iff_not];exact hm)
 clear hk;generalize decide (k=8∨1<=k/\k<=5)=m at *
 rcases Ay with rfl|⟨rfl,rfl,hl⟩
 all_goals
  go_enter func16,ntmps16;go_wp2_with fail;refine hO.mono ?_;rintro r w1 ⟨rfl,hb⟩;obtain⟨GF,hx⟩:=HM.out w1 hb;have HX:=Q0a hx;clear hb hx hO;go_wp2_with fail;refine GF.mono ?_;rintro r w2 ⟨rfl,rfl⟩;clear GF;go_wp2_with fail
  first|exact HX.out|(go_ret2;exact HX.out)
theorem Z3d {w:World} {S:CO} {fr:List Nat} {N K:Nat} (h:Sep w S.hl) (ok:S.Ok fr N K) (hN:N+1<1048576) {x:Nat} (hx:x<4294967296) {f:Pl} (hf:pget S.l 1 x=some f) (Dp:f.kind=1) {n:Nat} (hn:n=8∨1<=n/\n<=5) {lim:Int} (hlim:n=1->0<=lim) :
  Calls prog 16 #[.pointer (some ⟨S.c,0,none⟩),.int .u32 x,.int .i64 n,.int .i64 lim] w (MakeR S fr x n lim w):=by
 have hO:=Q6n h ok hx hf Dp;have HC:Hid (∀w1,Below w.heap.size w w1->_):=fun w1 hb=>Z3c (w1:=w1) h hb ok hN hf Dp hn hlim
 have HM:Hid (∀w1,Calls prog 68 #[.int .i64 n] w1 (fun r w'=>r=.returned (.bool true)/\w1=w')):=fun w1=>by
  have:=Z1P w1 (n:Int);rw [show decide ((n:Int)=8∨1<=(n:Int)/\(n:Int)<=5)=true by rw [decide_eq_true_eq];omega] at this;exact this
 have Ay:(n:Int)=1/\0<=lim∨((n:Int)==1)=false:=by
  by_cases h1:n=1
  ·exact .inl ⟨by omega,hlim h1⟩
  ·exact .inr (by simp;omega)
 generalize MakeR S fr x n lim w=Q at *
 generalize f.own=own at *
 clear h ok hN hf Dp hn hlim;generalize (n:Int)=nz at *
 rcases Ay with ⟨rfl,h0⟩|h0
 all_goals
  go_enter func16,ntmps16;go_wp2_with fail;refine hO.mono ?_;rintro r w1 ⟨rfl,hb⟩;have hc:=HC.out w1 hb;have GF:=HM.out w1;clear hb hO HC HM;go_wp2_with fail;refine GF.mono ?_;rintro r w2 ⟨rfl,rfl⟩;clear GF;go_wp2_with fail;refine hc.mono ?_;rintro r w2 (⟨er,Co,rfl,hx⟩|⟨a,rfl,hx⟩)
  ·have HX:=Q0a hx;have Av:(er==0)=false:=by simpa using Co
   have Af:(er != 0)=true:=by simpa using Co
   clear hx hc Co;go_wp2_with fail
   first|exact HX.out|(go_ret2;exact HX.out)
  ·have HX:=Q0a hx;clear hx hc;go_wp2_with fail;refine (HX.out _ ((Below.refl _ _).alloc (J2h _) _)).mono ?_;rintro r w4 ⟨hk,B7,hx⟩;have hB:∀i v,(w2.alloc (.cells #[.int .i64 _,.int .i64 a,.int .i64 own] 69)).cell? ⟨w2.heap.size,i,none⟩=some v->w4.cell? ⟨w2.heap.size,i,none⟩=some v:=fun i v hv=>(World.cell?_of_block (hk _ (J2h _) (by simp))).trans hv
   have e0:=hB 0 _ ((Cells.new w2 69 [.int .i64 _,.int .i64 a,.int .i64 own]).cell 0 _ rfl);have e1:=hB 1 _ ((Cells.new w2 69 [.int .i64 _,.int .i64 a,.int .i64 own]).cell 1 _ rfl);have e2:=hB 2 _ ((Cells.new w2 69 [.int .i64 _,.int .i64 a,.int .i64 own]).cell 2 _ rfl);have Ab:w2.heap.size<w4.heap.size:=by rw [World.size_alloc] at B7;omega
   clear hk B7 hB HX;rcases hx with ⟨er,Co,rfl,hx⟩|⟨rfl,c1,hx⟩
   ·have HX:=Q0a hx;have Av:(er==0)=false:=by simpa using Co
    have Af:(er != 0)=true:=by simpa using Co
    clear hx Co;go_wp2_with fail;refine HX.out.mono ?_;rintro r w5 ⟨rfl,hx⟩;have HY:=Q0a hx;clear hx HX;go_wp2_with fail
    first|exact HY.out|(go_ret2;exact HY.out)
   ·have HX:=Q0a hx;have x1:w4.drew.cell? ⟨S.c,1,none⟩=some (.pointer (some ⟨S.t,0,none⟩)):=c1;have f0:w4.drew.cell? ⟨w2.heap.size,0,none⟩=_:=e0;have f1:w4.drew.cell? ⟨w2.heap.size,1,none⟩=_:=e1;have f2:w4.drew.cell? ⟨w2.heap.size,2,none⟩=_:=e2;clear hx;go_wp2_with fail
    go_region_held3 (fun w'=>w'.cell? ⟨S.c,1,none⟩=some (.pointer (some ⟨S.t,0,none⟩))/\w'.cell? ⟨w2.heap.size,0,none⟩=w4.cell? ⟨w2.heap.size,0,none⟩/\w'.cell? ⟨w2.heap.size,1,none⟩=some (.int .i64 a)/\w'.cell? ⟨w2.heap.size,2,none⟩=some (.int .i64 own)) (first|exact⟨c1,rfl,e1,e2⟩|exact⟨x1,rfl,f1,f2⟩|exact⟨t0,t1,t2,t3⟩)
     (first|(go_at_call 66;refine HX.out.mono ?_;rintro r w5 ⟨y,rfl,t0,tk,hx⟩;have t1:w5.cell? ⟨w2.heap.size,0,none⟩=w4.cell? ⟨w2.heap.size,0,none⟩:=World.cell?_of_block (tk _ (J2h _) Ab);have t2:=(World.cell?_of_block (w:=w4) (tk _ (J2h _) Ab)).trans e1;have t3:=(World.cell?_of_block (w:=w4) (tk _ (J2h _) Ab)).trans e2;have HY:=Q0a hx;clear hx tk))
    go_wp2_with fail
    first|exact HY.out|(go_ret2;exact HY.out)
theorem Q6o {w:World} {S:CO} {fr:List Nat} {N K:Nat} (h:Sep w S.hl) (ok:S.Ok fr N K) (hN:N+1<1048576) {x:Nat} (hx:x<4294967296) (k lim:Int) :
  Calls prog 16 #[.pointer (some ⟨S.c,0,none⟩),.int .u32 x,.int .i64 k,.int .i64 lim] w (MakeR S fr x k lim w):=by
 cases hp:pget S.l 1 x with
 | none =>
  refine (Q9j k lim 8 (by decide) (Q5M (by decide) (Q3G h ok.inv.lok hx 1 hp))).mono ?_;rintro r w' ⟨rfl,hb⟩;exact .inl ⟨hp,rfl,h.grown hb⟩
 | some f =>
  by_cases hk:f.kind=1
  ·have hO:=Q6n h ok hx hp hk;by_cases Ll:¬(k=8∨1<=k/\k<=5)∨k=1/\lim<0
   ·refine (Z5Y f.own k lim Ll hO).mono ?_;rintro r w' ⟨rfl,hb⟩;exact .inr ⟨f,hp,.inr (.inl ⟨hk,Ll,rfl,h.grown hb⟩)⟩
   ·have Do:∃n:Nat,k=(n:Int)/\(n=8∨1<=n/\n<=5)/\(n=1->0<=lim):=⟨k.toNat,by omega,by omega,by omega⟩
    obtain⟨n,rfl,h1,h2⟩:=Do;exact Z3d h ok hN hx hp hk h1 h2
  ·refine (Q9j k lim 10 (by decide) (Q5M (by decide) (Q2E h ok.inv.lok hx 1 hp (by decide) (by omega)))).mono ?_;rintro r w' ⟨rfl,hb⟩;exact .inr ⟨f,hp,.inl ⟨hk,rfl,h.grown hb⟩⟩
theorem Q4H {F:Fence} (hF:Hid (F=Fence.wide)) {n:Nat} {P:Program} {c:Code} {Q:Exit->Act->World->Prop} {a:Act} {w:World} (h:c.wp P Q a w):c.wpIn F n P Q a w:=by
 have e:F=Fence.wide:=hF.out;subst e;exact wpIn_wide.2 h
structure J1y (g now x:Nat) (W:World) (J1:World->Prop):Prop where
 it:∃(b off len cap at_:Nat),W.cell? ⟨g,2,none⟩=some (.slice (some ⟨b,off,none⟩) (len+1) cap)/\len+1<=cap/\cap<=maxLen/\W.cell? ⟨b,off,none⟩=some (.int .i64 x)/\W.cell? ⟨b,off+1,none⟩=some (.int .i64 at_)/\at_<=now /\
  J1 (W.setCell ⟨g,2,none⟩ (.slice (if cap=1 then some ⟨b,off,none⟩ else some ⟨b,off+2,none⟩) len (cap-1)))
def Late (g now:Nat) (W:World):Prop:=(∃a cap,W.cell? ⟨g,2,none⟩=some (.slice a 0 cap))∨∃(b off len cap at_:Nat),W.cell? ⟨g,2,none⟩=some (.slice (some ⟨b,off,none⟩) (len+1) cap)/\W.cell? ⟨b,off+1,none⟩=some (.int .i64 at_)/\now<at_
theorem J1z (F:Fence) (hF:Hid (F=Fence.wide)) (n:Nat) (hn:1<=n) (l bx g now D:Nat) (xs:Nat->Nat) (J J1:Nat->World->Prop) (W:World)
  (hread:∀k W,J k W->W.cell? ⟨bx,0,none⟩=some (.pointer (some ⟨g,0,none⟩))/\W.cell? ⟨g,1,none⟩=some (.int .i64 now)/\W.frozen? ⟨g,2,none⟩=false/\k<=D/\(k<D->J1y g now (xs k) W (J1 k))/\(k=D->Late g now W))
  (hd:∀k W m,J k W->J k (W.drewN m)) (Ig:∀k W m,J1 k W->J1 k (W.drewN m))
  (hY:∀k W1,k<D->J1 k W1->YieldAt F (n-1) prog l #[.int .i64 (xs k:Int)] W1 fun e W'=>e=.returned (.bool true)/\J (k+1) W')
  (h0:J 0 W) :
  CallsIn F n prog 252 #[.func (.yield l) #[] #[],.pointer (some ⟨bx,0,none⟩)] W fun e W'=>(∃v,e=.returned v)/\J D W':=by
 have ER:F.fn 252:=by rw [hF.out];trivial
 have AZ:∀(f:FuncId),(none:Option FuncId)=some f->F.fn f:=fun _ h=>nomatch h
 have Jz:F.round=none:=by rw [hF.out];rfl
 have HR:=Q0a hread;have HD:=Q0a hd;have V9:=Q0a Ig;have HY:=Q0a hY;clear hread hd Ig hY;refine callsIn_of_wp func252 rfl ER ?_ Jz;simp only [ntmps252,J4M,J2S,J4G,Nat.reduceAdd,Nat.reduceSub,Array.replicate_succ,Array.replicate_zero,List.push_toArray,List.append_toArray,J4r,J4s]
 gi_wp2
 gi_loopg [3] D (fun gk xv wr=>∃k:Nat,k+gk=D/\J k wr)
 case atStart=>exact⟨0,by omega,h0⟩
 case round =>
  clear h0;obtain⟨k,A7,hj⟩:=hrel;obtain⟨cb,c1,cf,Xb,Ab,IL⟩:=HR.out k wr hj;have HJ:=Q0a hj;have Bi:=Q0a A7;clear hj A7;by_cases hk:k<D
  ·obtain⟨b,off,len,cap,at_,c2,Cf,B6,e0,e1,AC,Lx⟩:=(Ab hk).it;have Mr:decide ((at_:Int)<=(now:Int))=true:=by rw [decide_eq_true_eq];omega
   have Cp:decide ((0:Int)<(len:Int)+1)=true:=by rw [decide_eq_true_eq];omega
   gi_wp2
   refine Q4H hF ?_
   go_quiet (fail)
   gi_wp2
   refine Q4H hF ?_;have DD:(1:Int)<=(len:Int)+1:=by omega
   have FL:(len:Int)+1<=(cap:Int):=by omega
   have Ls:len+1<=cap:=Cf;have Qz:IntKind.i64.wrap (len:Int)=(len:Int):=Go.IntWalk.i64_in _ (by unfold maxLen at B6;omega);have Oi:Hid (∀m,J1 k (((wr.drewN m).setCell ⟨g,2,none⟩ (.slice (if cap=1 then some ⟨b,off,none⟩ else some ⟨b,off+2,none⟩) len (cap-1))))):=fun m=>V9.out k _ m Lx
   clear Lx Mr Cp;by_cases AM:cap=1
   ·subst AM;obtain rfl:len=0:=by omega
    simp only [if_true] at Oi;go_region;have F6:=Oi.out (nq+1);obtain⟨fn,tmps,assign,body,hy,MD⟩:=HY.out k _ hk F6;have Gq:=Q0a MD;clear MD F6 c1 cf e0 e1 c2 cb HJ
    gi_wp2_with fail
    refine Gq.out.mono ?_;rintro e W4 ⟨rfl,MF⟩;have Pi:=Q0a MF;clear MF Gq hy
    gi_wp2
    gi_roundg (D-(k+1))
    case measure=>have:=Bi.out;omega
    case rel=>exact⟨k+1,by omega,Pi.out⟩
   ·simp only [if_neg AM] at Oi;go_region;have F6:=Oi.out (nq+1);obtain⟨fn,tmps,assign,body,hy,MD⟩:=HY.out k _ hk F6;have Gq:=Q0a MD;clear MD F6 c1 cf e0 e1 c2 cb HJ
    gi_wp2_with fail
    refine Gq.out.mono ?_;rintro e W4 ⟨rfl,MF⟩;have Pi:=Q0a MF;clear MF Gq hy
    gi_wp2
    gi_roundg (D-(k+1))
    case measure=>have:=Bi.out;omega
    case rel=>exact⟨k+1,by omega,Pi.out⟩
  ·obtain rfl:k=D:=by omega
   rcases IL rfl with ⟨a0,cap,c2⟩|⟨b,off,len,cap,at_,c2,e1,AC⟩
   ·have Cp:decide ((0:Int)<0)=false:=by decide
    gi_wp2
    refine Q4H hF ?_
    go_quiet (fail)
    gi_wp2
    go_end0;exact⟨⟨_,rfl⟩,HD.out _ _ _ HJ.out⟩
   ·have Mr:decide ((at_:Int)<=(now:Int))=false:=by rw [decide_eq_false_iff_not];omega
    have Cp:decide ((0:Int)<(len:Int)+1)=true:=by rw [decide_eq_true_eq];omega
    gi_wp2
    refine Q4H hF ?_
    go_quiet (fail)
    gi_wp2
    go_end0;exact⟨⟨_,rfl⟩,HD.out _ _ _ HJ.out⟩
theorem Step.drewN {w w':World} {H H':HL} (h:Step H H' w w') (m:Nat):Step H H' w (w'.drewN m):=⟨h.sep.drewN m,⟨h.chg.os,h.chg.tape,h.chg.output,h.chg.size,h.chg.block⟩,h.new⟩
theorem Step.cons {w w':World} {p:Nat×(Obj->Prop)} {H H':HL} (h:Sep w (p::H)) (s:Step H H' w w'):Step (p::H) (p::H') w w':=by
 have:=Step.frame [p] [] (by simpa using h) s
 simpa using this
def Q2j (g per now bx b0:Nat) (ts:List (Nat×Nat)) (k j:Nat) (rv:OV) (ro:RV):HL:=
 qhl g per now rv (ts.drop k)++(bx,isC 139 [ptr g])::(b0,isC 36 [lvOf ro j])::rowH ro 3 1 (ints ((ts.take j).map Prod.fst))
def TickS (H0:HL) (w:World) (g per now bx b0:Nat) (ts:List (Nat×Nat)) (k j:Nat) (W:World):Prop:=
 ∃rv ro,ovOk rv (ts.drop k).length/\rvOk ro j/\Step H0 (Q2j g per now bx b0 ts k j rv ro) w W
theorem TickS.drewN {H0:HL} {w W:World} {g per now bx b0:Nat} {ts:List (Nat×Nat)} {k j:Nat} (h:TickS H0 w g per now bx b0 ts k j W) (m:Nat):TickS H0 w g per now bx b0 ts k j (W.drewN m):=by
 obtain⟨rv,ro,h1,h2,h3⟩:=h;exact⟨rv,ro,h1,h2,h3.drewN m⟩
theorem Z0G (g per now bx b0:Nat) (ts:List (Nat×Nat)) (k j:Nat) (rv:OV) (ro:RV):(g,isC 267 [.int .i64 per,.int .i64 now,ovOf rv (ts.drop k).length])∈Q2j g per now bx b0 ts k j rv ro:=by
 simp [Q2j,qhl]
theorem Q8s {ts:List (Nat×Nat)} {k:Nat} {x:Nat×Nat} (h:ts[k]?=some x):(ts.take (k+1)).map Prod.fst=(ts.take k).map Prod.fst++[x.1]:=by
 have hk:=J2y.1 h;rw [J6w hk.1,J5K,hk.2];rfl
theorem Z5Z {ts:List (Nat×Nat)} {k:Nat} {x:Nat×Nat} (h:ts[k]?=some x):ts.drop k=x::ts.drop (k+1):=by
 have hk:=J2y.1 h;rw [J5a hk.1,hk.2]
theorem TickS.front {H0:HL} {w W:World} {g per now bx b0:Nat} {ts:List (Nat×Nat)} {k j:Nat} (h:TickS H0 w g per now bx b0 ts k j W) {x:Nat×Nat} (hx:ts[k]?=some x) (hd:x.2<=now):J1y g now x.1 W (TickS H0 w g per now bx b0 ts (k+1) j):=by
 obtain⟨rv,ro,h1,h2,st⟩:=h;have Ga:=Z5Z hx;obtain⟨b,off,cap,rfl⟩:∃b off cap,rv=some (b,off,cap):=by
  cases rv with
  | none=>rw [Ga] at h1;exact absurd h1 (by simp [ovOk])
  | some q=>exact⟨q.1,q.2.1,q.2.2,rfl⟩
 have hc:=st.sep.cells (Z0G g per now bx b0 ts k j (some (b,off,cap)) ro);have Ac:(ts.drop k).length=(ts.drop (k+1)).length+1:=by rw [Ga];rfl
 rw [Ac] at h1 hc;obtain⟨n,hn⟩:∃n,n=(ts.drop (k+1)).length:=⟨_,rfl⟩
 have Qy:Q0O (ts.drop k)=[.int .i64 (x.1:Int),.int .i64 (x.2:Int)]++Q0O (ts.drop (k+1)):=by rw [Ga];rfl
 -- the row ahead
 have e1:Q2j g per now bx b0 ts k j (some (b,off,cap)) ro=(g,isC 267 [.int .i64 per,.int .i64 now,ovOf (some (b,off,cap)) ((ts.drop (k+1)).length+1)])::(ovH (some (b,off,cap)) 298 2 ([.int .i64 (x.1:Int),.int .i64 (x.2:Int)]++Q0O (ts.drop (k+1)))++((bx,isC 139 [ptr g])::(b0,isC 36 [lvOf ro j])::rowH ro 3 1 (ints ((ts.take j).map Prod.fst)))):=by
  unfold Q2j qhl;rw [Ac,Qy];rfl
 rw [e1] at st;obtain⟨R,hR⟩:∃R:HL,R=((bx,isC 139 [ptr g])::(b0,isC 36 [lvOf ro j])::rowH ro 3 1 (ints ((ts.take j).map Prod.fst))):=⟨_,rfl⟩
 rw [<- hR] at st;have sR:=st.sep.tail;have cell:∀i v,([.int .i64 (x.1:Int),.int .i64 (x.2:Int)]++Q0O (ts.drop (k+1)))[i]?=some v->W.cell? ⟨b,off+i,none⟩=some v:=fun i v hv=>Q6k sR.left i v hv
 obtain⟨AM,IX⟩:=h1;refine⟨b,off,n,cap,x.2,?_,by omega,IX,cell 0 _ rfl,cell 1 _ rfl,hd,?_⟩
 ·rw [hn];exact hc.cell 2 _ rfl
 ·-- taken off
  have key:∀rv',Step (ovH (some (b,off,cap)) 298 2 ([.int .i64 (x.1:Int),.int .i64 (x.2:Int)]++Q0O (ts.drop (k+1)))++R) (ovH rv' 298 2 (Q0O (ts.drop (k+1)))++R) W W->ovOk rv' (ts.drop (k+1)).length ->
    TickS H0 w g per now bx b0 ts (k+1) j (W.setCell ⟨g,2,none⟩ (ovOf rv' (ts.drop (k+1)).length)):=fun rv' s AY=>by
   have s2:=Step.cons st.sep s;have s23:=s2.trans (Sep.set (A:=[]) s2.sep 2 (ovOf rv' (ts.drop (k+1)).length));refine⟨rv',ro,AY,h2,?_⟩;have:=st.trans s23;unfold Q2j qhl;rw [<- hR];exact this
  by_cases Cf:cap=1
  ·subst Cf;have h0:(ts.drop (k+1)).length=0:=by omega
   have Cq:ts.drop (k+1)=[]:=J4x h0;have:=key (some (b,off,0)) (by
    rw [Cq];have:=Z8h (w:=W) (B:=R) (g:=b) (off:=off) (T:=298) (size:=2) (x:=[.int .i64 (x.1:Int),.int .i64 (x.2:Int)]) (by rw [Cq] at sR;simpa [Q0O] using sR)
    simpa [Q0O] using this) (by rw [h0];exact⟨J2h _,by unfold maxLen;omega⟩)
   rw [if_pos rfl,hn];exact this
  ·have:=key (some (b,off+2,cap-1)) (J0r sR rfl (by omega)) ⟨by omega,by omega⟩;rw [if_neg Cf,hn];exact this
theorem TickS.late {H0:HL} {w W:World} {g per now bx b0:Nat} {ts:List (Nat×Nat)} {k j:Nat} (h:TickS H0 w g per now bx b0 ts k j W) (hd:∀x,ts[k]?=some x->now<x.2):Late g now W:=by
 obtain⟨rv,ro,h1,h2,st⟩:=h;have hc:=(st.sep.cells (Z0G g per now bx b0 ts k j rv ro)).cell 2 _ rfl;cases hx:ts[k]? with
 | none =>
  have hl:(ts.drop k).length=0:=by
   have:=List.getElem?_eq_none_iff.1 hx;rw [J4z];omega
  rw [hl] at hc;left;cases rv with
  | none=>exact⟨_,_,hc⟩
  | some q=>exact⟨_,_,hc⟩
 | some x =>
  right;have Ga:=Z5Z hx;obtain⟨b,off,cap,rfl⟩:∃b off cap,rv=some (b,off,cap):=by
   cases rv with
   | none=>rw [Ga] at h1;exact absurd h1 (by simp [ovOk])
   | some q=>exact⟨q.1,q.2.1,q.2.2,rfl⟩
  have Ac:(ts.drop k).length=(ts.drop (k+1)).length+1:=by rw [Ga];rfl
  rw [Ac] at hc;have Qy:Q0O (ts.drop k)=[.int .i64 (x.1:Int),.int .i64 (x.2:Int)]++Q0O (ts.drop (k+1)):=by rw [Ga];rfl
  refine⟨b,off,_,cap,x.2,hc,?_,hd x hx⟩;have hs:Sep W (ovH (some (b,off,cap)) 298 2 (Q0O (ts.drop k))):=st.sep.sub (by
   unfold Q2j qhl;exact (J2W _ _).trans ((J4m _).trans (J2Y _ _) |>.append_right _ |>.trans (J4m _)))
  exact Q6k hs 1 _ (by rw [Qy];rfl)
theorem TickS.row {H0:HL} {w W:World} {g per now bx b0:Nat} {ts:List (Nat×Nat)} {k:Nat} (h:TickS H0 w g per now bx b0 ts (k+1) k W) {x:Nat×Nat} (hx:ts[k]?=some x) (o:Obj) :
  ∃v,W.cell? ⟨b0,0,none⟩=some v/\W.frozen? ⟨b0,0,none⟩=false/\(W.alloc o).ownsRow 0 3 1 v k (ints ((ts.take k).map Prod.fst))/\∀v' W1,W1.ownsRow 0 3 1 v' (k+1) (ints ((ts.take k).map Prod.fst)++[.int .i64 (x.1:Int)])->(W.alloc o).grownBy W1 v.ownBlock->(v'.ownBlock=v.ownBlock∨v'.ownBlock=some (W.alloc o).heap.size) ->
   (∃u,W1.cell? ⟨b0,0,none⟩=some u)/\W1.frozen? ⟨b0,0,none⟩=false/\TickS H0 w g per now bx b0 ts (k+1) (k+1) (W1.setCell ⟨b0,0,none⟩ v'):=by
 obtain⟨rv,ro,h1,h2,st⟩:=h;have hk:=(J2y.1 hx).1;have hc:=(st.sep.cells (b:=b0) (T:=36) (cs:=[lvOf ro k]) (by simp [Q2j]))
 have hl:(ints ((ts.take k).map Prod.fst)).length=k*1:=by simp [ints];omega
 have sA:=st.sep.alloc o;obtain⟨A,hA⟩:∃A:HL,A=qhl g per now rv (ts.drop (k+1))++[(bx,isC 139 [ptr g]),(b0,isC 36 [lvOf ro k])]:=⟨_,rfl⟩
 have e1:Q2j g per now bx b0 ts (k+1) k rv ro=A++rowH ro 3 1 (ints ((ts.take k).map Prod.fst))++[]:=by
  rw [hA];unfold Q2j;simp
 have Az:=Q7X ((e1 ▸ sA).left.right) h2 hl;refine⟨lvOf ro k,hc.cell 0 _ rfl,hc.free 0,Az,fun v' W1 ho hg hb=>?_⟩;obtain⟨ro',rfl,Ds,s2⟩:=Q2l (A:=A) (B:=[]) (e1 ▸ sA) ho hg hb;have B6:=s2.sep.cells (b:=b0) (T:=36) (cs:=[lvOf ro k]) (by rw [hA];simp);refine⟨⟨_,B6.cell 0 _ rfl⟩,B6.free 0,rv,ro',h1,Ds,?_⟩;have s1:Step H0 (A++rowH ro 3 1 (ints ((ts.take k).map Prod.fst))++[]) w (W.alloc o):=by
  rw [<- e1];exact st.trans (st.sep.grown ((Below.refl _ _).alloc (J2h _) o))
 have s12:=s1.trans s2;have s3:=Sep.set (A:=qhl g per now rv (ts.drop (k+1))++[(bx,isC 139 [ptr g])]) (b:=b0) (T:=36) (cs:=[lvOf ro k]) (B:=rowH ro' 3 1 (ints ((ts.take k).map Prod.fst)++[.int .i64 (x.1:Int)])) (by rw [hA] at s12;simpa using s12.sep) 0 (lvOf ro' (k+1));have s4:=(s12.perm (J5A _) (K':=qhl g per now rv (ts.drop (k+1))++[(bx,isC 139 [ptr g])]++(b0,isC 36 [lvOf ro k])::rowH ro' 3 1 (ints ((ts.take k).map Prod.fst)++[.int .i64 (x.1:Int)])) (by rw [hA];simp)).trans s3;have e5:ints ((ts.take (k+1)).map Prod.fst)=ints ((ts.take k).map Prod.fst)++[.int .i64 (x.1:Int)]:=by
  rw [Q8s hx];simp [ints]
 unfold Q2j;rw [e5]
 simpa using s4
def Bk (r:Loop) (D:Nat) (W:World):Prop:=W.heap[D+1]?=some (.loop r)/\W.heap[D]?=some (.deferred (some []))
theorem Bk.set {r:Loop} {D:Nat} {W:World} (h:Bk r D W) {g:Nat} (hg:g<D) (i:Nat) (v:Value):Bk r D (W.setCell ⟨g,i,none⟩ v):=
 ⟨(Below.heap_setCell _ _ _ _ (fun e=>by have e':D+1=g:=e;omega)).trans h.1,(Below.heap_setCell _ _ _ _ (fun e=>by have e':D=g:=e;omega)).trans h.2⟩
theorem Z0H {F:Fence} {n:Nat} {P:Program} {g:Operand} {ps:Array Tmp} {assign body:Code} {Q:Exit->Act->World->Prop} {a:Act} {w:World}
  (Jz:F.round=none) (h1:1<=n) {gf:Nat} {lb:Array Value} (hg:a.eval g=.func (.func gf) #[] lb) (hFg:F.fn gf) (eg:∀args w,(callFunc gf args).run P w=.ok (.enter gf args) w)
  {enc:Nat->Array Value} (Gp:∀k,(enc k).size=ps.size) (T T1:Nat->World->Prop) (N:Nat)
  (hT:∀k W l o',T k W->w.heap.size<=l->(∃o:Obj,W.heap[l]?=some o/\o.isCells=false)->T k (W.putObj l o')) (hT1:∀k W l o',T1 k W->w.heap.size<=l->(∃o:Obj,W.heap[l]?=some o/\o.isCells=false)->T1 k (W.putObj l o')) (hTa:∀W o,T 0 W->T 0 (W.alloc o))
  (hiter:∀(r:Loop) (D:Nat) (W:World),w.heap.size<=D->T 0 W->Bk r D W ->
   (∀k W1,k<N->T1 k W1->Bk r D W1->YieldAt F (n-1-1) P (D+1) (enc k) W1 fun e W'=>e=.returned (.bool true)/\T (k+1) W'/\Bk r D W') ->
   CallsIn F (n-1) P gf (#[.func (.yield (D+1)) #[] #[]]++lb) W fun e W'=>(∃v,e=.returned v)/\T N W'/\Bk r D W')
  (h0:T 0 w) (a₁:Nat->Act)
  (hassign:∀(l k:Nat) (W:World) (K:Act->World->Prop),K (a₁ k) W ->
   assign.wpIn (F.inRound l) (n-1-1) P (Exit.then K (fun _ _ _=>False)) {tmps:=(ps.zip (enc k)).foldl (fun t (p,v)=>t.setIfInBounds p v) a.tmps,defers:=[]} W)
  (hbody:∀(l k:Nat) (W:World),T1 k W->k<N->body.wpIn (F.inRound l) (n-1-1) P (fun e _ W'=>e=.normal/\KeepsFrom w.heap.size W W'/\T (k+1) W') (a₁ k) W)
  (BF:∀(D:Nat) (W:World),w.heap.size<=D->T N W->W.heap[D]?=some (.deferred (some []))->Q .normal {a with defers:={target:=.collected D,args:=#[]}::a.defers} W) :
  (Code.rangeFunc g ps assign body).wpIn F n P Q a w:=by
 refine wpIn_rangeFunc fun fn ER=>?_
 rw [Jz]
 let r:LoopState->Loop:=fun st=>{state:=st,pending:=none,fn,tmps:=a.tmps,params:=ps,assign,body,defers:=w.heap.size}
 let W1:World:=(w.alloc (.deferred (some []))).alloc (.loop (r .ready))
 have bk1:Bk (r .ready) w.heap.size W1:=by
  constructor
  ·have:=World.alloc_heap_new (w.alloc (.deferred (some []))) (.loop (r .ready))
   rwa [World.size_alloc] at this
  ·exact (Below.heap_alloc _ _ _ (by simp)).trans (World.alloc_heap_new w _)
 refine⟨w.heap.size+1,[{target:=.collected w.heap.size,args:=#[]}],W1,{target:=.fn (.func gf) lb,args:=#[.func (.yield (w.heap.size+1)) #[] #[]]},W1,gf,
  #[.func (.yield (w.heap.size+1)) #[] #[]]++lb,W1,run_enterLoop_outer _ _ _ _ _,?_,?_,?_,fun _=>h1,?_⟩
 ·simp only [resolve,hg];simp [go_sem]
 ·intro f' M7;simp [Target.leads] at M7;subst M7;exact hFg
 ·simp [invoke,go_sem,eg]
 refine (hiter (r .ready) w.heap.size W1 (J2h _) (hTa _ _ (hTa _ _ h0)) bk1 ?_).mono ?_
 ·-- a round
  intro k W hk ht bk;have Ab:w.heap.size+1<W.heap.size:=(J6B.1 bk.1).1;refine⟨fn,_,assign,body,run_yield bk.1 (Gp k),roundIn_of_wpIn ER (hassign _ k W _ ⟨_,run_beginRound bk.1 rfl,?_⟩)⟩
  let W2:World:=W.putObj (w.heap.size+1) (.loop (r .busy))
  have bk2:Bk (r .busy) w.heap.size W2:=⟨World.putObj_heap_same Ab,(World.putObj_heap_other (by omega)).trans bk.2⟩
  have Jw:T1 k W2:=hT1 k W _ _ ht (by omega) ⟨_,bk.1,rfl⟩;refine wpIn_mono (hbody _ k W2 Jw hk) ?_;rintro e a3 W3 ⟨rfl,JG,M9⟩;have bk3:Bk (r .busy) w.heap.size W3:=⟨JG.same _ _ (by omega) bk2.1 rfl,JG.same _ _ (J2h _) bk2.2 rfl⟩
  refine⟨_,_,run_endRound none bk3.1,rfl,hT _ _ _ _ M9 (by omega) ⟨_,bk3.1,rfl⟩,World.putObj_heap_same (J6B.1 bk3.1).1,(World.putObj_heap_other (by omega)).trans bk3.2⟩
 ·rintro e W2 ⟨⟨v,rfl⟩,ht,bk⟩;exact⟨none,_,run_endLoop bk.1 (by simp [r]),BF _ _ (J2h _) (hT _ _ _ _ ht (by omega) ⟨_,bk.1,rfl⟩) ((World.putObj_heap_other (by omega)).trans bk.2)⟩
attribute [local go_sem] Oper.semAt_some
theorem Z8A (c:Nat) (w:World):Calls prog 215 #[.pointer (some ⟨c,0,none⟩)] w fun r w' =>
  r=.returned (.func (.func 252) #[] #[.pointer (some ⟨w.heap.size,0,none⟩)])/\w'=w.alloc (.cells #[.pointer (some ⟨c,0,none⟩)] 139):=by
 go_enter func215,ntmps215
 go_wp2
 go_ret;exact⟨rfl,rfl⟩
def dueK (now:Nat) (ts:List (Nat×Nat)):Nat:=(ts.takeWhile fun x=>decide (x.2<=now)).length
theorem Q9k (now:Nat) (ts:List (Nat×Nat)):ts.take (dueK now ts)=ts.takeWhile (fun x=>decide (x.2<=now)):=by
 have h:ts.takeWhile (fun x=>decide (x.2<=now))++ts.dropWhile (fun x=>decide (x.2<=now))=ts:=J6c;unfold dueK
 conv=>lhs;rw [<- h]
 rw [J4B (by simp [h]),h,J6q]
def Z1Q (g per now:Nat) (rv:OV) (ts:List (Nat×Nat)) (w:World) (r:Ending) (w':World):Prop:=
 ∃rv' ro bx b0,r=.returned (lvOf ro (dueK now ts))/\ovOk rv' (ts.drop (dueK now ts)).length/\rvOk ro (dueK now ts)/\Step (qhl g per (now-1) rv ts) (Q2j g per now bx b0 ts (dueK now ts) (dueK now ts) rv' ro) w w'
theorem J0E (now:Nat) (ts:List (Nat×Nat)):dueK now ts<=ts.length:=by
 have h:ts.takeWhile (fun x=>decide (x.2<=now))++ts.dropWhile (fun x=>decide (x.2<=now))=ts:=J6c;have:=congrArg List.length h;rw [J2R] at this;unfold dueK;omega
theorem J0F {now:Nat} {ts:List (Nat×Nat)} {k:Nat} {x:Nat×Nat} (hk:k<dueK now ts) (hx:ts[k]?=some x):x.2<=now:=by
 have h:(ts.take (dueK now ts))[k]?=some x:=by rw [J4k,if_pos hk];exact hx
 rw [Q9k] at h;have:=J4v h;have hm:∀(l:List (Nat×Nat)),∀y∈l.takeWhile (fun x=>decide (x.2<=now)),y.2<=now:=by
  intro l
  induction l with
  | nil=>simp
  | cons z r ih =>
   intro y hy;rw [List.takeWhile_cons] at hy;split at hy
   ·rename_i hc;rcases J2m.1 hy with rfl|hy
    ·simpa using hc
    ·exact ih y hy
   ·cases hy
 exact hm _ _ this
theorem Z8B {now:Nat} {ts:List (Nat×Nat)} (EB:ts.Pairwise (fun a b=>a.2<=b.2)) {x:Nat×Nat} (hx:ts[dueK now ts]?=some x):now<x.2:=by
 have h:ts.takeWhile (fun x=>decide (x.2<=now))++ts.dropWhile (fun x=>decide (x.2<=now))=ts:=J6c;rw [<- h] at hx;unfold dueK at hx;rw [J5v (by rw [h];exact J2h _)] at hx;exact Q9c EB now x (J4v hx)
theorem Z0I {W:World} {g per now bx b0:Nat} {ts:List (Nat×Nat)} {k j:Nat} {rv:OV} {ro:RV} (h:Sep W (Q2j g per now bx b0 ts k j rv ro)) {b:Nat} (hb:b∈keys (Q2j g per now bx b0 ts k j rv ro)):∃cs T f,W.heap[b]?=some (.cells cs T f):=by
 obtain⟨p,hp,rfl⟩:=J2n.1 hb;obtain⟨o,ho,hq⟩:=h.at' p hp;have key:(∃T cs,p.2=isC T cs)∨(∃T n cs,p.2=isR T n cs)∨(∃T m off cs,p.2=isS T m off cs):=by
  unfold Q2j qhl at hp;simp only [J4s,J2m,J2V] at hp;rcases hp with rfl|hp|rfl|rfl|hp
  ·exact .inl ⟨_,_,rfl⟩
  ·cases rv with
   | none=>cases hp
   | some q =>
    simp only [ovH,J2m,J2D,or_false] at hp;subst hp;exact .inr (.inr ⟨_,_,_,_,rfl⟩)
  ·exact .inl ⟨_,_,rfl⟩
  ·exact .inl ⟨_,_,rfl⟩
  ·cases ro with
   | none=>cases hp
   | some q =>
    simp only [rowH,J2m,J2D,or_false] at hp;subst hp;exact .inr (.inl ⟨_,_,_,rfl⟩)
 rcases key with ⟨T,cs,e⟩|⟨T,n,cs,e⟩|⟨T,m,off,cs,e⟩
 ·rw [e] at hq;subst hq;exact⟨_,_,_,ho⟩
 ·rw [e] at hq;obtain⟨Ag,rfl,_⟩:=hq;exact⟨_,_,_,ho⟩
 ·rw [e] at hq;obtain⟨Ag,rfl,_⟩:=hq;exact⟨_,_,_,ho⟩
theorem Z1R {H0:HL} {w W:World} {g per now bx b0:Nat} {ts:List (Nat×Nat)} {k j:Nat} {rv:OV} {ro:RV} (st:Step H0 (Q2j g per now bx b0 ts k j rv ro) w W) {l:Nat} (o':Obj) (hl:w.heap.size<=l) (Cs:GB<=w.heap.size) (ho:∃o:Obj,W.heap[l]?=some o/\o.isCells=false):Step H0 (Q2j g per now bx b0 ts k j rv ro) w (W.putObj l o'):=by
 obtain⟨o,ho,QX⟩:=ho;have hn:l∉keys (Q2j g per now bx b0 ts k j rv ro):=fun hb=>by
  obtain⟨cs,T,f,hc⟩:=Z0I st.sep hb;rw [hc] at ho;cases ho;cases QX
 have Aa:∀b,b≠l->(W.putObj l o').heap[b]?=W.heap[b]?:=fun b hb=>World.putObj_heap_other hb
 refine⟨st.sep.same (fun b hb=>Aa b (fun e=>hn (e ▸ hb))) (st.sep.env.same (fun b hb=>Aa b (by omega)) (by have:=st.sep.env.gb;simpa [World.putObj] using this)),?_,st.new⟩;exact⟨st.chg.os,st.chg.tape,st.chg.output,by have:=st.chg.size;simpa [World.putObj] using this,fun b hb hF=>(Aa b (by omega)).trans (st.chg.block b hb hF)⟩
theorem TickS.put {H0:HL} {w W:World} {g per now bx b0:Nat} {ts:List (Nat×Nat)} {k j:Nat} (h:TickS H0 w g per now bx b0 ts k j W) {l:Nat} (o':Obj) (hl:w.heap.size<=l) (Cs:GB<=w.heap.size) (ho:∃o:Obj,W.heap[l]?=some o/\o.isCells=false):TickS H0 w g per now bx b0 ts k j (W.putObj l o'):=by
 obtain⟨rv,ro,h1,h2,st⟩:=h;exact⟨rv,ro,h1,h2,Z1R st o' hl Cs ho⟩
theorem Z6a {W w1:World} {B b0 n:Nat} {T:TypeId} {v v':Value} {xs:List Value} {o:Obj} (Az:(W.alloc o).ownsRow 0 T 1 v n xs) (hg:(W.alloc o).grownBy w1 v.ownBlock) (hb:b0<B):KeepsFrom B W (w1.setCell ⟨b0,0,none⟩ v'):=by
 refine⟨by have:=hg.size;simp at this;simp [World.setCell];omega,fun k o2 hB hk QX=>?_⟩;have Ab:=(J6B.1 hk).1;refine (Below.heap_setCell _ _ _ _ (fun e=>by have e':k=b0:=e;omega)).trans ?_;have BC:(W.alloc o).heap[k]?=some o2:=(Below.heap_alloc _ _ _ Ab).trans hk;refine (hg.block k (by simp;omega) (fun e=>?_)).trans BC;rcases Az.2 with ⟨rfl,_⟩|⟨g,cap,Ag,rfl,_,Cs,_⟩
 ·cases e
 ·have:k=g:=by simpa [Value.ownBlock] using e
  subst this;rw [Cs] at BC;cases BC;cases QX
theorem Z8C (F:Fence) (hF:Hid (F=Fence.wide)) (n:Nat) (hn:4<=n) {w:World} {g per now:Nat} {rv:OV} {ts:List (Nat×Nat)} (h:Sep w (qhl g per now rv ts)) (AY:ovOk rv ts.length) (hl:ts.length<=256) (Fy:now<1048576) (EB:ts.Pairwise (fun a b=>a.2<=b.2)) :
  CallsIn F n prog 134 #[.pointer (some ⟨g,0,none⟩)] w (Z1Q g per (now+1) rv ts w):=by
 have h1:F.fn 134:=by rw [hF.out];trivial
 have h2:F.fn 252:=by rw [hF.out];trivial
 have h3:F.fn 215:=by rw [hF.out];trivial
 have Jz:F.round=none:=by rw [hF.out];rfl
 have Dq:1<=n:=by omega
 obtain⟨i0,hi,BN,Bt,Bp⟩:=info_parts infoint;have hc:Cells w g 267 [.int .i64 per,.int .i64 now,ovOf rv ts.length]:=h.cells (by simp [qhl]);have c1:=hc.cell 1 _ rfl;have f1:=hc.free 1;have Ab:=hc.lt;have hw:IntKind.i64.wrap ((now:Int)+1)=(now:Int)+1:=Go.IntWalk.i64_in _ (by omega);have ES:wrap64 ((now:Int)+1)=(now:Int)+1:=Go.IntWalk.wrap64_in _ (by omega);obtain⟨W5,Qn⟩:∃W5,W5=(((w.setCell ⟨g,1,none⟩ (.int .i64 ((now:Int)+1))).alloc (.cells #[.slice none 0 0] 36)).alloc (.cells #[.pointer (some ⟨g,0,none⟩)] 139)):=⟨_,rfl⟩
 have B7:(w.setCell ⟨g,1,none⟩ (.int .i64 ((now:Int)+1))).heap.size=w.heap.size:=by simp [World.setCell]
 have T0:Hid (TickS (qhl g per now rv ts) w g per (now+1) (w.heap.size+1) w.heap.size ts 0 0 W5/\W5.heap.size=w.heap.size+2):=by
  have s1:Step (qhl g per now rv ts) (qhl g per (now+1) rv ts) w (w.setCell ⟨g,1,none⟩ (.int .i64 ((now:Int)+1))):=by
   have:=Sep.set (A:=[]) (B:=ovH rv 298 2 (Q0O ts)) h 1 (.int .i64 ((now:Int)+1));exact this
  have s2:=s1.sep.new 36 [.slice none 0 0];rw [B7] at s2;have s3:=s2.sep.new 139 [.pointer (some ⟨g,0,none⟩)];rw [World.size_alloc,B7] at s3;have s4:=(s1.trans s2).trans s3;rw [Qn];refine⟨⟨rv,none,AY,rfl,s4.perm (J5A _) ?_⟩,by simp [World.setCell]⟩;unfold Q2j;show List.Perm (_::_::qhl g per (now+1) rv ts) (qhl g per (now+1) rv ts++_::_::[]);refine (J4U (l₁:=[_,_]) (l₂:=qhl g per (now+1) rv ts)).trans ?_;exact J5A _
 clear B7;refine callsIn_of_wp_marks func134 rfl h1 ?_ Jz;simp only [ntmps134,J4M,J2S,J4G,Nat.reduceAdd,Nat.reduceSub,Array.replicate_succ,Array.replicate_zero,List.push_toArray,List.append_toArray,J4r,J4s]
 gi_wp2_with (gi_at_call 215;refine (J0i hF (Z8A g _)).mono ?_;rintro e w' ⟨rfl,rfl⟩)
 rw [<- Qn];clear Qn;have Cs:=h.env.gb;have Xm:=T0.out.2;have WJ:=J0E (now+1) ts;have AC:∀k,k<dueK (now+1) ts->∃x,ts[k]?=some x:=fun k hk=>⟨_,J4y (by omega)⟩
 refine Z0H Jz Dq (gf:=252) (lb:=#[.pointer (some ⟨w.heap.size+1,0,none⟩)]) rfl h2 (enters_of func252 (by kernel_rfl) rfl)
  (enc:=fun k=>#[.int .i64 (((ts[k]?.getD (0,0)).1:Nat):Int)]) (fun _=>rfl)
  (fun k W=>k<=dueK (now+1) ts/\TickS (qhl g per now rv ts) w g per (now+1) (w.heap.size+1) w.heap.size ts k k W)
  (fun k W=>k<dueK (now+1) ts/\TickS (qhl g per now rv ts) w g per (now+1) (w.heap.size+1) w.heap.size ts (k+1) k W)
  (dueK (now+1) ts)
  (fun k W l o' ht hl ho=>⟨ht.1,ht.2.put o' (by omega) Cs ho⟩) (fun k W l o' ht hl ho=>⟨ht.1,ht.2.put o' (by omega) Cs ho⟩)
  (fun W o ht=>⟨ht.1,by obtain⟨a1,a2,a3,a4,st⟩:=ht.2;exact⟨a1,a2,a3,a4,st.trans (st.sep.grown ((Below.refl _ _).alloc (J2h _) o))⟩⟩)
  ?iter ⟨J4j _,T0.out.1⟩
  (fun k=>{tmps:=#[.pointer (some ⟨g,0,none⟩),undef,.slice none 0 0,.pointer (some ⟨w.heap.size,0,none⟩),.int .i64 (((ts[k]?.getD (0,0)).1:Nat):Int),.pointer (some ⟨g,0,none⟩),.bool false,.pointer (some ⟨g,0,none⟩),.pointer (some ⟨g,0,none⟩),.pointer (some ⟨g,1,none⟩),.int .i64 now,.int .i64 ((now:Int)+1),.pointer (some ⟨g,0,none⟩),.pointer (some ⟨g,1,none⟩),.pointer (some ⟨g,0,none⟩),.func (.func 252) #[] #[.pointer (some ⟨w.heap.size+1,0,none⟩)],.int .i64 (((ts[k]?.getD (0,0)).1:Nat):Int),undef,undef,undef,undef,undef],defers:=[]}) ?assign ?body ?done
 case iter =>
  intro r D W hD ht bk hy;refine J1z F hF (n-1) (by omega) (D+1) (w.heap.size+1) g (now+1) (dueK (now+1) ts) (fun k=>(ts[k]?.getD (0,0)).1)
   (fun k W=>(k<=dueK (now+1) ts/\TickS (qhl g per now rv ts) w g per (now+1) (w.heap.size+1) w.heap.size ts k k W)/\Bk r D W)
   (fun k W=>(k<dueK (now+1) ts/\TickS (qhl g per now rv ts) w g per (now+1) (w.heap.size+1) w.heap.size ts (k+1) k W)/\Bk r D W) W
   (fun k W hj=>?_) (fun k W m hj=>⟨⟨hj.1.1,hj.1.2.drewN m⟩,hj.2⟩) (fun k W m hj=>⟨⟨hj.1.1,hj.1.2.drewN m⟩,hj.2⟩) (fun k W1 hk hj=>hy k W1 hk hj.1 hj.2) ⟨ht,bk⟩
  obtain⟨⟨hk,O4⟩,AE⟩:=hj;obtain⟨rv',ro',q1,q2,st⟩:=O4;have Sw:=st.sep.cells (Z0G g per (now+1) (w.heap.size+1) w.heap.size ts k k rv' ro');have DT:=st.sep.cells (b:=w.heap.size+1) (T:=139) (cs:=[ptr g]) (by simp [Q2j]);refine⟨DT.cell 0 _ rfl,Sw.cell 1 _ (by rw [Int.natCast_add];rfl),Sw.free 2,hk,fun Hh=>?_,fun e=>?_⟩
  ·obtain⟨x,hx⟩:=AC k Hh;have CJ:=TickS.front ⟨rv',ro',q1,q2,st⟩ hx (J0F Hh hx);obtain⟨b,off,len,cap,at_,p1,p2,p3,p4,p5,p6,p7⟩:=CJ.it;have QE:(ts[k]?.getD (0,0)).1=x.1:=by rw [hx];rfl
   exact⟨b,off,len,cap,at_,p1,p2,p3,by rw [QE];exact p4,p5,p6,⟨⟨Hh,p7⟩,AE.set (by omega) 2 _⟩⟩
  ·exact TickS.late ⟨rv',ro',q1,q2,st⟩ fun x hx=>Z8B EB (by rw [<- e];exact hx)
 case assign =>
  intro l k W K hK;dsimp only at hK ⊢;generalize (ts[k]?.getD (0,0)).1=x at *
  gi_wp2
  exact hK
 case body =>
  rintro l k W ⟨hk,ht⟩ _;obtain⟨x,hx⟩:=AC k hk;have QE:(ts[k]?.getD (0,0)).1=x.1:=by rw [hx];rfl
  rw [QE];obtain⟨v,c0,f0,Az,Bj⟩:=ht.row hx (.cells #[.int .i64 (x.1:Int)] 3);have Bm:=Q0a Bj;have Ro:k<=256:=by omega
  clear Bj ht h hc c1 f1 AY EB T0 AC
  gi_wp2_with (gi_at_builtin;refine wpListIn_append_own_at _ rfl _ _ 36 rfl 0 3 i0 (.int .i64 0) 1 8 underlying36 hi BN Bt Bp rfl (by decide) _ _ _ rfl Az ⟨W.heap.size,0,none⟩ 1 1 [.int .i64 (x.1:Int)] rfl rfl (cell_one_new _ _ _) (by simp [Value.oneCell']) (by unfold maxLen;omega) (by omega) (J4j _) ?_;intro v' w1 Bc Cg _ FC;have Dt:=Cg.size;obtain⟨⟨u0,d0⟩,df,O4⟩:=Bm.out v' w1 Bc Cg FC;obtain⟨g',BH,rfl⟩:=ownsRow_succ Bc;have Ut:=Q0a O4;have HG:=Q0a Cg;have Wz:=Q0a Az;clear O4 Bc Cg FC Az)
  exact⟨Z6a Wz.out HG.out (by omega),hk,Ut.out⟩
 case done =>
  intro D W hD ht hK;obtain⟨_,rv',ro',q1,q2,st⟩:=ht;have DT:=(st.sep.cells (b:=w.heap.size) (T:=36) (cs:=[lvOf ro' (dueK (now+1) ts)]) (by simp [Q2j])).cell 0 _ rfl
  gi_wp2
  refine⟨by simp,.inl ⟨_,_,rfl,run_takeDeferred hK,?_⟩⟩;refine⟨_,results_tmp rfl _ _ _,?_⟩;exact⟨rv',ro',_,_,rfl,q1,q2,Z1R st _ (by omega) Cs ⟨_,hK,rfl⟩⟩
theorem Z6b {w:World} {g per now:Nat} {rv:OV} {ts:List (Nat×Nat)} (h:Sep w (qhl g per now rv ts)) (AY:ovOk rv ts.length) (hl:ts.length<=256) (Fy:now<1048576) (EB:ts.Pairwise (fun a b=>a.2<=b.2)) :
  Calls prog 134 #[.pointer (some ⟨g,0,none⟩)] w (Z1Q g per (now+1) rv ts w):=
 (callsIn_wide (n:=4)).1 (Z8C Fence.wide rfl 4 (J2h _) h AY hl Fy EB)
theorem Q1L {w:World} {B B' size n:Nat} {T:TypeId} {v:Value} {xs:List Value} (h:w.ownsRow B T size v n xs) (hB:B'<=B):w.ownsRow B' T size v n xs:=by
 refine⟨h.1,?_⟩;rcases h.2 with h|⟨g,cap,Ag,e,hg,rest⟩
 ·exact .inl h
 ·exact .inr ⟨g,cap,Ag,e,J2i hB hg,rest⟩
def kidT (l:List Pl) (a x:Nat):Bool:=decide (x≠0)&&match l[x%256]? with
 | some p=>decide (p.fac=a)
 | none=>false
theorem Z6c {l:List Pl} {a x:Nat} {p:Pl} (hp:pget l 1 x=some p):kidT l a x=(decide (p.fac=a)&&decide (x≠0)):=by
 unfold kidT;rw [(pget_some.1 hp).1];simp [Bool.and_comm]
theorem Z6d {w:World} {S:CO} {fr:List Nat} {N K:Nat} (h:Sep w S.hl) (ok:S.Ok fr N K) {x:Nat} (hx:x<4294967296) {p:Pl} (hp:pget S.l 1 x=some p) (hk:p.kind=1) :
  Calls prog 95 #[.pointer (some ⟨S.c,0,none⟩),.int .u32 x] w (NewHs w (kids S.l x)):=by
 have A4:=ok.inv.lok;have hO:=Q6n h ok hx hp hk;have HS:=Q0a h;have DK:=Q0a A4;have FG:kids S.l x=(allL S.l 1).filter (kidT S.l p.own):=by
  unfold kids;rw [hp];simp only [hk,if_true];rfl
 rw [FG];have Ot:Hid (∀w1,Below w.heap.size w w1->w1.cell? ⟨S.c,1,none⟩=some (.pointer (some ⟨S.t,0,none⟩))/\Calls prog 94 #[.pointer (some ⟨S.t,0,none⟩)] w1 (NewHs w1 (allL S.l 1))):=fun w1 hb=>by
  have s1:=(h.grown hb).sep;exact⟨CO.c1 s1,Q9f (h:=S.ht) (CO.sT s1) A4⟩
 have VA:Hid (∀w1 y,Below w.heap.size w w1->y∈allL S.l 1->w1.cell? ⟨S.c,1,none⟩=some (.pointer (some ⟨S.t,0,none⟩))/\∃q:Pl,pget S.l 1 y=some q/\Calls prog 93 #[.pointer (some ⟨S.t,0,none⟩),.int .u32 y] w1 (Told w1 (.tuple #[.agg #[.int .i64 (q.kind:Int),.int .i64 (q.at_:Int),.int .i64 (q.fac:Int)],.int .i64 0]))):=fun w1 y hb hy=>by
  have s1:=(h.grown hb).sep;obtain⟨q,hq⟩:=(Q1t (by rw [A4.1];omega)).1 hy;have C5:y<4294967296:=by
   obtain⟨a1,a2,_⟩:=pget_some.1 hq;have:=(A4.2 q (J4v a1)).2;unfold nm at a2;omega
  exact⟨CO.c1 s1,q,hq,Q6l (h:=S.ht) (CO.sT s1) A4 C5 hq⟩
 have WH:(allL S.l 1).length<=256:=by
  have:=Q1Y S.l 1 S.l.length;unfold allL;rw [A4.1] at this ⊢;exact this
 obtain⟨i0,DE,BN,Bt,Bp⟩:=info_parts Q3F;clear h ok A4 hp hk FG;generalize p.own=po at *
 generalize hL:allL S.l 1=L at *
 go_enter func95,ntmps95;go_wp2_with fail;refine hO.mono ?_;rintro r w1 ⟨rfl,Av⟩;obtain⟨c1,Kx⟩:=Ot.out w1 Av;have Bg:=Q0a Av;clear Av;go_wp2_with fail;refine Kx.mono ?_;intro r w2 EV;obtain⟨a0,Li,rfl,Af,FE⟩:=EV.shape;have Ee:Hid (Below w.heap.size w w2):=Bg.out.trans (Af.mono Bg.out.size);have FV:=Q0a FE;have M8:=Ee.out.size;clear EV Af FE Kx c1 hO;go_wp2_with fail
 go_loopg [5,26] L.length (fun gk ov iv wr=>∃k:Nat,iv=.int .i64 k/\k+gk=L.length/\OutH w2 wr ov ((L.take k).filter (kidT S.l po)))
 case atStart=>exact⟨0,rfl,J4L _,by simpa using OutH.nil w2⟩
 case round =>
  obtain⟨k,rfl,A7,Aq⟩:=hrel;have HO:=Q0a Aq;have Bi:=Q0a A7;clear Aq;by_cases Ab:k<L.length
  ·obtain⟨y,hy⟩:∃y,L[k]?=some y:=⟨_,J4y Ab⟩
   obtain⟨g0,rfl,Ln,Dm,Ah⟩:=(FV.out.below HO.out.2).at' k y hy;obtain⟨c1,q,hq,B0⟩:=VA.out wr y (Ee.out.trans (HO.out.2.mono Ee.out.size)) (J4v hy);have BL:(L.take (k+1)).filter (kidT S.l po)=(L.take k).filter (kidT S.l po)++if kidT S.l po y=true then [y] else []:=by
    rw [J4d,hy,J4e];simp [List.filter_cons]
   have AJ:=Q0a BL;have Es:=Z6c (a:=po) hq;have St:=Q0a Es;have Ac:((L.take k).filter (kidT S.l po)).length<=256:=J2i (J4w _ _) (by rw [J4A];omega);clear BL Es hq hy;go_wp2_with fail;refine B0.mono ?_;rintro r w3 ⟨rfl,As⟩;have IW:Hid (∀o,OutH w2 (w3.alloc o) u5 ((L.take k).filter (kidT S.l po))):=fun o=>(HO.out.below As).alloc o
   have UK:w2.heap.size<=w3.heap.size:=J2i HO.out.2.size As.size;clear As B0 HO;by_cases hc:kidT S.l po y=true
   ·have A6:=St.out;rw [hc] at A6;have Mz:=A6.symm;rw [J2C,decide_eq_true_eq,decide_eq_true_eq] at Mz;have Av:(((q.fac:Nat):Int)==(po:Int))=true:=by simp;omega
    have Af:(((y:Nat):Int) != 0)=true:=by simp;omega
    have As:(((y:Nat):Int)==0)=false:=by simp;omega
    have HC:=Q0a hc;clear hc A6 Mz;have EJ:=IW.out (.cells #[.int .i64 (q.kind:Int),.int .i64 (q.at_:Int),.int .i64 (q.fac:Int)] 69);go_wp2_with (refine wpList_append_own _ rfl (.tmp 47) (.tmp 49) 66 rfl w2.heap.size 27 i0 (.int .u32 0) 1 4 underlying66 DE BN Bt Bp rfl (by decide) _ _ _ rfl ((IW.out _).1.alloc _) ⟨w3.heap.size+1,0,none⟩ 1 1 [.int .u32 y] rfl rfl (Q7x _ _ _) (by simp [Value.oneCell']) (by unfold maxLen;omega) (by omega) (by simp;omega) ?_;intro v' w4 Bc Cg _;have HR:=Q0a ((IW.out _).app1 (M:=[y]) Bc Cg);clear Bc Cg IW EJ);have Dl:Hid (OutH w2 w4 v' ((L.take (k+1)).filter (kidT S.l po))):=by
     have:=AJ.out;rw [if_pos HC.out] at this;rw [this];exact HR.out
    clear HR;go_roundg (L.length-(k+1))
    case measure=>have:=Bi.out;omega
    case rel=>exact⟨k+1,by go_num,by omega,Dl.out⟩
   ·have MT:kidT S.l po y=false:=by simpa using hc
    have Dl:Hid (∀o,OutH w2 (w3.alloc o) u5 ((L.take (k+1)).filter (kidT S.l po))):=fun o=>by
     have:=AJ.out;rw [if_neg hc,J4n] at this;rw [this];exact IW.out o
    have A6:=St.out;rw [MT] at A6;have Ay:q.fac≠po∨q.fac=po/\y=0:=by
     by_cases h1:q.fac=po
     ·right;refine⟨h1,?_⟩;rcases Nat.eq_zero_or_pos y with h2|h2
      ·exact h2
      ·exfalso;have h3:y≠0:=by omega
       simp [h1,h3] at A6
     ·exact .inl h1
    clear hc A6 MT IW;rcases Ay with h1|⟨h1,h2⟩
    ·have Av:=Q3i h1;clear h1;go_wp2_with fail;go_roundg (L.length-(k+1))
     case measure=>have:=Bi.out;omega
     case rel=>exact⟨k+1,by go_num,by omega,Dl.out _⟩
    ·have Av:(((q.fac:Nat):Int)==(po:Int))=true:=by simp;omega
     have Af:(((y:Nat):Int) != 0)=false:=by simp;omega
     have As:(((y:Nat):Int)==0)=true:=by simp;omega
     clear h1 h2;go_wp2_with fail;go_roundg (L.length-(k+1))
     case measure=>have:=Bi.out;omega
     case rel=>exact⟨k+1,by go_num,by omega,Dl.out _⟩
  ·have Fz:k=L.length:=by omega
   have Aq:=HO.out;rw [Fz,J6q] at Aq;have HR:Hid (NewHs w (L.filter (kidT S.l po)) (.returned u5) wr):=⟨u5,rfl,Q1L Aq.1 M8,Ee.out.trans (Aq.2.mono M8)⟩
   clear Aq HO;go_wp2_with fail
   first|exact HR.out|(go_ret;exact HR.out)
theorem Q9l {w:World} {S:CO} {x:Nat} {e:Int} (he:e≠0) (hO:Calls prog 67 #[.pointer (some ⟨S.c,0,none⟩),.int .u32 x] w (Told w (.tuple #[.int .i64 0,.int .i64 e]))) :
  Calls prog 95 #[.pointer (some ⟨S.c,0,none⟩),.int .u32 x] w (NewHs w []):=by
 have Av:(e==0)=false:=by simpa using he
 go_enter func95,ntmps95;go_wp2_with (go_at_call 67;refine hO.mono ?_;rintro r w1 ⟨rfl,hb⟩;have HB:=Q0a hb;clear hb);have HR:Hid (∀w',w'=w1->NewHs w [] (.returned (.slice none 0 0)) w'):=fun w' e=>⟨_,rfl,World.ownsRow_nil _ _ _ _,by rw [e];exact HB.out⟩
 first|exact HR.out _ rfl|(go_ret;exact HR.out _ rfl)
theorem Q9m {w:World} {S:CO} {fr:List Nat} {N K:Nat} (h:Sep w S.hl) (ok:S.Ok fr N K) {x:Nat} (hx:x<4294967296):Calls prog 95 #[.pointer (some ⟨S.c,0,none⟩),.int .u32 x] w (NewHs w (kids S.l x)):=by
 cases hp:pget S.l 1 x with
 | none =>
  rw [Q4G (fun p h=>by rw [hp] at h;cases h)];exact Q9l (e:=8) (by decide) (Q5M (by decide) (Q3G h ok.inv.lok hx 1 hp))
 | some p =>
  by_cases hk:p.kind=1
  ·exact Z6d h ok hx hp hk
  ·rw [Q4G (fun q h=>by rw [hp] at h;cases h;exact hk)];exact Q9l (e:=10) (by decide) (Q5M (by decide) (Q2E h ok.inv.lok hx 1 hp (by decide) (by omega)))
end Go.Proofs.YtlakjlmaboioiaaGreatDoor

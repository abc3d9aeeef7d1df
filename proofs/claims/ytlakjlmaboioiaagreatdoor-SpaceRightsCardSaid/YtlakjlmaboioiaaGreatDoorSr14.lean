/- SpaceRights returns true at every input. No condition. Part of its proof. -/
import Derived.Test.YtlakjlmaboioiaaGreatDoorSr01
import Derived.Test.YtlakjlmaboioiaaGreatDoorSr09
import Derived.Test.YtlakjlmaboioiaaGreatDoorSr04
import Derived.Deep.LoopGhost
import Derived.Test.YtlakjlmaboioiaaGreatDoorSr13
import Derived.BigQuiet
import Derived.Deep.QuietTactic
import Derived.Test.YtlakjlmaboioiaaGreatDoorSr10
import Derived.Deep.RegionHeld3
import Derived.Test.YtlakjlmaboioiaaGreatDoorSr12
import Derived.Test.YtlakjlmaboioiaaGreatDoorSr11
import Derived.Test.YtlakjlmaboioiaaGreatDoorSr06
import Derived.Test.YtlakjlmaboioiaaGreatDoorSr03
set_option maxHeartbeats 4000000
set_option maxRecDepth 100000
set_option linter.unusedVariables false
namespace Go.Proofs.YtlakjlmaboioiaaGreatDoor
open Go.RowKit Go.Proofs.Tryz
theorem Z2A (ts:List (Nat×Nat)):(Q1j ts).length=ts.length*2:=by
 induction ts with
 | nil=>rfl
 | cons x r ih=>unfold Q1j at *;rw [J1U,J2h,ih];simp;omega
theorem Z2B (a b:List (Nat×Nat)):Q1j (a++b)=Q1j a++Q1j b:=by unfold Q1j;rw [J2f]
theorem Z5w:(prog.info? 298).map (fun i=>(i.zero,i.size,i.bytes))=some (some (.agg #[.int .i64 0,.int .i64 0]),2,16):=by kernel_rfl
def Z9R (g per now:Nat) (rv:OV) (ts:List (Nat×Nat)) (x:Nat) (w:World) (r:Ending) (w':World):Prop:=∃rv',r=.returned (.int .i64 ((ts.length+1:Nat):Int))/\ovOk rv' (ts.length+1)/\Step (qhl g per now rv ts) (qhl g per now rv' (ts++[(x,now+per)])) w w'
theorem Z5x {w:World} {g per now:Nat} {rv:OV} {ts:List (Nat×Nat)} (h:Sep w (qhl g per now rv ts)) (hok:ovOk rv ts.length) (hl:ts.length<=256) (x:Nat) :
  ∃rv' w',(Builtin.append_ #[265,265] 265 #[ovOf rv ts.length,.slice (some ⟨w.heap.size,0,none⟩) 1 1]).run prog (w.drew.alloc (.cells #[.int .i64 x,.int .i64 ((now+per:Nat):Int)] 298))=.ok (ovOf rv' (ts.length+1)) w' /\
   w'.cell? ⟨g,0,none⟩=some (.int .i64 per)/\w'.cell? ⟨g,1,none⟩=some (.int .i64 now)/\w'.cell? ⟨g,2,none⟩=some (ovOf rv ts.length)/\(∀i,w'.frozen? ⟨g,i,none⟩=false) /\
   (w'.setCell ⟨g,2,none⟩ (ovOf rv' (ts.length+1))).cell? ⟨g,2,none⟩=some (ovOf rv' (ts.length+1)) /\
   ovOk rv' (ts.length+1)/\Z9R g per now rv ts x w (.returned (.int .i64 ((ts.length+1:Nat):Int))) (w'.setCell ⟨g,2,none⟩ (ovOf rv' (ts.length+1))):=by
 obtain⟨i0,hi,hz0,hz1,hz2⟩:=info_parts Z5w;have h1:Sep (w.drew.alloc (.cells #[.int .i64 x,.int .i64 ((now+per:Nat):Int)] 298)) (ovH rv 298 2 (Q1j ts)++[(g,isC 267 [.int .i64 per,.int .i64 now,ovOf rv ts.length])]):=by
  refine Sep.perm (h.drew.alloc _) ?_;unfold qhl;exact (J5d _ _).symm
 have hsrc:Src prog 2 265 (.slice (some ⟨w.heap.size,0,none⟩) 1 1) 1 [.int .i64 x,.int .i64 ((now+per:Nat):Int)] (w.drew.alloc (.cells #[.int .i64 x,.int .i64 ((now+per:Nat):Int)] 298)):=by
  refine Src.ofSlice _ underlying265 ⟨w.heap.size,0,none⟩ 1 1 _ rfl ?_ ?_
  ·intro j u hj;have:=(Cells.new w.drew 298 [.int .i64 x,.int .i64 ((now+per:Nat):Int)]).cell j u hj;rw [addp,J4b];exact this
  ·intro u hu;simp only [J1C,J1T,or_false] at hu;rcases hu with rfl|rfl <;> rfl
 obtain⟨rv',w',hr,hok',st⟩:=Z4O (P:=prog) (B:=[(g,isC 267 [.int .i64 per,.int .i64 now,ovOf rv ts.length])]) h1 hok (Z2A ts) i0 (.agg #[.int .i64 0,.int .i64 0]) 16 underlying265 hi hz0 hz1 hz2 rfl _ hsrc (by omega) (by omega) (by omega);have hc:=st.sep.cells (b:=g) (T:=267) (cs:=[.int .i64 per,.int .i64 now,ovOf rv ts.length]) (by simp);have s2:=Sep.set (A:=ovH rv' 298 2 (Q1j ts++[.int .i64 x,.int .i64 ((now+per:Nat):Int)])) (B:=[]) st.sep 2 (ovOf rv' (ts.length+1));refine⟨rv',w',hr,hc.cell 0 _ rfl,hc.cell 1 _ rfl,hc.cell 2 _ rfl,hc.free,(hc.set 2 _).cell 2 _ rfl,hok',rv',rfl,hok',?_⟩;have st':Step (qhl g per now rv ts) _ w _:=((st.trans s2).from_alloc.from_drew).perm (by unfold qhl;exact J5d _ _) (J4Q _)
 refine st'.perm (J4Q _) ?_;unfold qhl;rw [Z2B,J2h];exact J5d _ _
theorem Z7O {w:World} {g per now:Nat} {rv:OV} {ts:List (Nat×Nat)} (h:Sep w (qhl g per now rv ts)) (hok:ovOk rv ts.length) (hl:ts.length<=256) (hper:per<=16) (hnow:now<=1048576) {gb x:Nat} (hx:w.cell? ⟨gb,0,none⟩=some (.int .i64 x)) :
  Calls prog 173 #[.pointer (some ⟨g,0,none⟩),.slice (some ⟨gb,0,none⟩) 1 1] w (Z9R g per now rv ts x w):=by
 have hc:Cells w g 267 [.int .i64 per,.int .i64 now,ovOf rv ts.length]:=h.cells (by simp [qhl]);have c0:=hc.cell 0 _ rfl;have c1:=hc.cell 1 _ rfl;have c2:=hc.cell 2 _ rfl;have f2:=hc.free 2;have hlt:=hc.lt;obtain⟨rv',w',hr,d0,d1,d2,df,e2,hok',hq⟩:=Z5x h hok hl x;obtain⟨g',off',cap',rfl⟩:∃g' off' cap',rv'=some (g',off',cap'):=by
  cases rv' with
  | none=>exact absurd hok' (Nat.succ_ne_zero _)
  | some q=>exact⟨q.1,q.2.1,q.2.2,rfl⟩
 rw [show ovOf (some (g',off',cap')) (ts.length+1)=.slice (some ⟨g',off',none⟩) (ts.length+1) cap' from rfl] at hr e2 hq;rw [Int.natCast_add] at hr hq;have HR:=Q0a hr;have HQ:=Q0a hq;have df2:=df 2;have hw:IntKind.i64.wrap ((now:Int)+(per:Int))=(now:Int)+(per:Int):=Go.IntWalk.i64_in _ (by omega);have hw2:wrap64 ((now:Int)+(per:Int))=(now:Int)+(per:Int):=Go.IntWalk.wrap64_in _ (by omega);generalize Z9R g per now rv ts x w=Q at *
 generalize ovOf rv ts.length=v0 at *
 generalize ts.length=n at *
 clear h hok hc hr hq df hok';go_enter func173,ntmps173;go_wp2_with fail
 go_loopg [6,11] 2 (fun gk _ iv wr=>(iv=.int .i64 0/\gk=2/\wr=w)∨(iv=.int .i64 1/\gk=1/\wr=w'.setCell ⟨g,2,none⟩ (.slice (some ⟨g',off',none⟩) (n+1) cap')))
 case atStart=>exact .inl ⟨rfl,rfl,rfl⟩
 case round =>
  rcases hrel with ⟨rfl,rfl,rfl⟩|⟨rfl,rfl,rfl⟩
  ·go_wp2_with fail
   go_region_law (refine Q0E rfl _ _ 265 265 rfl _ _ (by simp [Act.eval]) (by simp [Act.eval]) HR.out ?_)
   all_goals
    go_wp2_with fail;go_roundg 1
    case measure=>omega
    case rel=>exact .inr ⟨by go_num,rfl,rfl⟩
  ·go_wp2_with fail
   first|exact HQ.out|(go_ret;exact HQ.out)
def NewG (per:Nat) (H:HL) (w:World) (r:Ending) (w':World):Prop:=∃g,r=.returned (.pointer (some ⟨g,0,none⟩))/\Step H (qhl g per 0 none []++H) w w'
theorem Z7P {w:World} {H:HL} (h:Sep w H) (per:Nat) (h1:1<=per) (h2:per<=16):Calls prog 64 #[.int .i64 per] w (NewG per H w):=by
 have HR:Hid (NewG per H w (.returned (.pointer (some ⟨w.heap.size,0,none⟩))) (w.alloc (.cells #[.int .i64 per,.int .i64 0,.slice none 0 0] 267))):=⟨_,rfl,h.new 267 [.int .i64 per,.int .i64 0,.slice none 0 0]⟩
 have hd1:decide ((per:Int)<1)=false:=by rw [decide_eq_false_iff_not];omega
 have hd2:decide ((16:Int)<(per:Int))=false:=by rw [decide_eq_false_iff_not];omega
 have hp1:(1:Int)<=(per:Int):=by omega
 have hp2:(per:Int)<=16:=by omega
 clear h;go_enter func64,ntmps64;go_wp2_with fail
 first|exact HR.out|(go_ret;exact HR.out)
theorem Q8O {w:World} {q:QT} (h:Sep w q.hl) (ok:q.Ok) {id:Int} {e:En Fa} (hf:find q.E id=some e) (limit:Int) (h0:0<=limit) (hq:e.q.limit-(e.q.charged+e.q.given)<limit) :
  Calls prog 157 #[ptr q.t,.int .i64 id,.int .i64 limit] w (Told w (.tuple #[.int .i64 0,.int .i64 5])):=by
 have k1:=Q2k h hf;obtain⟨a1,a2,a3,a4,_⟩:=ok.fa id e hf;have k2:=Q3a (QT.fac h hf) a1 a2 a3 a4 limit;have hd:decide (limit<=e.q.limit-(e.q.charged+e.q.given))=false:=by rw [decide_eq_false_iff_not];omega
 rw [hd] at k2;clear h hf ok hd hq;unfold ptr at *
 go_enter func157,ntmps157;go_wp2_with (first|(go_at_call 130;refine k1.mono ?_;rintro e w' ⟨rfl,rfl⟩)|(go_at_call 224;refine k2.mono ?_;rintro e w1 ⟨rfl,hb⟩;have HB:=Q0a hb;clear hb));go_ret2;exact⟨rfl,HB.out⟩
theorem Z2C {P:Program} {w:World} {m:Nat} {kv:List (Value×Value)} (h:MapIs w m kv) {t k e:TypeId} (ht:P.underlying t=some (.map k e)) (ty:TypeId):(Builtin.len_ #[t] ty #[.map (some m)]).run P w=.ok (.int .i64 ((kv.length:Nat):Int)) w:=by
 obtain⟨es,clock,ho,_,hr⟩:=h;have:kv.length=es.size:=by rw [<- hr];simp
 rw [this];simp [Builtin.len_,run_underlying ht,MapKept.run_getObj_map ho,goInt,Result.andThen]
theorem QT.len {w:World} {q:QT} (h:Sep w q.hl) (ty:TypeId):(Builtin.len_ #[252] ty #[.map (some q.m)]).run prog w=.ok (.int .i64 ((q.E.length:Nat):Int)) w:=by
 have:=Z2C (QT.map h) underlying252 ty
 simpa [kvs] using this
theorem Z0i {w:World} {q:QT} (h:Sep w q.hl) (ok:q.Ok) {id:Int} {e:En Fa} (hf:find q.E id=some e) (limit:Int) (h0:0<=limit) (hq:limit<=e.q.limit-(e.q.charged+e.q.given)) (hl:q.E.length=32) :
  Calls prog 157 #[ptr q.t,.int .i64 id,.int .i64 limit] w (Told w (.tuple #[.int .i64 0,.int .i64 11])):=by
 have k1:=Q2k h hf;obtain⟨a1,a2,a3,a4,_⟩:=ok.fa id e hf;have k2:=Q3a (QT.fac h hf) a1 a2 a3 a4 limit;have hd:decide (limit<=e.q.limit-(e.q.charged+e.q.given))=true:=by rw [decide_eq_true_eq];exact hq
 rw [hd] at k2;have HN:Hid (∀w1,Below w.heap.size w w1->w1.cell? ⟨q.t,0,none⟩=some (.map (some q.m))/\∀ty,(Builtin.len_ #[252] ty #[.map (some q.m)]).run prog w1=.ok (.int .i64 32) w1):=fun w1 hb=>by
  have s1:=(h.grown hb).sep;refine⟨QT.c0 s1,fun ty=>?_⟩;have:=QT.len s1 ty;rw [hl] at this;exact this
 clear h hf ok hd hq hl;unfold ptr at *
 go_enter func157,ntmps157;go_wp2_with (first|(go_at_call 130;refine k1.mono ?_;rintro e w' ⟨rfl,rfl⟩)|(go_at_call 224;refine k2.mono ?_;rintro e w1 ⟨rfl,hb⟩;obtain⟨d0,dl⟩:=HN.out w1 hb;have HB:=Q0a hb;clear hb));go_ret2;exact⟨rfl,HB.out⟩
theorem Z5y {w:World} {q:QT} (h:Sep w q.hl) (ok:q.Ok) {id:Int} {e:En Fa} (hf:find q.E id=some e) (limit:Int) (h0:0<=limit) (hq:limit<=e.q.limit-(e.q.charged+e.q.given)) (hl:q.E.length≠32) (hn:q.next+1<1048576) :
  Calls prog 157 #[ptr q.t,.int .i64 id,.int .i64 limit] w (Q9Z w q id e limit):=by
 have k1:=Q2k h hf;obtain⟨a1,a2,a3,a4,a5,a6,_⟩:=ok.fa id e hf;have k2:=Q3a (QT.fac h hf) a1 a2 a3 a4 limit;have hd:decide (limit<=e.q.limit-(e.q.charged+e.q.given))=true:=by rw [decide_eq_true_eq];exact hq
 rw [hd] at k2;have hn0:=ok.next0;have HN:Hid (∀w1,Below w.heap.size w w1->w1.cell? ⟨q.t,0,none⟩=some (.map (some q.m))/\w1.cell? ⟨q.t,1,none⟩=some (.int .i64 q.next)/\w1.frozen? ⟨q.t,1,none⟩=false/\(∀ty,(Builtin.len_ #[252] ty #[.map (some q.m)]).run prog w1=.ok (.int .i64 ((q.E.length:Nat):Int)) w1) /\
   Q0A ((w1.setCell ⟨q.t,1,none⟩ (.int .i64 (q.next+1))).alloc (.cells #[.int .i64 limit,.int .i64 0,.int .i64 0,.int .i64 id,.int .i64 0] 236)) q.m (kvs q.E) /\
   ∀w4,Q0A w4 q.m (put (kvs q.E) q.next (.pointer (some ⟨w1.heap.size,0,none⟩)))->((w1.setCell ⟨q.t,1,none⟩ (.int .i64 (q.next+1))).alloc (.cells #[.int .i64 limit,.int .i64 0,.int .i64 0,.int .i64 id,.int .i64 0] 236)).grownBy w4 (some q.m) ->
    w4.cell? ⟨e.b,2,none⟩=some (.int .i64 e.q.given)/\w4.cell? ⟨e.b,4,none⟩=some (.int .i64 e.q.kids)/\(∀i,w4.frozen? ⟨e.b,i,none⟩=false) /\
    Q9Z w q id e limit (.returned (.tuple #[.int .i64 q.next,.int .i64 0])) ((w4.setCell ⟨e.b,2,none⟩ (.int .i64 (e.q.given+limit))).setCell ⟨e.b,4,none⟩ (.int .i64 (e.q.kids+1)))):=fun w1 hb=>by
  have s1:=h.grown hb;have hm:Q0A (w1.setCell ⟨q.t,1,none⟩ (.int .i64 (q.next+1))) q.m (kvs q.E):=(QT.map s1.sep).set _ _;refine⟨QT.c0 s1.sep,QT.c1 s1.sep,(s1.sep.cells (T:=254) (cs:=[.map (some q.m),.int .i64 q.next]) (by simp [QT.hl])).free 1,QT.len s1.sep,hm.alloc _,fun w4 hm4 hg=>?_⟩;obtain⟨c1,c2,c3,st⟩:=QT.carve s1.sep ok hf limit w4 hm4 hg;exact⟨c1,c2,c3,rfl,_,s1.trans st⟩
 have hw:IntKind.i64.wrap (q.next+1)=q.next+1:=Go.IntWalk.i64_in _ (by omega);have hw2:IntKind.i64.wrap (e.q.given+limit)=e.q.given+limit:=Go.IntWalk.i64_in _ (by omega);have hw3:IntKind.i64.wrap (e.q.kids+1)=e.q.kids+1:=Go.IntWalk.i64_in _ (by have:=ok.next1;omega);have hb32:(((q.E.length:Nat):Int)==32)=false:=by simp;omega
 generalize hQ:Q9Z w q id e limit=Q at *
 clear h hf ok hd hq hl hn hQ;unfold ptr at *
 generalize ((q.E.length:Nat):Int)=n32 at *
 go_enter func157,ntmps157;go_wp2_with (first|(go_at_call 130;refine k1.mono ?_;rintro e w' ⟨rfl,rfl⟩)|(go_at_call 224;refine k2.mono ?_;rintro e w1 ⟨rfl,hb⟩;obtain⟨d0,d1,df,dl,hm,hfin⟩:=HN.out w1 hb;have HM:=Q0a hm;have HF:=Q0a hfin;clear hb hm hfin HN)|(refine Q1L _ rfl _ _ _ 252 3 229 rfl underlying252 underlying3 q.m (kvs q.E) HM.out q.next (.pointer (some ⟨w1.heap.size,0,none⟩)) rfl rfl rfl ?_;intro w4 hm1 hg1;obtain⟨e2,e4,ef,hq4⟩:=HF.out w4 hm1 hg1;have ef2:=ef 2;have ef4:=ef 4;have HQ4:=Q0a hq4;clear hm1 hg1 ef hq4))
 first|exact HQ4.out|(go_ret2;exact HQ4.out)
theorem Z5z {w:World} {q:QT} (h:Sep w q.hl) (ok:q.Ok) {id:Int} {e c:En Fa} (hc:find q.E id=some c) (hid:id≠0) (h1:c.q.charged=0) (h2:c.q.given=0) (h3:c.q.kids=0) (he:find q.E c.q.parent=some e) (hg:c.q.limit<=e.q.given) (hl:0<=c.q.limit) :
  Calls prog 136 #[ptr q.t,.int .i64 id] w (Z5g w q c.q.parent e c id):=by
 have k1:=Q2k h hc;obtain⟨a1,a2,a3,a4,_⟩:=ok.fa id c hc;obtain⟨b1,b2,b3,b4,b5,b6,_⟩:=ok.fa _ e he;have hn1:=ok.next1;have k2:=Q7H (QT.fac h hc) a1 a2 (by omega);rw [h1,h2] at k2;have HN:Hid (∀w1,Below w.heap.size w w1->w1.cell? ⟨q.t,0,none⟩=some (.map (some q.m))/\w1.cell? ⟨c.b,0,none⟩=some (.int .i64 c.q.limit)/\w1.cell? ⟨c.b,3,none⟩=some (.int .i64 c.q.parent)/\w1.cell? ⟨c.b,4,none⟩=some (.int .i64 0) /\
   ∀m,(Instr.lookup 252 (.map (some q.m)) (.int .i64 c.q.parent) false).run prog (w1.drewN m)=.ok (.pointer (some ⟨e.b,0,none⟩)) (w1.drewN m)):=fun w1 hb=>by
  have s1:=(h.grown hb).sep;have k:=QT.fac s1 hc;have hk4:=k.cell 4 _ rfl;rw [h3] at hk4;exact⟨QT.c0 s1,k.cell 0 _ rfl,k.cell 3 _ rfl,hk4,fun m=>QT.look_some (s1.drewN m) he⟩
 have HM:Hid (∀w1 m,Below w.heap.size w w1->(w1.drewN m).cell? ⟨q.t,0,none⟩=some (.map (some q.m))/\(w1.drewN m).cell? ⟨c.b,0,none⟩=some (.int .i64 c.q.limit)/\(w1.drewN m).cell? ⟨e.b,2,none⟩=some (.int .i64 e.q.given)/\(w1.drewN m).cell? ⟨e.b,4,none⟩=some (.int .i64 e.q.kids)/\(∀i,(w1.drewN m).frozen? ⟨e.b,i,none⟩=false)/\(w1.drewN m).heap.size=w1.heap.size):=fun w1 m hb=>by
  have s1:=((h.grown hb).sep).drewN m;have k:=QT.fac s1 hc;have k':=QT.fac s1 he;exact⟨QT.c0 s1,k.cell 0 _ rfl,k'.cell 2 _ rfl,k'.cell 4 _ rfl,k'.free,rfl⟩
 have hw:IntKind.i64.wrap (e.q.given-c.q.limit)=e.q.given-c.q.limit:=Go.IntWalk.i64_in _ (by omega);have hw2:IntKind.i64.wrap (e.q.kids-1)=e.q.kids-1:=Go.IntWalk.i64_in _ (by omega);have hid0:(id==0)=false:=by simpa using hid
 have hne:q.t≠e.b:=by
  have hnd:=h.nd;simp only [QT.hl,keys_cons,J2t] at hnd;intro e1;refine hnd.1 ?_;rw [J1C];right;rw [e1];exact J1D.2 ⟨(e.b,isC 236 e.q.cells),J1D.2 ⟨e,(Q0b he).1,rfl⟩,rfl⟩
 have HS:=Q0a h;have HC:=Q0a hc;have HE:=Q0a he;have HOk:=Q0a ok;generalize hQ:Z5g w q c.q.parent e c id=Q at *
 have HQ:=Q0a hQ;clear h hc he ok hQ hid;unfold ptr at *
 go_enter func136,ntmps136;go_wp2_with (first|(go_at_call 130;refine k1.mono ?_;rintro e w' ⟨rfl,rfl⟩)|(go_at_call 131;refine k2.mono ?_;rintro e w1 ⟨rfl,hb⟩;obtain⟨d0,d1,d3,d4,dl⟩:=HN.out w1 hb;have dl1:=dl 1;have dl0:(Instr.lookup 252 (.map (some q.m)) (.int .i64 c.q.parent) false).run prog w1.drew=.ok (.pointer (some ⟨e.b,0,none⟩)) w1.drew:=dl 1;have HB:=Q0a hb;clear hb HN));go_region;obtain⟨f0,f1,f2,f4,ff,fs⟩:=HM.out w1 1 HB.out;have g0:w1.drew.cell? ⟨q.t,0,none⟩=some (.map (some q.m)):=f0;have g1:w1.drew.cell? ⟨c.b,0,none⟩=some (.int .i64 c.q.limit):=f1;have g2:w1.drew.cell? ⟨e.b,2,none⟩=some (.int .i64 e.q.given):=f2
 have g4:w1.drew.cell? ⟨e.b,4,none⟩=some (.int .i64 e.q.kids):=f4;have h2:w1.drew.frozen? ⟨e.b,2,none⟩=false:=ff 2;have h4:w1.drew.frozen? ⟨e.b,4,none⟩=false:=ff 4;clear d0 d1 d3 d4 dl dl0 dl1 f0 f1 f2 f4 ff fs k1 k2;have HP:Hid (Q0A (((w1.setCell ⟨e.b,2,none⟩ (.int .i64 (e.q.given-c.q.limit))).setCell ⟨e.b,4,none⟩ (.int .i64 (e.q.kids-1))).drew.drew) q.m (kvs q.E) /\
   ∀w4,Q0A w4 q.m (del (kvs q.E) id)->(((w1.setCell ⟨e.b,2,none⟩ (.int .i64 (e.q.given-c.q.limit))).setCell ⟨e.b,4,none⟩ (.int .i64 (e.q.kids-1))).drew.drew).grownBy w4 (some q.m)->Q (.returned (.int .i64 0)) w4):=by
  have s1:=HS.out.grown HB.out;have s2:Sep (w1.drewN 2) q.hl:=s1.sep.drewN 2;have hm:Q0A (((w1.drewN 2).setCell ⟨e.b,2,none⟩ (.int .i64 (e.q.given-c.q.limit))).setCell ⟨e.b,4,none⟩ (.int .i64 (e.q.kids-1))) q.m (kvs q.E):=((QT.map s2).set _ _).set _ _;refine⟨hm,fun w4 hm4 hg4=>?_⟩;have st:=QT.close s2 HOk.out HE.out HC.out w4 hm4 hg4;rw [<- HQ.out];exact⟨rfl,s1.trans (st.from_drewN)⟩
 have HL:Hid (((w1.setCell ⟨e.b,2,none⟩ (.int .i64 (e.q.given-c.q.limit))).drew.drew).cell? ⟨e.b,4,none⟩=some (.int .i64 e.q.kids)/\((w1.setCell ⟨e.b,2,none⟩ (.int .i64 (e.q.given-c.q.limit))).drew.drew).frozen? ⟨e.b,4,none⟩=false /\
   (((w1.setCell ⟨e.b,2,none⟩ (.int .i64 (e.q.given-c.q.limit))).setCell ⟨e.b,4,none⟩ (.int .i64 (e.q.kids-1))).drew.drew).cell? ⟨q.t,0,none⟩=some (.map (some q.m))):=by
  have k:=(QT.fac (HS.out.grown HB.out).sep HE.out).set 2 (.int .i64 (e.q.given-c.q.limit));refine⟨k.cell 4 _ rfl,k.free 4,?_⟩;show ((w1.setCell ⟨e.b,2,none⟩ _).setCell ⟨e.b,4,none⟩ _).cell? ⟨q.t,0,none⟩=_;rw [World.cell?_of_block (Below.heap_setCell _ _ _ _ hne),World.cell?_of_block (Below.heap_setCell _ _ _ _ hne)];exact g0
 go_wp2_with fail;go_region;obtain⟨e4,f4,e0⟩:=HL.out;go_wp2_with (refine Q2t _ rfl _ _ 252 3 3 229 rfl underlying252 underlying3 q.m (kvs q.E) HP.out.1 id rfl rfl ?_;intro w4 hm2 hg2;have HQ4:=Q0a (HP.out.2 w4 hm2 hg2);clear hm2 hg2)
 first|exact HQ4.out|(go_ret;exact HQ4.out)
theorem Inv.lok {P:PL} {l:List Pl} {fr:List Nat} {xc:Int->Int} {zs:List Nat} (v:Inv P l fr xc zs):LOk l:=⟨v.len,fun p hp=>⟨by have:=(v.st p hp).1;omega,(v.st p hp).2⟩⟩
theorem new3 {w w1:World} {T:TypeId} {a b c:Value} (hb:Below (w.alloc (.cells #[a,b,c] T)).heap.size (w.alloc (.cells #[a,b,c] T)) w1):Below w.heap.size w w1/\w1.cell? ⟨w.heap.size,0,none⟩=some a/\w1.cell? ⟨w.heap.size,1,none⟩=some b/\w1.cell? ⟨w.heap.size,2,none⟩=some c/\(∀i,w1.frozen? ⟨w.heap.size,i,none⟩=false)/\w.heap.size<w1.heap.size:=by
 have hc:=(Cells.new w T [a,b,c]).same (hb.block w.heap.size (by simp));refine⟨((Below.refl _ _).alloc (J1x _) _).trans (hb.mono (by simp)),hc.cell 0 _ rfl,hc.cell 1 _ rfl,hc.cell 2 _ rfl,hc.free,?_⟩;have:=hb.size;simp at this;omega
theorem Q0e {w w1:World} {o:Obj} (hb:Below (w.alloc o).heap.size (w.alloc o) w1):Below w.heap.size w w1:=((Below.refl _ _).alloc (J1x _) _).trans (hb.mono (by simp))
theorem Z1u {w w1:World} (h:Below w.heap.size w w1) (a b c:Value) (o:Obj):Below w.heap.size w ((((w1.setCell ⟨w.heap.size,0,none⟩ a).setCell ⟨w.heap.size,1,none⟩ b).setCell ⟨w.heap.size,2,none⟩ c).alloc o):=
 (((h.setCell (J1x _) _).setCell (J1x _) _).setCell (J1x _) _).alloc (by have:=h.size;simpa [World.setCell] using this) _
theorem Z5A {w:World} {S:CO} (h:Sep w S.hl) {x:Nat} {a b c e kind:Int} (hG:Calls prog 93 #[.pointer (some ⟨S.t,0,none⟩),.int .u32 x] (w.alloc (.cells #[.int .i64 0,.int .i64 0,.int .i64 0] 69)) (Told (w.alloc (.cells #[.int .i64 0,.int .i64 0,.int .i64 0] 69)) (.tuple #[.agg #[.int .i64 a,.int .i64 b,.int .i64 c],.int .i64 e])))
  (hc:e≠0∨kind=0∨a=kind):Calls prog 30 #[.pointer (some ⟨S.c,0,none⟩),.int .u32 x,.int .i64 kind] w (Told w (.tuple #[.agg #[.int .i64 a,.int .i64 b,.int .i64 c],.int .i64 e])):=by
 have c1:=CO.c1 (h.alloc (.cells #[.int .i64 0,.int .i64 0,.int .i64 0] 69));have hcc:e≠0∨e=0/\kind=0∨e=0/\kind≠0/\a=kind:=by omega
 clear h hc;rcases hcc with he|⟨rfl,rfl⟩|⟨rfl,hk,rfl⟩
 ·have hb1:(e==0)=false:=by simpa using he
  go_enter func30,ntmps30;go_wp2_with (go_at_call 93;refine hG.mono ?_;rintro r w1 ⟨rfl,hb⟩;obtain⟨hb,e0,e1,e2,ef,hlt⟩:=new3 hb;have HB:=Q0a hb;have f0:=ef 0;have f1:=ef 1;have f2:=ef 2;clear hb ef);refine bodyPost_ret (v:=.tuple #[.agg #[.int .i64 a,.int .i64 b,.int .i64 c],.int .i64 e]) (by simp [results,results30,go_sem,e0,e1,e2,hlt]) rfl ⟨rfl,Z1u HB.out _ _ _ _⟩
 ·go_enter func30,ntmps30;go_wp2_with (go_at_call 93;refine hG.mono ?_;rintro r w1 ⟨rfl,hb⟩;obtain⟨hb,e0,e1,e2,ef,hlt⟩:=new3 hb;have HB:=Q0a hb;have f0:=ef 0;have f1:=ef 1;have f2:=ef 2;clear hb ef);refine bodyPost_ret (v:=.tuple #[.agg #[.int .i64 a,.int .i64 b,.int .i64 c],.int .i64 0]) (by simp [results,results30,go_sem,e0,e1,e2,hlt]) rfl ⟨rfl,Z1u HB.out _ _ _ _⟩
 ·have hb1:(a==0)=false:=by simpa using hk
  go_enter func30,ntmps30;go_wp2_with (go_at_call 93;refine hG.mono ?_;rintro r w1 ⟨rfl,hb⟩;obtain⟨hb,e0,e1,e2,ef,hlt⟩:=new3 hb;have HB:=Q0a hb;have f0:=ef 0;have f1:=ef 1;have f2:=ef 2;clear hb ef);refine bodyPost_ret (v:=.tuple #[.agg #[.int .i64 a,.int .i64 b,.int .i64 c],.int .i64 0]) (by simp [results,results30,go_sem,e0,e1,e2,hlt]) rfl ⟨rfl,Z1u HB.out _ _ _ _⟩
theorem Z7Q {w:World} {S:CO} (h:Sep w S.hl) {x:Nat} {a b c kind:Int} (hG:Calls prog 93 #[.pointer (some ⟨S.t,0,none⟩),.int .u32 x] (w.alloc (.cells #[.int .i64 0,.int .i64 0,.int .i64 0] 69)) (Told (w.alloc (.cells #[.int .i64 0,.int .i64 0,.int .i64 0] 69)) (.tuple #[.agg #[.int .i64 a,.int .i64 b,.int .i64 c],.int .i64 0])))
  (hk:kind≠0) (ha:a≠kind):Calls prog 30 #[.pointer (some ⟨S.c,0,none⟩),.int .u32 x,.int .i64 kind] w (Told w (.tuple #[.agg #[.int .i64 0,.int .i64 0,.int .i64 0],.int .i64 10])):=by
 have c1:=CO.c1 (h.alloc (.cells #[.int .i64 0,.int .i64 0,.int .i64 0] 69));have hb1:(kind==0)=false:=by simpa using hk
 have hb2:(a==kind)=false:=by simpa using ha
 have hb3:(kind != 0)=true:=by simpa using hk
 have hb4:(a != kind)=true:=by simpa using ha
 clear h hk ha;go_enter func30,ntmps30;go_wp2_with (go_at_call 93;refine hG.mono ?_;rintro r w1 ⟨rfl,hb⟩;obtain⟨hb,e0,e1,e2,ef,hlt⟩:=new3 hb;have HB:=Q0a hb;have f0:=ef 0;have f1:=ef 1;have f2:=ef 2;clear hb ef);refine bodyPost_ret (v:=.tuple #[.agg #[.int .i64 0,.int .i64 0,.int .i64 0],.int .i64 10]) (by simp [results,results30,go_sem,e0,e1,e2,hlt]) rfl ⟨rfl,Z1u HB.out _ _ _ _⟩
section
variable {w:World} {S:CO} {fr:List Nat} {N K:Nat}
theorem Q4F (h:Sep w S.hl) (ok:LOk S.l) {x:Nat} (hx:x<4294967296) (kind:Int) (hp:pget S.l 1 x=none):Calls prog 30 #[.pointer (some ⟨S.c,0,none⟩),.int .u32 x,.int .i64 kind] w (Told w (.tuple #[zobj,.int .i64 8])):=
 Z5A h (Z5t (h:=S.ht) (CO.sT (h.alloc _)) ok hx hp) (.inl (by decide))
theorem Q2n (h:Sep w S.hl) (ok:LOk S.l) {x:Nat} (hx:x<4294967296) (kind:Int) {p:Pl} (hp:pget S.l 1 x=some p) (hk:kind=0∨(p.kind:Int)=kind):Calls prog 30 #[.pointer (some ⟨S.c,0,none⟩),.int .u32 x,.int .i64 kind] w (Told w (.tuple #[p.obj,.int .i64 0])):=
 Z5A h (Q6e (h:=S.ht) (CO.sT (h.alloc _)) ok hx hp) (.inr hk)
theorem Q3j (h:Sep w S.hl) (ok:LOk S.l) {x:Nat} (hx:x<4294967296) (kind:Int) {p:Pl} (hp:pget S.l 1 x=some p) (h0:kind≠0) (hk:(p.kind:Int)≠kind):Calls prog 30 #[.pointer (some ⟨S.c,0,none⟩),.int .u32 x,.int .i64 kind] w (Told w (.tuple #[zobj,.int .i64 10])):=
 Z7Q h (Q6e (h:=S.ht) (CO.sT (h.alloc _)) ok hx hp) h0 hk
end
theorem CO.Ok.wordf {S:CO} {fr:List Nat} {N K:Nat} (ok:S.Ok fr N K) {p:Pl} (hp:p∈S.l) (hi:p.is=true) (hk:p.kind=1):Q0u S.P.a.mem p.at_=p.own/\p.at_%8=0/\p.at_+8<=S.P.a.mem.length/\p.own<1048576:=by
 have hu:=ok.inv.mem.used hp hi (by omega);rw [hk] at hu;have h1:=Q0m ok.inv.mem.pool hu;have:Q0c 1=64:=rfl;refine⟨ok.inv.mem.word p hp hi hk,Q2m ok.inv.mem.pool hu,by omega,?_⟩;obtain⟨e,he⟩:=ok.inv.tre.acc hp hi hk;have h2:=ok.inv.mem.pool.q.fa _ e he;have h3:=ok.inv.mem.pool.q.next1;omega
theorem Q8P {w:World} {S:CO} (h:Sep w S.hl) (hb:∀b∈S.P.a.mem,b<256) (hm:S.P.a.mem.length<=1073741824) {k a f x:Nat} (ha:a%8=0) (hl:a+8<=S.P.a.mem.length) (hx:Q0u S.P.a.mem a=x) (hx2:x<1048576) :
  Calls prog 137 #[.pointer (some ⟨S.c,0,none⟩),.agg #[.int .i64 k,.int .i64 a,.int .i64 f]] w (Told w (.int .i64 x)):=by
 have s1:=(h.alloc (.cells #[.int .i64 k,.int .i64 a,.int .i64 f] 69)).drew;have k1:=Q1e (CO.sP s1);have k2:=Z4y (PL.sA (CO.sP s1)) hb a ha hl hm;rw [hx] at k2;have c0:=CO.c0 (h.alloc (.cells #[.int .i64 k,.int .i64 a,.int .i64 f] 69));have d0:=CO.c0 s1;have e1:(w.alloc (.cells #[.int .i64 k,.int .i64 a,.int .i64 f] 69)).cell? ⟨w.heap.size,1,none⟩=some (.int .i64 a):=(Cells.new w 69 [.int .i64 k,.int .i64 a,.int .i64 f]).cell 1 _ rfl;have e2:(w.alloc (.cells #[.int .i64 k,.int .i64 a,.int .i64 f] 69)).drew.cell? ⟨w.heap.size,1,none⟩=some (.int .i64 a):=e1;have HB:Hid (Below w.heap.size w (w.alloc (.cells #[.int .i64 k,.int .i64 a,.int .i64 f] 69)).drew):=((Below.refl _ _).alloc (J1x _) _).drew
 have hw:IntKind.i64.wrap (x:Int)=(x:Int):=Go.IntWalk.i64_in _ (by omega);unfold ptr at *
 clear h hb hm ha hl hx s1;go_enter func137,ntmps137;go_wp2_with fail
 go_region_held3 (fun w'=>w'.cell? ⟨S.c,0,none⟩=some (.pointer (some ⟨S.P.p,0,none⟩))/\w'.cell? ⟨w.heap.size,1,none⟩=some (.int .i64 a)) (first|exact⟨c0,e1⟩|exact⟨d0,e2⟩)
  (first|(go_at_call 155;refine k1.mono ?_;rintro e w' ⟨rfl,rfl⟩)|(go_at_call 216;refine k2.mono ?_;rintro e w' ⟨rfl,rfl⟩))
 go_wp2_with fail
 first|exact⟨rfl,HB.out⟩|(go_ret;exact⟨rfl,HB.out⟩)
theorem Q5C {w:World} {S:CO} {x:Nat} {e:Int} (he:e≠0) (hO:Calls prog 30 #[.pointer (some ⟨S.c,0,none⟩),.int .u32 x,.int .i64 1] w (Told w (.tuple #[.agg #[.int .i64 0,.int .i64 0,.int .i64 0],.int .i64 e]))) :
  Calls prog 67 #[.pointer (some ⟨S.c,0,none⟩),.int .u32 x] w (Told w (.tuple #[.int .i64 0,.int .i64 e])):=by
 have hb1:(e==0)=false:=by simpa using he
 go_enter func67,ntmps67;go_wp2_with (go_at_call 30;refine hO.mono ?_;rintro r w1 ⟨rfl,hb⟩;have HB:=Q0a hb;clear hb);have HB2:Hid (∀o,Below w.heap.size w (w1.alloc o)):=fun o=>HB.out.alloc HB.out.size o
 go_ret2;exact⟨rfl,HB2.out _⟩
theorem Q6g {w:World} {S:CO} {fr:List Nat} {N K:Nat} (h:Sep w S.hl) (ok:S.Ok fr N K) {x:Nat} (hx:x<4294967296) {p:Pl} (hp:pget S.l 1 x=some p) (hk:p.kind=1) :
  Calls prog 67 #[.pointer (some ⟨S.c,0,none⟩),.int .u32 x] w (Told w (.tuple #[.int .i64 (p.own:Int),.int .i64 0])):=by
 have hO:Calls prog 30 #[.pointer (some ⟨S.c,0,none⟩),.int .u32 x,.int .i64 1] w (Told w (.tuple #[.agg #[.int .i64 (p.kind:Int),.int .i64 (p.at_:Int),.int .i64 (p.fac:Int)],.int .i64 0])):=Q2n h ok.inv.lok hx 1 hp (.inr (by omega));obtain⟨w1_eq,w2,w3,w4⟩:=ok.wordf (Q0y hp) (Pl.is_iff.2 (.inl (pget_some.1 hp).2.2)) hk;have HW:Hid (∀w1,Below w.heap.size w w1->∀o,Calls prog 137 #[.pointer (some ⟨S.c,0,none⟩),.agg #[.int .i64 (p.kind:Int),.int .i64 (p.at_:Int),.int .i64 (p.fac:Int)]] (w1.alloc o) fun r w'=>r=.returned (.int .i64 (p.own:Int))/\Below w.heap.size w w'):=fun w1 hb o =>
  (Q8P (k:=p.kind) (a:=p.at_) (f:=p.fac) ((h.grown hb).sep.alloc o) ok.inv.mem.pool.bytes (Q0p ok.inv.mem.pool) w2 w3 w1_eq w4).mono fun r w' ⟨e,hb'⟩=>⟨e,(hb.alloc hb.size o).trans (hb'.mono (by have:=hb.size;simp;omega))⟩
 clear h ok hp w1_eq w2 w3 w4 hk;generalize p.own=po at *
 generalize p.kind=pk at *
 generalize p.at_=pa at *
 generalize p.fac=pf at *
 go_enter func67,ntmps67;go_wp2_with (first|(go_at_call 30;refine hO.mono ?_;rintro r w1 ⟨rfl,hb⟩;have HB:=Q0a hb;clear hb)|(go_at_call 137;refine (HW.out _ HB.out _).mono ?_;rintro r w2 ⟨rfl,hb⟩;have HB2:=Q0a hb;clear hb));go_ret2;exact⟨rfl,HB2.out⟩
theorem Q6h {w:World} {S:CO} (h:Sep w S.hl) (ok:LOk S.l):Calls prog 32 #[.pointer (some ⟨S.c,0,none⟩)] w (NewHs w (allL S.l 1)):=by
 have c1:=CO.c1 h;have hA:=Q8N (h:=S.ht) (CO.sT h) ok;clear h ok;unfold CO.ht at hA;go_enter func32,ntmps32;go_wp2_with (go_at_call 94;refine hA.mono ?_;rintro e w' ⟨v,rfl,h1,h2⟩)
 first|exact⟨v,rfl,h1,h2⟩|(go_ret;exact⟨v,rfl,h1,h2⟩)
theorem Q2b {w:World} {S:CO} (h:Sep w S.hl):Calls prog 49 #[.pointer (some ⟨S.c,0,none⟩)] w fun r w'=>r=.returned (.pointer (some ⟨S.P.p,0,none⟩))/\w=w':=by
 have c0:=CO.c0 h;clear h;go_enter func49,ntmps49
 go_wp2
 go_ret;exact⟨rfl,rfl⟩
theorem CO.Ok.few {S:CO} {fr:List Nat} {N K:Nat} (ok:S.Ok fr N K):S.ts.length<=256:=by
 have h1:=ok.inv.que.nd;have:((S.ts.map Prod.fst).map (·%256)).Nodup:=by
  unfold List.Nodup;rw [J2c];refine h1.imp_of_mem ?_;intro a b ha hb hab e;obtain⟨p,hp⟩:=(ok.inv.que.has a).1 ha;obtain⟨q,hq⟩:=(ok.inv.que.has b).1 hb;exact hab (Q0P hp hq e).1
 have:=Q4j 256 _ this (by
  intro x hx;obtain⟨y,_,rfl⟩:=J1D.1 hx;omega)
 simpa using this
def OutI (w wr:World) (v:Value) (L:List Int):Prop:=wr.ownsRow w.heap.size 3 1 v L.length (L.map encI)/\Below w.heap.size w wr
theorem OutI.nil (w:World):OutI w w (.slice none 0 0) []:=⟨World.ownsRow_nil _ _ _ _,Below.refl _ _⟩
theorem OutI.below {w wr w1:World} {v:Value} {L:List Int} (h:OutI w wr v L) (hb:Below wr.heap.size wr w1):OutI w w1 v L:=
 ⟨h.1.kept (row:=none) ⟨hb.os,hb.tape,hb.output,hb.size,fun k hk _=>hb.block k hk⟩ (by cases hv:v.ownBlock with|none=>exact .inl rfl|some b=>exact .inr (by simp)),h.2.trans (hb.mono h.2.size)⟩
theorem OutI.app {w wr:World} {v:Value} {L:List Int} (h:OutI w wr v L) (hl:L.length<=16777216) (x:Int) (ty:TypeId):∃v' w',(Builtin.append_ #[36,36] ty #[v,.slice (some ⟨wr.heap.size,0,none⟩) 1 1]).run prog (wr.alloc (.cells #[.int .i64 x] 3))=.ok v' w'/\OutI w w' v' (L++[x]):=by
 obtain⟨i0,hi,hz0,hz1,hz2⟩:=info_parts Z0f;have h2:=h.below ((Below.refl _ _).alloc (J1x _) (.cells #[.int .i64 x] 3));obtain⟨v',w',hr,q1,q2,_,q4⟩:=run_append_own_at (P:=prog) (wr.alloc (.cells #[.int .i64 x] 3)) w.heap.size 36 ty 3 i0 (.int .i64 0) 1 8 underlying36 hi hz0 hz1 hz2 rfl (by decide) v L.length (L.map encI) h2.1 ⟨wr.heap.size,0,none⟩ 1 1 [.int .i64 x] rfl (by
  intro j u hj;have:=(Cells.new wr 3 [.int .i64 x]).cell j u hj;have e:(⟨wr.heap.size,0,none⟩:Addr).add j=⟨wr.heap.size,j,none⟩:=by unfold Addr.add;split <;> simp_all
  rw [e];exact this) (fun u hu=>by rw [J3E.1 hu];rfl) (by unfold maxLen;omega) (by omega) h2.2.size
 refine⟨v',w',hr,?_,?_⟩
 ·rw [J2h,J5a];exact q1
 ·exact h2.2.trans ((Below.refl _ _).mono h2.2.size |>.grown q2 h2.2.size (fun b hb=>(h2.1.lt b hb).1))
def Q0W (t:TB) (k:Nat):List Int:=((List.range k).filter fun s=>(t.en s).isSome).map fun (s:Nat)=>(s:Int)
theorem Q8Q (t:TB) (k:Nat):Q0W t (k+1)=Q0W t k++if (t.en k).isSome=true then [(k:Int)] else []:=by
 unfold Q0W;rw [J1I,J3u,J5a,J5I];split <;> simp
theorem Q4d (t:TB) (k:Nat):(Q0W t k).length<=k:=by
 unfold Q0W;rw [J3g];exact J1y (J3M _ _) (by simp)
def NewIs (w:World) (L:List Int) (r:Ending) (w':World):Prop:=∃v,r=.returned v/\w'.ownsRow w.heap.size 3 1 v L.length (L.map encI)/\Below w.heap.size w w'
section
variable {w:World} {S:CO} {t:TB} {p:Pl} {g:Nat}
theorem Q7i (h:TT S t p g w):Calls prog 89 #[.pointer (some ⟨g,0,none⟩)] w (NewIs w (Q0W t 256)):=by
 have HG:Hid (∀(wr:World) (s:Nat),Below w.heap.size w wr->s<256->Calls prog 103 #[.pointer (some ⟨g,0,none⟩),.int .i64 s] wr fun r w'=>r=getV (t.en s)/\wr=w'):=fun wr s hb hs=>by
  have:=Q3F (h.grown hb) (s:Int);have ho:t.at' (s:Int)=t.en s:=by unfold TB.at';rw [if_pos ⟨by omega,by omega⟩,J2C]
  rw [ho] at this;exact this
 clear h;go_enter func89,ntmps89;go_wp2_with fail
 go_loopg [3,7] 256 (fun gk ov iv wr=>∃k:Nat,iv=.int .i64 k/\k+gk=256/\OutI w wr ov (Q0W t k))
 case atStart=>exact⟨0,rfl,rfl,by simpa [Q0W] using OutI.nil w⟩
 case round =>
  obtain⟨k,rfl,hkg,hout⟩:=hrel;have HO:=Q0a hout;have HKg:=Q0a hkg;clear hkg;by_cases hk:k<256
  ·have hget:=HG.out wr k hout.2 hk;have hki:(k:Int)<256:=by omega
   have hsc:=Q8Q t k;have HSc:=Q0a hsc;have hlen:=Q4d t k;clear hout hsc;cases he:t.en k with
   | none =>
    rw [he] at hget;have HE:=Q0a he;unfold getV Q0s Q0U at hget;clear he;go_wp2_with fail;refine hget.mono ?_;rintro e w' ⟨rfl,rfl⟩;go_wp2_with fail;go_roundg (256-(k+1))
    case measure=>have:=HKg.out;omega
    case rel=>exact⟨k+1,by go_num,by have:=HKg.out;omega,by
     have h1:=HSc.out;rw [HE.out] at h1;rw [h1]
     simpa using HO.out⟩
   | some e =>
    rw [he] at hget;have HE:=Q0a he;have hne:Q0s (some e)≠0:=fun hz=>by cases codeA_zero.1 hz
    have hnb:(((Q0s (some e):Nat):Int) != 0)=true:=by simpa using hne
    have hnb2:(((Q0s (some e):Nat):Int)==0)=false:=by simpa using hne
    unfold getV at hget;generalize Q0s (some e)=ca at *
    generalize Q0U (some e)=cb at *
    clear he hne;go_wp2_with fail;refine hget.mono ?_;rintro e1 w' ⟨rfl,rfl⟩;obtain⟨v',w5,happ,hout5⟩:=HO.out.app (by omega) (k:Int) 36;have HO5:=Q0a hout5;clear hout5;go_wp2_with (at_builtin;refine Lib.wpList_append_run _ rfl _ _ _ _ rfl _ _ rfl rfl _ _ happ ?_);go_roundg (256-(k+1))
    case measure=>have:=HKg.out;omega
    case rel=>exact⟨k+1,by go_num,by have:=HKg.out;omega,by
     have h1:=HSc.out;rw [HE.out] at h1;rw [h1]
     simpa using HO5.out⟩
  ·obtain rfl:k=256:=by have:=HKg.out;omega
   have HR:Hid (NewIs w (Q0W t 256) (.returned u3) wr):=⟨u3,rfl,HO.out.1,HO.out.2⟩
   clear hout HO;go_wp2_with fail
   first|exact HR.out|(go_ret;exact HR.out)
end
theorem Z9S {w:World} {S:CO} {fr:List Nat} {N K:Nat} (hs:Sep w S.hl) (ok:S.Ok fr N K) {p:Pl} (hu:p.at_∈S.P.usedOf 2):Calls prog 161 #[.pointer (some ⟨S.P.p,0,none⟩),.int .i64 (p.fac:Int),.int .i64 (p.at_:Int)] w fun r w'=>∃g:Nat,r=.returned (.pointer (some ⟨g,0,none⟩))/\Below w.heap.size w w'/\TblC S p g w'/\w.heap.size<=g:=by
 have hm:=Q0m ok.inv.mem.pool hu;have hmb:=Q0p ok.inv.mem.pool;have kh:=Z1j (CO.sP hs) ok.inv.mem.pool 2 (p.at_:Int) (by unfold Z4I;omega);have hhas:S.P.has 2 (p.at_:Int)=true:=by
  unfold PL.has PL.usedI;rw [decide_eq_true_eq,if_pos (by omega),J2C];exact⟨by omega,hu⟩
 rw [hhas] at kh;have HF:Hid (∀w1,Below w.heap.size w w1->(∃g:Nat,(Ending.returned (.pointer (some ⟨w1.heap.size,0,none⟩)):Ending)=.returned (.pointer (some ⟨g,0,none⟩))/\Below w.heap.size w (w1.alloc (.cells #[ptr S.P.p,.int .i64 (p.fac:Int),.int .i64 (p.at_:Int)] 302))/\TblC S p g (w1.alloc (.cells #[ptr S.P.p,.int .i64 (p.fac:Int),.int .i64 (p.at_:Int)] 302))/\w.heap.size<=g)):=fun w1 hb=>by
  refine⟨w1.heap.size,rfl,hb.alloc hb.size _,fun j v hj=>⟨w1.heap.size,rfl,fun hk=>?_,by simp,?_⟩,hb.size⟩
  ·have:=hs.lt hk;have:=hb.size;omega
  ·exact (Cells.new w1 302 [ptr S.P.p,.int .i64 (p.fac:Int),.int .i64 (p.at_:Int)]).cell j v hj
 unfold ptr at HF;clear hs ok hu hm hmb hhas;go_enter func161,ntmps161;go_wp2_with fail;refine kh.mono ?_;rintro r w1 ⟨rfl,hb⟩;have HX:=Q0a (HF.out w1 hb);clear hb kh;go_wp2_with fail
 first|exact HX.out|(go_ret;exact HX.out)
structure FO where
 f:Nat
 m:Nat
 o:Nat
 N:List (En Nd)
 next:Int
 kr:Int->RV
def Nd.cells (n:Nd) (rv:RV):List Value:=[.int .i64 n.sp,.int .i64 n.sl,.int .i64 n.par,lvOf rv n.ks.length]
def ndH (kr:Int->RV) (e:En Nd):HL:=(e.b,isC 287 (e.q.cells (kr e.id)))::rowH (kr e.id) 3 1 (e.q.ks.map encI)
def okv (N:List (En Nd)):SKV:=N.map fun e=>((e.q.sp,e.q.sl),.int .i64 e.id)
def isMS (kv:SKV):Obj->Prop:=isM (kv.map fun q=>(Q2r q.1,q.2))
def FO.head (q:FO):Nat×(Obj->Prop):=(q.f,isC 282 [.map (some q.m),.map (some q.o),.int .i64 q.next])
def FO.hl (q:FO):HL:=q.head::(q.m,isMI (kvs q.N))::(q.o,isMS (okv q.N))::q.N.flatMap (ndH q.kr)
structure FO.Ok (q:FO):Prop where
 n:NOk q.N q.next
 lim:q.next<1099511627776
 rv:∀e∈q.N,rvOk (q.kr e.id) e.q.ks.length
 few:q.N.length<=65536
theorem Z0j:WideMaps.KeyLaw prog 46:=deep_law (m:=2) (by omega) (by kernel_rfl) (by kernel_rfl) (by kernel_rfl)
theorem Q3k {p:Int×Int} (h1:0<=p.1) (h2:p.1<9223372036854775808) (h3:0<=p.2) (h4:p.2<9223372036854775808):Q1H prog 46 p:=by
 have hu:=underlying46;have hi:=underlying3;have hk:prog.keyType 46=true:=by kernel_rfl
 have hc:prog.cellsOf 46=2:=by kernel_rfl
 have hc1:prog.cellsOf 3=1:=by kernel_rfl
 obtain⟨m,hm⟩:∃m,prog.types.size=m+1:=⟨prog.types.size-1,by
  have:0<prog.types.size:=of_decide_eq_true (by kernel_rfl);omega⟩
 have e1:IntKind.i64.min = -9223372036854775808:=rfl;have e2:IntKind.i64.max=9223372036854775807:=rfl;have wa:(Lit.int .i64 p.1).wf=true:=by
  simp only [Lit.wf,J1S,decide_eq_true_eq,e1,e2];omega
 have wb:(Lit.int .i64 p.2).wf=true:=by
  simp only [Lit.wf,J1S,decide_eq_true_eq,e1,e2];omega
 unfold Q1H Q2r keyOf;simp only [hu];rw [if_pos (by simp [hk,Value.formed,hu,hc]),hm];unfold Program.keyLits;simp only [hu,Value.cells];rw [if_pos (by simp [hc])];exact⟨_,by simp [Program.keyLits,hi,wa,wb,hc1];rfl⟩
section
variable {w:World} {q:FO}
theorem FO.c (h:Sep w q.hl):Cells w q.f 282 [.map (some q.m),.map (some q.o),.int .i64 q.next]:=h.cells (by simp [FO.hl,FO.head])
theorem FO.c0 (h:Sep w q.hl):w.cell? ⟨q.f,0,none⟩=some (.map (some q.m)):=(FO.c h).cell 0 _ rfl
theorem FO.c1 (h:Sep w q.hl):w.cell? ⟨q.f,1,none⟩=some (.map (some q.o)):=(FO.c h).cell 1 _ rfl
theorem FO.c2 (h:Sep w q.hl):w.cell? ⟨q.f,2,none⟩=some (.int .i64 q.next):=(FO.c h).cell 2 _ rfl
theorem FO.map (h:Sep w q.hl):Q0A w q.m (kvs q.N):=h.map (by simp [FO.hl,isMI])
theorem FO.omap (h:Sep w q.hl):Q3g w q.o (okv q.N):=h.map (by simp [FO.hl,isMS])
theorem FO.nd (h:Sep w q.hl) {id:Int} {e:En Nd} (hf:find q.N id=some e):Cells w e.b 287 (e.q.cells (q.kr e.id)):=
 h.cells (by
  simp only [FO.hl,J1C];exact .inr (.inr (.inr (J1X.2 ⟨e,(Q0b hf).1,by simp [ndH]⟩))))
theorem Z1v (ok:q.Ok):(okv q.N).Pairwise (fun a b=>a.1≠b.1):=by
 unfold okv;rw [J2c];exact ok.n.spots
theorem Z1w (ok:q.Ok):∀p∈okv q.N,Q1H prog 46 p.1:=fun p hp=>by
 obtain⟨e,he,rfl⟩:=J1D.1 hp;have:=ok.n.sm e he;exact Q3k (by show 0<=e.q.sp;omega) (by show e.q.sp<_;omega) (by show 0<=e.q.sl;omega) (by show e.q.sl<_;omega)
end
def ownN (N:List (En Nd)) (sp sl:Int):Int:=match N.find? fun e=>decide ((e.q.sp,e.q.sl)=(sp,sl)) with
 | some e=>e.id
 | none=>0
theorem Z5B (N:List (En Nd)) (sp sl:Int):(Q3N (okv N) (sp,sl)).getD (.int .i64 0)=.int .i64 (ownN N sp sl):=by
 unfold Q3N okv ownN;rw [List.find?_map];cases h:List.find? ((fun q=>decide (q.1=(sp,sl))) ∘ fun (e:En Nd)=>((e.q.sp,e.q.sl),Value.int .i64 e.id)) N with
 | none =>
  have:N.find? (fun e=>decide ((e.q.sp,e.q.sl)=(sp,sl)))=none:=h;rw [this];rfl
 | some e =>
  have:N.find? (fun e=>decide ((e.q.sp,e.q.sl)=(sp,sl)))=some e:=h;rw [this];rfl
theorem Q1r {N:List (En Nd)} {next:Int} (ok:NOk N next) {e:En Nd} (he:e∈N):ownN N e.q.sp e.q.sl=e.id:=by
 unfold ownN;cases h:N.find? fun x=>decide ((x.q.sp,x.q.sl)=(e.q.sp,e.q.sl)) with
 | none =>
  have:=J3q.1 h e he;simp at this
 | some x =>
  have hx:=J5J h;have hp:=J5K h;simp only [decide_eq_true_eq] at hp;simp only [Prod.mk.injEq] at hp;rw [Q4a ok hx he hp.1 hp.2]
theorem Q1s {N:List (En Nd)} {next:Int} (ok:NOk N next) {sp sl:Int}:ownN N sp sl=0↔∀e∈N,(e.q.sp,e.q.sl)≠(sp,sl):=by
 unfold ownN;cases h:N.find? fun x=>decide ((x.q.sp,x.q.sl)=(sp,sl)) with
 | none =>
  simp only [true_iff];intro e he hc;have:=J3q.1 h e he;exact this (by simpa using hc)
 | some x =>
  have hx:=J5J h;have hp:=J5K h;simp only [decide_eq_true_eq] at hp;have:=ok.rng x hx
  constructor
  ·intro h0;have h0':x.id=0:=h0;omega
  ·intro hall;exact absurd hp (hall x hx)
section
variable {w:World} {q:FO}
theorem Q8R (w:World):(zeroValue 284).run prog w=.ok (.pointer none) w:=by kernel_rfl
theorem FO.look_some (h:Sep w q.hl) {id:Int} {e:En Nd} (hf:find q.N id=some e) :
  (Instr.lookup 279 (.map (some q.m)) (.int .i64 id) false).run prog w=.ok (.pointer (some ⟨e.b,0,none⟩)) w:=by
 rw [Q1i (FO.map h) id false (.pointer none) underlying279 underlying3 (Q8R w)];simp [Q5t,hf,ptr]
theorem FO.look_none (h:Sep w q.hl) {id:Int} (hf:find q.N id=none) :
  (Instr.lookup 279 (.map (some q.m)) (.int .i64 id) false).run prog w=.ok (.pointer none) w:=by
 rw [Q1i (FO.map h) id false (.pointer none) underlying279 underlying3 (Q8R w)];simp [Q5t,hf]
theorem FO.look_own (h:Sep w q.hl) (ok:q.Ok) {sp sl:Int} (hp:Q1H prog 46 (sp,sl)) :
  (Instr.lookup 280 (.map (some q.o)) (.agg #[.int .i64 sp,.int .i64 sl]) false).run prog w=.ok (.int .i64 (ownN q.N sp sl)) w:=by
 have:=Q5Y (FO.omap h) Z0j (Z1v ok) (Z1w ok) hp false (.int .i64 0) underlying280 (Z1a w);rw [Z5B] at this;exact this
theorem Q2O (h:Sep w q.hl) {id:Int} {e:En Nd} (hf:find q.N id=some e) :
  Calls prog 162 #[.pointer (some ⟨q.f,0,none⟩),.int .i64 id] w fun r w'=>r=.returned (.pointer (some ⟨e.b,0,none⟩))/\w=w':=by
 have h0:=FO.c0 h;have hl:=FO.look_some h hf;clear h hf;go_enter func162,ntmps162
 go_wp2
 go_ret;exact⟨rfl,rfl⟩
theorem Q4G (h:Sep w q.hl) {id:Int} (hf:find q.N id=none) :
  Calls prog 162 #[.pointer (some ⟨q.f,0,none⟩),.int .i64 id] w fun r w'=>r=.returned (.pointer none)/\w=w':=by
 have h0:=FO.c0 h;have hl:=FO.look_none h hf;clear h hf;go_enter func162,ntmps162
 go_wp2
 go_ret;exact⟨rfl,rfl⟩
theorem Q4H (h:Sep w q.hl) (ok:q.Ok) {sp sl:Int} (hp:Q1H prog 46 (sp,sl)) :
  Calls prog 88 #[.pointer (some ⟨q.f,0,none⟩),.int .i64 sp,.int .i64 sl] w fun r w'=>r=.returned (.int .i64 (ownN q.N sp sl))/\w=w':=by
 have h1:=FO.c1 h;have hl:=FO.look_own h ok hp;clear h hp ok;generalize ownN q.N sp sl=z at *
 go_enter func88,ntmps88
 go_wp2
 go_ret;exact⟨rfl,rfl⟩
theorem FO.nd0 (h:Sep w q.hl) {id:Int} {e:En Nd} (hf:find q.N id=some e):w.cell? ⟨e.b,0,none⟩=some (.int .i64 e.q.sp)/\w.cell? ⟨e.b,1,none⟩=some (.int .i64 e.q.sl)/\w.cell? ⟨e.b,2,none⟩=some (.int .i64 e.q.par)/\w.cell? ⟨e.b,3,none⟩=some (lvOf (q.kr e.id) e.q.ks.length):=by
 have k:=FO.nd h hf;exact⟨k.cell 0 _ rfl,k.cell 1 _ rfl,k.cell 2 _ rfl,k.cell 3 _ rfl⟩
theorem Q8S (h:Sep w q.hl) {id:Int} {e:En Nd} (hf:find q.N id=some e) :
  Calls prog 87 #[.pointer (some ⟨q.f,0,none⟩),.int .i64 id] w fun r w'=>r=.returned (.int .i64 e.q.par)/\w=w':=by
 have k:=Q2O h hf;obtain⟨c0,c1,c2,-⟩:=FO.nd0 h hf;clear h hf;go_enter func87,ntmps87;go_wp2_with (go_at_call 162;refine k.mono ?_;rintro e w' ⟨rfl,rfl⟩);go_ret;exact⟨rfl,rfl⟩
theorem Q8T (h:Sep w q.hl) {id:Int} (hf:find q.N id=none) :
  Calls prog 87 #[.pointer (some ⟨q.f,0,none⟩),.int .i64 id] w fun r w'=>r=.returned (.int .i64 0)/\w=w':=by
 have k:=Q4G h hf;clear h hf;go_enter func87,ntmps87;go_wp2_with (go_at_call 162;refine k.mono ?_;rintro e w' ⟨rfl,rfl⟩);go_ret;exact⟨rfl,rfl⟩
theorem Q6i (h:Sep w q.hl) {id:Int} (hf:find q.N id=none) :
  Calls prog 86 #[.pointer (some ⟨q.f,0,none⟩),.int .i64 id] w fun r w'=>r=.returned (.tuple #[.int .i64 0,.int .i64 0,.bool false])/\w=w':=by
 have k:=Q4G h hf;clear h hf;go_enter func86,ntmps86;go_wp2_with (go_at_call 162;refine k.mono ?_;rintro e w' ⟨rfl,rfl⟩)
 go_ret3
 exact⟨rfl,rfl⟩
theorem Q6j (h:Sep w q.hl) {id:Int} {e:En Nd} (hf:find q.N id=some e) :
  Calls prog 86 #[.pointer (some ⟨q.f,0,none⟩),.int .i64 id] w fun r w'=>r=.returned (.tuple #[.int .i64 e.q.sp,.int .i64 e.q.sl,.bool true])/\Below w.heap.size w w':=by
 have k:=Q2O h hf;obtain⟨c0,c1,c2,-⟩:=FO.nd0 h hf;have hb:∀m,Below w.heap.size w (w.drewN m):=fun m=>by first|exact (Below.refl _ _).drewN|exact Below.drewN (Below.refl _ _)|exact⟨rfl,rfl,rfl,J1x _,fun _ _=>rfl⟩
 clear h hf;go_enter func86,ntmps86;go_wp2_with (go_at_call 162;refine k.mono ?_;rintro e w' ⟨rfl,rfl⟩)
 go_quiet (fail)
 go_wp2
 go_ret3
 exact⟨rfl,by first|exact hb _|exact (Below.refl _ _).drew⟩
end
end Go.Proofs.YtlakjlmaboioiaaGreatDoor

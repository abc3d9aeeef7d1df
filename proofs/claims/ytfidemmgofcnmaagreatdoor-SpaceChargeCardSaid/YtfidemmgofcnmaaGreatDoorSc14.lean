/- SpaceCharge returns true at every input. No condition. Part of its proof. -/
import Derived.Deep.MidRow
import Derived.Deep.LoopGhost
import Derived.Test.YtfidemmgofcnmaaGreatDoorSc11
set_option maxHeartbeats 4000000
set_option maxRecDepth 100000
set_option linter.unusedVariables false
namespace Go.Proofs.YtfidemmgofcnmaaGreatDoor
open Go.RowKit Go.Proofs.Tryz
def LOk (l:List Pl):Prop:=l.length=256/\∀p∈l,p.st<=3/\p.age<=1048575
theorem LOk.get {l:List Pl} (h:LOk l) (x:Nat):∃p,l[x%256]?=some p/\p.st<=3/\p.age<=1048575:=by
 have Ab:x%256<l.length:=by rw [h.1];omega
 exact⟨l[x%256],J4R Ab,h.2 _ (J5W Ab)⟩
theorem Z5L {l:List Pl} {s h:Nat} {p:Pl} (hl:l[h%256]?=some p):pget l s h=none↔nm (h%256) p≠h∨p.st≠s:=by
 unfold pget;rw [hl];simp only;by_cases hc:nm (h%256) p=h/\p.st=s
 ·rw [if_pos hc];simp [hc.1,hc.2]
 ·rw [if_neg hc];have:nm (h%256) p≠h∨p.st≠s:=by
   by_cases h1:nm (h%256) p=h
   ·exact .inr fun h2=>hc ⟨h1,h2⟩
   ·exact .inl h1
  simp [this]
theorem Q5H {w:World} {h:HT} (s:Sep w h.hl) (ok:LOk h.l) {x st:Nat} (hx:x<4294967296) {p:Pl} (hp:pget h.l st x=some p) :
  Calls prog 168 #[.pointer (some ⟨h.t,0,none⟩),.int .u32 x,.int .i64 st] w fun r w'=>r=.returned (.tuple #[.pointer (some ⟨h.t,x%256*5,none⟩),.int .i64 0])/\w=w':=by
 obtain⟨hi,hn,hs⟩:=pget_some.1 hp;have ha:=(ok.2 p (J4O hi)).2;have k1:=Q4w s hi (by omega) ha;obtain⟨-,-,-,c3,-,-⟩:=HT.cell s hi;have HO:=Q8M x hx;rw [hn] at k1;rw [hs] at c3;clear s ok hp hi hn hs ha;have JZ:x%256<256:=by omega
 have hw:IntKind.i64.wrap ((x%256:Nat):Int)=((x%256:Nat):Int):=Go.IntWalk.i64_in _ (by omega);generalize x%256=i at *
 go_enter func168,ntmps168;go_wp2_with (go_at_call 202;refine k1.mono ?_;rintro e w' ⟨rfl,rfl⟩);go_ret2;exact⟨rfl,rfl⟩
theorem Z5M {a b:Nat} (h:a≠b):(((a:Nat):Int) != ((b:Nat):Int))=true:=by simp;omega
theorem Q4H {a b:Nat} (h:a≠b):(((a:Nat):Int)==((b:Nat):Int))=false:=by simp;omega
theorem Z1K {w:World} {h:HT} (s:Sep w h.hl) (ok:LOk h.l) {x st:Nat} (hx:x<4294967296) (hp:pget h.l st x=none) :
  Calls prog 168 #[.pointer (some ⟨h.t,0,none⟩),.int .u32 x,.int .i64 st] w fun r w'=>r=.returned (.tuple #[.pointer none,.int .i64 8])/\w=w':=by
 obtain⟨p,hi,h1,ha⟩:=ok.get x;have As:=(Z5L hi).1 hp;have k1:=Q4w s hi (by omega) ha;obtain⟨-,-,-,c3,-,-⟩:=HT.cell s hi;have HO:=Q8M x hx;clear s ok hp hi ha;have JZ:x%256<256:=by omega
 have hw:IntKind.i64.wrap ((x%256:Nat):Int)=((x%256:Nat):Int):=Go.IntWalk.i64_in _ (by omega);generalize x%256=i at *
 generalize nm i p=n at *
 generalize p.st=t at *
 by_cases hn:n=x
 ·subst hn;have ht:t≠st:=As.resolve_left fun h=>h rfl
  have hb:=Z5M ht;have Ag:=Q4H ht;clear As ht;go_enter func168,ntmps168;go_wp2_with (go_at_call 202;refine k1.mono ?_;rintro e w' ⟨rfl,rfl⟩);go_ret2;exact⟨rfl,rfl⟩
 ·have hb:=Z5M hn;have Ag:=Q4H hn;clear As hn;go_enter func168,ntmps168;go_wp2_with (go_at_call 202;refine k1.mono ?_;rintro e w' ⟨rfl,rfl⟩);go_ret2;exact⟨rfl,rfl⟩
def Pl.obj (p:Pl):Value:=.agg #[.int .i64 (p.kind:Int),.int .i64 (p.at_:Int),.int .i64 (p.fac:Int)]
def zobj:Value:=.agg #[.int .i64 0,.int .i64 0,.int .i64 0]
theorem Q4I {w:World} {h:HT} (s:Sep w h.hl) (ok:LOk h.l) {x:Nat} (hx:x<4294967296) {p:Pl} (hp:pget h.l 1 x=some p) :
  Calls prog 112 #[.pointer (some ⟨h.t,0,none⟩),.int .u32 x] w (Told w (.tuple #[p.obj,.int .i64 0])):=by
 have hi:=(pget_some.1 hp).1;have hA:Calls prog 168 #[.pointer (some ⟨h.t,0,none⟩),.int .u32 x,.int .i64 1] (w.alloc (.cells #[.int .i64 0,.int .i64 0,.int .i64 0] 54)) fun r w'=>r=.returned (.tuple #[.pointer (some ⟨h.t,x%256*5,none⟩),.int .i64 0])/\(w.alloc (.cells #[.int .i64 0,.int .i64 0,.int .i64 0] 54))=w':=Q5H (st:=1) (s.alloc _) ok hx hp
 obtain⟨c0,c1,c2,-,-,-⟩:=HT.cell (s.alloc (.cells #[.int .i64 0,.int .i64 0,.int .i64 0] 54)) hi;have HB:Hid (Below w.heap.size w (w.alloc (.cells #[.int .i64 0,.int .i64 0,.int .i64 0] 54))):=(Below.refl _ _).alloc (J2y _) _;unfold Pl.obj;clear s ok hp hi;generalize x%256*5=i at *
 go_enter func112,ntmps112;go_wp2_with (go_at_call 168;refine hA.mono ?_;rintro e w' ⟨rfl,rfl⟩);refine bodyPost_ret (v:=.tuple #[.agg #[.int .i64 (p.kind:Int),.int .i64 (p.at_:Int),.int .i64 (p.fac:Int)],.int .i64 0]) (by simp [results,results112,go_sem]) rfl ⟨rfl,?_⟩;exact (Below.refl _ _).alloc (J2y _) _
theorem Q8Z {w:World} {h:HT} (s:Sep w h.hl) (ok:LOk h.l) {x:Nat} (hx:x<4294967296) (hp:pget h.l 1 x=none) :
  Calls prog 112 #[.pointer (some ⟨h.t,0,none⟩),.int .u32 x] w (Told w (.tuple #[zobj,.int .i64 8])):=by
 have hA:Calls prog 168 #[.pointer (some ⟨h.t,0,none⟩),.int .u32 x,.int .i64 1] (w.alloc (.cells #[.int .i64 0,.int .i64 0,.int .i64 0] 54)) fun r w'=>r=.returned (.tuple #[.pointer none,.int .i64 8])/\(w.alloc (.cells #[.int .i64 0,.int .i64 0,.int .i64 0] 54))=w':=Z1K (st:=1) (s.alloc _) ok hx hp
 unfold zobj;clear s ok hp;go_enter func112,ntmps112;go_wp2_with (go_at_call 168;refine hA.mono ?_;rintro e w' ⟨rfl,rfl⟩);refine bodyPost_ret (v:=.tuple #[.agg #[.int .i64 0,.int .i64 0,.int .i64 0],.int .i64 8]) (by simp [results,results112,go_sem]) rfl ⟨rfl,?_⟩;exact (Below.refl _ _).alloc (J2y _) _
def J0B (h:HT) (x:Nat) (p:Pl) (w:World) (r:Ending) (w':World):Prop:=r=.returned (.int .i64 0)/\Step h.hl ({h with l:=h.l.set (x%256) {p with st:=2}}:HT).hl w w'
theorem Z2O {w:World} {h:HT} (s:Sep w h.hl) (ok:LOk h.l) {x:Nat} (hx:x<4294967296) {p:Pl} (hp:pget h.l 1 x=some p) :
  Calls prog 209 #[.pointer (some ⟨h.t,0,none⟩),.int .u32 x] w (J0B h x p w):=by
 have hA:Calls prog 168 #[.pointer (some ⟨h.t,0,none⟩),.int .u32 x,.int .i64 1] w fun r w'=>r=.returned (.tuple #[.pointer (some ⟨h.t,x%256*5,none⟩),.int .i64 0])/\w=w':=Q5H (st:=1) s ok hx hp
 have hi:=(pget_some.1 hp).1;obtain⟨-,-,-,c3,-,cf⟩:=HT.cell s hi;have VY:=cf (x%256*5+3);have HS:Hid (J0B h x p w (.returned (.int .i64 0)) (w.setCell ⟨h.t,x%256*5+3,none⟩ (.int .i64 2))):=⟨rfl,HT.set s hi 3 (.int .i64 2) (by omega) (q:={p with st:=2}) rfl⟩
 clear s ok hp hi cf;generalize J0B h x p w=Q at *
 generalize x%256*5=i at *
 go_enter func209,ntmps209;go_wp2_with (go_at_call 168;refine hA.mono ?_;rintro e w' ⟨rfl,rfl⟩)
 first|exact HS.out|(go_ret;exact HS.out)
def J0C (h:HT) (x:Nat) (p:Pl) (w:World) (r:Ending) (w':World):Prop:=r=.returned (.tuple #[p.obj,.int .i64 0])/\Step h.hl ({h with l:=h.l.set (x%256) ⟨0,0,0,0,p.age+1,0⟩}:HT).hl w w'
theorem Z8o {l:List Pl} {i:Nat} {p:Pl} (hi:l[i]?=some p) (q:Pl):(((((l.flatMap Pl.cells).set (i*5+0) (.int .i64 (q.kind:Int))).set (i*5+1) (.int .i64 (q.at_:Int))).set (i*5+2) (.int .i64 (q.fac:Int))).set (i*5+3) (.int .i64 (q.st:Int))).set (i*5+4) (.int .u32 (q.age:Int))=(l.set i q).flatMap Pl.cells:=by
 have g:∀(r:Pl),(l.set i r)[i]?=some r:=fun r=>by rw [J6p (J2Q.1 hi).1]
 have e0:=Q4b hi (q:=⟨q.kind,p.at_,p.fac,p.st,p.age,q.own⟩) 0 (.int .i64 (q.kind:Int)) (by omega) rfl;have e1:=Q4b (g ⟨q.kind,p.at_,p.fac,p.st,p.age,q.own⟩) (q:=⟨q.kind,q.at_,p.fac,p.st,p.age,q.own⟩) 1 (.int .i64 (q.at_:Int)) (by omega) rfl;have e2:=Q4b (g ⟨q.kind,q.at_,p.fac,p.st,p.age,q.own⟩) (q:=⟨q.kind,q.at_,q.fac,p.st,p.age,q.own⟩) 2 (.int .i64 (q.fac:Int)) (by omega) rfl;have e3:=Q4b (g ⟨q.kind,q.at_,q.fac,p.st,p.age,q.own⟩) (q:=⟨q.kind,q.at_,q.fac,q.st,p.age,q.own⟩) 3 (.int .i64 (q.st:Int)) (by omega) rfl;have e4:=Q4b (g ⟨q.kind,q.at_,q.fac,q.st,p.age,q.own⟩) (q:=q) 4 (.int .u32 (q.age:Int)) (by omega) rfl
 rw [J5r] at e1 e2 e3 e4;rw [e0,e1,e2,e3,e4]
theorem HT.set5 {w:World} {h:HT} (s:Sep w h.hl) {i:Nat} {p:Pl} (hi:h.l[i]?=some p) (q:Pl):Step h.hl ({h with l:=h.l.set i q}:HT).hl w (((((w.setCell ⟨h.t,i*5+0,none⟩ (.int .i64 (q.kind:Int))).setCell ⟨h.t,i*5+1,none⟩ (.int .i64 (q.at_:Int))).setCell ⟨h.t,i*5+2,none⟩ (.int .i64 (q.fac:Int))).setCell ⟨h.t,i*5+3,none⟩ (.int .i64 (q.st:Int))).setCell ⟨h.t,i*5+4,none⟩ (.int .u32 (q.age:Int))):=by
 have s1:=Sep.set (A:=[]) (B:=[]) (by simpa [HT.hl] using s) (i*5+0) (.int .i64 (q.kind:Int));have s2:=Sep.set (A:=[]) (B:=[]) s1.sep (i*5+1) (.int .i64 (q.at_:Int));have s3:=Sep.set (A:=[]) (B:=[]) s2.sep (i*5+2) (.int .i64 (q.fac:Int));have s4:=Sep.set (A:=[]) (B:=[]) s3.sep (i*5+3) (.int .i64 (q.st:Int));have s5:=Sep.set (A:=[]) (B:=[]) s4.sep (i*5+4) (.int .u32 (q.age:Int));have:=(((s1.trans s2).trans s3).trans s4).trans s5;rw [Z8o hi q] at this;exact this
theorem J1D:(prog.info? 271).map (·.size)=some 5:=by kernel_rfl
theorem Z2P {w:World} {h:HT} (s:Sep w h.hl) (ok:LOk h.l) {x:Nat} (hx:x<4294967296) {p:Pl} (hp:pget h.l 2 x=some p) (D2:p.age+1<=1048575) :
  Calls prog 212 #[.pointer (some ⟨h.t,0,none⟩),.int .u32 x] w (J0C h x p w):=by
 have hi:=(pget_some.1 hp).1;have hA:Calls prog 168 #[.pointer (some ⟨h.t,0,none⟩),.int .u32 x,.int .i64 2] (w.alloc (.cells #[.int .i64 0,.int .i64 0,.int .i64 0] 54)) fun r w'=>r=.returned (.tuple #[.pointer (some ⟨h.t,x%256*5,none⟩),.int .i64 0])/\(w.alloc (.cells #[.int .i64 0,.int .i64 0,.int .i64 0] 54))=w':=Q5H (st:=2) (s.alloc _) ok hx hp
 obtain⟨c0,c1,c2,c3,c4,cf⟩:=HT.cell s hi;have f0:=cf (x%256*5);have f1:=cf (x%256*5+1);have f2:=cf (x%256*5+2);have f3:=cf (x%256*5+3);have f4:=cf (x%256*5+4);have Ab:=(HT.cells s).lt;have NT:h.t<w.heap.size+1:=by omega
 have Aa:h.t≠w.heap.size:=by omega
 have TX:h.t≠w.heap.size+1:=by omega
 have hw:IntKind.u32.wrap ((p.age:Int)+1)=(p.age:Int)+1:=by
  show ((p.age:Int)+1)%4294967296=_;omega
 have I9:decide ((1048575:Int)<(p.age:Int)+1)=false:=by rw [decide_eq_false_iff_not];omega
 have AZ:Hid (∀A B,J0C h x p w (.returned (.tuple #[.agg #[.int .i64 (p.kind:Int),.int .i64 (p.at_:Int),.int .i64 (p.fac:Int)],.int .i64 0])) (((((((w.setCell ⟨h.t,x%256*5,none⟩ (.int .i64 0)).setCell ⟨h.t,x%256*5+1,none⟩ (.int .i64 0)).setCell ⟨h.t,x%256*5+2,none⟩ (.int .i64 0)).setCell ⟨h.t,x%256*5+3,none⟩ (.int .i64 0)).setCell ⟨h.t,x%256*5+4,none⟩ (.int .u32 ((p.age:Int)+1))).alloc A).alloc B)):=fun A B=>by
  have st:=HT.set5 s hi ⟨0,0,0,0,p.age+1,0⟩;refine⟨rfl,st.trans (st.sep.grown (((Below.refl _ _).alloc (J2y _) A).alloc (by simp) B))⟩
 clear cf s ok hp hi D2;generalize J0C h x p w=Q at *
 generalize x%256*5=i at *
 go_enter func212,ntmps212;go_wp2_with (go_at_call 168;refine hA.mono ?_;rintro e w' ⟨rfl,rfl⟩);refine bodyPost_ret (v:=.tuple #[.agg #[.int .i64 (p.kind:Int),.int .i64 (p.at_:Int),.int .i64 (p.fac:Int)],.int .i64 0]) (by simp [results,results212,go_sem]) rfl ?_;exact AZ.out _ _
theorem Z5N {w:World} {h:HT} (s:Sep w h.hl) (ok:LOk h.l) {x:Nat} (hx:x<4294967296) {p:Pl} (hp:pget h.l 2 x=some p) :
  Calls prog 88 #[.pointer (some ⟨h.t,0,none⟩),.int .u32 x] w (Told w (.tuple #[p.obj,.int .i64 0])):=by
 have hi:=(pget_some.1 hp).1;have hA:Calls prog 168 #[.pointer (some ⟨h.t,0,none⟩),.int .u32 x,.int .i64 2] (w.alloc (.cells #[.int .i64 0,.int .i64 0,.int .i64 0] 54)) fun r w'=>r=.returned (.tuple #[.pointer (some ⟨h.t,x%256*5,none⟩),.int .i64 0])/\(w.alloc (.cells #[.int .i64 0,.int .i64 0,.int .i64 0] 54))=w':=Q5H (st:=2) (s.alloc _) ok hx hp
 obtain⟨c0,c1,c2,-,-,-⟩:=HT.cell s hi;have Ab:=(HT.cells s).lt;unfold Pl.obj;clear s ok hp hi;generalize x%256*5=i at *
 go_enter func88,ntmps88;go_wp2_with (go_at_call 168;refine hA.mono ?_;rintro e w' ⟨rfl,rfl⟩);refine bodyPost_ret (v:=.tuple #[.agg #[.int .i64 (p.kind:Int),.int .i64 (p.at_:Int),.int .i64 (p.fac:Int)],.int .i64 0]) (by simp [results,results88,go_sem]) rfl ⟨rfl,?_⟩;exact (Below.refl _ _).alloc (J2y _) _
theorem Z2Q {w:World} {h:HT} (s:Sep w h.hl) (ok:LOk h.l) {x:Nat} (hx:x<4294967296) (hp:pget h.l 2 x=none) :
  Calls prog 88 #[.pointer (some ⟨h.t,0,none⟩),.int .u32 x] w fun r w'=>(∃a b c e,r=.returned (.tuple #[.agg #[.int .i64 a,.int .i64 b,.int .i64 c],.int .i64 e])/\((∃p,pget h.l 1 x=some p/\.agg #[.int .i64 a,.int .i64 b,.int .i64 c]=p.obj/\e=0)∨(pget h.l 1 x=none/\.agg #[.int .i64 a,.int .i64 b,.int .i64 c]=zobj/\e=8)))/\Below w.heap.size w w':=by
 have hA:Calls prog 168 #[.pointer (some ⟨h.t,0,none⟩),.int .u32 x,.int .i64 2] (w.alloc (.cells #[.int .i64 0,.int .i64 0,.int .i64 0] 54)) fun r w'=>r=.returned (.tuple #[.pointer none,.int .i64 8])/\(w.alloc (.cells #[.int .i64 0,.int .i64 0,.int .i64 0] 54))=w':=Z1K (st:=2) (s.alloc _) ok hx hp
 have HG:Hid (Calls prog 112 #[.pointer (some ⟨h.t,0,none⟩),.int .u32 x] (w.alloc (.cells #[.int .i64 0,.int .i64 0,.int .i64 0] 54)) fun r w'=>(∃a b c e,r=.returned (.tuple #[.agg #[.int .i64 a,.int .i64 b,.int .i64 c],.int .i64 e])/\((∃p,pget h.l 1 x=some p/\.agg #[.int .i64 a,.int .i64 b,.int .i64 c]=p.obj/\e=0)∨(pget h.l 1 x=none/\.agg #[.int .i64 a,.int .i64 b,.int .i64 c]=zobj/\e=8)))/\Below w.heap.size w w'/\w'.cell? ⟨w.heap.size,0,none⟩=some (.int .i64 0)/\w'.cell? ⟨w.heap.size,1,none⟩=some (.int .i64 0)/\w'.cell? ⟨w.heap.size,2,none⟩=some (.int .i64 0)/\(∀i,w'.frozen? ⟨w.heap.size,i,none⟩=false)):=by
  have Di:∀w',Below (w.alloc (.cells #[.int .i64 0,.int .i64 0,.int .i64 0] 54)).heap.size (w.alloc (.cells #[.int .i64 0,.int .i64 0,.int .i64 0] 54)) w'->Below w.heap.size w w'/\w'.cell? ⟨w.heap.size,0,none⟩=some (.int .i64 0)/\w'.cell? ⟨w.heap.size,1,none⟩=some (.int .i64 0)/\w'.cell? ⟨w.heap.size,2,none⟩=some (.int .i64 0)/\(∀i,w'.frozen? ⟨w.heap.size,i,none⟩=false):=fun w' hb=>by
   have hc:=(Cells.new w 54 [.int .i64 0,.int .i64 0,.int .i64 0]).same (hb.block w.heap.size (by simp));refine⟨((Below.refl _ _).alloc (J2y _) _).trans ⟨hb.os,hb.tape,hb.output,hb.size,fun b hl=>hb.block b (by simp;omega)⟩,hc.cell 0 _ rfl,hc.cell 1 _ rfl,hc.cell 2 _ rfl,hc.free⟩
  cases h1:pget h.l 1 x with
  | none =>
   refine (Q8Z (s.alloc _) ok hx h1).mono ?_;rintro r w' ⟨rfl,hb⟩;exact⟨⟨_,_,_,_,rfl,.inr ⟨rfl,rfl,rfl⟩⟩,Di _ hb⟩
  | some p =>
   refine (Q4I (s.alloc _) ok hx h1).mono ?_;rintro r w' ⟨rfl,hb⟩;exact⟨⟨_,_,_,_,rfl,.inl ⟨p,rfl,rfl,rfl⟩⟩,Di _ hb⟩
 have Ab:=(HT.cells s).lt;clear s ok hp;go_enter func88,ntmps88;go_wp2_with (first|(go_at_call 168;refine hA.mono ?_;rintro e w' ⟨rfl,rfl⟩)|(go_at_call 112;refine HG.out.mono ?_;rintro r w1 ⟨⟨oa,ob,oc,oe,rfl,As⟩,hb,e0,e1,e2,ef⟩;have BZ:=Q0a As;have HB:=Q0a hb;have ef0:=ef 0;have ef1:=ef 1;have ef2:=ef 2;clear As hb ef));have HF:Hid (Below w.heap.size w (((w1.setCell ⟨w.heap.size,0,none⟩ (.int .i64 oa)).setCell ⟨w.heap.size,1,none⟩ (.int .i64 ob)).setCell ⟨w.heap.size,2,none⟩ (.int .i64 oc))):=((HB.out.setCell (J2y _) _).setCell (J2y _) _).setCell (J2y _) _;refine bodyPost_ret (v:=.tuple #[.agg #[.int .i64 oa,.int .i64 ob,.int .i64 oc],.int .i64 oe]) (by simp [results,results88,go_sem,e0,e1,e2]) rfl ⟨⟨_,_,_,_,rfl,BZ.out⟩,HF.out⟩
theorem Z2R (l:List Pl) (h:l.length=256):(l.flatMap Pl.cells).length=1280:=by rw [J0s,h]
theorem J0D:(prog.info? 300).map (·.size)=some 1280:=by kernel_rfl
theorem HT.range {w:World} {h:HT} (s:Sep w h.hl):w.rangeAt h.t 0 (h.l.flatMap Pl.cells):=fun j v hv=>by
 rw [J5e];exact (HT.cells s).cell j v hv
theorem Z2S {l:List Pl} {i:Nat} {p:Pl} (hi:l[i]?=some p):(l.flatMap Pl.cells).toArray.extract (i*5) (i*5+5)=p.cells.toArray:=by
 apply Array.ext'
 rw [Array.toList_extract]
 apply J4i
 intro j;simp only [List.extract_eq_take_drop,J5y];rw [J4D];split
 ·rename_i hj;rw [J5c];have h5:j<p.cells.length:=hj;have:=Q4a hi j p.cells[j] hj (J4R h5);rw [this,J4R h5]
 ·rw [J4p (by show 5<=j;omega)]
theorem Z8p {w:World} {l:List Pl} (hl:l.length=256) {i:Nat} {p:Pl} (hi:l[i]?=some p):(Instr.index 300 (.agg (l.flatMap Pl.cells).toArray) (.int .i64 i)).run prog w=.ok (.agg p.cells.toArray) w:=by
 have Ab:i<256:=by have:=(J2Q.1 hi).1;omega
 have e:=Z2S hi;generalize (l.flatMap Pl.cells).toArray=cs at *
 have h1:(0:Int)<=(i:Int)/\(i:Int)<((256:Nat):Int):=by omega
 have h2:(prog.info? 271).map (·.size)=some 5:=J1D;cases hq:prog.info? 271 with
 | none=>simp [hq] at h2
 | some inf =>
  have hs:inf.size=5:=by simpa [hq] using h2
  have hu:prog.underlying 300=some (.array 256 271):=underlying300;have Te:(isAgg 271).run prog w=.ok true w:=by
   unfold isAgg;rw [Sem.run_bind,run_underlying underlying271 w];rfl
  simp [Instr.index,asIntOf,Sem.run_bind,run_underlying hu w,h1,part,sizeOf,typeInfo,hq,hs,e];intro hh;omega
theorem Q8c {w:World} {h:HT} (s:Sep w h.hl) (ok:LOk h.l) (st:Nat) (Ao:st<=3) :
  Calls prog 167 #[.pointer (some ⟨h.t,0,none⟩),.int .i64 st] w (NewHs w (allL h.l st)):=by
 have HL:Hid (w.rangeAt h.t 0 (h.l.flatMap Pl.cells)):=HT.range s;have HI:Hid (∀(w':World) (i:Nat) (p:Pl),h.l[i]?=some p->(Instr.index 300 (.agg (h.l.flatMap Pl.cells).toArray) (.int .i64 i)).run prog w'=.ok (.agg p.cells.toArray) w'):=fun w' i p hp=>Z8p ok.1 hp
 go_enter func167,ntmps167;go_wp2_with (refine wpList_load_mid rfl 300 _ rfl h.t 0 rfl (h.l.flatMap Pl.cells) _ HL.out underlying300 rfl (by rw [Z2R _ ok.1];exact J0D) ?_);have CC:=Q0a ok;have HS:=Q0a s;have IU:=ok.1;clear s ok HL;generalize Bt:(h.l.flatMap Pl.cells).toArray=cs at *
 obtain⟨i0,Dv,BH,Bi,Be⟩:=info_parts Q3B
 go_loopg [5,14] 256 (fun gk ov iv wr=>∃k:Nat,iv=.int .i64 k/\k+gk=256/\OutH w wr ov (Q3O h.l st k))
 case atStart=>exact⟨0,rfl,rfl,OutH.nil w⟩
 case round =>
  obtain⟨k,rfl,AH,Au⟩:=hrel;have HO:=Q0a Au;have B6:=Q0a AH;clear Au;by_cases Ab:k<256
  ·obtain⟨p,hp⟩:∃p,h.l[k]?=some p:=⟨h.l[k]'(by omega),J4R (by omega)⟩
   have LB:=HI.out wr k p hp;have HP:=Q0a hp;have ha:Hid (p.age<=1048575):=(CC.out.2 p (J4O hp)).2;clear hp;by_cases hs:p.st=st
   ·have BP:=Q0a hs;have hb:(((p.st:Nat):Int)==(st:Int))=true:=by simp [hs]
    clear hs;unfold Pl.cells at LB;have JA:=Q4w ((HS.out.grown HO.out.2).sep.alloc (.cells #[.int .i64 (p.kind:Int),.int .i64 (p.at_:Int),.int .i64 (p.fac:Int),.int .i64 (p.st:Int),.int .u32 (p.age:Int)] 271)) HP.out Ab ha.out;have Ae:=Q1i h.l st k;have Bj:=HO.out.2.size;go_wp2_with fail;refine JA.mono ?_;rintro e w' ⟨rfl,rfl⟩;dsimp only
    iterate 4 go_step
    refine wpList_append_own _ rfl _ _ 51 rfl w.heap.size 58 i0 (.int .u32 0) 1 4 underlying51 Dv BH Bi Be rfl (by decide) _ _ _ rfl ((HO.out.1.alloc _).alloc _) ⟨wr.heap.size+1,0,none⟩ 1 1 [.int .u32 ((nm k p:Nat):Int)] rfl rfl (Q7k _ _ _) (by simp [Value.oneCell']) (by unfold maxLen;omega) (by omega) (by simp;omega) ?_;intro v' w1 AT BY _;have HR:Hid (OutH w w1 v' (Q3O h.l st (k+1))):=by
     have e:=Q3s HP.out st;rw [if_pos BP.out] at e;rw [e];exact HO.out.app2 (M:=[nm k p]) AT BY
    clear AT BY HO Bj Ae;go_wp2_with fail;go_roundg (256-(k+1))
    case measure=>have:=B6.out;omega
    case rel=>exact⟨k+1,by go_num,by omega,HR.out⟩
   ·have BP:=Q0a hs;have hb:=Q4H hs;clear hs;unfold Pl.cells at LB;have HR:Hid (∀o,OutH w (wr.alloc o) u5 (Q3O h.l st (k+1))):=fun o=>by
     have e:=Q3s HP.out st;rw [if_neg BP.out,J4G] at e;rw [e];exact HO.out.alloc o
    go_wp2_with fail;go_roundg (256-(k+1))
    case measure=>have:=B6.out;omega
    case rel=>exact⟨k+1,by go_num,by omega,HR.out _⟩
  ·have e:Q3O h.l st k=allL h.l st:=by
    have:k=256:=by omega
    unfold allL;rw [this,IU]
   rw [e] at HO;have HR:Hid (NewHs w (allL h.l st) (.returned u5) wr):=⟨u5,rfl,HO.out.1,HO.out.2⟩
   go_wp2_with fail;go_ret;exact HR.out
theorem Q9a {w:World} {h:HT} (s:Sep w h.hl) (ok:LOk h.l):Calls prog 86 #[.pointer (some ⟨h.t,0,none⟩)] w (NewHs w (allL h.l 1)):=by
 have hA:Calls prog 167 #[.pointer (some ⟨h.t,0,none⟩),.int .i64 1] w (NewHs w (allL h.l 1)):=Q8c s ok 1 (by omega);clear s ok;go_enter func86,ntmps86;go_wp2_with (go_at_call 167;refine hA.mono ?_;rintro e w' ⟨v,rfl,h1,h2⟩)
 first|exact⟨v,rfl,h1,h2⟩|(go_ret;exact⟨v,rfl,h1,h2⟩)
theorem Q9b {w:World} {h:HT} (s:Sep w h.hl) (ok:LOk h.l):Calls prog 87 #[.pointer (some ⟨h.t,0,none⟩)] w (NewHs w (allL h.l 2)):=by
 have hA:Calls prog 167 #[.pointer (some ⟨h.t,0,none⟩),.int .i64 2] w (NewHs w (allL h.l 2)):=Q8c s ok 2 (by omega);clear s ok;go_enter func87,ntmps87;go_wp2_with (go_at_call 167;refine hA.mono ?_;rintro e w' ⟨v,rfl,h1,h2⟩)
 first|exact⟨v,rfl,h1,h2⟩|(go_ret;exact⟨v,rfl,h1,h2⟩)
theorem Q6l {w:World} {h:HT} (s:Sep w h.hl) (ok:LOk h.l):Calls prog 204 #[.pointer (some ⟨h.t,0,none⟩)] w (Told w (.int .i64 ((allL h.l 0).length:Nat))):=by
 have hA:Calls prog 167 #[.pointer (some ⟨h.t,0,none⟩),.int .i64 0] w (NewHs w (allL h.l 0)):=Q8c s ok 0 (by omega);clear s ok;generalize allL h.l 0=L at *
 go_enter func204,ntmps204;go_wp2_with (go_at_call 167;refine hA.mono ?_;intro e w' hx;obtain⟨a,cap,rfl,hb,-⟩:=hx.shape;have HB:=Q0a hb;clear hx hb)
 first|exact⟨rfl,HB.out⟩|(go_ret;exact⟨rfl,HB.out⟩)
theorem empty_iff {l:List Pl}:allL l 0=[]↔∀p∈l,p.st≠0:=by
 constructor
 ·intro h p hp hs;obtain⟨i,hi⟩:=J5o.1 hp;have Ab:=(J2Q.1 hi).1;have:nm i p∈allL l 0:=mem_allTo.2 ⟨i,p,Ab,hi,hs,rfl⟩;rw [h] at this;cases this
 ·intro h;cases hc:allL l 0 with
  | nil=>rfl
  | cons x r =>
   exfalso;have:x∈allL l 0:=by rw [hc];simp
   obtain⟨i,p,_,hi,hs,_⟩:=mem_allTo.1 this;exact h p (J4O hi) hs
def Fst (l:List Pl) (i:Nat) (p:Pl):Prop:=l[i]?=some p/\p.st=0/\∀j q,j<i->l[j]?=some q->q.st≠0
theorem Z8q (l:List Pl):(∀p∈l,p.st≠0)∨∃i p,Fst l i p:=by
 induction l with
 | nil=>left;simp
 | cons x r ih =>
  by_cases hx:x.st=0
  ·right;exact⟨0,x,rfl,hx,fun j q hj=>absurd hj (J6c _)⟩
  ·rcases ih with h|⟨i,p,h1,h2,h3⟩
   ·left;intro p hp;rcases J2D.1 hp with rfl|hp
    ·exact hx
    ·exact h p hp
   ·right;refine⟨i+1,p,h1,h2,fun j q hj hq=>?_⟩;cases j with
    | zero=>cases hq;exact hx
    | succ j=>exact h3 j q (by omega) hq
theorem Z5O {w:World} (p:Pl):Calls prog 201 #[.agg p.cells.toArray] w (Told w (.bool (((p.st:Nat):Int)==0))):=by
 have hc:=Cells.new w 271 p.cells;have c3:(w.alloc (.cells p.cells.toArray 271)).cell? ⟨w.heap.size,3,none⟩=some (.int .i64 (p.st:Int)):=hc.cell 3 _ rfl;unfold Pl.cells at *
 clear hc;go_enter func201,ntmps201
 go_wp2
 go_ret;exact⟨rfl,(Below.refl _ _).alloc (J2y _) _⟩
def FstI (l:List Pl) (z:Int):Prop:=(z = -1/\∀p∈l,p.st≠0)∨∃(i:Nat) (p:Pl),z=(i:Int)/\Fst l i p
theorem Z2T {w:World} {h:HT} (s:Sep w h.hl) (ok:LOk h.l):Calls prog 200 #[.slice (some ⟨h.t,0,none⟩) 256 256,.func (.func 201) #[] #[]] w fun r w'=>(∃z,r=.returned (.int .i64 z)/\FstI h.l z)/\Below w.heap.size w w':=by
 have IU:=ok.1;have HS:=Q0a s;clear s ok;go_enter func200,ntmps200;go_wp2_with fail
 go_loopg [5,8] 256 (fun gk _ iv wr=>∃k:Nat,iv=.int .i64 k/\k+gk=256/\(∀j q,j<k->h.l[j]?=some q->q.st≠0)/\Below w.heap.size w wr)
 case atStart=>exact⟨0,rfl,rfl,fun j q hj=>absurd hj (J6c _),Below.refl _ _⟩
 case round =>
  obtain⟨k,rfl,AH,A3,hb⟩:=hrel;have B6:=Q0a AH;have G2:=Q0a A3;have HB:=Q0a hb;clear A3;by_cases Ab:k<256
  ·obtain⟨p,hp⟩:∃p,h.l[k]?=some p:=⟨h.l[k]'(by omega),J4R (by omega)⟩
   obtain⟨c0,c1,c2,c3,c4,-⟩:=HT.cell ((HS.out.grown hb).sep) hp;have HP:=Q0a hp;have By:Calls prog 201 #[.agg #[.int .i64 (p.kind:Int),.int .i64 (p.at_:Int),.int .i64 (p.fac:Int),.int .i64 (p.st:Int),.int .u32 (p.age:Int)]] wr (Told wr (.bool (((p.st:Nat):Int)==0))):=Z5O p;clear hp hb;by_cases hs:p.st=0
   ·have BP:=Q0a hs;have Ml:(((p.st:Nat):Int)==0)=true:=by simp [hs]
    rw [Ml] at By;clear hs Ml;go_wp2_with (go_at_call 201;refine By.mono ?_;rintro e w1 ⟨rfl,Av⟩;have B4:=Q0a Av;clear Av);have HR:Hid ((∃z,Ending.returned (.int .i64 k)=.returned (.int .i64 z)/\FstI h.l z)/\Below w.heap.size w w1):=⟨⟨_,rfl,.inr ⟨k,p,rfl,HP.out,BP.out,G2.out⟩⟩,HB.out.trans (B4.out.mono HB.out.size)⟩
    first|exact HR.out|(go_ret;exact HR.out)
   ·have BP:=Q0a hs;have Ml:(((p.st:Nat):Int)==0)=false:=by simp;omega
    rw [Ml] at By;clear hs Ml;go_wp2_with (go_at_call 201;refine By.mono ?_;rintro e w1 ⟨rfl,Av⟩;have B4:=Q0a Av;clear Av);go_roundg (256-(k+1))
    case measure=>have:=B6.out;omega
    case rel =>
     refine⟨k+1,by go_num,by omega,fun j q hj hq=>?_,HB.out.trans (B4.out.mono HB.out.size)⟩;by_cases e:j=k
     ·subst e;have:=HP.out;rw [this] at hq;cases hq;exact BP.out
     ·exact G2.out j q (by omega) hq
  ·have HR:Hid ((∃z,Ending.returned (.int .i64 (-1))=.returned (.int .i64 z)/\FstI h.l z)/\Below w.heap.size w wr):=⟨⟨_,rfl,.inl ⟨rfl,fun p hp=>by
    obtain⟨i,hi⟩:=J5o.1 hp;have:=(J2Q.1 hi).1;exact G2.out i p (by omega) hi⟩⟩,HB.out⟩
   go_wp2_with fail
   first|exact HR.out|(go_ret;exact HR.out)
def PutT (h:HT) (q:Pl) (i:Nat) (w:World) (r:Ending) (w':World):Prop:=r=.returned (.tuple #[.int .u32 ((nm i q:Nat):Int),.int .i64 0])/\Step h.hl ({h with l:=h.l.set i q}:HT).hl w w'
theorem Z5P {w:World} {h:HT} (s:Sep w h.hl) (ok:LOk h.l) {i:Nat} {p:Pl} (hf:Fst h.l i p) (k a f x:Nat):Calls prog 149 #[.pointer (some ⟨h.t,0,none⟩),.agg #[.int .i64 k,.int .i64 a,.int .i64 f]] w (PutT h ⟨k,a,f,1,p.age,x⟩ i w):=by
 have Am:i<256:=by have:=(J2Q.1 hf.1).1;have:=ok.1;omega
 have D2:=(ok.2 p (J4O hf.1)).2;have Lv:Calls prog 200 #[.slice (some ⟨h.t,0,none⟩) 256 256,.func (.func 201) #[] #[]] (w.alloc (.cells #[.int .i64 k,.int .i64 a,.int .i64 f] 54)) fun r w'=>r=.returned (.int .i64 i)/\w'.cell? ⟨w.heap.size,0,none⟩=some (.int .i64 k)/\w'.cell? ⟨w.heap.size,1,none⟩=some (.int .i64 a)/\w'.cell? ⟨w.heap.size,2,none⟩=some (.int .i64 f) /\
   (∃v,w'.cell? ⟨h.t,i*5,none⟩=some v)/\(∃v,w'.cell? ⟨h.t,i*5+1,none⟩=some v)/\(∃v,w'.cell? ⟨h.t,i*5+2,none⟩=some v)/\(∃v,w'.cell? ⟨h.t,i*5+3,none⟩=some v)/\(∀j,w'.frozen? ⟨h.t,j,none⟩=false) /\
   Calls prog 202 #[.pointer (some ⟨h.t,0,none⟩),.int .i64 i] ((((w'.setCell ⟨h.t,i*5,none⟩ (.int .i64 k)).setCell ⟨h.t,i*5+1,none⟩ (.int .i64 a)).setCell ⟨h.t,i*5+2,none⟩ (.int .i64 f)).setCell ⟨h.t,i*5+3,none⟩ (.int .i64 1)).drew
    fun r w2=>r=.returned (.int .u32 ((nm i p:Nat):Int))/\PutT h ⟨k,a,f,1,p.age,x⟩ i w (.returned (.tuple #[.int .u32 ((nm i p:Nat):Int),.int .i64 0])) w2:=by
  refine (Z2T (s.alloc _) ok).mono ?_;rintro r w' ⟨⟨z,rfl,hz⟩,hb⟩;have Di:Below w.heap.size w w':=((Below.refl _ _).alloc (J2y _) _).trans (hb.mono (by simp));have s1:=s.grown Di;have hc:=(Cells.new w 54 [.int .i64 k,.int .i64 a,.int .i64 f]).same (hb.block w.heap.size (by simp));obtain⟨c0,c1,c2,c3,c4,cf⟩:=HT.cell s1.sep hf.1;have Ty:z=(i:Int):=by
   rcases hz with ⟨_,h0⟩|⟨j,q,rfl,h1,h2,h3⟩
   ·exact absurd hf.2.1 (h0 p (J4O hf.1))
   ·rcases J5B i j with e|e|e
    ·exact absurd hf.2.1 (h3 i p e hf.1)
    ·rw [e]
    ·exact absurd h2 (hf.2.2 j q e h1)
  refine⟨by rw [Ty],hc.cell 0 _ rfl,hc.cell 1 _ rfl,hc.cell 2 _ rfl,⟨_,c0⟩,⟨_,c1⟩,⟨_,c2⟩,⟨_,c3⟩,cf,?_⟩;have g:∀(r:Pl),(h.l.set i r)[i]?=some r:=fun r=>by rw [J6p (J2Q.1 hf.1).1]
  have t0:Step h.hl (⟨h.t,h.l.set i ⟨k,p.at_,p.fac,p.st,p.age,x⟩⟩:HT).hl w' _:=HT.set s1.sep hf.1 0 (.int .i64 k) (by omega) (q:=⟨k,p.at_,p.fac,p.st,p.age,x⟩) rfl;have t1:=HT.set (h:=⟨h.t,h.l.set i ⟨k,p.at_,p.fac,p.st,p.age,x⟩⟩) t0.sep (g _) 1 (.int .i64 a) (by omega) (q:=⟨k,a,p.fac,p.st,p.age,x⟩) rfl;simp only [J5r] at t1;have t2:=HT.set (h:=⟨h.t,h.l.set i ⟨k,a,p.fac,p.st,p.age,x⟩⟩) t1.sep (g _) 2 (.int .i64 f) (by omega) (q:=⟨k,a,f,p.st,p.age,x⟩) rfl;simp only [J5r] at t2;have t3:=HT.set (h:=⟨h.t,h.l.set i ⟨k,a,f,p.st,p.age,x⟩⟩) t2.sep (g _) 3 (.int .i64 1) (by omega) (q:=⟨k,a,f,1,p.age,x⟩) rfl
  simp only [J5r] at t3;have tt:=(s1.trans (((t0.trans t1).trans t2).trans t3)).drew;have hn:=Q4w (h:=⟨h.t,h.l.set i ⟨k,a,f,1,p.age,x⟩⟩) tt.sep (g _) Am (by exact D2);refine hn.mono ?_;rintro r w2 ⟨rfl,rfl⟩;exact⟨rfl,rfl,tt⟩
 have Aa:h.t≠w.heap.size:=by have:=(HT.cells s).lt;omega
 have Br:w.heap.size≠h.t:=fun e=>Aa e.symm
 have hw:IntKind.i64.wrap (i:Int)=(i:Int):=Go.IntWalk.i64_in _ (by omega);clear s ok hf D2;generalize PutT h ⟨k,a,f,1,p.age,x⟩ i w=Q at *
 generalize nm i p=n at *
 go_enter func149,ntmps149;go_wp2_with (go_at_call 200;refine Lv.mono ?_;rintro e w1 ⟨rfl,o0,o1,o2,⟨v0,c0⟩,⟨v1,c1⟩,⟨v2,c2⟩,⟨v3,c3⟩,cf,IX⟩;have f0:=cf (i*5);have f1:=cf (i*5+1);have f2:=cf (i*5+2);have f3:=cf (i*5+3);have HN:=Q0a IX;clear IX cf);go_region;go_wp2_with fail;refine HN.out.mono ?_;rintro r w2 ⟨rfl,hq⟩;go_wp2_with fail
 first|exact hq|(go_ret2;exact hq)
theorem Z2U (ts:List (Nat×Nat)):(Q1j ts).length=ts.length*2:=by
 induction ts with
 | nil=>rfl
 | cons x r ih=>unfold Q1j at *;rw [J2W,J3j,ih];simp;omega
theorem Z2V (a b:List (Nat×Nat)):Q1j (a++b)=Q1j a++Q1j b:=by unfold Q1j;rw [J3h]
theorem Z5Q:(prog.info? 331).map (fun i=>(i.zero,i.size,i.bytes))=some (some (.agg #[.int .i64 0,.int .i64 0]),2,16):=by kernel_rfl
def J0E (g per now:Nat) (rv:OV) (ts:List (Nat×Nat)) (x:Nat) (w:World) (r:Ending) (w':World):Prop:=∃rv',r=.returned (.int .i64 ((ts.length+1:Nat):Int))/\ovOk rv' (ts.length+1)/\Step (qhl g per now rv ts) (qhl g per now rv' (ts++[(x,now+per)])) w w'
theorem Z5R {w:World} {g per now:Nat} {rv:OV} {ts:List (Nat×Nat)} (h:Sep w (qhl g per now rv ts)) (Bh:ovOk rv ts.length) (hl:ts.length<=256) (x:Nat) :
  ∃rv' w',(Builtin.append_ #[303,303] 303 #[ovOf rv ts.length,.slice (some ⟨w.heap.size,0,none⟩) 1 1]).run prog (w.drew.alloc (.cells #[.int .i64 x,.int .i64 ((now+per:Nat):Int)] 331))=.ok (ovOf rv' (ts.length+1)) w' /\
   w'.cell? ⟨g,0,none⟩=some (.int .i64 per)/\w'.cell? ⟨g,1,none⟩=some (.int .i64 now)/\w'.cell? ⟨g,2,none⟩=some (ovOf rv ts.length)/\(∀i,w'.frozen? ⟨g,i,none⟩=false) /\
   (w'.setCell ⟨g,2,none⟩ (ovOf rv' (ts.length+1))).cell? ⟨g,2,none⟩=some (ovOf rv' (ts.length+1)) /\
   ovOk rv' (ts.length+1)/\J0E g per now rv ts x w (.returned (.int .i64 ((ts.length+1:Nat):Int))) (w'.setCell ⟨g,2,none⟩ (ovOf rv' (ts.length+1))):=by
 obtain⟨i0,hi,BH,Bi,Be⟩:=info_parts Z5Q;have h1:Sep (w.drew.alloc (.cells #[.int .i64 x,.int .i64 ((now+per:Nat):Int)] 331)) (ovH rv 331 2 (Q1j ts)++[(g,isC 305 [.int .i64 per,.int .i64 now,ovOf rv ts.length])]):=by
  refine Sep.perm (h.drew.alloc _) ?_;unfold qhl;exact (J6g _ _).symm
 have Fv:Src prog 2 303 (.slice (some ⟨w.heap.size,0,none⟩) 1 1) 1 [.int .i64 x,.int .i64 ((now+per:Nat):Int)] (w.drew.alloc (.cells #[.int .i64 x,.int .i64 ((now+per:Nat):Int)] 331)):=by
  refine Src.ofSlice _ underlying303 ⟨w.heap.size,0,none⟩ 1 1 _ rfl ?_ ?_
  ·intro j u hj;have:=(Cells.new w.drew 331 [.int .i64 x,.int .i64 ((now+per:Nat):Int)]).cell j u hj;rw [addp,J5e];exact this
  ·intro u hu;simp only [J2D,J2V,or_false] at hu;rcases hu with rfl|rfl <;> rfl
 obtain⟨rv',w',hr,Dg,st⟩:=Z5i (P:=prog) (B:=[(g,isC 305 [.int .i64 per,.int .i64 now,ovOf rv ts.length])]) h1 Bh (Z2U ts) i0 (.agg #[.int .i64 0,.int .i64 0]) 16 underlying303 hi BH Bi Be rfl _ Fv (by omega) (by omega) (by omega);have hc:=st.sep.cells (b:=g) (T:=305) (cs:=[.int .i64 per,.int .i64 now,ovOf rv ts.length]) (by simp);have s2:=Sep.set (A:=ovH rv' 331 2 (Q1j ts++[.int .i64 x,.int .i64 ((now+per:Nat):Int)])) (B:=[]) st.sep 2 (ovOf rv' (ts.length+1));refine⟨rv',w',hr,hc.cell 0 _ rfl,hc.cell 1 _ rfl,hc.cell 2 _ rfl,hc.free,(hc.set 2 _).cell 2 _ rfl,Dg,rv',rfl,Dg,?_⟩;have st':Step (qhl g per now rv ts) _ w _:=((st.trans s2).from_alloc.from_drew).perm (by unfold qhl;exact J6g _ _) (J5T _)
 refine st'.perm (J5T _) ?_;unfold qhl;rw [Z2V,J3j];exact J6g _ _
theorem Z8r {w:World} {g per now:Nat} {rv:OV} {ts:List (Nat×Nat)} (h:Sep w (qhl g per now rv ts)) (Bh:ovOk rv ts.length) (hl:ts.length<=256) (Od:per<=16) (EA:now<=1048576) {gb x:Nat} (hx:w.cell? ⟨gb,0,none⟩=some (.int .i64 x)) :
  Calls prog 210 #[.pointer (some ⟨g,0,none⟩),.slice (some ⟨gb,0,none⟩) 1 1] w (J0E g per now rv ts x w):=by
 have hc:Cells w g 305 [.int .i64 per,.int .i64 now,ovOf rv ts.length]:=h.cells (by simp [qhl]);have c0:=hc.cell 0 _ rfl;have c1:=hc.cell 1 _ rfl;have c2:=hc.cell 2 _ rfl;have f2:=hc.free 2;have Ab:=hc.lt;obtain⟨rv',w',hr,d0,d1,d2,df,e2,Dg,hq⟩:=Z5R h Bh hl x;obtain⟨g',off',B9,rfl⟩:∃g' off' B9,rv'=some (g',off',B9):=by
  cases rv' with
  | none=>exact absurd Dg (Nat.succ_ne_zero _)
  | some q=>exact⟨q.1,q.2.1,q.2.2,rfl⟩
 rw [show ovOf (some (g',off',B9)) (ts.length+1)=.slice (some ⟨g',off',none⟩) (ts.length+1) B9 from rfl] at hr e2 hq;rw [Int.natCast_add] at hr hq;have HR:=Q0a hr;have HQ:=Q0a hq;have df2:=df 2;have hw:IntKind.i64.wrap ((now:Int)+(per:Int))=(now:Int)+(per:Int):=Go.IntWalk.i64_in _ (by omega);have EP:wrap64 ((now:Int)+(per:Int))=(now:Int)+(per:Int):=Go.IntWalk.wrap64_in _ (by omega);generalize J0E g per now rv ts x w=Q at *
 generalize ovOf rv ts.length=v0 at *
 generalize ts.length=n at *
 clear h Bh hc hr hq df Dg;go_enter func210,ntmps210;go_wp2_with fail
 go_loopg [6,11] 2 (fun gk _ iv wr=>(iv=.int .i64 0/\gk=2/\wr=w)∨(iv=.int .i64 1/\gk=1/\wr=w'.setCell ⟨g,2,none⟩ (.slice (some ⟨g',off',none⟩) (n+1) B9)))
 case atStart=>exact .inl ⟨rfl,rfl,rfl⟩
 case round =>
  rcases hrel with ⟨rfl,rfl,rfl⟩|⟨rfl,rfl,rfl⟩
  ·go_wp2_with fail
   go_region_law (refine Q0F rfl _ _ 303 303 rfl _ _ (by simp [Act.eval]) (by simp [Act.eval]) HR.out ?_)
   all_goals
    go_wp2_with fail;go_roundg 1
    case measure=>omega
    case rel=>exact .inr ⟨by go_num,rfl,rfl⟩
  ·go_wp2_with fail
   first|exact HQ.out|(go_ret;exact HQ.out)
def NewG (per:Nat) (H:HL) (w:World) (r:Ending) (w':World):Prop:=∃g,r=.returned (.pointer (some ⟨g,0,none⟩))/\Step H (qhl g per 0 none []++H) w w'
theorem Z8s {w:World} {H:HL} (h:Sep w H) (per:Nat) (h1:1<=per) (h2:per<=16):Calls prog 148 #[.int .i64 per] w (NewG per H w):=by
 have HR:Hid (NewG per H w (.returned (.pointer (some ⟨w.heap.size,0,none⟩))) (w.alloc (.cells #[.int .i64 per,.int .i64 0,.slice none 0 0] 305))):=⟨_,rfl,h.new 305 [.int .i64 per,.int .i64 0,.slice none 0 0]⟩
 have Gr:decide ((per:Int)<1)=false:=by rw [decide_eq_false_iff_not];omega
 have Gm:decide ((16:Int)<(per:Int))=false:=by rw [decide_eq_false_iff_not];omega
 have AY:(1:Int)<=(per:Int):=by omega
 have A4:(per:Int)<=16:=by omega
 clear h;go_enter func148,ntmps148;go_wp2_with fail
 first|exact HR.out|(go_ret;exact HR.out)
theorem Q9c {w:World} {q:QT} (h:Sep w q.hl) (ok:q.Ok) {id:Int} {e:En Fa} (hf:find q.E id=some e) (limit:Int) (h0:0<=limit) (hq:e.q.limit-(e.q.charged+e.q.given)<limit) :
  Calls prog 14 #[ptr q.t,.int .i64 id,.int .i64 limit] w (Told w (.tuple #[.int .i64 0,.int .i64 5])):=by
 have k1:=Q1B h hf;obtain⟨a1,a2,a3,a4,_⟩:=ok.fa id e hf;have k2:=Q3a (QT.fac h hf) a1 a2 a3 a4 limit;have hd:decide (limit<=e.q.limit-(e.q.charged+e.q.given))=false:=by rw [decide_eq_false_iff_not];omega
 rw [hd] at k2;clear h hf ok hd hq;unfold ptr at *
 go_enter func14,ntmps14;go_wp2_with (first|(go_at_call 66;refine k1.mono ?_;rintro e w' ⟨rfl,rfl⟩)|(go_at_call 67;refine k2.mono ?_;rintro e w1 ⟨rfl,hb⟩;have HB:=Q0a hb;clear hb));go_ret2;exact⟨rfl,HB.out⟩
theorem Z2W {P:Program} {w:World} {m:Nat} {kv:List (Value×Value)} (h:MapIs w m kv) {t k e:TypeId} (ht:P.underlying t=some (.map k e)) (ty:TypeId):(Builtin.len_ #[t] ty #[.map (some m)]).run P w=.ok (.int .i64 ((kv.length:Nat):Int)) w:=by
 obtain⟨es,Af,ho,_,hr⟩:=h;have:kv.length=es.size:=by rw [<- hr];simp
 rw [this];simp [Builtin.len_,run_underlying ht,MapKept.run_getObj_map ho,goInt,Result.andThen]
theorem QT.len {w:World} {q:QT} (h:Sep w q.hl) (ty:TypeId):(Builtin.len_ #[148] ty #[.map (some q.m)]).run prog w=.ok (.int .i64 ((q.E.length:Nat):Int)) w:=by
 have:=Z2W (QT.map h) underlying148 ty
 simpa [kvs] using this
theorem Z0A {w:World} {q:QT} (h:Sep w q.hl) (ok:q.Ok) {id:Int} {e:En Fa} (hf:find q.E id=some e) (limit:Int) (h0:0<=limit) (hq:limit<=e.q.limit-(e.q.charged+e.q.given)) (hl:q.E.length=32) :
  Calls prog 14 #[ptr q.t,.int .i64 id,.int .i64 limit] w (Told w (.tuple #[.int .i64 0,.int .i64 11])):=by
 have k1:=Q1B h hf;obtain⟨a1,a2,a3,a4,_⟩:=ok.fa id e hf;have k2:=Q3a (QT.fac h hf) a1 a2 a3 a4 limit;have hd:decide (limit<=e.q.limit-(e.q.charged+e.q.given))=true:=by rw [decide_eq_true_eq];exact hq
 rw [hd] at k2;have HN:Hid (∀w1,Below w.heap.size w w1->w1.cell? ⟨q.t,0,none⟩=some (.map (some q.m))/\∀ty,(Builtin.len_ #[148] ty #[.map (some q.m)]).run prog w1=.ok (.int .i64 32) w1):=fun w1 hb=>by
  have s1:=(h.grown hb).sep;refine⟨QT.c0 s1,fun ty=>?_⟩;have:=QT.len s1 ty;rw [hl] at this;exact this
 clear h hf ok hd hq hl;unfold ptr at *
 go_enter func14,ntmps14;go_wp2_with (first|(go_at_call 66;refine k1.mono ?_;rintro e w' ⟨rfl,rfl⟩)|(go_at_call 67;refine k2.mono ?_;rintro e w1 ⟨rfl,hb⟩;obtain⟨d0,dl⟩:=HN.out w1 hb;have HB:=Q0a hb;clear hb));go_ret2;exact⟨rfl,HB.out⟩
theorem Z5S {w:World} {q:QT} (h:Sep w q.hl) (ok:q.Ok) {id:Int} {e:En Fa} (hf:find q.E id=some e) (limit:Int) (h0:0<=limit) (hq:limit<=e.q.limit-(e.q.charged+e.q.given)) (hl:q.E.length≠32) (hn:q.next+1<1048576) :
  Calls prog 14 #[ptr q.t,.int .i64 id,.int .i64 limit] w (Z0r w q id e limit):=by
 have k1:=Q1B h hf;obtain⟨a1,a2,a3,a4,a5,a6,_⟩:=ok.fa id e hf;have k2:=Q3a (QT.fac h hf) a1 a2 a3 a4 limit;have hd:decide (limit<=e.q.limit-(e.q.charged+e.q.given))=true:=by rw [decide_eq_true_eq];exact hq
 rw [hd] at k2;have CQ:=ok.next0;have HN:Hid (∀w1,Below w.heap.size w w1->w1.cell? ⟨q.t,0,none⟩=some (.map (some q.m))/\w1.cell? ⟨q.t,1,none⟩=some (.int .i64 q.next)/\w1.frozen? ⟨q.t,1,none⟩=false/\(∀ty,(Builtin.len_ #[148] ty #[.map (some q.m)]).run prog w1=.ok (.int .i64 ((q.E.length:Nat):Int)) w1) /\
   Q0z ((w1.setCell ⟨q.t,1,none⟩ (.int .i64 (q.next+1))).alloc (.cells #[.int .i64 limit,.int .i64 0,.int .i64 0,.int .i64 id,.int .i64 0] 147)) q.m (kvs q.E) /\
   ∀w4,Q0z w4 q.m (put (kvs q.E) q.next (.pointer (some ⟨w1.heap.size,0,none⟩)))->((w1.setCell ⟨q.t,1,none⟩ (.int .i64 (q.next+1))).alloc (.cells #[.int .i64 limit,.int .i64 0,.int .i64 0,.int .i64 id,.int .i64 0] 147)).grownBy w4 (some q.m) ->
    w4.cell? ⟨e.b,2,none⟩=some (.int .i64 e.q.given)/\w4.cell? ⟨e.b,4,none⟩=some (.int .i64 e.q.kids)/\(∀i,w4.frozen? ⟨e.b,i,none⟩=false) /\
    Z0r w q id e limit (.returned (.tuple #[.int .i64 q.next,.int .i64 0])) ((w4.setCell ⟨e.b,2,none⟩ (.int .i64 (e.q.given+limit))).setCell ⟨e.b,4,none⟩ (.int .i64 (e.q.kids+1)))):=fun w1 hb=>by
  have s1:=h.grown hb;have hm:Q0z (w1.setCell ⟨q.t,1,none⟩ (.int .i64 (q.next+1))) q.m (kvs q.E):=(QT.map s1.sep).set _ _;refine⟨QT.c0 s1.sep,QT.c1 s1.sep,(s1.sep.cells (T:=150) (cs:=[.map (some q.m),.int .i64 q.next]) (by simp [QT.hl])).free 1,QT.len s1.sep,hm.alloc _,fun w4 hm4 hg=>?_⟩;obtain⟨c1,c2,c3,st⟩:=QT.carve s1.sep ok hf limit w4 hm4 hg;exact⟨c1,c2,c3,rfl,_,s1.trans st⟩
 have hw:IntKind.i64.wrap (q.next+1)=q.next+1:=Go.IntWalk.i64_in _ (by omega);have EP:IntKind.i64.wrap (e.q.given+limit)=e.q.given+limit:=Go.IntWalk.i64_in _ (by omega);have Hq:IntKind.i64.wrap (e.q.kids+1)=e.q.kids+1:=Go.IntWalk.i64_in _ (by have:=ok.next1;omega);have Ti:(((q.E.length:Nat):Int)==32)=false:=by simp;omega
 generalize hQ:Z0r w q id e limit=Q at *
 clear h hf ok hd hq hl hn hQ;unfold ptr at *
 generalize ((q.E.length:Nat):Int)=n32 at *
 go_enter func14,ntmps14;go_wp2_with (first|(go_at_call 66;refine k1.mono ?_;rintro e w' ⟨rfl,rfl⟩)|(go_at_call 67;refine k2.mono ?_;rintro e w1 ⟨rfl,hb⟩;obtain⟨d0,d1,df,dl,hm,AK⟩:=HN.out w1 hb;have HM:=Q0a hm;have HF:=Q0a AK;clear hb hm AK HN)|(refine Q1P _ rfl _ _ _ 148 3 140 rfl underlying148 underlying3 q.m (kvs q.E) HM.out q.next (.pointer (some ⟨w1.heap.size,0,none⟩)) rfl rfl rfl ?_;intro w4 Dm C3;obtain⟨e2,e4,ef,Rt⟩:=HF.out w4 Dm C3;have ef2:=ef 2;have ef4:=ef 4;have MG:=Q0a Rt;clear Dm C3 ef Rt))
 first|exact MG.out|(go_ret2;exact MG.out)
theorem Z5T {w:World} {q:QT} (h:Sep w q.hl) (ok:q.Ok) {id:Int} {e c:En Fa} (hc:find q.E id=some c) (hid:id≠0) (h1:c.q.charged=0) (h2:c.q.given=0) (h3:c.q.kids=0) (he:find q.E c.q.parent=some e) (hg:c.q.limit<=e.q.given) (hl:0<=c.q.limit) :
  Calls prog 213 #[ptr q.t,.int .i64 id] w (Z5A w q c.q.parent e c id):=by
 have k1:=Q1B h hc;obtain⟨a1,a2,a3,a4,_⟩:=ok.fa id c hc;obtain⟨b1,b2,b3,b4,b5,b6,_⟩:=ok.fa _ e he;have CP:=ok.next1;have k2:=Q7Q (QT.fac h hc) a1 a2 (by omega);rw [h1,h2] at k2;have HN:Hid (∀w1,Below w.heap.size w w1->w1.cell? ⟨q.t,0,none⟩=some (.map (some q.m))/\w1.cell? ⟨c.b,0,none⟩=some (.int .i64 c.q.limit)/\w1.cell? ⟨c.b,3,none⟩=some (.int .i64 c.q.parent)/\w1.cell? ⟨c.b,4,none⟩=some (.int .i64 0) /\
   ∀m,(Instr.lookup 148 (.map (some q.m)) (.int .i64 c.q.parent) false).run prog (w1.drewN m)=.ok (.pointer (some ⟨e.b,0,none⟩)) (w1.drewN m)):=fun w1 hb=>by
  have s1:=(h.grown hb).sep;have k:=QT.fac s1 hc;have QE:=k.cell 4 _ rfl;rw [h3] at QE;exact⟨QT.c0 s1,k.cell 0 _ rfl,k.cell 3 _ rfl,QE,fun m=>QT.look_some (s1.drewN m) he⟩
 have HM:Hid (∀w1 m,Below w.heap.size w w1->(w1.drewN m).cell? ⟨q.t,0,none⟩=some (.map (some q.m))/\(w1.drewN m).cell? ⟨c.b,0,none⟩=some (.int .i64 c.q.limit)/\(w1.drewN m).cell? ⟨e.b,2,none⟩=some (.int .i64 e.q.given)/\(w1.drewN m).cell? ⟨e.b,4,none⟩=some (.int .i64 e.q.kids)/\(∀i,(w1.drewN m).frozen? ⟨e.b,i,none⟩=false)/\(w1.drewN m).heap.size=w1.heap.size):=fun w1 m hb=>by
  have s1:=((h.grown hb).sep).drewN m;have k:=QT.fac s1 hc;have k':=QT.fac s1 he;exact⟨QT.c0 s1,k.cell 0 _ rfl,k'.cell 2 _ rfl,k'.cell 4 _ rfl,k'.free,rfl⟩
 have hw:IntKind.i64.wrap (e.q.given-c.q.limit)=e.q.given-c.q.limit:=Go.IntWalk.i64_in _ (by omega);have EP:IntKind.i64.wrap (e.q.kids-1)=e.q.kids-1:=Go.IntWalk.i64_in _ (by omega);have UF:(id==0)=false:=by simpa using hid
 have Aa:q.t≠e.b:=by
  have AG:=h.nd;simp only [QT.hl,keys_cons,J3w] at AG;intro e1;refine AG.1 ?_;rw [J2D];right;rw [e1];exact J2E.2 ⟨(e.b,isC 147 e.q.cells),J2E.2 ⟨e,(Q0b he).1,rfl⟩,rfl⟩
 have HS:=Q0a h;have HC:=Q0a hc;have HE:=Q0a he;have CC:=Q0a ok;generalize hQ:Z5A w q c.q.parent e c id=Q at *
 have HQ:=Q0a hQ;clear h hc he ok hQ hid;unfold ptr at *
 go_enter func213,ntmps213;go_wp2_with (first|(go_at_call 66;refine k1.mono ?_;rintro e w' ⟨rfl,rfl⟩)|(go_at_call 76;refine k2.mono ?_;rintro e w1 ⟨rfl,hb⟩;obtain⟨d0,d1,d3,d4,dl⟩:=HN.out w1 hb;have dl1:=dl 1;have dl0:(Instr.lookup 148 (.map (some q.m)) (.int .i64 c.q.parent) false).run prog w1.drew=.ok (.pointer (some ⟨e.b,0,none⟩)) w1.drew:=dl 1;have HB:=Q0a hb;clear hb HN));go_region;obtain⟨f0,f1,f2,f4,ff,fs⟩:=HM.out w1 1 HB.out;have g0:w1.drew.cell? ⟨q.t,0,none⟩=some (.map (some q.m)):=f0;have g1:w1.drew.cell? ⟨c.b,0,none⟩=some (.int .i64 c.q.limit):=f1;have g2:w1.drew.cell? ⟨e.b,2,none⟩=some (.int .i64 e.q.given):=f2
 have g4:w1.drew.cell? ⟨e.b,4,none⟩=some (.int .i64 e.q.kids):=f4;have h2:w1.drew.frozen? ⟨e.b,2,none⟩=false:=ff 2;have h4:w1.drew.frozen? ⟨e.b,4,none⟩=false:=ff 4;clear d0 d1 d3 d4 dl dl0 dl1 f0 f1 f2 f4 ff fs k1 k2;have HP:Hid (Q0z (((w1.setCell ⟨e.b,2,none⟩ (.int .i64 (e.q.given-c.q.limit))).setCell ⟨e.b,4,none⟩ (.int .i64 (e.q.kids-1))).drew.drew) q.m (kvs q.E) /\
   ∀w4,Q0z w4 q.m (del (kvs q.E) id)->(((w1.setCell ⟨e.b,2,none⟩ (.int .i64 (e.q.given-c.q.limit))).setCell ⟨e.b,4,none⟩ (.int .i64 (e.q.kids-1))).drew.drew).grownBy w4 (some q.m)->Q (.returned (.int .i64 0)) w4):=by
  have s1:=HS.out.grown HB.out;have s2:Sep (w1.drewN 2) q.hl:=s1.sep.drewN 2;have hm:Q0z (((w1.drewN 2).setCell ⟨e.b,2,none⟩ (.int .i64 (e.q.given-c.q.limit))).setCell ⟨e.b,4,none⟩ (.int .i64 (e.q.kids-1))) q.m (kvs q.E):=((QT.map s2).set _ _).set _ _;refine⟨hm,fun w4 hm4 GY=>?_⟩;have st:=QT.close s2 CC.out HE.out HC.out w4 hm4 GY;rw [<- HQ.out];exact⟨rfl,s1.trans (st.from_drewN)⟩
 have HL:Hid (((w1.setCell ⟨e.b,2,none⟩ (.int .i64 (e.q.given-c.q.limit))).drew.drew).cell? ⟨e.b,4,none⟩=some (.int .i64 e.q.kids)/\((w1.setCell ⟨e.b,2,none⟩ (.int .i64 (e.q.given-c.q.limit))).drew.drew).frozen? ⟨e.b,4,none⟩=false /\
   (((w1.setCell ⟨e.b,2,none⟩ (.int .i64 (e.q.given-c.q.limit))).setCell ⟨e.b,4,none⟩ (.int .i64 (e.q.kids-1))).drew.drew).cell? ⟨q.t,0,none⟩=some (.map (some q.m))):=by
  have k:=(QT.fac (HS.out.grown HB.out).sep HE.out).set 2 (.int .i64 (e.q.given-c.q.limit));refine⟨k.cell 4 _ rfl,k.free 4,?_⟩;show ((w1.setCell ⟨e.b,2,none⟩ _).setCell ⟨e.b,4,none⟩ _).cell? ⟨q.t,0,none⟩=_;rw [World.cell?_of_block (Below.heap_setCell _ _ _ _ Aa),World.cell?_of_block (Below.heap_setCell _ _ _ _ Aa)];exact g0
 go_wp2_with fail;go_region;obtain⟨e4,f4,e0⟩:=HL.out;go_wp2_with (refine Q2u _ rfl _ _ 148 3 3 140 rfl underlying148 underlying3 q.m (kvs q.E) HP.out.1 id rfl rfl ?_;intro w4 CT B3;have MG:=Q0a (HP.out.2 w4 CT B3);clear CT B3)
 first|exact MG.out|(go_ret;exact MG.out)
theorem Inv.lok {P:PL} {l:List Pl} {fr:List Nat} {xc:Int->Int} {zs:List Nat} (v:Inv P l fr xc zs):LOk l:=⟨v.len,fun p hp=>⟨by have:=(v.st p hp).1;omega,(v.st p hp).2⟩⟩
theorem new3 {w w1:World} {T:TypeId} {a b c:Value} (hb:Below (w.alloc (.cells #[a,b,c] T)).heap.size (w.alloc (.cells #[a,b,c] T)) w1):Below w.heap.size w w1/\w1.cell? ⟨w.heap.size,0,none⟩=some a/\w1.cell? ⟨w.heap.size,1,none⟩=some b/\w1.cell? ⟨w.heap.size,2,none⟩=some c/\(∀i,w1.frozen? ⟨w.heap.size,i,none⟩=false)/\w.heap.size<w1.heap.size:=by
 have hc:=(Cells.new w T [a,b,c]).same (hb.block w.heap.size (by simp));refine⟨((Below.refl _ _).alloc (J2y _) _).trans (hb.mono (by simp)),hc.cell 0 _ rfl,hc.cell 1 _ rfl,hc.cell 2 _ rfl,hc.free,?_⟩;have:=hb.size;simp at this;omega
theorem Q0e {w w1:World} {o:Obj} (hb:Below (w.alloc o).heap.size (w.alloc o) w1):Below w.heap.size w w1:=((Below.refl _ _).alloc (J2y _) _).trans (hb.mono (by simp))
theorem Q9d {w w1:World} (h:Below w.heap.size w w1) (a b c:Value) (o:Obj):Below w.heap.size w ((((w1.setCell ⟨w.heap.size,0,none⟩ a).setCell ⟨w.heap.size,1,none⟩ b).setCell ⟨w.heap.size,2,none⟩ c).alloc o):=
 (((h.setCell (J2y _) _).setCell (J2y _) _).setCell (J2y _) _).alloc (by have:=h.size;simpa [World.setCell] using this) _
theorem Z5U {w:World} {S:CO} (h:Sep w S.hl) {x:Nat} {a b c e kind:Int} (hG:Calls prog 112 #[.pointer (some ⟨S.t,0,none⟩),.int .u32 x] (w.alloc (.cells #[.int .i64 0,.int .i64 0,.int .i64 0] 54)) (Told (w.alloc (.cells #[.int .i64 0,.int .i64 0,.int .i64 0] 54)) (.tuple #[.agg #[.int .i64 a,.int .i64 b,.int .i64 c],.int .i64 e])))
  (hc:e≠0∨kind=0∨a=kind):Calls prog 49 #[.pointer (some ⟨S.c,0,none⟩),.int .u32 x,.int .i64 kind] w (Told w (.tuple #[.agg #[.int .i64 a,.int .i64 b,.int .i64 c],.int .i64 e])):=by
 have c1:=CO.c1 (h.alloc (.cells #[.int .i64 0,.int .i64 0,.int .i64 0] 54));have A6:e≠0∨e=0/\kind=0∨e=0/\kind≠0/\a=kind:=by omega
 clear h hc;rcases A6 with he|⟨rfl,rfl⟩|⟨rfl,hk,rfl⟩
 ·have Av:(e==0)=false:=by simpa using he
  go_enter func49,ntmps49;go_wp2_with (go_at_call 112;refine hG.mono ?_;rintro r w1 ⟨rfl,hb⟩;obtain⟨hb,e0,e1,e2,ef,Ab⟩:=new3 hb;have HB:=Q0a hb;have f0:=ef 0;have f1:=ef 1;have f2:=ef 2;clear hb ef);refine bodyPost_ret (v:=.tuple #[.agg #[.int .i64 a,.int .i64 b,.int .i64 c],.int .i64 e]) (by simp [results,results49,go_sem,e0,e1,e2,Ab]) rfl ⟨rfl,Q9d HB.out _ _ _ _⟩
 ·go_enter func49,ntmps49;go_wp2_with (go_at_call 112;refine hG.mono ?_;rintro r w1 ⟨rfl,hb⟩;obtain⟨hb,e0,e1,e2,ef,Ab⟩:=new3 hb;have HB:=Q0a hb;have f0:=ef 0;have f1:=ef 1;have f2:=ef 2;clear hb ef);refine bodyPost_ret (v:=.tuple #[.agg #[.int .i64 a,.int .i64 b,.int .i64 c],.int .i64 0]) (by simp [results,results49,go_sem,e0,e1,e2,Ab]) rfl ⟨rfl,Q9d HB.out _ _ _ _⟩
 ·have Av:(a==0)=false:=by simpa using hk
  go_enter func49,ntmps49;go_wp2_with (go_at_call 112;refine hG.mono ?_;rintro r w1 ⟨rfl,hb⟩;obtain⟨hb,e0,e1,e2,ef,Ab⟩:=new3 hb;have HB:=Q0a hb;have f0:=ef 0;have f1:=ef 1;have f2:=ef 2;clear hb ef);refine bodyPost_ret (v:=.tuple #[.agg #[.int .i64 a,.int .i64 b,.int .i64 c],.int .i64 0]) (by simp [results,results49,go_sem,e0,e1,e2,Ab]) rfl ⟨rfl,Q9d HB.out _ _ _ _⟩
theorem Z8t {w:World} {S:CO} (h:Sep w S.hl) {x:Nat} {a b c kind:Int} (hG:Calls prog 112 #[.pointer (some ⟨S.t,0,none⟩),.int .u32 x] (w.alloc (.cells #[.int .i64 0,.int .i64 0,.int .i64 0] 54)) (Told (w.alloc (.cells #[.int .i64 0,.int .i64 0,.int .i64 0] 54)) (.tuple #[.agg #[.int .i64 a,.int .i64 b,.int .i64 c],.int .i64 0])))
  (hk:kind≠0) (ha:a≠kind):Calls prog 49 #[.pointer (some ⟨S.c,0,none⟩),.int .u32 x,.int .i64 kind] w (Told w (.tuple #[.agg #[.int .i64 0,.int .i64 0,.int .i64 0],.int .i64 10])):=by
 have c1:=CO.c1 (h.alloc (.cells #[.int .i64 0,.int .i64 0,.int .i64 0] 54));have Av:(kind==0)=false:=by simpa using hk
 have Ag:(a==kind)=false:=by simpa using ha
 have Ar:(kind != 0)=true:=by simpa using hk
 have AC:(a != kind)=true:=by simpa using ha
 clear h hk ha;go_enter func49,ntmps49;go_wp2_with (go_at_call 112;refine hG.mono ?_;rintro r w1 ⟨rfl,hb⟩;obtain⟨hb,e0,e1,e2,ef,Ab⟩:=new3 hb;have HB:=Q0a hb;have f0:=ef 0;have f1:=ef 1;have f2:=ef 2;clear hb ef);refine bodyPost_ret (v:=.tuple #[.agg #[.int .i64 0,.int .i64 0,.int .i64 0],.int .i64 10]) (by simp [results,results49,go_sem,e0,e1,e2,Ab]) rfl ⟨rfl,Q9d HB.out _ _ _ _⟩
section
variable {w:World} {S:CO} {fr:List Nat} {N K:Nat}
theorem Q4J (h:Sep w S.hl) (ok:LOk S.l) {x:Nat} (hx:x<4294967296) (kind:Int) (hp:pget S.l 1 x=none):Calls prog 49 #[.pointer (some ⟨S.c,0,none⟩),.int .u32 x,.int .i64 kind] w (Told w (.tuple #[zobj,.int .i64 8])):=
 Z5U h (Q8Z (h:=S.ht) (CO.sT (h.alloc _)) ok hx hp) (.inl (by decide))
theorem Q3I (h:Sep w S.hl) (ok:LOk S.l) {x:Nat} (hx:x<4294967296) (kind:Int) {p:Pl} (hp:pget S.l 1 x=some p) (hk:kind=0∨(p.kind:Int)=kind):Calls prog 49 #[.pointer (some ⟨S.c,0,none⟩),.int .u32 x,.int .i64 kind] w (Told w (.tuple #[p.obj,.int .i64 0])):=
 Z5U h (Q4I (h:=S.ht) (CO.sT (h.alloc _)) ok hx hp) (.inr hk)
theorem Q4K (h:Sep w S.hl) (ok:LOk S.l) {x:Nat} (hx:x<4294967296) (kind:Int) {p:Pl} (hp:pget S.l 1 x=some p) (h0:kind≠0) (hk:(p.kind:Int)≠kind):Calls prog 49 #[.pointer (some ⟨S.c,0,none⟩),.int .u32 x,.int .i64 kind] w (Told w (.tuple #[zobj,.int .i64 10])):=
 Z8t h (Q4I (h:=S.ht) (CO.sT (h.alloc _)) ok hx hp) h0 hk
end
end Go.Proofs.YtfidemmgofcnmaaGreatDoor

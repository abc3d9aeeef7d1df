/- SpaceRights returns true at every input. No condition. Part of its proof. -/
import Derived.Test.YtlakjlmaboioiaaGreatDoorSr01
import Derived.ProofKit
import Derived.Deep.Slices
import Derived.OpenShut
import Derived.Test.YtlakjlmaboioiaaGreatDoorSr19
import Derived.Deep.QuietTactic
import Derived.BigQuiet
set_option maxHeartbeats 8000000
set_option maxRecDepth 100000
set_option linter.unusedVariables false
namespace Go.Proofs.YtlakjlmaboioiaaGreatDoor
open Go.ChangeShapes Go.WideShapes Go.ChangeAt Go.RowKit Go.Deep Go.Proofs.Tryz
theorem Q6s {w:World} {x:Addr} {v:Value} (h:w.cell? x=some v):x=⟨x.block,x.off,none⟩:=by
 obtain⟨b,o,s⟩:=x;cases s with
 | none=>rfl
 | some s =>
  exfalso;unfold World.cell? at h;split at h <;> simp at h
theorem add_plain5 (b o j:Nat):(⟨b,o,none⟩:Addr).add j=⟨b,o+j,none⟩:=by
 unfold Addr.add;split
 ·rename_i h;simp
 ·rfl
abbrev I64 (x:Int):Prop:=-9223372036854775808<=x/\x<=9223372036854775807
structure Mv where
 src:Int
 dst:Int
 r:Int
 g:Bool
def Mv.cells (x:Mv):List Value:=[.int .i64 x.src,.int .i64 x.dst,.int .i64 x.r,.bool x.g]
structure Mv.Wf (x:Mv):Prop where
 src:I64 x.src
 dst:I64 x.dst
 r:I64 x.r
structure It where
 base:Int
 order:Int
 r:Int
 off:Int
 g:Bool
def It.cells (x:It):List Value:=[.int .i64 x.base,.int .i64 x.order,.int .i64 x.r,.int .i64 x.off,.bool x.g]
structure It.Wf (x:It):Prop where
 base:I64 x.base
 order:I64 x.order
 r:I64 x.r
 off:I64 x.off
structure Wi where
 base:Int
 order:Int
def Wi.cells (x:Wi):List Value:=[.int .i64 x.base,.int .i64 x.order]
structure Wi.Wf (x:Wi):Prop where
 base:I64 x.base
 order:I64 x.order
def IsMv (w:World) (a0:Option Addr) (len:Nat) (A:Nat->Mv):Prop:=∀j,j<len->∃g off,a0=some ⟨g,off,none⟩/\g<w.heap.size/\(∀(i:Nat) (v:Value),(A j).cells[i]?=some v->w.cell? ⟨g,off+j*4+i,none⟩=some v)/\(A j).Wf
theorem IsMv.below {w w':World} {a0:Option Addr} {len:Nat} {A:Nat->Mv} (h:IsMv w a0 len A) (hb:Below w.heap.size w w'):IsMv w' a0 len A:=by
 intro j hj;obtain⟨g,off,h1,h2,h3,h4⟩:=h j hj;have e:=hb.block g h2;exact⟨g,off,h1,J1z h2 hb.size,fun i v hv=>(World.cell?_of_block (w:=w) e).trans (h3 i v hv),h4⟩
structure A17 where
 kind:Int
 n:Int
 k:Int
 m:Int
 t:Int
 u:Int
 s:Int
 r:Int
 self:Bool
 la:Option Addr
 ll:Nat
 lc:Nat
 L:Nat->Mv
 i:It
 w:Wi
def A17.cells (x:A17):List Value:=[.int .i64 x.kind,.int .i64 x.n,.int .i64 x.k,.int .i64 x.m,.int .i64 x.t,.int .i64 x.u,.int .i64 x.s,.int .i64 x.r,.bool x.self,.slice x.la x.ll x.lc]++x.i.cells++x.w.cells
structure A17.Wf (x:A17):Prop where
 n:I64 x.n
 k:I64 x.k
 m:I64 x.m
 t:I64 x.t
 u:I64 x.u
 s:I64 x.s
 r:I64 x.r
 len:x.ll<=x.lc/\x.lc<=maxLen
 i:x.i.Wf
 w:x.w.Wf
def IsA17 (w:World) (a0:Option Addr) (len:Nat) (A:Nat->A17):Prop:=∀j,j<len->∃g off,a0=some ⟨g,off,none⟩/\g<w.heap.size/\(∀(i:Nat) (v:Value),(A j).cells[i]?=some v->w.cell? ⟨g,off+j*17+i,none⟩=some v)/\(A j).Wf/\IsMv w (A j).la (A j).ll (A j).L
theorem IsA17.below {w w':World} {a0:Option Addr} {len:Nat} {A:Nat->A17} (h:IsA17 w a0 len A) (hb:Below w.heap.size w w'):IsA17 w' a0 len A:=by
 intro j hj;obtain⟨g,off,h1,h2,h3,h4,h5⟩:=h j hj;have e:=hb.block g h2;exact⟨g,off,h1,J1z h2 hb.size,fun i v hv=>(World.cell?_of_block (w:=w) e).trans (h3 i v hv),h4,h5.below hb⟩
theorem Z5X:prog.cellsOf 92=17:=by kernel_rfl
theorem Q9m:prog.cellsOf 39=4:=by kernel_rfl
theorem Q9n:prog.cellsOf 54=5:=by kernel_rfl
theorem Q9o:prog.cellsOf 56=2:=by kernel_rfl
theorem Q3I:prog.cellsOf 3=1:=by kernel_rfl
theorem Q4f:prog.cellsOf 4=1:=by kernel_rfl
theorem Z2S:prog.cellsOf 58=1:=by kernel_rfl
theorem Z0q {H:Type} {enc:TypeId×Value->H} {w:World} {n:Nat} {cs:List Value} {y:DataW H×List MemPlace}
  (h:DataW.trod enc prog w 0 (fun _=>true) true n 39 cs=some y):∃x:Mv,cs=x.cells/\x.Wf:=by
 obtain⟨xs,n',_,_,hlen,hxl,hf⟩:=DataW.trod_struct underlying39 h;rw [Q9m] at hlen
 match cs,hlen with
 | [v0,v1,v2,v3],_ =>
  match xs,hxl with
  | [y0,y1,y2,y3],_ =>
   have g0:DataW.trod enc prog w 0 (fun _=>true) true n' 3 (List.take (prog.cellsOf 3) (List.drop 0 [v0,v1,v2,v3]))=some y0:=hf 0 _ rfl;have g1:DataW.trod enc prog w 0 (fun _=>true) true n' 3 (List.take (prog.cellsOf 3) (List.drop 1 [v0,v1,v2,v3]))=some y1:=hf 1 _ rfl;have g2:DataW.trod enc prog w 0 (fun _=>true) true n' 3 (List.take (prog.cellsOf 3) (List.drop 2 [v0,v1,v2,v3]))=some y2:=hf 2 _ rfl;have g3:DataW.trod enc prog w 0 (fun _=>true) true n' 4 (List.take (prog.cellsOf 4) (List.drop 3 [v0,v1,v2,v3]))=some y3:=hf 3 _ rfl;rw [Q3I] at g0 g1 g2;rw [Q4f] at g3;simp only [J5q,J5V,J4W,J5W] at g0 g1 g2 g3
   obtain⟨a0,e0,_,hw0⟩:=DataW.trod_int underlying3 g0;have hb0:=bounds_i64 (n:=a0) (by simp_all);obtain⟨a1,e1,_,hw1⟩:=DataW.trod_int underlying3 g1;have hb1:=bounds_i64 (n:=a1) (by simp_all);obtain⟨a2,e2,_,hw2⟩:=DataW.trod_int underlying3 g2;have hb2:=bounds_i64 (n:=a2) (by simp_all);obtain⟨a3,e3,_⟩:=DataW.trod_bool underlying4 g3;simp only [J1B,and_true] at e0 e1 e2 e3;subst e0;subst e1;subst e2;subst e3;exact⟨⟨a0,a1,a2,a3⟩,rfl,⟨by simpa using hb0,by simpa using hb1,by simpa using hb2⟩⟩
theorem Z0r {H:Type} {enc:TypeId×Value->H} {w:World} {n:Nat} {cs:List Value} {y:DataW H×List MemPlace}
  (h:DataW.trod enc prog w 0 (fun _=>true) true n 54 cs=some y):∃x:It,cs=x.cells/\x.Wf:=by
 obtain⟨xs,n',_,_,hlen,hxl,hf⟩:=DataW.trod_struct underlying54 h;rw [Q9n] at hlen
 match cs,hlen with
 | [v0,v1,v2,v3,v4],_ =>
  match xs,hxl with
  | [y0,y1,y2,y3,y4],_ =>
   have g0:DataW.trod enc prog w 0 (fun _=>true) true n' 3 (List.take (prog.cellsOf 3) (List.drop 0 [v0,v1,v2,v3,v4]))=some y0:=hf 0 _ rfl;have g1:DataW.trod enc prog w 0 (fun _=>true) true n' 3 (List.take (prog.cellsOf 3) (List.drop 1 [v0,v1,v2,v3,v4]))=some y1:=hf 1 _ rfl;have g2:DataW.trod enc prog w 0 (fun _=>true) true n' 3 (List.take (prog.cellsOf 3) (List.drop 2 [v0,v1,v2,v3,v4]))=some y2:=hf 2 _ rfl;have g3:DataW.trod enc prog w 0 (fun _=>true) true n' 3 (List.take (prog.cellsOf 3) (List.drop 3 [v0,v1,v2,v3,v4]))=some y3:=hf 3 _ rfl;have g4:DataW.trod enc prog w 0 (fun _=>true) true n' 4 (List.take (prog.cellsOf 4) (List.drop 4 [v0,v1,v2,v3,v4]))=some y4:=hf 4 _ rfl
   rw [Q3I] at g0 g1 g2 g3;rw [Q4f] at g4;simp only [J5q,J5V,J4W,J5W] at g0 g1 g2 g3 g4;obtain⟨a0,e0,_,hw0⟩:=DataW.trod_int underlying3 g0;have hb0:=bounds_i64 (n:=a0) (by simp_all);obtain⟨a1,e1,_,hw1⟩:=DataW.trod_int underlying3 g1;have hb1:=bounds_i64 (n:=a1) (by simp_all);obtain⟨a2,e2,_,hw2⟩:=DataW.trod_int underlying3 g2;have hb2:=bounds_i64 (n:=a2) (by simp_all);obtain⟨a3,e3,_,hw3⟩:=DataW.trod_int underlying3 g3;have hb3:=bounds_i64 (n:=a3) (by simp_all);obtain⟨a4,e4,_⟩:=DataW.trod_bool underlying4 g4;simp only [J1B,and_true] at e0 e1 e2 e3 e4;subst e0;subst e1;subst e2;subst e3;subst e4;exact⟨⟨a0,a1,a2,a3,a4⟩,rfl,⟨by simpa using hb0,by simpa using hb1,by simpa using hb2,by simpa using hb3⟩⟩
theorem Z2T {H:Type} {enc:TypeId×Value->H} {w:World} {n:Nat} {cs:List Value} {y:DataW H×List MemPlace}
  (h:DataW.trod enc prog w 0 (fun _=>true) true n 56 cs=some y):∃x:Wi,cs=x.cells/\x.Wf:=by
 obtain⟨xs,n',_,_,hlen,hxl,hf⟩:=DataW.trod_struct underlying56 h;rw [Q9o] at hlen
 match cs,hlen with
 | [v0,v1],_ =>
  match xs,hxl with
  | [y0,y1],_ =>
   have g0:DataW.trod enc prog w 0 (fun _=>true) true n' 3 (List.take (prog.cellsOf 3) (List.drop 0 [v0,v1]))=some y0:=hf 0 _ rfl;have g1:DataW.trod enc prog w 0 (fun _=>true) true n' 3 (List.take (prog.cellsOf 3) (List.drop 1 [v0,v1]))=some y1:=hf 1 _ rfl;rw [Q3I] at g0 g1;simp only [J5q,J5V,J4W,J5W] at g0 g1;obtain⟨a0,e0,_,hw0⟩:=DataW.trod_int underlying3 g0;have hb0:=bounds_i64 (n:=a0) (by simp_all);obtain⟨a1,e1,_,hw1⟩:=DataW.trod_int underlying3 g1;have hb1:=bounds_i64 (n:=a1) (by simp_all);simp only [J1B,and_true] at e0 e1;subst e0;subst e1;exact⟨⟨a0,a1⟩,rfl,⟨by simpa using hb0,by simpa using hb1⟩⟩
theorem Q9p {H:Type} {enc:TypeId×Value->H} {w:World} {fuel:Nat} {cs:List Value} {x:DataW H×List MemPlace}
  (h:DataW.trod enc prog w 0 (fun _=>true) true fuel 58 cs=some x):∃(a0:Option Addr) (len cap:Nat),cs=[.slice a0 len cap]/\(len<=cap/\cap<=maxLen)/\∃A,IsMv w a0 len A:=by
 rcases open_slice underlying58 h with ⟨hcs,_⟩|⟨a,len,cap,m,n,D,Pl,hcs,_,hl,hcm,hmm,_,hi⟩
 ·exact⟨none,0,0,hcs,⟨J1x _,by unfold maxLen;omega⟩,fun _=>⟨0,0,0,false⟩,fun j hj=>absurd hj (J4Z _)⟩
 ·refine⟨some a,len,cap,hcs,⟨hl,hcm⟩,?_⟩;have hm:len<=m:=by rw [hmm];simp;exact hl
  have each:∀j,j<len->∃x:Mv,(∀(i:Nat) (v:Value),x.cells[i]?=some v->w.cell? ((a.add (j*4)).add i)=some v)/\x.Wf:=by
   intro j hj;obtain⟨cs',hc,ht⟩:=hi j (by omega);rw [Q9m] at hc;obtain⟨x,rfl,hx⟩:=Z0q ht;obtain⟨_,_,hat⟩:=World.cells?_some hc;refine⟨x,fun i v hv=>?_,hx⟩;have hi5:i<4:=by simpa [Mv.cells] using (J1O.1 hv).1
   exact (hat i hi5).trans hv
  by_cases h0:len=0
  ·exact⟨fun _=>⟨0,0,0,false⟩,fun j hj=>by omega⟩
  ·obtain⟨x0,c0,_⟩:=each 0 (by omega);have hp:=Q6s (x:=a) (by simpa [Addr.add] using c0 0 _ rfl);refine⟨fun j=>if hj:j<len then (each j hj).choose else ⟨0,0,0,false⟩,fun j hj=>?_⟩;obtain⟨h1,h2⟩:=(each j hj).choose_spec;simp only [hj,dif_pos];generalize (each j hj).choose=y at h1 h2;have h3:∀(i:Nat) (v:Value),y.cells[i]?=some v->w.cell? ⟨a.block,a.off+j*4+i,none⟩=some v:=fun i v hv=>by
    have:=h1 i v hv;rw [hp,add_plain5,add_plain5] at this;exact this
   exact⟨a.block,a.off,congrArg some hp,World.block_lt_of_cell? w ⟨a.block,a.off+j*4+0,none⟩ (h3 0 _ rfl),h3,h2⟩
theorem Z2U {H:Type} {enc:TypeId×Value->H} {w:World} {n:Nat} {cs:List Value} {y:DataW H×List MemPlace}
  (h:DataW.trod enc prog w 0 (fun _=>true) true n 92 cs=some y):∃x:A17,cs=x.cells/\x.Wf/\IsMv w x.la x.ll x.L:=by
 obtain⟨xs,n',_,_,hlen,hxl,hf⟩:=DataW.trod_struct underlying92 h;rw [Z5X] at hlen
 match cs,hlen with
 | [v0,v1,v2,v3,v4,v5,v6,v7,v8,v9,v10,v11,v12,v13,v14,v15,v16],_ =>
  match xs,hxl with
  | [y0,y1,y2,y3,y4,y5,y6,y7,y8,y9,y10,y11],_ =>
   have g0:DataW.trod enc prog w 0 (fun _=>true) true n' 3 (List.take (prog.cellsOf 3) (List.drop 0 [v0,v1,v2,v3,v4,v5,v6,v7,v8,v9,v10,v11,v12,v13,v14,v15,v16]))=some y0:=hf 0 _ rfl;have g1:DataW.trod enc prog w 0 (fun _=>true) true n' 3 (List.take (prog.cellsOf 3) (List.drop 1 [v0,v1,v2,v3,v4,v5,v6,v7,v8,v9,v10,v11,v12,v13,v14,v15,v16]))=some y1:=hf 1 _ rfl;have g2:DataW.trod enc prog w 0 (fun _=>true) true n' 3 (List.take (prog.cellsOf 3) (List.drop 2 [v0,v1,v2,v3,v4,v5,v6,v7,v8,v9,v10,v11,v12,v13,v14,v15,v16]))=some y2:=hf 2 _ rfl;have g3:DataW.trod enc prog w 0 (fun _=>true) true n' 3 (List.take (prog.cellsOf 3) (List.drop 3 [v0,v1,v2,v3,v4,v5,v6,v7,v8,v9,v10,v11,v12,v13,v14,v15,v16]))=some y3:=hf 3 _ rfl
   have g4:DataW.trod enc prog w 0 (fun _=>true) true n' 3 (List.take (prog.cellsOf 3) (List.drop 4 [v0,v1,v2,v3,v4,v5,v6,v7,v8,v9,v10,v11,v12,v13,v14,v15,v16]))=some y4:=hf 4 _ rfl;have g5:DataW.trod enc prog w 0 (fun _=>true) true n' 3 (List.take (prog.cellsOf 3) (List.drop 5 [v0,v1,v2,v3,v4,v5,v6,v7,v8,v9,v10,v11,v12,v13,v14,v15,v16]))=some y5:=hf 5 _ rfl;have g6:DataW.trod enc prog w 0 (fun _=>true) true n' 3 (List.take (prog.cellsOf 3) (List.drop 6 [v0,v1,v2,v3,v4,v5,v6,v7,v8,v9,v10,v11,v12,v13,v14,v15,v16]))=some y6:=hf 6 _ rfl;have g7:DataW.trod enc prog w 0 (fun _=>true) true n' 3 (List.take (prog.cellsOf 3) (List.drop 7 [v0,v1,v2,v3,v4,v5,v6,v7,v8,v9,v10,v11,v12,v13,v14,v15,v16]))=some y7:=hf 7 _ rfl
   have g8:DataW.trod enc prog w 0 (fun _=>true) true n' 4 (List.take (prog.cellsOf 4) (List.drop 8 [v0,v1,v2,v3,v4,v5,v6,v7,v8,v9,v10,v11,v12,v13,v14,v15,v16]))=some y8:=hf 8 _ rfl;have g9:DataW.trod enc prog w 0 (fun _=>true) true n' 58 (List.take (prog.cellsOf 58) (List.drop 9 [v0,v1,v2,v3,v4,v5,v6,v7,v8,v9,v10,v11,v12,v13,v14,v15,v16]))=some y9:=hf 9 _ rfl;have g10:DataW.trod enc prog w 0 (fun _=>true) true n' 54 (List.take (prog.cellsOf 54) (List.drop 10 [v0,v1,v2,v3,v4,v5,v6,v7,v8,v9,v10,v11,v12,v13,v14,v15,v16]))=some y10:=hf 10 _ rfl;have g11:DataW.trod enc prog w 0 (fun _=>true) true n' 56 (List.take (prog.cellsOf 56) (List.drop 15 [v0,v1,v2,v3,v4,v5,v6,v7,v8,v9,v10,v11,v12,v13,v14,v15,v16]))=some y11:=hf 11 _ rfl
   rw [Q3I] at g0 g1 g2 g3 g4 g5 g6 g7;rw [Q4f] at g8;rw [Z2S] at g9;rw [Q9n] at g10;rw [Q9o] at g11;simp only [J5q,J5V,J4W,J5W] at g0 g1 g2 g3 g4 g5 g6 g7 g8 g9 g10 g11;obtain⟨a0,e0,_,hw0⟩:=DataW.trod_int underlying3 g0;have hb0:=bounds_i64 (n:=a0) (by simp_all);obtain⟨a1,e1,_,hw1⟩:=DataW.trod_int underlying3 g1;have hb1:=bounds_i64 (n:=a1) (by simp_all);obtain⟨a2,e2,_,hw2⟩:=DataW.trod_int underlying3 g2;have hb2:=bounds_i64 (n:=a2) (by simp_all);obtain⟨a3,e3,_,hw3⟩:=DataW.trod_int underlying3 g3;have hb3:=bounds_i64 (n:=a3) (by simp_all);obtain⟨a4,e4,_,hw4⟩:=DataW.trod_int underlying3 g4;have hb4:=bounds_i64 (n:=a4) (by simp_all)
   obtain⟨a5,e5,_,hw5⟩:=DataW.trod_int underlying3 g5;have hb5:=bounds_i64 (n:=a5) (by simp_all);obtain⟨a6,e6,_,hw6⟩:=DataW.trod_int underlying3 g6;have hb6:=bounds_i64 (n:=a6) (by simp_all);obtain⟨a7,e7,_,hw7⟩:=DataW.trod_int underlying3 g7;have hb7:=bounds_i64 (n:=a7) (by simp_all);obtain⟨a8,e8,_⟩:=DataW.trod_bool underlying4 g8;obtain⟨aa,al,ac,e9,hal,hmv⟩:=Q9p g9;obtain⟨it,e10,hit⟩:=Z0r g10;obtain⟨wi,e11,hwi⟩:=Z2T g11;simp only [J1B,and_true] at e0 e1 e2 e3 e4 e5 e6 e7 e8 e9;subst e0;subst e1;subst e2;subst e3;subst e4;subst e5;subst e6;subst e7;subst e8;subst e9;obtain⟨mvs,hmv⟩:=hmv;refine⟨⟨a0,a1,a2,a3,a4,a5,a6,a7,a8,aa,al,ac,mvs,it,wi⟩,?_,⟨by simpa using hb1,by simpa using hb2,by simpa using hb3,by simpa using hb4,by simpa using hb5,by simpa using hb6,by simpa using hb7,hal,hit,hwi⟩,hmv⟩
   unfold A17.cells;rw [<- e10,<- e11];rfl
theorem Z0s {H:Type} {enc:TypeId×Value->H} {w:World} {fuel:Nat} {a0:Option Addr} {len cap:Nat} {x:DataW H×List MemPlace}
  (h:DataW.trod enc prog w 0 (fun _=>true) true fuel 63 [.slice a0 len cap]=some x):∃A,IsA17 w a0 len A:=by
 have dflt:A17:=⟨0,0,0,0,0,0,0,0,false,none,0,0,fun _=>⟨0,0,0,false⟩,⟨0,0,0,0,false⟩,⟨0,0⟩⟩
 rcases open_slice underlying63 h with ⟨hcs,_⟩|⟨a,len',cap',m,n,D,Pl,hcs,_,hl,_,hmm,_,hi⟩
 ·simp only [J1B,Value.slice.injEq,and_true] at hcs;obtain⟨rfl,rfl,rfl⟩:=hcs;exact⟨fun _=>dflt,fun j hj=>absurd hj (J4Z _)⟩
 ·simp only [J1B,Value.slice.injEq,and_true] at hcs;obtain⟨rfl,rfl,rfl⟩:=hcs;have hm:len<=m:=by rw [hmm];simp;exact hl
  have each:∀j,j<len->∃x:A17,(∀(i:Nat) (v:Value),x.cells[i]?=some v->w.cell? ((a.add (j*17)).add i)=some v)/\x.Wf/\IsMv w x.la x.ll x.L:=by
   intro j hj;obtain⟨cs',hc,ht⟩:=hi j (by omega);rw [Z5X] at hc;obtain⟨x,rfl,hx,hx2⟩:=Z2U ht;obtain⟨_,_,hat⟩:=World.cells?_some hc;refine⟨x,fun i v hv=>?_,hx,hx2⟩;have hi5:i<17:=by simpa [A17.cells,It.cells,Wi.cells] using (J1O.1 hv).1
   exact (hat i hi5).trans hv
  by_cases h0:len=0
  ·exact⟨fun _=>dflt,fun j hj=>by omega⟩
  ·obtain⟨x0,c0,_⟩:=each 0 (by omega);have hp:=Q6s (x:=a) (by simpa [Addr.add] using c0 0 _ rfl);refine⟨fun j=>if hj:j<len then (each j hj).choose else dflt,fun j hj=>?_⟩;obtain⟨h1,h2,h2b⟩:=(each j hj).choose_spec;simp only [hj,dif_pos];generalize (each j hj).choose=y at h1 h2 h2b;have h3:∀(i:Nat) (v:Value),y.cells[i]?=some v->w.cell? ⟨a.block,a.off+j*17+i,none⟩=some v:=fun i v hv=>by
    have:=h1 i v hv;rw [hp,add_plain5,add_plain5] at this;exact this
   exact⟨a.block,a.off,congrArg some hp,World.block_lt_of_cell? w ⟨a.block,a.off+j*17+0,none⟩ (h3 0 _ rfl),h3,h2,h2b⟩
end Go.Proofs.YtlakjlmaboioiaaGreatDoor
namespace Go.Proofs.YtlakjlmaboioiaaGreatDoor
open Go.RowKit Go.Proofs.Tryz
def Mv.clash (o m:Mv):Bool:=(o.dst==m.dst)||((o.src==m.src)&&(o.g||m.g))
def Mv.agg (m:Mv):Value:=.agg #[.int .i64 m.src,.int .i64 m.dst,.int .i64 m.r,.bool m.g]
theorem Z5Y (w:World) (o m:Mv) (b:Nat) (hb:b<w.heap.size) (h0:w.cell? ⟨b,0,none⟩=some (.int .i64 m.src)) (h1:w.cell? ⟨b,1,none⟩=some (.int .i64 m.dst)) (h3:w.cell? ⟨b,3,none⟩=some (.bool m.g)) :
  Calls prog 164 #[o.agg,.pointer (some ⟨b,0,none⟩)] w (Told w (.bool (o.clash m))):=by
 obtain⟨os,od,orr,og⟩:=o;obtain⟨ms,md,mr,mg⟩:=m;unfold Mv.clash Mv.agg;dsimp only at *
 have hne:b≠w.heap.size:=by omega
 have HB:Hid (∀o,Below w.heap.size w (w.alloc o)):=fun o=>(Below.refl _ _).alloc (J1x _) o
 have b1:Below w.heap.size w (w.alloc (.cells #[.int .i64 os,.int .i64 od,.int .i64 orr,.bool og] 39)):=HB.out _;have g0:=(b1.cell (p:=⟨b,0,none⟩) hb).trans h0;have g1:=(b1.cell (p:=⟨b,1,none⟩) hb).trans h1;have g3:=(b1.cell (p:=⟨b,3,none⟩) hb).trans h3;clear b1 h0 h1 h3 hb;by_cases e1:od=md
 ·have v1:(od==md)=true:=by simpa using e1
  rw [v1];simp only [Bool.true_or];clear e1;go_enter func164,ntmps164;go_wp2_with fail
  first|exact⟨rfl,HB.out _⟩|(go_ret;exact⟨rfl,HB.out _⟩)
 ·have v1:(od==md)=false:=by simpa using e1
  have d1:decide (od=md)=false:=decide_eq_false e1;rw [v1];simp only [J4H];by_cases e2:os=ms
  ·have v2:(os==ms)=true:=by simpa using e2
   rw [v2];simp only [J2N];clear e2;cases og
   ·go_enter func164,ntmps164;go_wp2_with fail
    first|exact⟨rfl,HB.out _⟩|(go_ret;exact⟨rfl,HB.out _⟩)
   ·go_enter func164,ntmps164;go_wp2_with fail
    first|exact⟨rfl,HB.out _⟩|(go_ret;exact⟨rfl,HB.out _⟩)
  ·have v2:(os==ms)=false:=by simpa using e2
   have d2:decide (os=ms)=false:=decide_eq_false e2;rw [v2];simp only [J5X];go_enter func164,ntmps164;go_wp2_with fail
   first|exact⟨rfl,HB.out _⟩|(go_ret;exact⟨rfl,HB.out _⟩)
def Z2V (b:Nat):Value:=.func (.func 164) #[] #[.pointer (some ⟨b,0,none⟩)]
def Z1E (w:World) (n:Nat) (A:Nat->Mv) (m:Mv) (e:Ending) (w':World):Prop:=Below w.heap.size w w'/\((∃k:Nat,k<n/\e=.returned (.int .i64 k)/\(A k).clash m=true)∨(e=.returned (.int .i64 (-1))/\∀j,j<n->(A j).clash m=false))
theorem Z2W {w:World} {a0:Option Addr} {len:Nat} {A:Nat->Mv} (h:IsMv w a0 len A) {n:Nat} (cap:Nat) (hn:n<=len) (hm:n<=4611686018427387904) (m:Mv) (b:Nat) (hb:b<w.heap.size) (h0:w.cell? ⟨b,0,none⟩=some (.int .i64 m.src)) (h1:w.cell? ⟨b,1,none⟩=some (.int .i64 m.dst)) (h3:w.cell? ⟨b,3,none⟩=some (.bool m.g)) :
  Calls prog 233 #[.slice a0 n cap,Z2V b] w (Z1E w n A m):=by
 have HP:Hid (∀k wr,k<n->Below w.heap.size w wr->∃g off,a0=some ⟨g,off,none⟩/\wr.cell? ⟨g,off+k*4,none⟩=some (.int .i64 (A k).src)/\wr.cell? ⟨g,off+k*4+1,none⟩=some (.int .i64 (A k).dst)/\wr.cell? ⟨g,off+k*4+2,none⟩=some (.int .i64 (A k).r)/\wr.cell? ⟨g,off+k*4+3,none⟩=some (.bool (A k).g) /\
   Calls prog 164 #[.agg #[.int .i64 (A k).src,.int .i64 (A k).dst,.int .i64 (A k).r,.bool (A k).g],.pointer (some ⟨b,0,none⟩)] wr fun r w'=>r=.returned (.bool ((A k).clash m))/\Below w.heap.size w w'):=fun k wr hk hbr=>by
  obtain⟨g,off,e,_,hc,_⟩:=IsMv.below h hbr k (by omega);exact⟨g,off,e,hc 0 _ rfl,hc 1 _ rfl,hc 2 _ rfl,hc 3 _ rfl,(Z5Y wr (A k) m b (J1z hb hbr.size) ((hbr.cell (p:=⟨b,0,none⟩) hb).trans h0) ((hbr.cell (p:=⟨b,1,none⟩) hb).trans h1) ((hbr.cell (p:=⟨b,3,none⟩) hb).trans h3)).mono fun r w' q=>⟨q.1,hbr.trans (q.2.mono hbr.size)⟩⟩
 have HR1:Hid (∀k w',k<n->Below w.heap.size w w'->(A k).clash m=true->Z1E w n A m (.returned (.int .i64 k)) w'):=fun k w' hk hb' hc=>⟨hb',.inl ⟨k,hk,rfl,hc⟩⟩
 have HR2:Hid (∀w',Below w.heap.size w w'->(∀j,j<n->(A j).clash m=false)->Z1E w n A m (.returned (.int .i64 (-1))) w'):=fun w' hb' hc=>⟨hb',.inr ⟨rfl,hc⟩⟩
 clear h h0 h1 h3 hb hn;generalize Z1E w n A m=Q at *
 unfold Z2V;go_enter func233,ntmps233;go_wp2_with fail
 go_loopw [5,8] (fun _ i wr=>∃k:Nat,k<=n/\i=.int .i64 k/\(∀j,j<k->(A j).clash m=false)/\Below w.heap.size w wr) (fun _ i _=>n-(intOf i).toNat)
 case atStart=>exact⟨0,J3z _,rfl,by intro j hj;omega,Below.refl _ _⟩
 case round =>
  obtain⟨k,hk,rfl,hpre,hbr⟩:=hrel;have Hp:=Q0a hpre;have HB:=Q0a hbr;clear hpre hbr;by_cases hlt:k<n
  ·obtain⟨g,off,rfl,c0,c1,c2,c3,hcall⟩:=HP.out k wr hlt HB.out;have HC:=Q0a hcall;clear hcall;cases hv:(A k).clash m with
   | true =>
    have HV:=Q0a hv;rw [hv] at HC;clear hv;go_wp2_with (go_at_call 164;refine HC.out.mono ?_;rintro e w' ⟨rfl,hb'⟩)
    first|exact HR1.out k _ hlt hb' HV.out|(go_ret;exact HR1.out k _ hlt hb' HV.out)
   | false =>
    have HV:=Q0a hv;rw [hv] at HC;clear hv;go_wp2_with (go_at_call 164;refine HC.out.mono ?_;rintro e w' ⟨rfl,hb'⟩);go_roundw
    case rel =>
     refine⟨k+1,by omega,by go_num,fun j hj=>?_,hb'⟩;by_cases e:j=k
     ·rw [e];exact HV.out
     ·exact Hp.out j (by omega)
    case measure=>simp [intOf];omega
  ·obtain rfl:k=n:=by omega
   clear HP;go_wp2_with fail
   first|exact HR2.out _ HB.out Hp.out|(go_ret;exact HR2.out _ HB.out Hp.out)
def Q1u (A:Nat->Mv) (n:Nat) (m:Mv):Bool:=(List.range n).any fun k=>(A k).clash m
theorem Q7W {w:World} {a0:Option Addr} {len:Nat} {A:Nat->Mv} (h:IsMv w a0 len A) {n:Nat} (cap:Nat) (hn:n<=len) (hm:n<=4611686018427387904) (m:Mv) (b:Nat) (hb:b<w.heap.size) (h0:w.cell? ⟨b,0,none⟩=some (.int .i64 m.src)) (h1:w.cell? ⟨b,1,none⟩=some (.int .i64 m.dst)) (h3:w.cell? ⟨b,3,none⟩=some (.bool m.g)) :
  Calls prog 163 #[.slice a0 n cap,Z2V b] w (Told w (.bool (Q1u A n m))):=by
 have ki:=Z2W h cap hn hm m b hb h0 h1 h3;clear h h0 h1 h3 hb hn hm;unfold Z2V at *
 go_enter func163,ntmps163;go_wp2_with fail;refine ki.mono ?_;rintro e w' ⟨hb',⟨k,hk,rfl,hc⟩|⟨rfl,hc⟩⟩
 ·have hv:Q1u A n m=true:=List.any_eq_true.2 ⟨k,J1N.2 hk,hc⟩;have HR:Hid (Told w (.bool (Q1u A n m)) (.returned (.bool true)) w'):=⟨by rw [hv],hb'⟩
  have hk0:(0:Int)<=(k:Int):=by omega
  clear hv hc hb';generalize Q1u A n m=v at *
  go_wp2_with fail
  first|exact HR.out|(go_ret;exact HR.out)
 ·have hv:Q1u A n m=false:=J5Y.2 fun k hk=>by simp [hc k (List.mem_range.1 hk)]
  have HR:Hid (Told w (.bool (Q1u A n m)) (.returned (.bool false)) w'):=⟨by rw [hv],hb'⟩
  clear hv hc hb';generalize Q1u A n m=v at *
  go_wp2_with fail
  first|exact HR.out|(go_ret;exact HR.out)
def J0Q (h1 h2 br c1 c2 s1 z1 z2 s2 cl:Bool) (er:Int):Prop:=(h1=false/\er=2)∨(h1=true/\h2=false/\er=2)∨(h1=true/\h2=true/\br=false/\er=1)∨(h1=true/\h2=true/\br=true/\c1=!c2/\er=1)∨(h1=true/\h2=true/\br=true/\c1=c2/\s1=false/\er=6)∨(h1=true/\h2=true/\br=true/\c1=c2/\s1=true/\z1=true/\er=9)∨(h1=true/\h2=true/\br=true/\c1=c2/\s1=true/\z1=false/\z2=true/\er=9)∨(h1=true/\h2=true/\br=true/\c1=c2/\s1=true/\z1=false/\z2=false/\s2=true/\er=7)∨(h1=true/\h2=true/\br=true/\c1=c2/\s1=true/\z1=false/\z2=false/\s2=false/\cl=true/\er=7)∨(h1=true/\h2=true/\br=true/\c1=c2/\s1=true/\z1=false/\z2=false/\s2=false/\cl=false/\er=0)
theorem Z2X {w:World} {g1 x1 g2 x2:Nat} {f1 f2:Int} {m:Mv} {a0:Option Addr} {n cap:Nat} {ca1 cb1 ca2 cb2 er:Int} {s1 s2 cl:Bool}
  (hC1:∀W,Below w.heap.size w W->Calls prog 74 #[.agg #[.pointer (some ⟨g1,0,none⟩),.int .u32 x1,.int .i64 f1],.int .i64 m.src] W (Told W (.tuple #[.agg #[.int .u32 ca1,.int .i64 cb1],.bool s1])))
  (hC2:∀W,Below w.heap.size w W->Calls prog 74 #[.agg #[.pointer (some ⟨g2,0,none⟩),.int .u32 x2,.int .i64 f2],.int .i64 m.dst] W (Told W (.tuple #[.agg #[.int .u32 ca2,.int .i64 cb2],.bool s2])))
  (hCl:∀W b,Below w.heap.size w W->b<W.heap.size->W.cell? ⟨b,0,none⟩=some (.int .i64 m.src)->W.cell? ⟨b,1,none⟩=some (.int .i64 m.dst)->W.cell? ⟨b,3,none⟩=some (.bool m.g)->Calls prog 163 #[.slice a0 n cap,Z2V b] W (Told W (.bool cl)))
  (hT:J0Q (decide (0<=m.src/\m.src<256)) (decide (0<=m.dst/\m.dst<256)) (decide (0<m.r/\m.r<=15)) (decide (m.src<128)) (decide (m.dst<128)) s1 (bits .and .i64 cb1 4==0) (bits .and .i64 cb1 m.r==0) s2 cl er) :
  Calls prog 80 #[.agg #[.pointer (some ⟨g1,0,none⟩),.int .u32 x1,.int .i64 f1],.agg #[.pointer (some ⟨g2,0,none⟩),.int .u32 x2,.int .i64 f2],.agg #[.int .i64 m.src,.int .i64 m.dst,.int .i64 m.r,.bool m.g],.slice a0 n cap] w (Told w (.int .i64 er)):=by
 have HH1:Hid (∀W,Calls prog 75 #[.int .i64 m.src] W fun r w'=>r=.returned (.bool (decide (0<=m.src/\m.src<256)))/\W=w'):=fun W=>Q2P W m.src
 have HH2:Hid (∀W,Calls prog 75 #[.int .i64 m.dst] W fun r w'=>r=.returned (.bool (decide (0<=m.dst/\m.dst<256)))/\W=w'):=fun W=>Q2P W m.dst
 have HRt:Hid (∀W,Calls prog 76 #[.int .i64 m.r] W fun r' w'=>r'=.returned (.bool (decide (0<m.r/\m.r<=15)))/\W=w'):=fun W=>Q3G W m.r
 have HK1:Hid (∀W,Calls prog 77 #[.int .i64 m.src] W fun r w'=>r=.returned (.bool (decide (m.src<128)))/\W=w'):=fun W=>Q2E W m.src
 have HK2:Hid (∀W,Calls prog 77 #[.int .i64 m.dst] W fun r w'=>r=.returned (.bool (decide (m.dst<128)))/\W=w'):=fun W=>Q2E W m.dst
 obtain⟨ms,md,mr,mg⟩:=m;dsimp only at *
 have HW:Hid (∀W,Below (((w.alloc (.cells #[.pointer (some ⟨g1,0,none⟩),.int .u32 x1,.int .i64 f1] 155)).alloc (.cells #[.pointer (some ⟨g2,0,none⟩),.int .u32 x2,.int .i64 f2] 155)).alloc (.cells #[.int .i64 ms,.int .i64 md,.int .i64 mr,.bool mg] 39)).heap.size (((w.alloc (.cells #[.pointer (some ⟨g1,0,none⟩),.int .u32 x1,.int .i64 f1] 155)).alloc (.cells #[.pointer (some ⟨g2,0,none⟩),.int .u32 x2,.int .i64 f2] 155)).alloc (.cells #[.int .i64 ms,.int .i64 md,.int .i64 mr,.bool mg] 39)) W ->
   Below w.heap.size w W/\w.heap.size+2<W.heap.size/\(W.cell? ⟨w.heap.size+1,0,none⟩=some (.pointer (some ⟨g2,0,none⟩))/\W.cell? ⟨w.heap.size+1,1,none⟩=some (.int .u32 x2)/\W.cell? ⟨w.heap.size+1,2,none⟩=some (.int .i64 f2)) /\
   W.cell? ⟨w.heap.size+2,0,none⟩=some (.int .i64 ms)/\W.cell? ⟨w.heap.size+2,1,none⟩=some (.int .i64 md)/\W.cell? ⟨w.heap.size+2,2,none⟩=some (.int .i64 mr)/\W.cell? ⟨w.heap.size+2,3,none⟩=some (.bool mg)):=fun W hb=>by
  have h5:=((Cells.new (w.alloc (.cells #[.pointer (some ⟨g1,0,none⟩),.int .u32 x1,.int .i64 f1] 155)) 155 [.pointer (some ⟨g2,0,none⟩),.int .u32 x2,.int .i64 f2]).alloc (.cells #[.int .i64 ms,.int .i64 md,.int .i64 mr,.bool mg] 39)).same (hb.block _ (by simp));have h6:=(Cells.new ((w.alloc (.cells #[.pointer (some ⟨g1,0,none⟩),.int .u32 x1,.int .i64 f1] 155)).alloc (.cells #[.pointer (some ⟨g2,0,none⟩),.int .u32 x2,.int .i64 f2] 155)) 39 [.int .i64 ms,.int .i64 md,.int .i64 mr,.bool mg]).same (hb.block _ (by simp));have e1:(w.alloc (.cells #[.pointer (some ⟨g1,0,none⟩),.int .u32 x1,.int .i64 f1] 155)).heap.size=w.heap.size+1:=by simp
  have e2:((w.alloc (.cells #[.pointer (some ⟨g1,0,none⟩),.int .u32 x1,.int .i64 f1] 155)).alloc (.cells #[.pointer (some ⟨g2,0,none⟩),.int .u32 x2,.int .i64 f2] 155)).heap.size=w.heap.size+2:=by simp
  rw [e1] at h5;rw [e2] at h6;exact⟨Q0e (Q0e (Q0e hb)),h6.lt,⟨h5.cell 0 _ rfl,h5.cell 1 _ rfl,h5.cell 2 _ rfl⟩,h6.cell 0 _ rfl,h6.cell 1 _ rfl,h6.cell 2 _ rfl,h6.cell 3 _ rfl⟩
 have k1:=hC1 _ (HW.out _ (Below.refl _ _)).1;have HC2:=Q0a hC2;have HCl:=Q0a hCl;have HT:=Q0a hT;clear hC1 hC2 hCl hT;go_enter func80,ntmps80;go_wp2_with fail;refine k1.mono ?_;rintro rv w1 ⟨rfl,hb1⟩;have HB1:Hid (∀o,Below (((w.alloc (.cells #[.pointer (some ⟨g1,0,none⟩),.int .u32 x1,.int .i64 f1] 155)).alloc (.cells #[.pointer (some ⟨g2,0,none⟩),.int .u32 x2,.int .i64 f2] 155)).alloc (.cells #[.int .i64 ms,.int .i64 md,.int .i64 mr,.bool mg] 39)).heap.size (((w.alloc (.cells #[.pointer (some ⟨g1,0,none⟩),.int .u32 x1,.int .i64 f1] 155)).alloc (.cells #[.pointer (some ⟨g2,0,none⟩),.int .u32 x2,.int .i64 f2] 155)).alloc (.cells #[.int .i64 ms,.int .i64 md,.int .i64 mr,.bool mg] 39)) (w1.alloc o)):=fun o=>hb1.alloc hb1.size o
 have h2:=HW.out _ (HB1.out (.cells #[.int .u32 ca1,.int .i64 cb1] 35));obtain⟨hw2,-,⟨p0,p1,p2⟩,m0,m1,m2,m3⟩:=h2;have k2:=HC2.out _ hw2;clear hb1 k1 hw2 HC2;go_wp2_with fail;refine k2.mono ?_;rintro rv w2 ⟨rfl,hb2⟩;have hb3:=((HB1.out (.cells #[.int .u32 ca1,.int .i64 cb1] 35)).trans (hb2.mono (HB1.out (.cells #[.int .u32 ca1,.int .i64 cb1] 35)).size)).alloc ((HB1.out (.cells #[.int .u32 ca1,.int .i64 cb1] 35)).trans (hb2.mono (HB1.out (.cells #[.int .u32 ca1,.int .i64 cb1] 35)).size)).size (.cells #[.int .u32 ca2,.int .i64 cb2] 35);have hq3:=(((Cells.new w1 35 [.int .u32 ca1,.int .i64 cb1]).same (hb2.block _ (by simp))).alloc (.cells #[.int .u32 ca2,.int .i64 cb2] 35))
 clear p0 p1 p2 m0 m1 m2 m3 k2;go_wp2_with fail;generalize hW3:(w2.alloc (.cells #[.int .u32 ca2,.int .i64 cb2] 35))=w3 at *
 obtain⟨hw3,hl3,-,m0,m1,m2,m3⟩:=HW.out _ hb3;have kc:=HCl.out w3 (w.heap.size+2) hw3 hl3 m0 m1 m3;clear hW3 m0 m1 m2 m3 HCl hb2 hw3 hl3 HB1;unfold Z2V at kc;refine kc.mono ?_;rintro rv w4 ⟨rfl,hb4⟩;have HB4:Hid (∀n,Below w.heap.size w (w4.drewN n)):=fun n=>(HW.out _ (Q0Y (hb3.trans (hb4.mono hb3.size)) n)).1
 obtain⟨-,-,-,m0,m1,m2,m3⟩:=HW.out _ (hb3.trans (hb4.mono hb3.size));have r1:=(hq3.same (hb4.block _ hq3.lt)).cell 1 _ rfl;have kh1:=HH1.out w4;have kh2:=HH2.out w4;have HRQ:Hid (∀n,Calls prog 76 #[.int .i64 mr] (w4.drewN n) fun e w''=>e=.returned (.bool (decide (0<mr/\mr<=15)))/\∃m,w''=w4.drewN m):=fun n=>(HRt.out _).mono fun e w' h=>⟨h.1,n,h.2.symm⟩
 have HK1Q:Hid (∀n,Calls prog 77 #[.int .i64 ms] (w4.drewN n) fun e w''=>e=.returned (.bool (decide (ms<128)))/\∃m,w''=w4.drewN m):=fun n=>(HK1.out _).mono fun e w' h=>⟨h.1,n,h.2.symm⟩
 have HK2Q:Hid (∀n,Calls prog 77 #[.int .i64 md] (w4.drewN n) fun e w''=>e=.returned (.bool (decide (md<128)))/\∃m,w''=w4.drewN m):=fun n=>(HK2.out _).mono fun e w' h=>⟨h.1,n,h.2.symm⟩
 clear hb3 hb4 hq3 HW kc HH1 HH2 HRt HK1 HK2;generalize decide (0<=ms/\ms<256)=h1 at *
 generalize decide (0<=md/\md<256)=h2 at *
 generalize decide (0<mr/\mr<=15)=br at *
 generalize decide (ms<128)=c1 at *
 generalize decide (md<128)=c2 at *
 have hT:=HT.out;clear HT;go_wp2_with fail;rcases hT with ⟨rfl,rfl⟩|⟨rfl,rfl,rfl⟩|⟨rfl,rfl,rfl,rfl⟩|⟨rfl,rfl,rfl,rfl,rfl⟩|⟨rfl,rfl,rfl,rfl,rfl,rfl⟩|⟨rfl,rfl,rfl,rfl,rfl,hz1,rfl⟩|⟨rfl,rfl,rfl,rfl,rfl,hz1,hz2,rfl⟩|⟨rfl,rfl,rfl,rfl,rfl,hz1,hz2,rfl,rfl⟩|⟨rfl,rfl,rfl,rfl,rfl,hz1,hz2,rfl,rfl,rfl⟩|⟨rfl,rfl,rfl,rfl,rfl,hz1,hz2,rfl,rfl,rfl⟩
 ·refine kh1.mono ?_;rintro rv w' ⟨rfl,rfl⟩;go_wp2_with fail
  first|exact⟨rfl,HB4.out _⟩|exact⟨rfl,HB4.out 0⟩|(go_ret;first|exact⟨rfl,HB4.out _⟩|exact⟨rfl,HB4.out 0⟩)
 ·refine kh1.mono ?_;rintro rv w' ⟨rfl,rfl⟩;go_wp2_with fail;refine kh2.mono ?_;rintro rv w' ⟨rfl,rfl⟩;go_wp2_with fail
  first|exact⟨rfl,HB4.out _⟩|exact⟨rfl,HB4.out 0⟩|(go_ret;first|exact⟨rfl,HB4.out _⟩|exact⟨rfl,HB4.out 0⟩)
 ·refine kh1.mono ?_;rintro rv w' ⟨rfl,rfl⟩;go_wp2_with fail;refine kh2.mono ?_;rintro rv w' ⟨rfl,rfl⟩;go_wp2_with fail
  go_quiet (first|(go_at_call 76;exact HRQ.out _)|(go_at_call 77;exact HK1Q.out _)|(go_at_call 77;exact HK2Q.out _))
  go_wp2_with fail
  first|exact⟨rfl,HB4.out _⟩|exact⟨rfl,HB4.out 0⟩|(go_ret;first|exact⟨rfl,HB4.out _⟩|exact⟨rfl,HB4.out 0⟩)
 ·cases c2
  ·refine kh1.mono ?_;rintro rv w' ⟨rfl,rfl⟩;go_wp2_with fail;refine kh2.mono ?_;rintro rv w' ⟨rfl,rfl⟩;go_wp2_with fail
   go_quiet (first|(go_at_call 76;exact HRQ.out _)|(go_at_call 77;exact HK1Q.out _)|(go_at_call 77;exact HK2Q.out _))
   go_wp2_with fail
   first|exact⟨rfl,HB4.out _⟩|exact⟨rfl,HB4.out 0⟩|(go_ret;first|exact⟨rfl,HB4.out _⟩|exact⟨rfl,HB4.out 0⟩)
  ·refine kh1.mono ?_;rintro rv w' ⟨rfl,rfl⟩;go_wp2_with fail;refine kh2.mono ?_;rintro rv w' ⟨rfl,rfl⟩;go_wp2_with fail
   go_quiet (first|(go_at_call 76;exact HRQ.out _)|(go_at_call 77;exact HK1Q.out _)|(go_at_call 77;exact HK2Q.out _))
   go_wp2_with fail
   first|exact⟨rfl,HB4.out _⟩|exact⟨rfl,HB4.out 0⟩|(go_ret;first|exact⟨rfl,HB4.out _⟩|exact⟨rfl,HB4.out 0⟩)
 ·cases c1
  ·refine kh1.mono ?_;rintro rv w' ⟨rfl,rfl⟩;go_wp2_with fail;refine kh2.mono ?_;rintro rv w' ⟨rfl,rfl⟩;go_wp2_with fail
   go_quiet (first|(go_at_call 76;exact HRQ.out _)|(go_at_call 77;exact HK1Q.out _)|(go_at_call 77;exact HK2Q.out _))
   go_wp2_with fail
   first|exact⟨rfl,HB4.out _⟩|exact⟨rfl,HB4.out 0⟩|(go_ret;first|exact⟨rfl,HB4.out _⟩|exact⟨rfl,HB4.out 0⟩)
  ·refine kh1.mono ?_;rintro rv w' ⟨rfl,rfl⟩;go_wp2_with fail;refine kh2.mono ?_;rintro rv w' ⟨rfl,rfl⟩;go_wp2_with fail
   go_quiet (first|(go_at_call 76;exact HRQ.out _)|(go_at_call 77;exact HK1Q.out _)|(go_at_call 77;exact HK2Q.out _))
   go_wp2_with fail
   first|exact⟨rfl,HB4.out _⟩|exact⟨rfl,HB4.out 0⟩|(go_ret;first|exact⟨rfl,HB4.out _⟩|exact⟨rfl,HB4.out 0⟩)
 ·cases c1
  ·refine kh1.mono ?_;rintro rv w' ⟨rfl,rfl⟩;go_wp2_with fail;refine kh2.mono ?_;rintro rv w' ⟨rfl,rfl⟩;go_wp2_with fail
   go_quiet (first|(go_at_call 76;exact HRQ.out _)|(go_at_call 77;exact HK1Q.out _)|(go_at_call 77;exact HK2Q.out _))
   go_wp2_with fail
   first|exact⟨rfl,HB4.out _⟩|exact⟨rfl,HB4.out 0⟩|(go_ret;first|exact⟨rfl,HB4.out _⟩|exact⟨rfl,HB4.out 0⟩)
  ·refine kh1.mono ?_;rintro rv w' ⟨rfl,rfl⟩;go_wp2_with fail;refine kh2.mono ?_;rintro rv w' ⟨rfl,rfl⟩;go_wp2_with fail
   go_quiet (first|(go_at_call 76;exact HRQ.out _)|(go_at_call 77;exact HK1Q.out _)|(go_at_call 77;exact HK2Q.out _))
   go_wp2_with fail
   first|exact⟨rfl,HB4.out _⟩|exact⟨rfl,HB4.out 0⟩|(go_ret;first|exact⟨rfl,HB4.out _⟩|exact⟨rfl,HB4.out 0⟩)
 ·cases c1
  ·refine kh1.mono ?_;rintro rv w' ⟨rfl,rfl⟩;go_wp2_with fail;refine kh2.mono ?_;rintro rv w' ⟨rfl,rfl⟩;go_wp2_with fail
   go_quiet (first|(go_at_call 76;exact HRQ.out _)|(go_at_call 77;exact HK1Q.out _)|(go_at_call 77;exact HK2Q.out _))
   go_wp2_with fail
   first|exact⟨rfl,HB4.out _⟩|exact⟨rfl,HB4.out 0⟩|(go_ret;first|exact⟨rfl,HB4.out _⟩|exact⟨rfl,HB4.out 0⟩)
  ·refine kh1.mono ?_;rintro rv w' ⟨rfl,rfl⟩;go_wp2_with fail;refine kh2.mono ?_;rintro rv w' ⟨rfl,rfl⟩;go_wp2_with fail
   go_quiet (first|(go_at_call 76;exact HRQ.out _)|(go_at_call 77;exact HK1Q.out _)|(go_at_call 77;exact HK2Q.out _))
   go_wp2_with fail
   first|exact⟨rfl,HB4.out _⟩|exact⟨rfl,HB4.out 0⟩|(go_ret;first|exact⟨rfl,HB4.out _⟩|exact⟨rfl,HB4.out 0⟩)
 ·cases c1
  ·refine kh1.mono ?_;rintro rv w' ⟨rfl,rfl⟩;go_wp2_with fail;refine kh2.mono ?_;rintro rv w' ⟨rfl,rfl⟩;go_wp2_with fail
   go_quiet (first|(go_at_call 76;exact HRQ.out _)|(go_at_call 77;exact HK1Q.out _)|(go_at_call 77;exact HK2Q.out _))
   go_wp2_with fail
   first|exact⟨rfl,HB4.out _⟩|exact⟨rfl,HB4.out 0⟩|(go_ret;first|exact⟨rfl,HB4.out _⟩|exact⟨rfl,HB4.out 0⟩)
  ·refine kh1.mono ?_;rintro rv w' ⟨rfl,rfl⟩;go_wp2_with fail;refine kh2.mono ?_;rintro rv w' ⟨rfl,rfl⟩;go_wp2_with fail
   go_quiet (first|(go_at_call 76;exact HRQ.out _)|(go_at_call 77;exact HK1Q.out _)|(go_at_call 77;exact HK2Q.out _))
   go_wp2_with fail
   first|exact⟨rfl,HB4.out _⟩|exact⟨rfl,HB4.out 0⟩|(go_ret;first|exact⟨rfl,HB4.out _⟩|exact⟨rfl,HB4.out 0⟩)
 ·cases c1
  ·refine kh1.mono ?_;rintro rv w' ⟨rfl,rfl⟩;go_wp2_with fail;refine kh2.mono ?_;rintro rv w' ⟨rfl,rfl⟩;go_wp2_with fail
   go_quiet (first|(go_at_call 76;exact HRQ.out _)|(go_at_call 77;exact HK1Q.out _)|(go_at_call 77;exact HK2Q.out _))
   go_wp2_with fail
   first|exact⟨rfl,HB4.out _⟩|exact⟨rfl,HB4.out 0⟩|(go_ret;first|exact⟨rfl,HB4.out _⟩|exact⟨rfl,HB4.out 0⟩)
  ·refine kh1.mono ?_;rintro rv w' ⟨rfl,rfl⟩;go_wp2_with fail;refine kh2.mono ?_;rintro rv w' ⟨rfl,rfl⟩;go_wp2_with fail
   go_quiet (first|(go_at_call 76;exact HRQ.out _)|(go_at_call 77;exact HK1Q.out _)|(go_at_call 77;exact HK2Q.out _))
   go_wp2_with fail
   first|exact⟨rfl,HB4.out _⟩|exact⟨rfl,HB4.out 0⟩|(go_ret;first|exact⟨rfl,HB4.out _⟩|exact⟨rfl,HB4.out 0⟩)
 ·cases c1
  ·refine kh1.mono ?_;rintro rv w' ⟨rfl,rfl⟩;go_wp2_with fail;refine kh2.mono ?_;rintro rv w' ⟨rfl,rfl⟩;go_wp2_with fail
   go_quiet (first|(go_at_call 76;exact HRQ.out _)|(go_at_call 77;exact HK1Q.out _)|(go_at_call 77;exact HK2Q.out _))
   go_wp2_with fail
   first|exact⟨rfl,HB4.out _⟩|exact⟨rfl,HB4.out 0⟩|(go_ret;first|exact⟨rfl,HB4.out _⟩|exact⟨rfl,HB4.out 0⟩)
  ·refine kh1.mono ?_;rintro rv w' ⟨rfl,rfl⟩;go_wp2_with fail;refine kh2.mono ?_;rintro rv w' ⟨rfl,rfl⟩;go_wp2_with fail
   go_quiet (first|(go_at_call 76;exact HRQ.out _)|(go_at_call 77;exact HK1Q.out _)|(go_at_call 77;exact HK2Q.out _))
   go_wp2_with fail
   first|exact⟨rfl,HB4.out _⟩|exact⟨rfl,HB4.out 0⟩|(go_ret;first|exact⟨rfl,HB4.out _⟩|exact⟨rfl,HB4.out 0⟩)
def Z2Y (o1 o2:Option Ent) (m:Mv) (cl:Bool):Int:=
 if ¬((0<=m.src/\m.src<256)/\(0<=m.dst/\m.dst<256)) then 2 else
 if ¬((0<m.r/\m.r<=15)/\decide (m.src<128)=decide (m.dst<128)) then 1 else
 match o1 with
 | none=>6
 | some e=>if e.r&&&4=0∨e.r&&&m.r.toNat=0 then 9 else if o2.isSome=true∨cl=true then 7 else 0
theorem Z8e (o1 o2:Option Ent) (m:Mv) (cl:Bool) (cb1:Int) (h:∀e,o1=some e->cb1=(e.r:Int)/\e.r<16) :
  J0Q (decide (0<=m.src/\m.src<256)) (decide (0<=m.dst/\m.dst<256)) (decide (0<m.r/\m.r<=15)) (decide (m.src<128)) (decide (m.dst<128)) o1.isSome (bits .and .i64 cb1 4==0) (bits .and .i64 cb1 m.r==0) o2.isSome cl (Z2Y o1 o2 m cl):=by
 unfold Z2Y;by_cases a:0<=m.src/\m.src<256
 case neg=>rw [if_pos (fun h=>a h.1)];exact .inl ⟨decide_eq_false a,rfl⟩
 by_cases b:0<=m.dst/\m.dst<256
 case neg=>rw [if_pos (fun h=>b h.2)];exact .inr (.inl ⟨decide_eq_true a,decide_eq_false b,rfl⟩)
 rw [if_neg (fun h=>h ⟨a,b⟩)];by_cases c:0<m.r/\m.r<=15
 case neg=>rw [if_pos (fun h=>c h.1)];exact .inr (.inr (.inl ⟨decide_eq_true a,decide_eq_true b,decide_eq_false c,rfl⟩))
 by_cases d:decide (m.src<128)=decide (m.dst<128)
 case neg =>
  rw [if_pos (fun h=>d h.2)];refine .inr (.inr (.inr (.inl ⟨decide_eq_true a,decide_eq_true b,decide_eq_true c,?_,rfl⟩)));cases h1:decide (m.src<128) <;> cases h2:decide (m.dst<128) <;> simp_all
 rw [if_neg (fun h=>h ⟨c,d⟩)];have ha:=decide_eq_true a;have hb:=decide_eq_true b;have hc:=decide_eq_true c;cases ho:o1 with
 | none=>exact .inr (.inr (.inr (.inr (.inl ⟨ha,hb,hc,d,rfl,rfl⟩))))
 | some e =>
  obtain⟨rfl,hr⟩:=h e ho;obtain⟨k,hk⟩:∃k:Nat,m.r=(k:Int):=⟨m.r.toNat,by omega⟩
  have hk16:k<16:=by omega
  have e1:bits .and .i64 (e.r:Int) 4=((e.r&&&4:Nat):Int):=Q6o e.r 4 hr (by omega);have e2:bits .and .i64 (e.r:Int) m.r=((e.r&&&k:Nat):Int):=by rw [hk];exact Q6o e.r k hr hk16
  have e3:m.r.toNat=k:=by rw [hk];rfl
  rw [e1,e2,e3];dsimp only;by_cases z1:e.r&&&4=0
  ·rw [if_pos (.inl z1)];exact .inr (.inr (.inr (.inr (.inr (.inl ⟨ha,hb,hc,d,rfl,by simp [z1],rfl⟩)))))
  have q1:(((e.r&&&4:Nat):Int)==0)=false:=by simpa using z1
  by_cases z2:e.r&&&k=0
  ·rw [if_pos (.inr z2)];exact .inr (.inr (.inr (.inr (.inr (.inr (.inl ⟨ha,hb,hc,d,rfl,q1,by simp [z2],rfl⟩))))))
  have q2:(((e.r&&&k:Nat):Int)==0)=false:=by simpa using z2
  rw [if_neg (by rintro (h|h);exact z1 h;exact z2 h)];cases h2:o2.isSome with
  | true=>rw [if_pos (.inl rfl)];exact .inr (.inr (.inr (.inr (.inr (.inr (.inr (.inl ⟨ha,hb,hc,d,rfl,q1,q2,rfl,rfl⟩)))))))
  | false =>
   cases cl with
   | true=>rw [if_pos (.inr rfl)];exact .inr (.inr (.inr (.inr (.inr (.inr (.inr (.inr (.inl ⟨ha,hb,hc,d,rfl,q1,q2,rfl,rfl,rfl⟩))))))))
   | false=>rw [if_neg (by simp)];exact .inr (.inr (.inr (.inr (.inr (.inr (.inr (.inr (.inr ⟨ha,hb,hc,d,rfl,q1,q2,rfl,rfl,rfl⟩))))))))
theorem Z8T (o:Option Ent):∃a b:Int,capV o=.tuple #[.agg #[.int .u32 a,.int .i64 b],.bool o.isSome]/\∀e,o=some e->b=(e.r:Int):=by
 cases o with
 | none=>exact⟨0,0,rfl,by intro e h;cases h⟩
 | some e=>exact⟨_,_,rfl,by intro e' h;cases h;rfl⟩
theorem Z5Z {w:World} {S:CO} {t1 t2:TB} {p1 p2:Pl} {g1 g2:Nat} (T1:TT S t1 p1 g1 w) (T2:TT S t2 p2 g2 w) {m:Mv} (l1:∀e,t1.at' m.src=some e->e.Low) (l2:∀e,t2.at' m.dst=some e->e.Low) (x1 x2:Nat) (f1 f2:Int) {a0:Option Addr} {len:Nat} {A:Nat->Mv} (hA:IsMv w a0 len A) {n:Nat} (cap:Nat) (hn:n<=len) (hm:n<=4611686018427387904) :
  Calls prog 80 #[.agg #[.pointer (some ⟨g1,0,none⟩),.int .u32 x1,.int .i64 f1],.agg #[.pointer (some ⟨g2,0,none⟩),.int .u32 x2,.int .i64 f2],.agg #[.int .i64 m.src,.int .i64 m.dst,.int .i64 m.r,.bool m.g],.slice a0 n cap] w (Told w (.int .i64 (Z2Y (t1.at' m.src) (t2.at' m.dst) m (Q1u A n m)))):=by
 obtain⟨ca1,cb1,v1,hr⟩:=Z8T (t1.at' m.src);obtain⟨ca2,cb2,v2,_⟩:=Z8T (t2.at' m.dst);refine Z2X (s1:=(t1.at' m.src).isSome) (s2:=(t2.at' m.dst).isSome) (cl:=Q1u A n m) (ca1:=ca1) (cb1:=cb1) (ca2:=ca2) (cb2:=cb2) (fun W hb=>?_) (fun W hb=>?_) (fun W b hb hlt h0 h1 h3=>Q7W (hA.below hb) cap hn hm m b hlt h0 h1 h3) (Z8e _ _ m _ cb1 fun e he=>⟨hr e he,(l1 e he).2⟩)
 ·have:=Q1t (T1.grown hb) (x1:Int) f1 m.src l1
  rwa [v1] at this
 ·have:=Q1t (T2.grown hb) (x2:Int) f2 m.dst l2
  rwa [v2] at this
def AsideM (H:HL) (n:Nat) (A:Nat->Mv) (a0:Option Addr) (w:World):Prop:=IsMv w a0 n A/\∀a:Addr,n≠0->a0=some a->a.block∉keys H
theorem AsideM.step {H H':HL} {n:Nat} {A:Nat->Mv} {a0:Option Addr} {w w':World} (h:AsideM H n A a0 w) (st:Step H H' w w'):AsideM H' n A a0 w':=by
 obtain⟨h1,h2⟩:=h;refine⟨fun j hj=>?_,fun a hn ha hk=>?_⟩
 ·obtain⟨g,off,rfl,hg,hc,hw⟩:=h1 j hj;have e:=st.chg.block g hg (h2 ⟨g,off,none⟩ (by omega) rfl);exact⟨g,off,rfl,J1z hg st.chg.size,fun i v hv=>(World.cell?_of_block (w:=w) e).trans (hc i v hv),hw⟩
 ·obtain⟨g,off,he,hg,_,_⟩:=h1 0 (by omega);rw [ha] at he;cases he;rcases st.new _ hk with h'|h'
  ·exact h2 _ hn ha h'
  ·simp at h';omega
theorem FPI.same2 {l l':List Pl} {tb tb':Nat->TB} {N:List (En Nd)} (f:FPI l tb N) (he:∀h s,Q0f l' tb' h s=Q0f l tb h s) (hl:∀h s e,Q0f l tb h s=some e->∀q,pget l 1 e.h=some q->∃q',pget l' 1 e.h=some q'/\q'.kind=q.kind):FPI l' tb' N:=by
 have ho:∀n,Q0H l' tb' n=Q0H l tb n:=fun n=>he _ _
 refine⟨fun h s e x=>?_,fun h s e x=>?_,fun n hn=>?_,fun n hn m hm e e' x y=>?_⟩
 ·rw [he] at x;exact Q7e (f.cap h s e x) (hl h s e x)
 ·rw [he] at x;exact f.has h s e x
 ·rw [ho];exact f.is n hn
 ·rw [ho] at x y;exact f.up n hn m hm e e' x y
structure FitM (en:Nat->Nat->Option (Nat×Nat)) (x y:Nat) (m:Mv):Prop where
 src:0<=m.src/\m.src<256
 dst:0<=m.dst/\m.dst<256
 r:0<m.r/\m.r<=15
 side:decide (m.src<128)=decide (m.dst<128)
 full:∃c,en x m.src.toNat=some c/\c.2&&&4≠0/\c.2&&&m.r.toNat≠0
 free:en y m.dst.toNat=none
theorem J0R {l:List Pl} {tb:Nat->TB} {N:List (En Nd)} {x:Nat} {p:Pl} (hp:pget l 1 x=some p) (hk:p.kind=2) {z:Int} (hz:0<=z/\z<256):((tb (x%256)).at' z).map Ent.c=(avOf l tb N).en x z.toNat:=by
 unfold TB.at' avOf;rw [if_pos hz];show _=(Q0f l tb x z.toNat).map Ent.c;rw [Q0g hp hk (by omega)]
theorem Z1F {l:List Pl} {tb:Nat->TB} {N:List (En Nd)} {x y:Nat} {p1 p2:Pl} (hp1:pget l 1 x=some p1) (hk1:p1.kind=2) (hp2:pget l 1 y=some p2) (hk2:p2.kind=2) {m:Mv} {cl:Bool} :
  Z2Y ((tb (x%256)).at' m.src) ((tb (y%256)).at' m.dst) m cl=0↔FitM (avOf l tb N).en x y m/\cl=false:=by
 unfold Z2Y;by_cases h1:(0<=m.src/\m.src<256)/\(0<=m.dst/\m.dst<256)
 ·rw [if_neg (fun h=>h h1)];have e1:=J0R (tb:=tb) (N:=N) hp1 hk1 h1.1;have e2:=J0R (tb:=tb) (N:=N) hp2 hk2 h1.2;by_cases h2:(0<m.r/\m.r<=15)/\decide (m.src<128)=decide (m.dst<128)
  ·rw [if_neg (fun h=>h h2)];cases ho:(tb (x%256)).at' m.src with
   | none =>
    rw [ho] at e1;refine⟨fun h=>by simp at h,fun h=>?_⟩;obtain⟨c,hc,_⟩:=h.1.full;rw [<- e1] at hc;cases hc
   | some e =>
    rw [ho] at e1;simp only;by_cases h3:e.r&&&4=0∨e.r&&&m.r.toNat=0
    ·rw [if_pos h3];refine⟨fun h=>by simp at h,fun h=>?_⟩;obtain⟨c,hc,h4,h5⟩:=h.1.full;rw [<- e1] at hc;cases hc;exact absurd h3 (by simp only [Ent.c] at h4 h5;omega)
    ·rw [if_neg h3];cases ho2:(tb (y%256)).at' m.dst with
     | some e' =>
      rw [ho2] at e2;refine⟨fun h=>by simp at h,fun h=>?_⟩;rw [h.1.free] at e2;cases e2
     | none =>
      rw [ho2] at e2;cases cl with
      | true=>exact⟨fun h=>by simp at h,fun h=>absurd h.2 (by simp)⟩
      | false=>exact⟨fun _=>⟨⟨h1.1,h1.2,h2.1,h2.2,⟨_,e1.symm,by simp only [Ent.c];omega,by simp only [Ent.c];omega⟩,e2.symm⟩,rfl⟩,fun _=>by simp⟩
  ·rw [if_pos h2];exact⟨fun h=>by simp at h,fun h=>absurd ⟨h.1.r,h.1.side⟩ h2⟩
 ·rw [if_pos h1];exact⟨fun h=>by simp at h,fun h=>absurd ⟨h.1.src,h.1.dst⟩ h1⟩
def AllFit (en:Nat->Nat->Option (Nat×Nat)) (x y n:Nat) (A:Nat->Mv):Prop:=∀i,i<n->FitM en x y (A i)/\Q1u A i (A i)=false
theorem AllFit.dst {en:Nat->Nat->Option (Nat×Nat)} {x y n:Nat} {A:Nat->Mv} (h:AllFit en x y n A) {i j:Nat} (hi:i<n) (hj:j<n) (hne:i≠j):(A i).dst.toNat≠(A j).dst.toNat:=by
 have key:∀{a b:Nat},b<n->a<b->(A a).dst≠(A b).dst:=fun {a b} hb hab=>by
  have hc:=(h b hb).2;unfold Q1u at hc;have:=J5Y.1 hc a (J1N.2 hab);unfold Mv.clash at this;intro e;simp [e] at this
 have hi':=(h i hi).1.dst;have hj':=(h j hj).1.dst;intro e;have e':(A i).dst=(A j).dst:=by omega
 rcases Nat.lt_or_gt_of_ne hne with hl|hl
 ·exact key hj hl e'
 ·exact key hi hl e'.symm
theorem AllFit.srcs {en:Nat->Nat->Option (Nat×Nat)} {x y n:Nat} {A:Nat->Mv} (h:AllFit en x y n A) {i j:Nat} (hi:i<n) (hj:j<n) (hne:i≠j) (hg:(A i).g=true):(A i).src.toNat≠(A j).src.toNat:=by
 have key:∀{a b:Nat},b<n->a<b->((A a).g=true∨(A b).g=true)->(A a).src≠(A b).src:=fun {a b} hb hab hor=>by
  have hc:=(h b hb).2;unfold Q1u at hc;have:=J5Y.1 hc a (J1N.2 hab);unfold Mv.clash at this;intro e;rcases hor with h1|h1 <;> simp [e,h1] at this
 have hi':=(h i hi).1.src;have hj':=(h j hj).1.src;intro e;have e':(A i).src=(A j).src:=by omega
 rcases Nat.lt_or_gt_of_ne hne with hl|hl
 ·exact key hj hl (.inl hg) e'
 ·exact key hi hl (.inr hg) e'.symm
structure LaidP (Z:SP) (fr:List Nat) (N K:Nat) (x y:Nat) (own:Int) (A:Nat->Mv) (j k:Nat) (S':CO) (t':TB):Prop where
 ok:S'.Ok fr N K
 tpi:TPI S' (updT Z.tb (y%256) t')
 alt:Alt Z.S S' own
 lf:∀q,q<16->(Z.tb (y%256)).lf q≠0->t'.lf q=(Z.tb (y%256)).lf q
 new:∀i,j<=i->i<k->∃c nd,Z.av.en x (A i).src.toNat=some c/\t'.en (A i).dst.toNat=some ⟨c.1,c.2&&&(A i).r.toNat,nd⟩
 old:∀s,(∀i,j<=i->i<k->s≠(A i).dst.toNat)->t'.en s=(Z.tb (y%256)).en s
theorem Q1k (tb:Nat->TB) (i:Nat):updT tb i (tb i)=tb:=by
 funext j;unfold updT;split
 ·rename_i h;rw [h]
 ·rfl
section
variable {Z:SP} {fr:List Nat} {N K:Nat} {M:Int} {x y n:Nat} {p1 p2:Pl} {A:Nat->Mv}
theorem LaidP.start (ok:Z.Ok fr N K M) (own:Int):LaidP Z fr N K x y own A 0 0 Z.S (Z.tb (y%256)):=
 ⟨ok.core,by rw [Q1k];exact ok.tpi,Alt.refl _ _,fun _ _ _=>rfl,fun i _ h=>by omega,fun _ _=>rfl⟩
theorem LaidP.lf_keep (hy:y%256<256) (hf:(Z.tb (y%256)).Full) (hp2:Z.S.l[y%256]?=some p2) (h1:p2.st=1) (h2:p2.kind=2) {S1 S2:CO} {t1 t2:TB} {own:Int} (tp:TPI S2 (updT (updT Z.tb (y%256) t1) (y%256) t2)) (hl:S2.l=Z.S.l)
  (hold:∀s,(Z.tb (y%256)).en s≠none->t2.en s≠none) (hlf1:∀q,q<16->(Z.tb (y%256)).lf q≠0->t1.lf q=(Z.tb (y%256)).lf q) (hlf:∀k,(updT Z.tb (y%256) t1 (y%256)).lf k=0∨t2.lf k=0∨t2.lf k=(updT Z.tb (y%256) t1 (y%256)).lf k):∀q,q<16->(Z.tb (y%256)).lf q≠0->t2.lf q=(Z.tb (y%256)).lf q:=by
 intro q hq h0;have e1:=hlf1 q hq h0;have h3:=hlf q;rw [updT_same,e1] at h3;rcases h3 with h|h|h
 ·exact absurd h h0
 ·exfalso;obtain⟨s,hs,hsq,hse⟩:=hf q hq h0;have hin:=tp.tin (y%256) p2 (by rw [hl];exact hp2) h1 h2;rw [updT_same] at hin;exact hold s hse (hin.hole s hs (by rw [hsq];exact h))
 ·exact h
theorem LaidP.lay (ok:Z.Ok fr N K M) (hp2:pget Z.S.l 1 y=some p2) (hk2:p2.kind=2) (hfit:AllFit Z.av.en x y n A) {k:Nat} (hkn:k<n) {S1 S2:CO} {t1 t2:TB} (L:LaidP Z fr N K x y (p2.fac:Int) A 0 k S1 t1) {c:Nat×Nat} (hc:Z.av.en x (A k).src.toNat=some c) {nd:Nat}
  (T:TurnP S1 fr N K (updT Z.tb (y%256) t1) (p2.fac:Int) (y%256) (A k).dst.toNat (some ⟨c.1,c.2&&&(A k).r.toNat,nd⟩) S2 t2):LaidP Z fr N K x y (p2.fac:Int) A 0 (k+1) S2 t2:=by
 have hen:∀z,t2.en z=if z=(A k).dst.toNat then some ⟨c.1,c.2&&&(A k).r.toNat,nd⟩ else t1.en z:=fun z=>by rw [T.en z,updT_same]
 have hfree:∀i,i<n->(Z.tb (y%256)).en (A i).dst.toNat=none:=fun i hi=>by
  have h:=(hfit i hi).1;have:=av_none.1 h.free
  rwa [Q0g hp2 hk2 (by have:=h.dst;omega)] at this
 have hold:∀s,(Z.tb (y%256)).en s≠none->t2.en s≠none:=fun s hs=>by
  have hns:∀i,i<n->s≠(A i).dst.toNat:=fun i hi e=>hs (by rw [e];exact hfree i hi)
  rw [hen s,if_neg (hns k hkn),L.old s fun i _ hi=>hns i (by omega)];exact hs
 have al:=L.alt.trans T.alt;refine⟨T.ok,by have:=T.tpi;rwa [Q1b] at this,al,?_,fun i _ hi=>?_,fun s hs=>?_⟩
 ·exact LaidP.lf_keep (own:=(p2.fac:Int)) (S1:=S1) (J4D _ (by omega)) (ok.tpi.full _ (J4D _ (by omega))) (pget_some.1 hp2).1 (pget_some.1 hp2).2.2 hk2 T.tpi (by rw [al.l]) hold L.lf T.lf
 ·by_cases e:i=k
  ·subst e;exact⟨c,nd,hc,by rw [hen,if_pos rfl]⟩
  ·obtain⟨c',nd',h1,h2⟩:=L.new i (by omega) (by omega);exact⟨c',nd',h1,by rw [hen,if_neg (hfit.dst (by omega) hkn e)];exact h2⟩
 ·rw [hen,if_neg (hs k (by omega) (by omega))];exact L.old s fun i h1 h2=>hs i h1 (by omega)
theorem LaidP.bare (ok:Z.Ok fr N K M) (hp2:pget Z.S.l 1 y=some p2) (hk2:p2.kind=2) (hfit:AllFit Z.av.en x y n A) {j k:Nat} (hkn:k<=n) (hj:j<k) {S1 S2:CO} {t1 t2:TB} (L:LaidP Z fr N K x y (p2.fac:Int) A j k S1 t1)
  (T:TurnP S1 fr N K (updT Z.tb (y%256) t1) (p2.fac:Int) (y%256) (A j).dst.toNat none S2 t2):LaidP Z fr N K x y (p2.fac:Int) A (j+1) k S2 t2:=by
 have hen:∀z,t2.en z=if z=(A j).dst.toNat then none else t1.en z:=fun z=>by rw [T.en z,updT_same]
 have hfree:∀i,i<n->(Z.tb (y%256)).en (A i).dst.toNat=none:=fun i hi=>by
  have h:=(hfit i hi).1;have:=av_none.1 h.free
  rwa [Q0g hp2 hk2 (by have:=h.dst;omega)] at this
 have hold:∀s,(Z.tb (y%256)).en s≠none->t2.en s≠none:=fun s hs=>by
  have hns:∀i,i<n->s≠(A i).dst.toNat:=fun i hi e=>hs (by rw [e];exact hfree i hi)
  rw [hen s,if_neg (hns j (by omega)),L.old s fun i _ hi=>hns i (by omega)];exact hs
 have al:=L.alt.trans T.alt;refine⟨T.ok,by have:=T.tpi;rwa [Q1b] at this,al,?_,fun i h1 h2=>?_,fun s hs=>?_⟩
 ·exact LaidP.lf_keep (own:=(p2.fac:Int)) (S1:=S1) (J4D _ (by omega)) (ok.tpi.full _ (J4D _ (by omega))) (pget_some.1 hp2).1 (pget_some.1 hp2).2.2 hk2 T.tpi (by rw [al.l]) hold L.lf T.lf
 ·obtain⟨c',nd',h3,h4⟩:=L.new i (by omega) h2;exact⟨c',nd',h3,by rw [hen,if_neg (hfit.dst (by omega) (by omega) (by omega))];exact h4⟩
 ·rw [hen];by_cases e:s=(A j).dst.toNat
  ·rw [if_pos e,e];exact (hfree j (by omega)).symm
  ·rw [if_neg e];refine L.old s fun i h1 h2=>?_
   by_cases e2:i=j
   ·rw [e2];exact e
   ·exact hs i (by omega) h2
theorem LaidP.tried {j k:Nat} {own:Int} {S1:CO} {t1:TB} (L:LaidP Z fr N K x y own A j k S1 t1) {P':PL} (h:Tried S1.P fr S1.l P'):LaidP Z fr N K x y own A j k (S1.setP P') t1:=by
 refine⟨L.ok.tried h,L.tpi.tried L.ok h,L.alt.trans ?_,L.lf,L.new,L.old⟩;exact⟨rfl,rfl,rfl,rfl,rfl,rfl,rfl,rfl,h.same,by show P'.q.next=_;rw [h.q],fun id e he=>⟨e,by show find P'.q.E id=_;rw [h.q];exact he,rfl,fun _=>rfl⟩,by show P'.q.E.map En.id=_;rw [h.q],fun r hr his _=>h.mem r hr his⟩
def BackZ (Z:SP) (fr:List Nat) (N K:Nat) (y:Nat) (own:Int) (w w':World):Prop:=∃S' t',S'.Ok fr N K/\TPI S' (updT Z.tb (y%256) t')/\Alt Z.S S' own/\(∀q,q<16->t'.lf q=(Z.tb (y%256)).lf q)/\(∀s,t'.en s=(Z.tb (y%256)).en s)/\Step Z.hl (Z.setS S' (updT Z.tb (y%256) t')).hl w w'
theorem LaidP.back (ok:Z.Ok fr N K M) (hp2:pget Z.S.l 1 y=some p2) (hk2:p2.kind=2) {k:Nat} {own:Int} {S1:CO} {t1:TB} (L:LaidP Z fr N K x y own A k k S1 t1) {w w':World} (st:Step Z.hl (Z.setS S1 (updT Z.tb (y%256) t1)).hl w w'):BackZ Z fr N K y own w w':=by
 have hen:∀s,t1.en s=(Z.tb (y%256)).en s:=fun s=>L.old s fun i h1 h2=>by omega
 have hi:=(pget_some.1 hp2).1;have h1:=(pget_some.1 hp2).2.2;refine⟨S1,t1,L.ok,L.tpi,L.alt,fun q hq=>?_,hen,st⟩;by_cases h0:(Z.tb (y%256)).lf q=0
 ·rw [h0];refine Classical.byContradiction fun hne=>?_
  have hfl:=L.tpi.full (y%256) (J4D _ (by omega));rw [updT_same] at hfl;obtain⟨s,hs,hsq,hse⟩:=hfl q hq hne;rw [hen s] at hse;exact hse ((ok.tpi.tin (y%256) p2 hi h1 hk2).hole s hs (by rw [hsq];exact h0))
 ·exact L.lf q hq h0
theorem BackZ.ok (ok:Z.Ok fr N K M) {own:Int} {w w':World} (h:BackZ Z fr N K y own w w'):∃Z',Z'.Ok fr N K M/\Z'.av=Z.av/\SameZ Z Z'/\Step Z.hl Z'.hl w w':=by
 obtain⟨S',t',h1,h2,h3,h4,h5,h6⟩:=h;have hent:∀h s,Q0f S'.l (updT Z.tb (y%256) t') h s=Q0f Z.S.l Z.tb h s:=fun h s=>by
  unfold Q0f;rw [h3.l];split
  ·split
   ·by_cases e:h%256=y%256
    ·rw [e,updT_same,h5]
    ·rw [Q0V e]
   ·rfl
  ·rfl
 refine⟨Z.setS S' (updT Z.tb (y%256) t'),⟨h1,h2,?_,ok.fo,ok.next⟩,?_,⟨⟨rfl,h3.alt0,rfl⟩,rfl⟩,h6⟩
 ·refine ok.fpi.same2 hent fun h s e he q hq=>⟨q,?_,rfl⟩
  show pget S'.l 1 e.h=some q;rw [h3.l];exact hq
 ·show (⟨fun h s=>(Q0f S'.l (updT Z.tb (y%256) t') h s).map Ent.c,Z.F.N⟩:AV)=_;unfold SP.av avOf;congr 1;funext h s;rw [hent]
end
end Go.Proofs.YtlakjlmaboioiaaGreatDoor

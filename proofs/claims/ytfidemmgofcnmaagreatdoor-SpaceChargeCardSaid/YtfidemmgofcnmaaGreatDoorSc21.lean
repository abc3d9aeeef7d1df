/- SpaceCharge returns true at every input. No condition. Part of its proof. -/
import Derived.ProofKit
import Derived.Deep.Slices
import Derived.OpenShut
import Derived.Test.YtfidemmgofcnmaaGreatDoorSc20
set_option maxHeartbeats 8000000
set_option maxRecDepth 100000
set_option linter.unusedVariables false
namespace Go.Proofs.YtfidemmgofcnmaaGreatDoor
open Go.ChangeShapes Go.WideShapes Go.ChangeAt Go.RowKit Go.Deep Go.Proofs.Tryz
theorem Q6x {w:World} {x:Addr} {v:Value} (h:w.cell? x=some v):x=⟨x.block,x.off,none⟩:=by
 obtain⟨b,o,s⟩:=x;cases s with
 | none=>rfl
 | some s =>
  exfalso;unfold World.cell? at h;split at h <;> simp at h
theorem add_plain5 (b o j:Nat):(⟨b,o,none⟩:Addr).add j=⟨b,o+j,none⟩:=by
 unfold Addr.add;split
 ·rename_i h;simp
 ·rfl
abbrev I64 (x:Int):Prop:=-9223372036854775808<=x/\x<=9223372036854775807
structure Mv where
 src:Int
 dst:Int
 r:Int
 g:Bool
def Mv.cells (x:Mv):List Value:=[.int .i64 x.src,.int .i64 x.dst,.int .i64 x.r,.bool x.g]
structure Mv.Wf (x:Mv):Prop where
 src:I64 x.src
 dst:I64 x.dst
 r:I64 x.r
structure It where
 base:Int
 order:Int
 r:Int
 off:Int
 g:Bool
def It.cells (x:It):List Value:=[.int .i64 x.base,.int .i64 x.order,.int .i64 x.r,.int .i64 x.off,.bool x.g]
structure It.Wf (x:It):Prop where
 base:I64 x.base
 order:I64 x.order
 r:I64 x.r
 off:I64 x.off
structure Wi where
 base:Int
 order:Int
def Wi.cells (x:Wi):List Value:=[.int .i64 x.base,.int .i64 x.order]
structure Wi.Wf (x:Wi):Prop where
 base:I64 x.base
 order:I64 x.order
def IsMv (w:World) (a0:Option Addr) (len:Nat) (A:Nat->Mv):Prop:=∀j,j<len->∃g off,a0=some ⟨g,off,none⟩/\g<w.heap.size/\(∀(i:Nat) (v:Value),(A j).cells[i]?=some v->w.cell? ⟨g,off+j*4+i,none⟩=some v)/\(A j).Wf
theorem IsMv.below {w w':World} {a0:Option Addr} {len:Nat} {A:Nat->Mv} (h:IsMv w a0 len A) (hb:Below w.heap.size w w'):IsMv w' a0 len A:=by
 intro j hj;obtain⟨g,off,h1,h2,h3,h4⟩:=h j hj;have e:=hb.block g h2;exact⟨g,off,h1,J2A h2 hb.size,fun i v hv=>(World.cell?_of_block (w:=w) e).trans (h3 i v hv),h4⟩
structure A17 where
 kind:Int
 n:Int
 k:Int
 m:Int
 t:Int
 u:Int
 s:Int
 r:Int
 self:Bool
 la:Option Addr
 ll:Nat
 lc:Nat
 L:Nat->Mv
 i:It
 w:Wi
def A17.cells (x:A17):List Value:=[.int .i64 x.kind,.int .i64 x.n,.int .i64 x.k,.int .i64 x.m,.int .i64 x.t,.int .i64 x.u,.int .i64 x.s,.int .i64 x.r,.bool x.self,.slice x.la x.ll x.lc]++x.i.cells++x.w.cells
structure A17.Wf (x:A17):Prop where
 n:I64 x.n
 k:I64 x.k
 m:I64 x.m
 t:I64 x.t
 u:I64 x.u
 s:I64 x.s
 r:I64 x.r
 len:x.ll<=x.lc/\x.lc<=maxLen
 i:x.i.Wf
 w:x.w.Wf
def IsA17 (w:World) (a0:Option Addr) (len:Nat) (A:Nat->A17):Prop:=∀j,j<len->∃g off,a0=some ⟨g,off,none⟩/\g<w.heap.size/\(∀(i:Nat) (v:Value),(A j).cells[i]?=some v->w.cell? ⟨g,off+j*17+i,none⟩=some v)/\(A j).Wf/\IsMv w (A j).la (A j).ll (A j).L
theorem IsA17.below {w w':World} {a0:Option Addr} {len:Nat} {A:Nat->A17} (h:IsA17 w a0 len A) (hb:Below w.heap.size w w'):IsA17 w' a0 len A:=by
 intro j hj;obtain⟨g,off,h1,h2,h3,h4,h5⟩:=h j hj;have e:=hb.block g h2;exact⟨g,off,h1,J2A h2 hb.size,fun i v hv=>(World.cell?_of_block (w:=w) e).trans (h3 i v hv),h4,h5.below hb⟩
theorem Z6t:prog.cellsOf 67=17:=by kernel_rfl
theorem Q9C:prog.cellsOf 90=4:=by kernel_rfl
theorem Q9D:prog.cellsOf 63=5:=by kernel_rfl
theorem Q9E:prog.cellsOf 65=2:=by kernel_rfl
theorem Q3L:prog.cellsOf 3=1:=by kernel_rfl
theorem Q4i:prog.cellsOf 4=1:=by kernel_rfl
theorem Z3m:prog.cellsOf 61=1:=by kernel_rfl
theorem Z0I {H:Type} {enc:TypeId×Value->H} {w:World} {n:Nat} {cs:List Value} {y:DataW H×List MemPlace}
  (h:DataW.trod enc prog w 0 (fun _=>true) true n 90 cs=some y):∃x:Mv,cs=x.cells/\x.Wf:=by
 obtain⟨xs,n',_,_,Ae,Dr,hf⟩:=DataW.trod_struct underlying90 h;rw [Q9C] at Ae
 match cs,Ae with
 | [v0,v1,v2,v3],_ =>
  match xs,Dr with
  | [y0,y1,y2,y3],_ =>
   have g0:DataW.trod enc prog w 0 (fun _=>true) true n' 3 (List.take (prog.cellsOf 3) (List.drop 0 [v0,v1,v2,v3]))=some y0:=hf 0 _ rfl;have g1:DataW.trod enc prog w 0 (fun _=>true) true n' 3 (List.take (prog.cellsOf 3) (List.drop 1 [v0,v1,v2,v3]))=some y1:=hf 1 _ rfl;have g2:DataW.trod enc prog w 0 (fun _=>true) true n' 3 (List.take (prog.cellsOf 3) (List.drop 2 [v0,v1,v2,v3]))=some y2:=hf 2 _ rfl;have g3:DataW.trod enc prog w 0 (fun _=>true) true n' 4 (List.take (prog.cellsOf 4) (List.drop 3 [v0,v1,v2,v3]))=some y3:=hf 3 _ rfl;rw [Q3L] at g0 g1 g2;rw [Q4i] at g3;simp only [J6t,J6Y,J5Z,J6Z] at g0 g1 g2 g3
   obtain⟨a0,e0,_,MV⟩:=DataW.trod_int underlying3 g0;have BI:=bounds_i64 (n:=a0) (by simp_all);obtain⟨a1,e1,_,De⟩:=DataW.trod_int underlying3 g1;have Av:=bounds_i64 (n:=a1) (by simp_all);obtain⟨a2,e2,_,EP⟩:=DataW.trod_int underlying3 g2;have Ag:=bounds_i64 (n:=a2) (by simp_all);obtain⟨a3,e3,_⟩:=DataW.trod_bool underlying4 g3;simp only [J2C,and_true] at e0 e1 e2 e3;subst e0;subst e1;subst e2;subst e3;exact⟨⟨a0,a1,a2,a3⟩,rfl,⟨by simpa using BI,by simpa using Av,by simpa using Ag⟩⟩
theorem Z0J {H:Type} {enc:TypeId×Value->H} {w:World} {n:Nat} {cs:List Value} {y:DataW H×List MemPlace}
  (h:DataW.trod enc prog w 0 (fun _=>true) true n 63 cs=some y):∃x:It,cs=x.cells/\x.Wf:=by
 obtain⟨xs,n',_,_,Ae,Dr,hf⟩:=DataW.trod_struct underlying63 h;rw [Q9D] at Ae
 match cs,Ae with
 | [v0,v1,v2,v3,v4],_ =>
  match xs,Dr with
  | [y0,y1,y2,y3,y4],_ =>
   have g0:DataW.trod enc prog w 0 (fun _=>true) true n' 3 (List.take (prog.cellsOf 3) (List.drop 0 [v0,v1,v2,v3,v4]))=some y0:=hf 0 _ rfl;have g1:DataW.trod enc prog w 0 (fun _=>true) true n' 3 (List.take (prog.cellsOf 3) (List.drop 1 [v0,v1,v2,v3,v4]))=some y1:=hf 1 _ rfl;have g2:DataW.trod enc prog w 0 (fun _=>true) true n' 3 (List.take (prog.cellsOf 3) (List.drop 2 [v0,v1,v2,v3,v4]))=some y2:=hf 2 _ rfl;have g3:DataW.trod enc prog w 0 (fun _=>true) true n' 3 (List.take (prog.cellsOf 3) (List.drop 3 [v0,v1,v2,v3,v4]))=some y3:=hf 3 _ rfl;have g4:DataW.trod enc prog w 0 (fun _=>true) true n' 4 (List.take (prog.cellsOf 4) (List.drop 4 [v0,v1,v2,v3,v4]))=some y4:=hf 4 _ rfl
   rw [Q3L] at g0 g1 g2 g3;rw [Q4i] at g4;simp only [J6t,J6Y,J5Z,J6Z] at g0 g1 g2 g3 g4;obtain⟨a0,e0,_,MV⟩:=DataW.trod_int underlying3 g0;have BI:=bounds_i64 (n:=a0) (by simp_all);obtain⟨a1,e1,_,De⟩:=DataW.trod_int underlying3 g1;have Av:=bounds_i64 (n:=a1) (by simp_all);obtain⟨a2,e2,_,EP⟩:=DataW.trod_int underlying3 g2;have Ag:=bounds_i64 (n:=a2) (by simp_all);obtain⟨a3,e3,_,Hq⟩:=DataW.trod_int underlying3 g3;have Ar:=bounds_i64 (n:=a3) (by simp_all);obtain⟨a4,e4,_⟩:=DataW.trod_bool underlying4 g4;simp only [J2C,and_true] at e0 e1 e2 e3 e4;subst e0;subst e1;subst e2;subst e3;subst e4;exact⟨⟨a0,a1,a2,a3,a4⟩,rfl,⟨by simpa using BI,by simpa using Av,by simpa using Ag,by simpa using Ar⟩⟩
theorem Z3n {H:Type} {enc:TypeId×Value->H} {w:World} {n:Nat} {cs:List Value} {y:DataW H×List MemPlace}
  (h:DataW.trod enc prog w 0 (fun _=>true) true n 65 cs=some y):∃x:Wi,cs=x.cells/\x.Wf:=by
 obtain⟨xs,n',_,_,Ae,Dr,hf⟩:=DataW.trod_struct underlying65 h;rw [Q9E] at Ae
 match cs,Ae with
 | [v0,v1],_ =>
  match xs,Dr with
  | [y0,y1],_ =>
   have g0:DataW.trod enc prog w 0 (fun _=>true) true n' 3 (List.take (prog.cellsOf 3) (List.drop 0 [v0,v1]))=some y0:=hf 0 _ rfl;have g1:DataW.trod enc prog w 0 (fun _=>true) true n' 3 (List.take (prog.cellsOf 3) (List.drop 1 [v0,v1]))=some y1:=hf 1 _ rfl;rw [Q3L] at g0 g1;simp only [J6t,J6Y,J5Z,J6Z] at g0 g1;obtain⟨a0,e0,_,MV⟩:=DataW.trod_int underlying3 g0;have BI:=bounds_i64 (n:=a0) (by simp_all);obtain⟨a1,e1,_,De⟩:=DataW.trod_int underlying3 g1;have Av:=bounds_i64 (n:=a1) (by simp_all);simp only [J2C,and_true] at e0 e1;subst e0;subst e1;exact⟨⟨a0,a1⟩,rfl,⟨by simpa using BI,by simpa using Av⟩⟩
theorem Q9F {H:Type} {enc:TypeId×Value->H} {w:World} {fuel:Nat} {cs:List Value} {x:DataW H×List MemPlace}
  (h:DataW.trod enc prog w 0 (fun _=>true) true fuel 61 cs=some x):∃(a0:Option Addr) (len cap:Nat),cs=[.slice a0 len cap]/\(len<=cap/\cap<=maxLen)/\∃A,IsMv w a0 len A:=by
 rcases open_slice underlying61 h with ⟨Bt,_⟩|⟨a,len,cap,m,n,D,Pl,Bt,_,hl,Dc,KT,_,hi⟩
 ·exact⟨none,0,0,Bt,⟨J2y _,by unfold maxLen;omega⟩,fun _=>⟨0,0,0,false⟩,fun j hj=>absurd hj (J6c _)⟩
 ·refine⟨some a,len,cap,Bt,⟨hl,Dc⟩,?_⟩;have hm:len<=m:=by rw [KT];simp;exact hl
  have each:∀j,j<len->∃x:Mv,(∀(i:Nat) (v:Value),x.cells[i]?=some v->w.cell? ((a.add (j*4)).add i)=some v)/\x.Wf:=by
   intro j hj;obtain⟨Vr,hc,ht⟩:=hi j (by omega);rw [Q9C] at hc;obtain⟨x,rfl,hx⟩:=Z0I ht;obtain⟨_,_,AA⟩:=World.cells?_some hc;refine⟨x,fun i v hv=>?_,hx⟩;have Ob:i<4:=by simpa [Mv.cells] using (J2Q.1 hv).1
   exact (AA i Ob).trans hv
  by_cases h0:len=0
  ·exact⟨fun _=>⟨0,0,0,false⟩,fun j hj=>by omega⟩
  ·obtain⟨x0,c0,_⟩:=each 0 (by omega);have hp:=Q6x (x:=a) (by simpa [Addr.add] using c0 0 _ rfl);refine⟨fun j=>if hj:j<len then (each j hj).choose else ⟨0,0,0,false⟩,fun j hj=>?_⟩;obtain⟨h1,h2⟩:=(each j hj).choose_spec;simp only [hj,dif_pos];generalize (each j hj).choose=y at h1 h2;have h3:∀(i:Nat) (v:Value),y.cells[i]?=some v->w.cell? ⟨a.block,a.off+j*4+i,none⟩=some v:=fun i v hv=>by
    have:=h1 i v hv;rw [hp,add_plain5,add_plain5] at this;exact this
   exact⟨a.block,a.off,congrArg some hp,World.block_lt_of_cell? w ⟨a.block,a.off+j*4+0,none⟩ (h3 0 _ rfl),h3,h2⟩
theorem Z3o {H:Type} {enc:TypeId×Value->H} {w:World} {n:Nat} {cs:List Value} {y:DataW H×List MemPlace}
  (h:DataW.trod enc prog w 0 (fun _=>true) true n 67 cs=some y):∃x:A17,cs=x.cells/\x.Wf/\IsMv w x.la x.ll x.L:=by
 obtain⟨xs,n',_,_,Ae,Dr,hf⟩:=DataW.trod_struct underlying67 h;rw [Z6t] at Ae
 match cs,Ae with
 | [v0,v1,v2,v3,v4,v5,v6,v7,v8,v9,v10,v11,v12,v13,v14,v15,v16],_ =>
  match xs,Dr with
  | [y0,y1,y2,y3,y4,y5,y6,y7,y8,y9,y10,y11],_ =>
   have g0:DataW.trod enc prog w 0 (fun _=>true) true n' 3 (List.take (prog.cellsOf 3) (List.drop 0 [v0,v1,v2,v3,v4,v5,v6,v7,v8,v9,v10,v11,v12,v13,v14,v15,v16]))=some y0:=hf 0 _ rfl;have g1:DataW.trod enc prog w 0 (fun _=>true) true n' 3 (List.take (prog.cellsOf 3) (List.drop 1 [v0,v1,v2,v3,v4,v5,v6,v7,v8,v9,v10,v11,v12,v13,v14,v15,v16]))=some y1:=hf 1 _ rfl;have g2:DataW.trod enc prog w 0 (fun _=>true) true n' 3 (List.take (prog.cellsOf 3) (List.drop 2 [v0,v1,v2,v3,v4,v5,v6,v7,v8,v9,v10,v11,v12,v13,v14,v15,v16]))=some y2:=hf 2 _ rfl;have g3:DataW.trod enc prog w 0 (fun _=>true) true n' 3 (List.take (prog.cellsOf 3) (List.drop 3 [v0,v1,v2,v3,v4,v5,v6,v7,v8,v9,v10,v11,v12,v13,v14,v15,v16]))=some y3:=hf 3 _ rfl
   have g4:DataW.trod enc prog w 0 (fun _=>true) true n' 3 (List.take (prog.cellsOf 3) (List.drop 4 [v0,v1,v2,v3,v4,v5,v6,v7,v8,v9,v10,v11,v12,v13,v14,v15,v16]))=some y4:=hf 4 _ rfl;have g5:DataW.trod enc prog w 0 (fun _=>true) true n' 3 (List.take (prog.cellsOf 3) (List.drop 5 [v0,v1,v2,v3,v4,v5,v6,v7,v8,v9,v10,v11,v12,v13,v14,v15,v16]))=some y5:=hf 5 _ rfl;have g6:DataW.trod enc prog w 0 (fun _=>true) true n' 3 (List.take (prog.cellsOf 3) (List.drop 6 [v0,v1,v2,v3,v4,v5,v6,v7,v8,v9,v10,v11,v12,v13,v14,v15,v16]))=some y6:=hf 6 _ rfl;have g7:DataW.trod enc prog w 0 (fun _=>true) true n' 3 (List.take (prog.cellsOf 3) (List.drop 7 [v0,v1,v2,v3,v4,v5,v6,v7,v8,v9,v10,v11,v12,v13,v14,v15,v16]))=some y7:=hf 7 _ rfl
   have g8:DataW.trod enc prog w 0 (fun _=>true) true n' 4 (List.take (prog.cellsOf 4) (List.drop 8 [v0,v1,v2,v3,v4,v5,v6,v7,v8,v9,v10,v11,v12,v13,v14,v15,v16]))=some y8:=hf 8 _ rfl;have g9:DataW.trod enc prog w 0 (fun _=>true) true n' 61 (List.take (prog.cellsOf 61) (List.drop 9 [v0,v1,v2,v3,v4,v5,v6,v7,v8,v9,v10,v11,v12,v13,v14,v15,v16]))=some y9:=hf 9 _ rfl;have g10:DataW.trod enc prog w 0 (fun _=>true) true n' 63 (List.take (prog.cellsOf 63) (List.drop 10 [v0,v1,v2,v3,v4,v5,v6,v7,v8,v9,v10,v11,v12,v13,v14,v15,v16]))=some y10:=hf 10 _ rfl;have g11:DataW.trod enc prog w 0 (fun _=>true) true n' 65 (List.take (prog.cellsOf 65) (List.drop 15 [v0,v1,v2,v3,v4,v5,v6,v7,v8,v9,v10,v11,v12,v13,v14,v15,v16]))=some y11:=hf 11 _ rfl
   rw [Q3L] at g0 g1 g2 g3 g4 g5 g6 g7;rw [Q4i] at g8;rw [Z3m] at g9;rw [Q9D] at g10;rw [Q9E] at g11;simp only [J6t,J6Y,J5Z,J6Z] at g0 g1 g2 g3 g4 g5 g6 g7 g8 g9 g10 g11;obtain⟨a0,e0,_,MV⟩:=DataW.trod_int underlying3 g0;have BI:=bounds_i64 (n:=a0) (by simp_all);obtain⟨a1,e1,_,De⟩:=DataW.trod_int underlying3 g1;have Av:=bounds_i64 (n:=a1) (by simp_all);obtain⟨a2,e2,_,EP⟩:=DataW.trod_int underlying3 g2;have Ag:=bounds_i64 (n:=a2) (by simp_all);obtain⟨a3,e3,_,Hq⟩:=DataW.trod_int underlying3 g3;have Ar:=bounds_i64 (n:=a3) (by simp_all);obtain⟨a4,e4,_,VO⟩:=DataW.trod_int underlying3 g4;have AC:=bounds_i64 (n:=a4) (by simp_all)
   obtain⟨a5,e5,_,V7⟩:=DataW.trod_int underlying3 g5;have AL:=bounds_i64 (n:=a5) (by simp_all);obtain⟨a6,e6,_,VV⟩:=DataW.trod_int underlying3 g6;have CV:=bounds_i64 (n:=a6) (by simp_all);obtain⟨a7,e7,_,Vy⟩:=DataW.trod_int underlying3 g7;have F5:=bounds_i64 (n:=a7) (by simp_all);obtain⟨a8,e8,_⟩:=DataW.trod_bool underlying4 g8;obtain⟨aa,al,ac,e9,DG,BR⟩:=Q9F g9;obtain⟨it,e10,Uk⟩:=Z0J g10;obtain⟨wi,e11,PV⟩:=Z3n g11;simp only [J2C,and_true] at e0 e1 e2 e3 e4 e5 e6 e7 e8 e9;subst e0;subst e1;subst e2;subst e3;subst e4;subst e5;subst e6;subst e7;subst e8;subst e9;obtain⟨mvs,BR⟩:=BR;refine⟨⟨a0,a1,a2,a3,a4,a5,a6,a7,a8,aa,al,ac,mvs,it,wi⟩,?_,⟨by simpa using Av,by simpa using Ag,by simpa using Ar,by simpa using AC,by simpa using AL,by simpa using CV,by simpa using F5,DG,Uk,PV⟩,BR⟩
   unfold A17.cells;rw [<- e10,<- e11];rfl
theorem Z0K {H:Type} {enc:TypeId×Value->H} {w:World} {fuel:Nat} {a0:Option Addr} {len cap:Nat} {x:DataW H×List MemPlace}
  (h:DataW.trod enc prog w 0 (fun _=>true) true fuel 44 [.slice a0 len cap]=some x):∃A,IsA17 w a0 len A:=by
 have dflt:A17:=⟨0,0,0,0,0,0,0,0,false,none,0,0,fun _=>⟨0,0,0,false⟩,⟨0,0,0,0,false⟩,⟨0,0⟩⟩
 rcases open_slice underlying44 h with ⟨Bt,_⟩|⟨a,len',B9,m,n,D,Pl,Bt,_,hl,_,KT,_,hi⟩
 ·simp only [J2C,Value.slice.injEq,and_true] at Bt;obtain⟨rfl,rfl,rfl⟩:=Bt;exact⟨fun _=>dflt,fun j hj=>absurd hj (J6c _)⟩
 ·simp only [J2C,Value.slice.injEq,and_true] at Bt;obtain⟨rfl,rfl,rfl⟩:=Bt;have hm:len<=m:=by rw [KT];simp;exact hl
  have each:∀j,j<len->∃x:A17,(∀(i:Nat) (v:Value),x.cells[i]?=some v->w.cell? ((a.add (j*17)).add i)=some v)/\x.Wf/\IsMv w x.la x.ll x.L:=by
   intro j hj;obtain⟨Vr,hc,ht⟩:=hi j (by omega);rw [Z6t] at hc;obtain⟨x,rfl,hx,Ew⟩:=Z3o ht;obtain⟨_,_,AA⟩:=World.cells?_some hc;refine⟨x,fun i v hv=>?_,hx,Ew⟩;have Ob:i<17:=by simpa [A17.cells,It.cells,Wi.cells] using (J2Q.1 hv).1
   exact (AA i Ob).trans hv
  by_cases h0:len=0
  ·exact⟨fun _=>dflt,fun j hj=>by omega⟩
  ·obtain⟨x0,c0,_⟩:=each 0 (by omega);have hp:=Q6x (x:=a) (by simpa [Addr.add] using c0 0 _ rfl);refine⟨fun j=>if hj:j<len then (each j hj).choose else dflt,fun j hj=>?_⟩;obtain⟨h1,h2,Rl⟩:=(each j hj).choose_spec;simp only [hj,dif_pos];generalize (each j hj).choose=y at h1 h2 Rl;have h3:∀(i:Nat) (v:Value),y.cells[i]?=some v->w.cell? ⟨a.block,a.off+j*17+i,none⟩=some v:=fun i v hv=>by
    have:=h1 i v hv;rw [hp,add_plain5,add_plain5] at this;exact this
   exact⟨a.block,a.off,congrArg some hp,World.block_lt_of_cell? w ⟨a.block,a.off+j*17+0,none⟩ (h3 0 _ rfl),h3,h2,Rl⟩
end Go.Proofs.YtfidemmgofcnmaaGreatDoor
namespace Go.Proofs.YtfidemmgofcnmaaGreatDoor
open Go.RowKit Go.Proofs.Tryz
def Mv.clash (o m:Mv):Bool:=(o.dst==m.dst)||((o.src==m.src)&&(o.g||m.g))
def Mv.agg (m:Mv):Value:=.agg #[.int .i64 m.src,.int .i64 m.dst,.int .i64 m.r,.bool m.g]
theorem Z6u (w:World) (o m:Mv) (b:Nat) (hb:b<w.heap.size) (h0:w.cell? ⟨b,0,none⟩=some (.int .i64 m.src)) (h1:w.cell? ⟨b,1,none⟩=some (.int .i64 m.dst)) (h3:w.cell? ⟨b,3,none⟩=some (.bool m.g)) :
  Calls prog 172 #[o.agg,.pointer (some ⟨b,0,none⟩)] w (Told w (.bool (o.clash m))):=by
 obtain⟨os,od,orr,og⟩:=o;obtain⟨ms,md,mr,mg⟩:=m;unfold Mv.clash Mv.agg;dsimp only at *
 have Aa:b≠w.heap.size:=by omega
 have HB:Hid (∀o,Below w.heap.size w (w.alloc o)):=fun o=>(Below.refl _ _).alloc (J2y _) o
 have b1:Below w.heap.size w (w.alloc (.cells #[.int .i64 os,.int .i64 od,.int .i64 orr,.bool og] 90)):=HB.out _;have g0:=(b1.cell (p:=⟨b,0,none⟩) hb).trans h0;have g1:=(b1.cell (p:=⟨b,1,none⟩) hb).trans h1;have g3:=(b1.cell (p:=⟨b,3,none⟩) hb).trans h3;clear b1 h0 h1 h3 hb;by_cases e1:od=md
 ·have v1:(od==md)=true:=by simpa using e1
  rw [v1];simp only [Bool.true_or];clear e1;go_enter func172,ntmps172;go_wp2_with fail
  first|exact⟨rfl,HB.out _⟩|(go_ret;exact⟨rfl,HB.out _⟩)
 ·have v1:(od==md)=false:=by simpa using e1
  have d1:decide (od=md)=false:=decide_eq_false e1;rw [v1];simp only [J5K];by_cases e2:os=ms
  ·have v2:(os==ms)=true:=by simpa using e2
   rw [v2];simp only [J3Q];clear e2;cases og
   ·go_enter func172,ntmps172;go_wp2_with fail
    first|exact⟨rfl,HB.out _⟩|(go_ret;exact⟨rfl,HB.out _⟩)
   ·go_enter func172,ntmps172;go_wp2_with fail
    first|exact⟨rfl,HB.out _⟩|(go_ret;exact⟨rfl,HB.out _⟩)
  ·have v2:(os==ms)=false:=by simpa using e2
   have d2:decide (os=ms)=false:=decide_eq_false e2;rw [v2];simp only [J7a];go_enter func172,ntmps172;go_wp2_with fail
   first|exact⟨rfl,HB.out _⟩|(go_ret;exact⟨rfl,HB.out _⟩)
def Z3p (b:Nat):Value:=.func (.func 172) #[] #[.pointer (some ⟨b,0,none⟩)]
def Z1U (w:World) (n:Nat) (A:Nat->Mv) (m:Mv) (e:Ending) (w':World):Prop:=Below w.heap.size w w'/\((∃k:Nat,k<n/\e=.returned (.int .i64 k)/\(A k).clash m=true)∨(e=.returned (.int .i64 (-1))/\∀j,j<n->(A j).clash m=false))
theorem Z3q {w:World} {a0:Option Addr} {len:Nat} {A:Nat->Mv} (h:IsMv w a0 len A) {n:Nat} (cap:Nat) (hn:n<=len) (hm:n<=4611686018427387904) (m:Mv) (b:Nat) (hb:b<w.heap.size) (h0:w.cell? ⟨b,0,none⟩=some (.int .i64 m.src)) (h1:w.cell? ⟨b,1,none⟩=some (.int .i64 m.dst)) (h3:w.cell? ⟨b,3,none⟩=some (.bool m.g)) :
  Calls prog 214 #[.slice a0 n cap,Z3p b] w (Z1U w n A m):=by
 have HP:Hid (∀k wr,k<n->Below w.heap.size w wr->∃g off,a0=some ⟨g,off,none⟩/\wr.cell? ⟨g,off+k*4,none⟩=some (.int .i64 (A k).src)/\wr.cell? ⟨g,off+k*4+1,none⟩=some (.int .i64 (A k).dst)/\wr.cell? ⟨g,off+k*4+2,none⟩=some (.int .i64 (A k).r)/\wr.cell? ⟨g,off+k*4+3,none⟩=some (.bool (A k).g) /\
   Calls prog 172 #[.agg #[.int .i64 (A k).src,.int .i64 (A k).dst,.int .i64 (A k).r,.bool (A k).g],.pointer (some ⟨b,0,none⟩)] wr fun r w'=>r=.returned (.bool ((A k).clash m))/\Below w.heap.size w w'):=fun k wr hk C6=>by
  obtain⟨g,off,e,_,hc,_⟩:=IsMv.below h C6 k (by omega);exact⟨g,off,e,hc 0 _ rfl,hc 1 _ rfl,hc 2 _ rfl,hc 3 _ rfl,(Z6u wr (A k) m b (J2A hb C6.size) ((C6.cell (p:=⟨b,0,none⟩) hb).trans h0) ((C6.cell (p:=⟨b,1,none⟩) hb).trans h1) ((C6.cell (p:=⟨b,3,none⟩) hb).trans h3)).mono fun r w' q=>⟨q.1,C6.trans (q.2.mono C6.size)⟩⟩
 have Hb:Hid (∀k w',k<n->Below w.heap.size w w'->(A k).clash m=true->Z1U w n A m (.returned (.int .i64 k)) w'):=fun k w' hk Ak hc=>⟨Ak,.inl ⟨k,hk,rfl,hc⟩⟩
 have CX:Hid (∀w',Below w.heap.size w w'->(∀j,j<n->(A j).clash m=false)->Z1U w n A m (.returned (.int .i64 (-1))) w'):=fun w' Ak hc=>⟨Ak,.inr ⟨rfl,hc⟩⟩
 clear h h0 h1 h3 hb hn;generalize Z1U w n A m=Q at *
 unfold Z3p;go_enter func214,ntmps214;go_wp2_with fail
 go_loopw [5,8] (fun _ i wr=>∃k:Nat,k<=n/\i=.int .i64 k/\(∀j,j<k->(A j).clash m=false)/\Below w.heap.size w wr) (fun _ i _=>n-(intOf i).toNat)
 case atStart=>exact⟨0,J4C _,rfl,by intro j hj;omega,Below.refl _ _⟩
 case round =>
  obtain⟨k,hk,rfl,A3,C6⟩:=hrel;have Hp:=Q0a A3;have HB:=Q0a C6;clear A3 C6;by_cases Ab:k<n
  ·obtain⟨g,off,rfl,c0,c1,c2,c3,Bc⟩:=HP.out k wr Ab HB.out;have HC:=Q0a Bc;clear Bc;cases hv:(A k).clash m with
   | true =>
    have HV:=Q0a hv;rw [hv] at HC;clear hv;go_wp2_with (go_at_call 172;refine HC.out.mono ?_;rintro e w' ⟨rfl,Ak⟩)
    first|exact Hb.out k _ Ab Ak HV.out|(go_ret;exact Hb.out k _ Ab Ak HV.out)
   | false =>
    have HV:=Q0a hv;rw [hv] at HC;clear hv;go_wp2_with (go_at_call 172;refine HC.out.mono ?_;rintro e w' ⟨rfl,Ak⟩);go_roundw
    case rel =>
     refine⟨k+1,by omega,by go_num,fun j hj=>?_,Ak⟩;by_cases e:j=k
     ·rw [e];exact HV.out
     ·exact Hp.out j (by omega)
    case measure=>simp [intOf];omega
  ·obtain rfl:k=n:=by omega
   clear HP;go_wp2_with fail
   first|exact CX.out _ HB.out Hp.out|(go_ret;exact CX.out _ HB.out Hp.out)
def Q1u (A:Nat->Mv) (n:Nat) (m:Mv):Bool:=(List.range n).any fun k=>(A k).clash m
theorem Q8h {w:World} {a0:Option Addr} {len:Nat} {A:Nat->Mv} (h:IsMv w a0 len A) {n:Nat} (cap:Nat) (hn:n<=len) (hm:n<=4611686018427387904) (m:Mv) (b:Nat) (hb:b<w.heap.size) (h0:w.cell? ⟨b,0,none⟩=some (.int .i64 m.src)) (h1:w.cell? ⟨b,1,none⟩=some (.int .i64 m.dst)) (h3:w.cell? ⟨b,3,none⟩=some (.bool m.g)) :
  Calls prog 171 #[.slice a0 n cap,Z3p b] w (Told w (.bool (Q1u A n m))):=by
 have ki:=Z3q h cap hn hm m b hb h0 h1 h3;clear h h0 h1 h3 hb hn hm;unfold Z3p at *
 go_enter func171,ntmps171;go_wp2_with fail;refine ki.mono ?_;rintro e w' ⟨Ak,⟨k,hk,rfl,hc⟩|⟨rfl,hc⟩⟩
 ·have hv:Q1u A n m=true:=J7b.2 ⟨k,J2P.2 hk,hc⟩;have HR:Hid (Told w (.bool (Q1u A n m)) (.returned (.bool true)) w'):=⟨by rw [hv],Ak⟩
  have Bs:(0:Int)<=(k:Int):=by omega
  clear hv hc Ak;generalize Q1u A n m=v at *
  go_wp2_with fail
  first|exact HR.out|(go_ret;exact HR.out)
 ·have hv:Q1u A n m=false:=J7c.2 fun k hk=>by simp [hc k (List.mem_range.1 hk)]
  have HR:Hid (Told w (.bool (Q1u A n m)) (.returned (.bool false)) w'):=⟨by rw [hv],Ak⟩
  clear hv hc Ak;generalize Q1u A n m=v at *
  go_wp2_with fail
  first|exact HR.out|(go_ret;exact HR.out)
def J1I (h1 h2 br c1 c2 s1 z1 z2 s2 cl:Bool) (er:Int):Prop:=(h1=false/\er=2)∨(h1=true/\h2=false/\er=2)∨(h1=true/\h2=true/\br=false/\er=1)∨(h1=true/\h2=true/\br=true/\c1=!c2/\er=1)∨(h1=true/\h2=true/\br=true/\c1=c2/\s1=false/\er=6)∨(h1=true/\h2=true/\br=true/\c1=c2/\s1=true/\z1=true/\er=9)∨(h1=true/\h2=true/\br=true/\c1=c2/\s1=true/\z1=false/\z2=true/\er=9)∨(h1=true/\h2=true/\br=true/\c1=c2/\s1=true/\z1=false/\z2=false/\s2=true/\er=7)∨(h1=true/\h2=true/\br=true/\c1=c2/\s1=true/\z1=false/\z2=false/\s2=false/\cl=true/\er=7)∨(h1=true/\h2=true/\br=true/\c1=c2/\s1=true/\z1=false/\z2=false/\s2=false/\cl=false/\er=0)
theorem Z3r {w:World} {g1 x1 g2 x2:Nat} {f1 f2:Int} {m:Mv} {a0:Option Addr} {n cap:Nat} {ca1 cb1 ca2 cb2 er:Int} {s1 s2 cl:Bool}
  (ET:∀W,Below w.heap.size w W->Calls prog 93 #[.agg #[.pointer (some ⟨g1,0,none⟩),.int .u32 x1,.int .i64 f1],.int .i64 m.src] W (Told W (.tuple #[.agg #[.int .u32 ca1,.int .i64 cb1],.bool s1])))
  (FQ:∀W,Below w.heap.size w W->Calls prog 93 #[.agg #[.pointer (some ⟨g2,0,none⟩),.int .u32 x2,.int .i64 f2],.int .i64 m.dst] W (Told W (.tuple #[.agg #[.int .u32 ca2,.int .i64 cb2],.bool s2])))
  (hCl:∀W b,Below w.heap.size w W->b<W.heap.size->W.cell? ⟨b,0,none⟩=some (.int .i64 m.src)->W.cell? ⟨b,1,none⟩=some (.int .i64 m.dst)->W.cell? ⟨b,3,none⟩=some (.bool m.g)->Calls prog 171 #[.slice a0 n cap,Z3p b] W (Told W (.bool cl)))
  (hT:J1I (decide (0<=m.src/\m.src<256)) (decide (0<=m.dst/\m.dst<256)) (decide (0<m.r/\m.r<=15)) (decide (m.src<128)) (decide (m.dst<128)) s1 (bits .and .i64 cb1 4==0) (bits .and .i64 cb1 m.r==0) s2 cl er) :
  Calls prog 97 #[.agg #[.pointer (some ⟨g1,0,none⟩),.int .u32 x1,.int .i64 f1],.agg #[.pointer (some ⟨g2,0,none⟩),.int .u32 x2,.int .i64 f2],.agg #[.int .i64 m.src,.int .i64 m.dst,.int .i64 m.r,.bool m.g],.slice a0 n cap] w (Told w (.int .i64 er)):=by
 have Qn:Hid (∀W,Calls prog 92 #[.int .i64 m.src] W fun r w'=>r=.returned (.bool (decide (0<=m.src/\m.src<256)))/\W=w'):=fun W=>Q2Q W m.src
 have Qq:Hid (∀W,Calls prog 92 #[.int .i64 m.dst] W fun r w'=>r=.returned (.bool (decide (0<=m.dst/\m.dst<256)))/\W=w'):=fun W=>Q2Q W m.dst
 have QL:Hid (∀W,Calls prog 106 #[.int .i64 m.r] W fun r' w'=>r'=.returned (.bool (decide (0<m.r/\m.r<=15)))/\W=w'):=fun W=>Q3J W m.r
 have GI:Hid (∀W,Calls prog 96 #[.int .i64 m.src] W fun r w'=>r=.returned (.bool (decide (m.src<128)))/\W=w'):=fun W=>Q2E W m.src
 have KV:Hid (∀W,Calls prog 96 #[.int .i64 m.dst] W fun r w'=>r=.returned (.bool (decide (m.dst<128)))/\W=w'):=fun W=>Q2E W m.dst
 obtain⟨ms,md,mr,mg⟩:=m;dsimp only at *
 have HW:Hid (∀W,Below (((w.alloc (.cells #[.pointer (some ⟨g1,0,none⟩),.int .u32 x1,.int .i64 f1] 191)).alloc (.cells #[.pointer (some ⟨g2,0,none⟩),.int .u32 x2,.int .i64 f2] 191)).alloc (.cells #[.int .i64 ms,.int .i64 md,.int .i64 mr,.bool mg] 90)).heap.size (((w.alloc (.cells #[.pointer (some ⟨g1,0,none⟩),.int .u32 x1,.int .i64 f1] 191)).alloc (.cells #[.pointer (some ⟨g2,0,none⟩),.int .u32 x2,.int .i64 f2] 191)).alloc (.cells #[.int .i64 ms,.int .i64 md,.int .i64 mr,.bool mg] 90)) W ->
   Below w.heap.size w W/\w.heap.size+2<W.heap.size/\(W.cell? ⟨w.heap.size+1,0,none⟩=some (.pointer (some ⟨g2,0,none⟩))/\W.cell? ⟨w.heap.size+1,1,none⟩=some (.int .u32 x2)/\W.cell? ⟨w.heap.size+1,2,none⟩=some (.int .i64 f2)) /\
   W.cell? ⟨w.heap.size+2,0,none⟩=some (.int .i64 ms)/\W.cell? ⟨w.heap.size+2,1,none⟩=some (.int .i64 md)/\W.cell? ⟨w.heap.size+2,2,none⟩=some (.int .i64 mr)/\W.cell? ⟨w.heap.size+2,3,none⟩=some (.bool mg)):=fun W hb=>by
  have h5:=((Cells.new (w.alloc (.cells #[.pointer (some ⟨g1,0,none⟩),.int .u32 x1,.int .i64 f1] 191)) 191 [.pointer (some ⟨g2,0,none⟩),.int .u32 x2,.int .i64 f2]).alloc (.cells #[.int .i64 ms,.int .i64 md,.int .i64 mr,.bool mg] 90)).same (hb.block _ (by simp));have h6:=(Cells.new ((w.alloc (.cells #[.pointer (some ⟨g1,0,none⟩),.int .u32 x1,.int .i64 f1] 191)).alloc (.cells #[.pointer (some ⟨g2,0,none⟩),.int .u32 x2,.int .i64 f2] 191)) 90 [.int .i64 ms,.int .i64 md,.int .i64 mr,.bool mg]).same (hb.block _ (by simp));have e1:(w.alloc (.cells #[.pointer (some ⟨g1,0,none⟩),.int .u32 x1,.int .i64 f1] 191)).heap.size=w.heap.size+1:=by simp
  have e2:((w.alloc (.cells #[.pointer (some ⟨g1,0,none⟩),.int .u32 x1,.int .i64 f1] 191)).alloc (.cells #[.pointer (some ⟨g2,0,none⟩),.int .u32 x2,.int .i64 f2] 191)).heap.size=w.heap.size+2:=by simp
  rw [e1] at h5;rw [e2] at h6;exact⟨Q0e (Q0e (Q0e hb)),h6.lt,⟨h5.cell 0 _ rfl,h5.cell 1 _ rfl,h5.cell 2 _ rfl⟩,h6.cell 0 _ rfl,h6.cell 1 _ rfl,h6.cell 2 _ rfl,h6.cell 3 _ rfl⟩
 have k1:=ET _ (HW.out _ (Below.refl _ _)).1;have K0:=Q0a FQ;have G0:=Q0a hCl;have HT:=Q0a hT;clear ET FQ hCl hT;go_enter func97,ntmps97;go_wp2_with fail;refine k1.mono ?_;rintro rv w1 ⟨rfl,Av⟩;have B4:Hid (∀o,Below (((w.alloc (.cells #[.pointer (some ⟨g1,0,none⟩),.int .u32 x1,.int .i64 f1] 191)).alloc (.cells #[.pointer (some ⟨g2,0,none⟩),.int .u32 x2,.int .i64 f2] 191)).alloc (.cells #[.int .i64 ms,.int .i64 md,.int .i64 mr,.bool mg] 90)).heap.size (((w.alloc (.cells #[.pointer (some ⟨g1,0,none⟩),.int .u32 x1,.int .i64 f1] 191)).alloc (.cells #[.pointer (some ⟨g2,0,none⟩),.int .u32 x2,.int .i64 f2] 191)).alloc (.cells #[.int .i64 ms,.int .i64 md,.int .i64 mr,.bool mg] 90)) (w1.alloc o)):=fun o=>Av.alloc Av.size o
 have h2:=HW.out _ (B4.out (.cells #[.int .u32 ca1,.int .i64 cb1] 72));obtain⟨EP,-,⟨p0,p1,p2⟩,m0,m1,m2,m3⟩:=h2;have k2:=K0.out _ EP;clear Av k1 EP K0;go_wp2_with fail;refine k2.mono ?_;rintro rv w2 ⟨rfl,Ag⟩;have Ar:=((B4.out (.cells #[.int .u32 ca1,.int .i64 cb1] 72)).trans (Ag.mono (B4.out (.cells #[.int .u32 ca1,.int .i64 cb1] 72)).size)).alloc ((B4.out (.cells #[.int .u32 ca1,.int .i64 cb1] 72)).trans (Ag.mono (B4.out (.cells #[.int .u32 ca1,.int .i64 cb1] 72)).size)).size (.cells #[.int .u32 ca2,.int .i64 cb2] 72);have Mr:=(((Cells.new w1 72 [.int .u32 ca1,.int .i64 cb1]).same (Ag.block _ (by simp))).alloc (.cells #[.int .u32 ca2,.int .i64 cb2] 72))
 clear p0 p1 p2 m0 m1 m2 m3 k2;go_wp2_with fail;generalize hW3:(w2.alloc (.cells #[.int .u32 ca2,.int .i64 cb2] 72))=w3 at *
 obtain⟨Hq,Ld,-,m0,m1,m2,m3⟩:=HW.out _ Ar;have kc:=G0.out w3 (w.heap.size+2) Hq Ld m0 m1 m3;clear hW3 m0 m1 m2 m3 G0 Ag Hq Ld B4;unfold Z3p at kc;refine kc.mono ?_;rintro rv w4 ⟨rfl,AC⟩;have Ay:Hid (∀n,Below w.heap.size w (w4.drewN n)):=fun n=>(HW.out _ (Q0Q (Ar.trans (AC.mono Ar.size)) n)).1
 obtain⟨-,-,-,m0,m1,m2,m3⟩:=HW.out _ (Ar.trans (AC.mono Ar.size));have r1:=(Mr.same (AC.block _ Mr.lt)).cell 1 _ rfl;have Eg:=Qn.out w4;have Ep:=Qq.out w4;have CJ:Hid (∀n,Calls prog 106 #[.int .i64 mr] (w4.drewN n) fun e w''=>e=.returned (.bool (decide (0<mr/\mr<=15)))/\∃m,w''=w4.drewN m):=fun n=>(QL.out _).mono fun e w' h=>⟨h.1,n,h.2.symm⟩
 have Cj:Hid (∀n,Calls prog 96 #[.int .i64 ms] (w4.drewN n) fun e w''=>e=.returned (.bool (decide (ms<128)))/\∃m,w''=w4.drewN m):=fun n=>(GI.out _).mono fun e w' h=>⟨h.1,n,h.2.symm⟩
 have Ch:Hid (∀n,Calls prog 96 #[.int .i64 md] (w4.drewN n) fun e w''=>e=.returned (.bool (decide (md<128)))/\∃m,w''=w4.drewN m):=fun n=>(KV.out _).mono fun e w' h=>⟨h.1,n,h.2.symm⟩
 clear Ar AC Mr HW kc Qn Qq QL GI KV;generalize decide (0<=ms/\ms<256)=h1 at *
 generalize decide (0<=md/\md<256)=h2 at *
 generalize decide (0<mr/\mr<=15)=br at *
 generalize decide (ms<128)=c1 at *
 generalize decide (md<128)=c2 at *
 have hT:=HT.out;clear HT;go_wp2_with fail;rcases hT with ⟨rfl,rfl⟩|⟨rfl,rfl,rfl⟩|⟨rfl,rfl,rfl,rfl⟩|⟨rfl,rfl,rfl,rfl,rfl⟩|⟨rfl,rfl,rfl,rfl,rfl,rfl⟩|⟨rfl,rfl,rfl,rfl,rfl,Bi,rfl⟩|⟨rfl,rfl,rfl,rfl,rfl,Bi,Be,rfl⟩|⟨rfl,rfl,rfl,rfl,rfl,Bi,Be,rfl,rfl⟩|⟨rfl,rfl,rfl,rfl,rfl,Bi,Be,rfl,rfl,rfl⟩|⟨rfl,rfl,rfl,rfl,rfl,Bi,Be,rfl,rfl,rfl⟩
 ·refine Eg.mono ?_;rintro rv w' ⟨rfl,rfl⟩;go_wp2_with fail
  first|exact⟨rfl,Ay.out _⟩|exact⟨rfl,Ay.out 0⟩|(go_ret;first|exact⟨rfl,Ay.out _⟩|exact⟨rfl,Ay.out 0⟩)
 ·refine Eg.mono ?_;rintro rv w' ⟨rfl,rfl⟩;go_wp2_with fail;refine Ep.mono ?_;rintro rv w' ⟨rfl,rfl⟩;go_wp2_with fail
  first|exact⟨rfl,Ay.out _⟩|exact⟨rfl,Ay.out 0⟩|(go_ret;first|exact⟨rfl,Ay.out _⟩|exact⟨rfl,Ay.out 0⟩)
 ·refine Eg.mono ?_;rintro rv w' ⟨rfl,rfl⟩;go_wp2_with fail;refine Ep.mono ?_;rintro rv w' ⟨rfl,rfl⟩;go_wp2_with fail
  go_quiet (first|(go_at_call 106;exact CJ.out _)|(go_at_call 96;exact Cj.out _)|(go_at_call 96;exact Ch.out _))
  go_wp2_with fail
  first|exact⟨rfl,Ay.out _⟩|exact⟨rfl,Ay.out 0⟩|(go_ret;first|exact⟨rfl,Ay.out _⟩|exact⟨rfl,Ay.out 0⟩)
 ·cases c2
  ·refine Eg.mono ?_;rintro rv w' ⟨rfl,rfl⟩;go_wp2_with fail;refine Ep.mono ?_;rintro rv w' ⟨rfl,rfl⟩;go_wp2_with fail
   go_quiet (first|(go_at_call 106;exact CJ.out _)|(go_at_call 96;exact Cj.out _)|(go_at_call 96;exact Ch.out _))
   go_wp2_with fail
   first|exact⟨rfl,Ay.out _⟩|exact⟨rfl,Ay.out 0⟩|(go_ret;first|exact⟨rfl,Ay.out _⟩|exact⟨rfl,Ay.out 0⟩)
  ·refine Eg.mono ?_;rintro rv w' ⟨rfl,rfl⟩;go_wp2_with fail;refine Ep.mono ?_;rintro rv w' ⟨rfl,rfl⟩;go_wp2_with fail
   go_quiet (first|(go_at_call 106;exact CJ.out _)|(go_at_call 96;exact Cj.out _)|(go_at_call 96;exact Ch.out _))
   go_wp2_with fail
   first|exact⟨rfl,Ay.out _⟩|exact⟨rfl,Ay.out 0⟩|(go_ret;first|exact⟨rfl,Ay.out _⟩|exact⟨rfl,Ay.out 0⟩)
 ·cases c1
  ·refine Eg.mono ?_;rintro rv w' ⟨rfl,rfl⟩;go_wp2_with fail;refine Ep.mono ?_;rintro rv w' ⟨rfl,rfl⟩;go_wp2_with fail
   go_quiet (first|(go_at_call 106;exact CJ.out _)|(go_at_call 96;exact Cj.out _)|(go_at_call 96;exact Ch.out _))
   go_wp2_with fail
   first|exact⟨rfl,Ay.out _⟩|exact⟨rfl,Ay.out 0⟩|(go_ret;first|exact⟨rfl,Ay.out _⟩|exact⟨rfl,Ay.out 0⟩)
  ·refine Eg.mono ?_;rintro rv w' ⟨rfl,rfl⟩;go_wp2_with fail;refine Ep.mono ?_;rintro rv w' ⟨rfl,rfl⟩;go_wp2_with fail
   go_quiet (first|(go_at_call 106;exact CJ.out _)|(go_at_call 96;exact Cj.out _)|(go_at_call 96;exact Ch.out _))
   go_wp2_with fail
   first|exact⟨rfl,Ay.out _⟩|exact⟨rfl,Ay.out 0⟩|(go_ret;first|exact⟨rfl,Ay.out _⟩|exact⟨rfl,Ay.out 0⟩)
 ·cases c1
  ·refine Eg.mono ?_;rintro rv w' ⟨rfl,rfl⟩;go_wp2_with fail;refine Ep.mono ?_;rintro rv w' ⟨rfl,rfl⟩;go_wp2_with fail
   go_quiet (first|(go_at_call 106;exact CJ.out _)|(go_at_call 96;exact Cj.out _)|(go_at_call 96;exact Ch.out _))
   go_wp2_with fail
   first|exact⟨rfl,Ay.out _⟩|exact⟨rfl,Ay.out 0⟩|(go_ret;first|exact⟨rfl,Ay.out _⟩|exact⟨rfl,Ay.out 0⟩)
  ·refine Eg.mono ?_;rintro rv w' ⟨rfl,rfl⟩;go_wp2_with fail;refine Ep.mono ?_;rintro rv w' ⟨rfl,rfl⟩;go_wp2_with fail
   go_quiet (first|(go_at_call 106;exact CJ.out _)|(go_at_call 96;exact Cj.out _)|(go_at_call 96;exact Ch.out _))
   go_wp2_with fail
   first|exact⟨rfl,Ay.out _⟩|exact⟨rfl,Ay.out 0⟩|(go_ret;first|exact⟨rfl,Ay.out _⟩|exact⟨rfl,Ay.out 0⟩)
 ·cases c1
  ·refine Eg.mono ?_;rintro rv w' ⟨rfl,rfl⟩;go_wp2_with fail;refine Ep.mono ?_;rintro rv w' ⟨rfl,rfl⟩;go_wp2_with fail
   go_quiet (first|(go_at_call 106;exact CJ.out _)|(go_at_call 96;exact Cj.out _)|(go_at_call 96;exact Ch.out _))
   go_wp2_with fail
   first|exact⟨rfl,Ay.out _⟩|exact⟨rfl,Ay.out 0⟩|(go_ret;first|exact⟨rfl,Ay.out _⟩|exact⟨rfl,Ay.out 0⟩)
  ·refine Eg.mono ?_;rintro rv w' ⟨rfl,rfl⟩;go_wp2_with fail;refine Ep.mono ?_;rintro rv w' ⟨rfl,rfl⟩;go_wp2_with fail
   go_quiet (first|(go_at_call 106;exact CJ.out _)|(go_at_call 96;exact Cj.out _)|(go_at_call 96;exact Ch.out _))
   go_wp2_with fail
   first|exact⟨rfl,Ay.out _⟩|exact⟨rfl,Ay.out 0⟩|(go_ret;first|exact⟨rfl,Ay.out _⟩|exact⟨rfl,Ay.out 0⟩)
 ·cases c1
  ·refine Eg.mono ?_;rintro rv w' ⟨rfl,rfl⟩;go_wp2_with fail;refine Ep.mono ?_;rintro rv w' ⟨rfl,rfl⟩;go_wp2_with fail
   go_quiet (first|(go_at_call 106;exact CJ.out _)|(go_at_call 96;exact Cj.out _)|(go_at_call 96;exact Ch.out _))
   go_wp2_with fail
   first|exact⟨rfl,Ay.out _⟩|exact⟨rfl,Ay.out 0⟩|(go_ret;first|exact⟨rfl,Ay.out _⟩|exact⟨rfl,Ay.out 0⟩)
  ·refine Eg.mono ?_;rintro rv w' ⟨rfl,rfl⟩;go_wp2_with fail;refine Ep.mono ?_;rintro rv w' ⟨rfl,rfl⟩;go_wp2_with fail
   go_quiet (first|(go_at_call 106;exact CJ.out _)|(go_at_call 96;exact Cj.out _)|(go_at_call 96;exact Ch.out _))
   go_wp2_with fail
   first|exact⟨rfl,Ay.out _⟩|exact⟨rfl,Ay.out 0⟩|(go_ret;first|exact⟨rfl,Ay.out _⟩|exact⟨rfl,Ay.out 0⟩)
 ·cases c1
  ·refine Eg.mono ?_;rintro rv w' ⟨rfl,rfl⟩;go_wp2_with fail;refine Ep.mono ?_;rintro rv w' ⟨rfl,rfl⟩;go_wp2_with fail
   go_quiet (first|(go_at_call 106;exact CJ.out _)|(go_at_call 96;exact Cj.out _)|(go_at_call 96;exact Ch.out _))
   go_wp2_with fail
   first|exact⟨rfl,Ay.out _⟩|exact⟨rfl,Ay.out 0⟩|(go_ret;first|exact⟨rfl,Ay.out _⟩|exact⟨rfl,Ay.out 0⟩)
  ·refine Eg.mono ?_;rintro rv w' ⟨rfl,rfl⟩;go_wp2_with fail;refine Ep.mono ?_;rintro rv w' ⟨rfl,rfl⟩;go_wp2_with fail
   go_quiet (first|(go_at_call 106;exact CJ.out _)|(go_at_call 96;exact Cj.out _)|(go_at_call 96;exact Ch.out _))
   go_wp2_with fail
   first|exact⟨rfl,Ay.out _⟩|exact⟨rfl,Ay.out 0⟩|(go_ret;first|exact⟨rfl,Ay.out _⟩|exact⟨rfl,Ay.out 0⟩)
 ·cases c1
  ·refine Eg.mono ?_;rintro rv w' ⟨rfl,rfl⟩;go_wp2_with fail;refine Ep.mono ?_;rintro rv w' ⟨rfl,rfl⟩;go_wp2_with fail
   go_quiet (first|(go_at_call 106;exact CJ.out _)|(go_at_call 96;exact Cj.out _)|(go_at_call 96;exact Ch.out _))
   go_wp2_with fail
   first|exact⟨rfl,Ay.out _⟩|exact⟨rfl,Ay.out 0⟩|(go_ret;first|exact⟨rfl,Ay.out _⟩|exact⟨rfl,Ay.out 0⟩)
  ·refine Eg.mono ?_;rintro rv w' ⟨rfl,rfl⟩;go_wp2_with fail;refine Ep.mono ?_;rintro rv w' ⟨rfl,rfl⟩;go_wp2_with fail
   go_quiet (first|(go_at_call 106;exact CJ.out _)|(go_at_call 96;exact Cj.out _)|(go_at_call 96;exact Ch.out _))
   go_wp2_with fail
   first|exact⟨rfl,Ay.out _⟩|exact⟨rfl,Ay.out 0⟩|(go_ret;first|exact⟨rfl,Ay.out _⟩|exact⟨rfl,Ay.out 0⟩)
def Z3s (o1 o2:Option Ent) (m:Mv) (cl:Bool):Int:=
 if ¬((0<=m.src/\m.src<256)/\(0<=m.dst/\m.dst<256)) then 2 else
 if ¬((0<m.r/\m.r<=15)/\decide (m.src<128)=decide (m.dst<128)) then 1 else
 match o1 with
 | none=>6
 | some e=>if e.r&&&4=0∨e.r&&&m.r.toNat=0 then 9 else if o2.isSome=true∨cl=true then 7 else 0
theorem Z8I (o1 o2:Option Ent) (m:Mv) (cl:Bool) (cb1:Int) (h:∀e,o1=some e->cb1=(e.r:Int)/\e.r<16) :
  J1I (decide (0<=m.src/\m.src<256)) (decide (0<=m.dst/\m.dst<256)) (decide (0<m.r/\m.r<=15)) (decide (m.src<128)) (decide (m.dst<128)) o1.isSome (bits .and .i64 cb1 4==0) (bits .and .i64 cb1 m.r==0) o2.isSome cl (Z3s o1 o2 m cl):=by
 unfold Z3s;by_cases a:0<=m.src/\m.src<256
 case neg=>rw [if_pos (fun h=>a h.1)];exact .inl ⟨decide_eq_false a,rfl⟩
 by_cases b:0<=m.dst/\m.dst<256
 case neg=>rw [if_pos (fun h=>b h.2)];exact .inr (.inl ⟨decide_eq_true a,decide_eq_false b,rfl⟩)
 rw [if_neg (fun h=>h ⟨a,b⟩)];by_cases c:0<m.r/\m.r<=15
 case neg=>rw [if_pos (fun h=>c h.1)];exact .inr (.inr (.inl ⟨decide_eq_true a,decide_eq_true b,decide_eq_false c,rfl⟩))
 by_cases d:decide (m.src<128)=decide (m.dst<128)
 case neg =>
  rw [if_pos (fun h=>d h.2)];refine .inr (.inr (.inr (.inl ⟨decide_eq_true a,decide_eq_true b,decide_eq_true c,?_,rfl⟩)));cases h1:decide (m.src<128) <;> cases h2:decide (m.dst<128) <;> simp_all
 rw [if_neg (fun h=>h ⟨c,d⟩)];have ha:=decide_eq_true a;have hb:=decide_eq_true b;have hc:=decide_eq_true c;cases ho:o1 with
 | none=>exact .inr (.inr (.inr (.inr (.inl ⟨ha,hb,hc,d,rfl,rfl⟩))))
 | some e =>
  obtain⟨rfl,hr⟩:=h e ho;obtain⟨k,hk⟩:∃k:Nat,m.r=(k:Int):=⟨m.r.toNat,by omega⟩
  have C8:k<16:=by omega
  have e1:bits .and .i64 (e.r:Int) 4=((e.r&&&4:Nat):Int):=Q6u e.r 4 hr (by omega);have e2:bits .and .i64 (e.r:Int) m.r=((e.r&&&k:Nat):Int):=by rw [hk];exact Q6u e.r k hr C8
  have e3:m.r.toNat=k:=by rw [hk];rfl
  rw [e1,e2,e3];dsimp only;by_cases z1:e.r&&&4=0
  ·rw [if_pos (.inl z1)];exact .inr (.inr (.inr (.inr (.inr (.inl ⟨ha,hb,hc,d,rfl,by simp [z1],rfl⟩)))))
  have q1:(((e.r&&&4:Nat):Int)==0)=false:=by simpa using z1
  by_cases z2:e.r&&&k=0
  ·rw [if_pos (.inr z2)];exact .inr (.inr (.inr (.inr (.inr (.inr (.inl ⟨ha,hb,hc,d,rfl,q1,by simp [z2],rfl⟩))))))
  have q2:(((e.r&&&k:Nat):Int)==0)=false:=by simpa using z2
  rw [if_neg (by rintro (h|h);exact z1 h;exact z2 h)];cases h2:o2.isSome with
  | true=>rw [if_pos (.inl rfl)];exact .inr (.inr (.inr (.inr (.inr (.inr (.inr (.inl ⟨ha,hb,hc,d,rfl,q1,q2,rfl,rfl⟩)))))))
  | false =>
   cases cl with
   | true=>rw [if_pos (.inr rfl)];exact .inr (.inr (.inr (.inr (.inr (.inr (.inr (.inr (.inl ⟨ha,hb,hc,d,rfl,q1,q2,rfl,rfl,rfl⟩))))))))
   | false=>rw [if_neg (by simp)];exact .inr (.inr (.inr (.inr (.inr (.inr (.inr (.inr (.inr ⟨ha,hb,hc,d,rfl,q1,q2,rfl,rfl,rfl⟩))))))))
theorem Z9E (o:Option Ent):∃a b:Int,capV o=.tuple #[.agg #[.int .u32 a,.int .i64 b],.bool o.isSome]/\∀e,o=some e->b=(e.r:Int):=by
 cases o with
 | none=>exact⟨0,0,rfl,by intro e h;cases h⟩
 | some e=>exact⟨_,_,rfl,by intro e' h;cases h;rfl⟩
theorem Z6v {w:World} {S:CO} {t1 t2:TB} {p1 p2:Pl} {g1 g2:Nat} (T1:TT S t1 p1 g1 w) (T2:TT S t2 p2 g2 w) {m:Mv} (l1:∀e,t1.at' m.src=some e->e.Low) (l2:∀e,t2.at' m.dst=some e->e.Low) (x1 x2:Nat) (f1 f2:Int) {a0:Option Addr} {len:Nat} {A:Nat->Mv} (hA:IsMv w a0 len A) {n:Nat} (cap:Nat) (hn:n<=len) (hm:n<=4611686018427387904) :
  Calls prog 97 #[.agg #[.pointer (some ⟨g1,0,none⟩),.int .u32 x1,.int .i64 f1],.agg #[.pointer (some ⟨g2,0,none⟩),.int .u32 x2,.int .i64 f2],.agg #[.int .i64 m.src,.int .i64 m.dst,.int .i64 m.r,.bool m.g],.slice a0 n cap] w (Told w (.int .i64 (Z3s (t1.at' m.src) (t2.at' m.dst) m (Q1u A n m)))):=by
 obtain⟨ca1,cb1,v1,hr⟩:=Z9E (t1.at' m.src);obtain⟨ca2,cb2,v2,_⟩:=Z9E (t2.at' m.dst);refine Z3r (s1:=(t1.at' m.src).isSome) (s2:=(t2.at' m.dst).isSome) (cl:=Q1u A n m) (ca1:=ca1) (cb1:=cb1) (ca2:=ca2) (cb2:=cb2) (fun W hb=>?_) (fun W hb=>?_) (fun W b hb Ab h0 h1 h3=>Q8h (hA.below hb) cap hn hm m b Ab h0 h1 h3) (Z8I _ _ m _ cb1 fun e he=>⟨hr e he,(l1 e he).2⟩)
 ·have:=Q1t (T1.grown hb) (x1:Int) f1 m.src l1
  rwa [v1] at this
 ·have:=Q1t (T2.grown hb) (x2:Int) f2 m.dst l2
  rwa [v2] at this
def AsideM (H:HL) (n:Nat) (A:Nat->Mv) (a0:Option Addr) (w:World):Prop:=IsMv w a0 n A/\∀a:Addr,n≠0->a0=some a->a.block∉keys H
theorem AsideM.step {H H':HL} {n:Nat} {A:Nat->Mv} {a0:Option Addr} {w w':World} (h:AsideM H n A a0 w) (st:Step H H' w w'):AsideM H' n A a0 w':=by
 obtain⟨h1,h2⟩:=h;refine⟨fun j hj=>?_,fun a hn ha hk=>?_⟩
 ·obtain⟨g,off,rfl,hg,hc,hw⟩:=h1 j hj;have e:=st.chg.block g hg (h2 ⟨g,off,none⟩ (by omega) rfl);exact⟨g,off,rfl,J2A hg st.chg.size,fun i v hv=>(World.cell?_of_block (w:=w) e).trans (hc i v hv),hw⟩
 ·obtain⟨g,off,he,hg,_,_⟩:=h1 0 (by omega);rw [ha] at he;cases he;rcases st.new _ hk with h'|h'
  ·exact h2 _ hn ha h'
  ·simp at h';omega
theorem FPI.same2 {l l':List Pl} {tb tb':Nat->TB} {N:List (En Nd)} (f:FPI l tb N) (he:∀h s,Q0f l' tb' h s=Q0f l tb h s) (hl:∀h s e,Q0f l tb h s=some e->∀q,pget l 1 e.h=some q->∃q',pget l' 1 e.h=some q'/\q'.kind=q.kind):FPI l' tb' N:=by
 have ho:∀n,Q0M l' tb' n=Q0M l tb n:=fun n=>he _ _
 refine⟨fun h s e x=>?_,fun h s e x=>?_,fun n hn=>?_,fun n hn m hm e e' x y=>?_⟩
 ·rw [he] at x;exact Q7o (f.cap h s e x) (hl h s e x)
 ·rw [he] at x;exact f.has h s e x
 ·rw [ho];exact f.is n hn
 ·rw [ho] at x y;exact f.up n hn m hm e e' x y
structure FitM (en:Nat->Nat->Option (Nat×Nat)) (x y:Nat) (m:Mv):Prop where
 src:0<=m.src/\m.src<256
 dst:0<=m.dst/\m.dst<256
 r:0<m.r/\m.r<=15
 side:decide (m.src<128)=decide (m.dst<128)
 full:∃c,en x m.src.toNat=some c/\c.2&&&4≠0/\c.2&&&m.r.toNat≠0
 free:en y m.dst.toNat=none
theorem J1J {l:List Pl} {tb:Nat->TB} {N:List (En Nd)} {x:Nat} {p:Pl} (hp:pget l 1 x=some p) (hk:p.kind=2) {z:Int} (hz:0<=z/\z<256):((tb (x%256)).at' z).map Ent.c=(avOf l tb N).en x z.toNat:=by
 unfold TB.at' avOf;rw [if_pos hz];show _=(Q0f l tb x z.toNat).map Ent.c;rw [Q0g hp hk (by omega)]
theorem Z1V {l:List Pl} {tb:Nat->TB} {N:List (En Nd)} {x y:Nat} {p1 p2:Pl} (AY:pget l 1 x=some p1) (A0:p1.kind=2) (A4:pget l 1 y=some p2) (A2:p2.kind=2) {m:Mv} {cl:Bool} :
  Z3s ((tb (x%256)).at' m.src) ((tb (y%256)).at' m.dst) m cl=0↔FitM (avOf l tb N).en x y m/\cl=false:=by
 unfold Z3s;by_cases h1:(0<=m.src/\m.src<256)/\(0<=m.dst/\m.dst<256)
 ·rw [if_neg (fun h=>h h1)];have e1:=J1J (tb:=tb) (N:=N) AY A0 h1.1;have e2:=J1J (tb:=tb) (N:=N) A4 A2 h1.2;by_cases h2:(0<m.r/\m.r<=15)/\decide (m.src<128)=decide (m.dst<128)
  ·rw [if_neg (fun h=>h h2)];cases ho:(tb (x%256)).at' m.src with
   | none =>
    rw [ho] at e1;refine⟨fun h=>by simp at h,fun h=>?_⟩;obtain⟨c,hc,_⟩:=h.1.full;rw [<- e1] at hc;cases hc
   | some e =>
    rw [ho] at e1;simp only;by_cases h3:e.r&&&4=0∨e.r&&&m.r.toNat=0
    ·rw [if_pos h3];refine⟨fun h=>by simp at h,fun h=>?_⟩;obtain⟨c,hc,h4,h5⟩:=h.1.full;rw [<- e1] at hc;cases hc;exact absurd h3 (by simp only [Ent.c] at h4 h5;omega)
    ·rw [if_neg h3];cases Fj:(tb (y%256)).at' m.dst with
     | some e' =>
      rw [Fj] at e2;refine⟨fun h=>by simp at h,fun h=>?_⟩;rw [h.1.free] at e2;cases e2
     | none =>
      rw [Fj] at e2;cases cl with
      | true=>exact⟨fun h=>by simp at h,fun h=>absurd h.2 (by simp)⟩
      | false=>exact⟨fun _=>⟨⟨h1.1,h1.2,h2.1,h2.2,⟨_,e1.symm,by simp only [Ent.c];omega,by simp only [Ent.c];omega⟩,e2.symm⟩,rfl⟩,fun _=>by simp⟩
  ·rw [if_pos h2];exact⟨fun h=>by simp at h,fun h=>absurd ⟨h.1.r,h.1.side⟩ h2⟩
 ·rw [if_pos h1];exact⟨fun h=>by simp at h,fun h=>absurd ⟨h.1.src,h.1.dst⟩ h1⟩
def AllFit (en:Nat->Nat->Option (Nat×Nat)) (x y n:Nat) (A:Nat->Mv):Prop:=∀i,i<n->FitM en x y (A i)/\Q1u A i (A i)=false
theorem AllFit.dst {en:Nat->Nat->Option (Nat×Nat)} {x y n:Nat} {A:Nat->Mv} (h:AllFit en x y n A) {i j:Nat} (hi:i<n) (hj:j<n) (Aa:i≠j):(A i).dst.toNat≠(A j).dst.toNat:=by
 have key:∀{a b:Nat},b<n->a<b->(A a).dst≠(A b).dst:=fun {a b} hb CI=>by
  have hc:=(h b hb).2;unfold Q1u at hc;have:=J7c.1 hc a (J2P.2 CI);unfold Mv.clash at this;intro e;simp [e] at this
 have T8:=(h i hi).1.dst;have Bl:=(h j hj).1.dst;intro e;have e':(A i).dst=(A j).dst:=by omega
 rcases Nat.lt_or_gt_of_ne Aa with hl|hl
 ·exact key hj hl e'
 ·exact key hi hl e'.symm
theorem AllFit.srcs {en:Nat->Nat->Option (Nat×Nat)} {x y n:Nat} {A:Nat->Mv} (h:AllFit en x y n A) {i j:Nat} (hi:i<n) (hj:j<n) (Aa:i≠j) (hg:(A i).g=true):(A i).src.toNat≠(A j).src.toNat:=by
 have key:∀{a b:Nat},b<n->a<b->((A a).g=true∨(A b).g=true)->(A a).src≠(A b).src:=fun {a b} hb CI hor=>by
  have hc:=(h b hb).2;unfold Q1u at hc;have:=J7c.1 hc a (J2P.2 CI);unfold Mv.clash at this;intro e;rcases hor with h1|h1 <;> simp [e,h1] at this
 have T8:=(h i hi).1.src;have Bl:=(h j hj).1.src;intro e;have e':(A i).src=(A j).src:=by omega
 rcases Nat.lt_or_gt_of_ne Aa with hl|hl
 ·exact key hj hl (.inl hg) e'
 ·exact key hi hl (.inr hg) e'.symm
structure LaidP (Z:SP) (fr:List Nat) (N K:Nat) (x y:Nat) (own:Int) (A:Nat->Mv) (j k:Nat) (S':CO) (t':TB):Prop where
 ok:S'.Ok fr N K
 tpi:TPI S' (updT Z.tb (y%256) t')
 alt:Alt Z.S S' own
 lf:∀q,q<16->(Z.tb (y%256)).lf q≠0->t'.lf q=(Z.tb (y%256)).lf q
 new:∀i,j<=i->i<k->∃c nd,Z.av.en x (A i).src.toNat=some c/\t'.en (A i).dst.toNat=some ⟨c.1,c.2&&&(A i).r.toNat,nd⟩
 old:∀s,(∀i,j<=i->i<k->s≠(A i).dst.toNat)->t'.en s=(Z.tb (y%256)).en s
theorem Q1k (tb:Nat->TB) (i:Nat):updT tb i (tb i)=tb:=by
 funext j;unfold updT;split
 ·rename_i h;rw [h]
 ·rfl
section
variable {Z:SP} {fr:List Nat} {N K:Nat} {M:Int} {x y n:Nat} {p1 p2:Pl} {A:Nat->Mv}
theorem LaidP.start (ok:Z.Ok fr N K M) (own:Int):LaidP Z fr N K x y own A 0 0 Z.S (Z.tb (y%256)):=
 ⟨ok.core,by rw [Q1k];exact ok.tpi,Alt.refl _ _,fun _ _ _=>rfl,fun i _ h=>by omega,fun _ _=>rfl⟩
theorem LaidP.lf_keep (hy:y%256<256) (hf:(Z.tb (y%256)).Full) (A4:Z.S.l[y%256]?=some p2) (h1:p2.st=1) (h2:p2.kind=2) {S1 S2:CO} {t1 t2:TB} {own:Int} (tp:TPI S2 (updT (updT Z.tb (y%256) t1) (y%256) t2)) (hl:S2.l=Z.S.l)
  (BX:∀s,(Z.tb (y%256)).en s≠none->t2.en s≠none) (hlf1:∀q,q<16->(Z.tb (y%256)).lf q≠0->t1.lf q=(Z.tb (y%256)).lf q) (F7:∀k,(updT Z.tb (y%256) t1 (y%256)).lf k=0∨t2.lf k=0∨t2.lf k=(updT Z.tb (y%256) t1 (y%256)).lf k):∀q,q<16->(Z.tb (y%256)).lf q≠0->t2.lf q=(Z.tb (y%256)).lf q:=by
 intro q hq h0;have e1:=hlf1 q hq h0;have h3:=F7 q;rw [updT_same,e1] at h3;rcases h3 with h|h|h
 ·exact absurd h h0
 ·exfalso;obtain⟨s,hs,OX,Gv⟩:=hf q hq h0;have Cf:=tp.tin (y%256) p2 (by rw [hl];exact A4) h1 h2;rw [updT_same] at Cf;exact BX s Gv (Cf.hole s hs (by rw [OX];exact h))
 ·exact h
theorem LaidP.lay (ok:Z.Ok fr N K M) (A4:pget Z.S.l 1 y=some p2) (A2:p2.kind=2) (An:AllFit Z.av.en x y n A) {k:Nat} (CW:k<n) {S1 S2:CO} {t1 t2:TB} (L:LaidP Z fr N K x y (p2.fac:Int) A 0 k S1 t1) {c:Nat×Nat} (hc:Z.av.en x (A k).src.toNat=some c) {nd:Nat}
  (T:TurnP S1 fr N K (updT Z.tb (y%256) t1) (p2.fac:Int) (y%256) (A k).dst.toNat (some ⟨c.1,c.2&&&(A k).r.toNat,nd⟩) S2 t2):LaidP Z fr N K x y (p2.fac:Int) A 0 (k+1) S2 t2:=by
 have AX:∀z,t2.en z=if z=(A k).dst.toNat then some ⟨c.1,c.2&&&(A k).r.toNat,nd⟩ else t1.en z:=fun z=>by rw [T.en z,updT_same]
 have Aw:∀i,i<n->(Z.tb (y%256)).en (A i).dst.toNat=none:=fun i hi=>by
  have h:=(An i hi).1;have:=av_none.1 h.free
  rwa [Q0g A4 A2 (by have:=h.dst;omega)] at this
 have BX:∀s,(Z.tb (y%256)).en s≠none->t2.en s≠none:=fun s hs=>by
  have LZ:∀i,i<n->s≠(A i).dst.toNat:=fun i hi e=>hs (by rw [e];exact Aw i hi)
  rw [AX s,if_neg (LZ k CW),L.old s fun i _ hi=>LZ i (by omega)];exact hs
 have al:=L.alt.trans T.alt;refine⟨T.ok,by have:=T.tpi;rwa [Q1c] at this,al,?_,fun i _ hi=>?_,fun s hs=>?_⟩
 ·exact LaidP.lf_keep (own:=(p2.fac:Int)) (S1:=S1) (J5G _ (by omega)) (ok.tpi.full _ (J5G _ (by omega))) (pget_some.1 A4).1 (pget_some.1 A4).2.2 A2 T.tpi (by rw [al.l]) BX L.lf T.lf
 ·by_cases e:i=k
  ·subst e;exact⟨c,nd,hc,by rw [AX,if_pos rfl]⟩
  ·obtain⟨c',nd',h1,h2⟩:=L.new i (by omega) (by omega);exact⟨c',nd',h1,by rw [AX,if_neg (An.dst (by omega) CW e)];exact h2⟩
 ·rw [AX,if_neg (hs k (by omega) (by omega))];exact L.old s fun i h1 h2=>hs i h1 (by omega)
theorem LaidP.bare (ok:Z.Ok fr N K M) (A4:pget Z.S.l 1 y=some p2) (A2:p2.kind=2) (An:AllFit Z.av.en x y n A) {j k:Nat} (CW:k<=n) (hj:j<k) {S1 S2:CO} {t1 t2:TB} (L:LaidP Z fr N K x y (p2.fac:Int) A j k S1 t1)
  (T:TurnP S1 fr N K (updT Z.tb (y%256) t1) (p2.fac:Int) (y%256) (A j).dst.toNat none S2 t2):LaidP Z fr N K x y (p2.fac:Int) A (j+1) k S2 t2:=by
 have AX:∀z,t2.en z=if z=(A j).dst.toNat then none else t1.en z:=fun z=>by rw [T.en z,updT_same]
 have Aw:∀i,i<n->(Z.tb (y%256)).en (A i).dst.toNat=none:=fun i hi=>by
  have h:=(An i hi).1;have:=av_none.1 h.free
  rwa [Q0g A4 A2 (by have:=h.dst;omega)] at this
 have BX:∀s,(Z.tb (y%256)).en s≠none->t2.en s≠none:=fun s hs=>by
  have LZ:∀i,i<n->s≠(A i).dst.toNat:=fun i hi e=>hs (by rw [e];exact Aw i hi)
  rw [AX s,if_neg (LZ j (by omega)),L.old s fun i _ hi=>LZ i (by omega)];exact hs
 have al:=L.alt.trans T.alt;refine⟨T.ok,by have:=T.tpi;rwa [Q1c] at this,al,?_,fun i h1 h2=>?_,fun s hs=>?_⟩
 ·exact LaidP.lf_keep (own:=(p2.fac:Int)) (S1:=S1) (J5G _ (by omega)) (ok.tpi.full _ (J5G _ (by omega))) (pget_some.1 A4).1 (pget_some.1 A4).2.2 A2 T.tpi (by rw [al.l]) BX L.lf T.lf
 ·obtain⟨c',nd',h3,h4⟩:=L.new i (by omega) h2;exact⟨c',nd',h3,by rw [AX,if_neg (An.dst (by omega) (by omega) (by omega))];exact h4⟩
 ·rw [AX];by_cases e:s=(A j).dst.toNat
  ·rw [if_pos e,e];exact (Aw j (by omega)).symm
  ·rw [if_neg e];refine L.old s fun i h1 h2=>?_
   by_cases e2:i=j
   ·rw [e2];exact e
   ·exact hs i (by omega) h2
theorem LaidP.tried {j k:Nat} {own:Int} {S1:CO} {t1:TB} (L:LaidP Z fr N K x y own A j k S1 t1) {P':PL} (h:Tried S1.P fr S1.l P'):LaidP Z fr N K x y own A j k (S1.setP P') t1:=by
 refine⟨L.ok.tried h,L.tpi.tried L.ok h,L.alt.trans ?_,L.lf,L.new,L.old⟩;exact⟨rfl,rfl,rfl,rfl,rfl,rfl,rfl,rfl,h.same,by show P'.q.next=_;rw [h.q],fun id e he=>⟨e,by show find P'.q.E id=_;rw [h.q];exact he,rfl,fun _=>rfl⟩,by show P'.q.E.map En.id=_;rw [h.q],fun r hr Ap _=>h.mem r hr Ap⟩
def BackZ (Z:SP) (fr:List Nat) (N K:Nat) (y:Nat) (own:Int) (w w':World):Prop:=∃S' t',S'.Ok fr N K/\TPI S' (updT Z.tb (y%256) t')/\Alt Z.S S' own/\(∀q,q<16->t'.lf q=(Z.tb (y%256)).lf q)/\(∀s,t'.en s=(Z.tb (y%256)).en s)/\Step Z.hl (Z.setS S' (updT Z.tb (y%256) t')).hl w w'
theorem LaidP.back (ok:Z.Ok fr N K M) (A4:pget Z.S.l 1 y=some p2) (A2:p2.kind=2) {k:Nat} {own:Int} {S1:CO} {t1:TB} (L:LaidP Z fr N K x y own A k k S1 t1) {w w':World} (st:Step Z.hl (Z.setS S1 (updT Z.tb (y%256) t1)).hl w w'):BackZ Z fr N K y own w w':=by
 have AX:∀s,t1.en s=(Z.tb (y%256)).en s:=fun s=>L.old s fun i h1 h2=>by omega
 have hi:=(pget_some.1 A4).1;have h1:=(pget_some.1 A4).2.2;refine⟨S1,t1,L.ok,L.tpi,L.alt,fun q hq=>?_,AX,st⟩;by_cases h0:(Z.tb (y%256)).lf q=0
 ·rw [h0];refine Classical.byContradiction fun Aa=>?_
  have Ku:=L.tpi.full (y%256) (J5G _ (by omega));rw [updT_same] at Ku;obtain⟨s,hs,OX,Gv⟩:=Ku q hq Aa;rw [AX s] at Gv;exact Gv ((ok.tpi.tin (y%256) p2 hi h1 A2).hole s hs (by rw [OX];exact h0))
 ·exact L.lf q hq h0
theorem BackZ.ok (ok:Z.Ok fr N K M) {own:Int} {w w':World} (h:BackZ Z fr N K y own w w'):∃Z',Z'.Ok fr N K M/\Z'.av=Z.av/\SameZ Z Z'/\Step Z.hl Z'.hl w w':=by
 obtain⟨S',t',h1,h2,h3,h4,h5,h6⟩:=h;have DS:∀h s,Q0f S'.l (updT Z.tb (y%256) t') h s=Q0f Z.S.l Z.tb h s:=fun h s=>by
  unfold Q0f;rw [h3.l];split
  ·split
   ·by_cases e:h%256=y%256
    ·rw [e,updT_same,h5]
    ·rw [Q0X e]
   ·rfl
  ·rfl
 refine⟨Z.setS S' (updT Z.tb (y%256) t'),⟨h1,h2,?_,ok.fo,ok.next⟩,?_,⟨⟨rfl,h3.alt0,rfl⟩,rfl⟩,h6⟩
 ·refine ok.fpi.same2 DS fun h s e he q hq=>⟨q,?_,rfl⟩
  show pget S'.l 1 e.h=some q;rw [h3.l];exact hq
 ·show (⟨fun h s=>(Q0f S'.l (updT Z.tb (y%256) t') h s).map Ent.c,Z.F.N⟩:AV)=_;unfold SP.av avOf;congr 1;funext h s;rw [DS]
end
end Go.Proofs.YtfidemmgofcnmaaGreatDoor

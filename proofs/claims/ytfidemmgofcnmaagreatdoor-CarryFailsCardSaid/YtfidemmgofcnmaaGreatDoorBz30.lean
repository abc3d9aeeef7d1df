/- What the laws of spaces share is proved. No condition. Part of a proof. -/
import Derived.Test.YtfidemmgofcnmaaGreatDoorBz29
set_option maxHeartbeats 2000000
set_option maxRecDepth 100000
set_option linter.unusedVariables false
namespace Go.Proofs.YtfidemmgofcnmaaGreatDoor
open Go.ChangeShapes Go.WideShapes Go.ChangeAt Go.RowKit Go.Deep Go.Proofs.Tryz
structure A19 where
 kind:Int
 k:Int
 tt:Int
 s:Int
 off:Int
 lbx:Nat
 la:Option Addr
 lc:Nat
 L:List Nat
 lb:Nat
 wa:Option Addr
 wc:Nat
 W:List Nat
 ia:Option Addr
 ic:Nat
 I:List It
 win:Wi
 a:A17
def A19.cells(x:A19):List Value:=[.int .i64 x.kind,.int .i64 x.k,.int .i64 x.tt,.int .i64 x.s,.int .i64 x.off,.int .u64 (x.lbx:Int),.slice x.la x.L.length x.lc,.int .u64 (x.lb:Int),.slice x.wa x.W.length x.wc,.slice x.ia x.I.length x.ic]++x.win.cells++x.a.cells
structure A19.Wf(x:A19):Prop where
 kind:I64 x.kind
 k:I64 x.k
 tt:I64 x.tt
 s:I64 x.s
 off:I64 x.off
 lbx:x.lbx<18446744073709551616
 lc:x.L.length<=x.lc/\x.lc<=maxLen
 lb:x.lb<18446744073709551616
 wc:x.W.length<=x.wc/\x.wc<=maxLen
 ic:x.I.length<=x.ic/\x.ic<=maxLen
 win:x.win.Wf
 a:x.a.Wf
 L:∀y∈x.L,y<18446744073709551616
 W:∀y∈x.W,y<18446744073709551616
 I:∀i∈x.I,i.Wf
structure A19.Lies(w:World)(x:A19):Prop where
 L:IsU w x.la x.L
 W:IsU w x.wa x.W
 I:IsI w x.ia x.I
 a:IsMv w x.a.la x.a.ll x.a.L
theorem A19.Lies.below{w w':World}{x:A19}(h:A19.Lies w x)(hb:Below w.heap.size w w'):A19.Lies w' x:=⟨h.L.below hb,h.W.below hb,h.I.below hb,h.a.below hb⟩
def IsA19(w:World)(a0:Option Addr)(len:Nat)(A:Nat->A19):Prop:=∀j,j<len->∃g off,a0=some ⟨g,off,none⟩/\g<w.heap.size/\(∀(i:Nat) (v:Value),(A j).cells[i]?=some v->w.cell? ⟨g,off+j*29+i,none⟩=some v)/\(A j).Wf/\A19.Lies w (A j)
theorem IsA19.below{w w':World}{a0:Option Addr}{len:Nat}{A:Nat->A19}(h:IsA19 w a0 len A)(hb:Below w.heap.size w w'):IsA19 w' a0 len A:=by
 intro j hj;obtain⟨g,off,h1,h2,h3,h4,h5⟩:=h j hj;have e:=hb.block g h2;exact⟨g,off,h1,J3j h2 hb.size,fun i v hv=>(World.cell?_of_block (w:=w) e).trans (h3 i v hv),h4,h5.below hb⟩
theorem Z7s:prog.cellsOf 102=29:=by kernel_rfl
theorem Q7H:prog.cellsOf 100=3:=by kernel_rfl
theorem Q6z:prog.cellsOf 82=1:=by kernel_rfl
theorem Z3V:prog.cellsOf 98=1:=by kernel_rfl
theorem Q4Y{H:Type}{enc:TypeId×Value->H}{w:World}{fuel:Nat}{cs:List Value}{x:DataW H×List MemPlace}
  (h:DataW.trod enc prog w 0 (fun _=>true) true fuel 82 cs=some x):∃(a0:Option Addr) (ws:List Nat) (cap:Nat),cs=[.slice a0 ws.length cap]/\(ws.length<=cap/\cap<=maxLen)/\IsU w a0 ws/\∀y∈ws,y<18446744073709551616:=by
 have key:∀(a0:Option Addr) (len cap:Nat),cs=[.slice a0 len cap]->(len<=cap/\cap<=maxLen)->∃(a0:Option Addr) (ws:List Nat) (cap:Nat),cs=[.slice a0 ws.length cap]/\(ws.length<=cap/\cap<=maxLen)/\IsU w a0 ws/\∀y∈ws,y<18446744073709551616:=fun a0 len cap AO hc=>by
  subst AO;obtain⟨A,hA⟩:=Z9P h;have Ab:((List.range len).map A).length=len:=by simp
  refine⟨a0,(List.range len).map A,cap,by rw[Ab],by rw[Ab];exact hc,fun j y hj=>?_,fun y hy=>?_⟩
  ·have hl:j<len:=by have:=(J3y.1 hj).1;rwa [Ab] at this
   have e:((List.range len).map A)[j]?=some (A j):=by simp[hl]
   rw[e] at hj;cases hj;obtain⟨g,o,h1,h2,h3,_⟩:=hA j hl;exact⟨g,o,h1,h2,h3⟩
  ·obtain⟨j,hj,rfl⟩:=J3n.1 hy;obtain⟨_,_,_,_,_,h4⟩:=hA j (J3x.1 hj);exact h4
 rcases open_slice underlying82 h with ⟨AO,_⟩|⟨a,len,cap,m,n,D,Pl,AO,_,hl,Cp,_⟩
 ·exact key none 0 0 AO ⟨J3h _,by unfold maxLen;omega⟩
 ·exact key (some a) len cap AO ⟨hl,Cp⟩
theorem Q9R{H:Type}{enc:TypeId×Value->H}{w:World}{fuel:Nat}{cs:List Value}{x:DataW H×List MemPlace}
  (h:DataW.trod enc prog w 0 (fun _=>true) true fuel 98 cs=some x):∃(a0:Option Addr) (its:List It) (cap:Nat),cs=[.slice a0 its.length cap]/\(its.length<=cap/\cap<=maxLen)/\IsI w a0 its/\∀i∈its,i.Wf:=by
 rcases open_slice underlying98 h with ⟨AO,_⟩|⟨a,len,cap,m,n,D,Pl,AO,_,hl,Cp,Il,_,hi⟩
 ·exact⟨none,[],0,AO,⟨J3h _,by unfold maxLen;omega⟩,fun j i hj=>by simp at hj,fun i hi=>by cases hi⟩
 ·have hm:len<=m:=by rw[Il];simp;exact hl
  have each:∀j,j<len->∃x:It,(∀(i:Nat) (v:Value),x.cells[i]?=some v->w.cell? ((a.add (j*5)).add i)=some v)/\x.Wf:=by
   intro j hj;obtain⟨RW,hc,ht⟩:=hi j (by omega);rw[Q6i] at hc;obtain⟨x,rfl,hx⟩:=Q6k ht;obtain⟨_,_,Bb⟩:=World.cells?_some hc;refine⟨x,fun i v hv=>?_,hx⟩;have M8:i<5:=by simpa[It.cells] using (J3y.1 hv).1
   exact(Bb i M8).trans hv
  obtain⟨A,hA⟩:∃A:Nat->It,∀j,j<len->(∀(i:Nat) (v:Value),(A j).cells[i]?=some v->w.cell? ((a.add (j*5)).add i)=some v)/\(A j).Wf:=by
   refine⟨fun j=>if hj:j<len then(each j hj).choose else⟨0,0,0,0,false⟩,fun j hj=>?_⟩;simp only[hj,dif_pos];exact(each j hj).choose_spec
  have Ab:((List.range len).map A).length=len:=by simp
  refine⟨some a,(List.range len).map A,cap,by rw[Ab];exact AO,by rw[Ab];exact⟨hl,Cp⟩,fun j y hj=>?_,fun y hy=>?_⟩
  ·have Gy:j<len:=by have:=(J3y.1 hj).1;rwa [Ab] at this
   have e:((List.range len).map A)[j]?=some (A j):=by simp[Gy]
   rw[e] at hj;cases hj;have h1:=(hA j Gy).1;have hp:=Q2H (x:=a) (by simpa[Addr.add] using (hA 0 (by omega)).1 0 _ rfl);have h3:∀(i:Nat) (v:Value),(A j).cells[i]?=some v->w.cell? ⟨a.block,a.off+j*5+i,none⟩=some v:=fun i v hv=>by
    have:=h1 i v hv;rw[hp,add_plain5,add_plain5] at this;exact this
   exact⟨a.block,a.off,congrArg some hp,World.block_lt_of_cell? w ⟨a.block,a.off+j*5+0,none⟩ (h3 0 _ rfl),h3⟩
  ·obtain⟨j,hj,rfl⟩:=J3n.1 hy;exact(hA j (J3x.1 hj)).2
theorem Z3W{H:Type}{enc:TypeId×Value->H}{w:World}{n:Nat}{cs:List Value}{y:DataW H×List MemPlace}
  (h:DataW.trod enc prog w 0 (fun _=>true) true n 100 cs=some y):∃(lb:Nat) (wa:Option Addr) (ws:List Nat) (wc:Nat) (ia:Option Addr) (its:List It) (ic:Nat),cs=[.int .u64 lb,.slice wa ws.length wc,.slice ia its.length ic]/\lb<18446744073709551616/\(ws.length<=wc/\wc<=maxLen)/\(its.length<=ic/\ic<=maxLen)/\IsU w wa ws/\IsI w ia its/\(∀y∈ws,y<18446744073709551616)/\∀i∈its,i.Wf:=by
 obtain⟨xs,n',_,_,Ab,CW,hf⟩:=DataW.trod_struct underlying100 h;rw[Q7H] at Ab
 match cs,Ab with
 | [v0,v1,v2],_ =>
  match xs,CW with
  | [y0,y1,y2],_ =>
   have g0:DataW.trod enc prog w 0 (fun _=>true) true n' 83 (List.take (prog.cellsOf 83) (List.drop 0 [v0,v1,v2]))=some y0:=hf 0 _ rfl;have g1:DataW.trod enc prog w 0 (fun _=>true) true n' 82 (List.take (prog.cellsOf 82) (List.drop 1 [v0,v1,v2]))=some y1:=hf 1 _ rfl;have g2:DataW.trod enc prog w 0 (fun _=>true) true n' 98 (List.take (prog.cellsOf 98) (List.drop 2 [v0,v1,v2]))=some y2:=hf 2 _ rfl;rw[Z1b] at g0;rw[Q6z] at g1;rw[Z3V] at g2;simp only[J6T,J7u,J6C,J7v] at g0 g1 g2;obtain⟨a0,e0,_,Ji⟩:=DataW.trod_int underlying83 g0;have Bv:=bounds_u64 (n:=a0) (by simp_all);obtain⟨lb,rfl⟩:=J4F Bv.1
   obtain⟨wa,ws,wc,e1,Cd,hu,hw⟩:=Q4Y g1;obtain⟨ia,its,ic,e2,B5,hi,RJ⟩:=Q9R g2;simp only[J3l,and_true] at e0 e1 e2;subst e0;subst e1;subst e2;exact⟨lb,wa,ws,wc,ia,its,ic,rfl,by omega,Cd,B5,hu,hi,hw,RJ⟩
theorem Q7I{H:Type}{enc:TypeId×Value->H}{w:World}{n:Nat}{cs:List Value}{y:DataW H×List MemPlace}
  (h:DataW.trod enc prog w 0 (fun _=>true) true n 102 cs=some y):∃x:A19,cs=x.cells/\x.Wf/\A19.Lies w x:=by
 obtain⟨xs,n',_,_,Ab,CW,hf⟩:=DataW.trod_struct underlying102 h;rw[Z7s] at Ab
 match cs,Ab with
 | [v0,v1,v2,v3,v4,v5,v6,v7,v8,v9,v10,v11,v12,v13,v14,v15,v16,v17,v18,v19,v20,v21,v22,v23,v24,v25,v26,v27,v28],_ =>
  match xs,CW with
  | [y0,y1,y2,y3,y4,y5,y6,y7,y8,y9],_ =>
   have g0:DataW.trod enc prog w 0 (fun _=>true) true n' 3 (List.take (prog.cellsOf 3) (List.drop 0 [v0,v1,v2,v3,v4,v5,v6,v7,v8,v9,v10,v11,v12,v13,v14,v15,v16,v17,v18,v19,v20,v21,v22,v23,v24,v25,v26,v27,v28]))=some y0:=hf 0 _ rfl;have g1:DataW.trod enc prog w 0 (fun _=>true) true n' 3 (List.take (prog.cellsOf 3) (List.drop 1 [v0,v1,v2,v3,v4,v5,v6,v7,v8,v9,v10,v11,v12,v13,v14,v15,v16,v17,v18,v19,v20,v21,v22,v23,v24,v25,v26,v27,v28]))=some y1:=hf 1 _ rfl;have g2:DataW.trod enc prog w 0 (fun _=>true) true n' 3 (List.take (prog.cellsOf 3) (List.drop 2 [v0,v1,v2,v3,v4,v5,v6,v7,v8,v9,v10,v11,v12,v13,v14,v15,v16,v17,v18,v19,v20,v21,v22,v23,v24,v25,v26,v27,v28]))=some y2:=hf 2 _ rfl
   have g3:DataW.trod enc prog w 0 (fun _=>true) true n' 3 (List.take (prog.cellsOf 3) (List.drop 3 [v0,v1,v2,v3,v4,v5,v6,v7,v8,v9,v10,v11,v12,v13,v14,v15,v16,v17,v18,v19,v20,v21,v22,v23,v24,v25,v26,v27,v28]))=some y3:=hf 3 _ rfl;have g4:DataW.trod enc prog w 0 (fun _=>true) true n' 3 (List.take (prog.cellsOf 3) (List.drop 4 [v0,v1,v2,v3,v4,v5,v6,v7,v8,v9,v10,v11,v12,v13,v14,v15,v16,v17,v18,v19,v20,v21,v22,v23,v24,v25,v26,v27,v28]))=some y4:=hf 4 _ rfl;have g5:DataW.trod enc prog w 0 (fun _=>true) true n' 83 (List.take (prog.cellsOf 83) (List.drop 5 [v0,v1,v2,v3,v4,v5,v6,v7,v8,v9,v10,v11,v12,v13,v14,v15,v16,v17,v18,v19,v20,v21,v22,v23,v24,v25,v26,v27,v28]))=some y5:=hf 5 _ rfl
   have g6:DataW.trod enc prog w 0 (fun _=>true) true n' 82 (List.take (prog.cellsOf 82) (List.drop 6 [v0,v1,v2,v3,v4,v5,v6,v7,v8,v9,v10,v11,v12,v13,v14,v15,v16,v17,v18,v19,v20,v21,v22,v23,v24,v25,v26,v27,v28]))=some y6:=hf 6 _ rfl;have g7:DataW.trod enc prog w 0 (fun _=>true) true n' 100 (List.take (prog.cellsOf 100) (List.drop 7 [v0,v1,v2,v3,v4,v5,v6,v7,v8,v9,v10,v11,v12,v13,v14,v15,v16,v17,v18,v19,v20,v21,v22,v23,v24,v25,v26,v27,v28]))=some y7:=hf 7 _ rfl;have g8:DataW.trod enc prog w 0 (fun _=>true) true n' 65 (List.take (prog.cellsOf 65) (List.drop 10 [v0,v1,v2,v3,v4,v5,v6,v7,v8,v9,v10,v11,v12,v13,v14,v15,v16,v17,v18,v19,v20,v21,v22,v23,v24,v25,v26,v27,v28]))=some y8:=hf 8 _ rfl
   have g9:DataW.trod enc prog w 0 (fun _=>true) true n' 67 (List.take (prog.cellsOf 67) (List.drop 12 [v0,v1,v2,v3,v4,v5,v6,v7,v8,v9,v10,v11,v12,v13,v14,v15,v16,v17,v18,v19,v20,v21,v22,v23,v24,v25,v26,v27,v28]))=some y9:=hf 9 _ rfl;rw[Q2u] at g0 g1 g2 g3 g4;rw[Z1b] at g5;rw[Q6z] at g6;rw[Q7H] at g7;rw[Q6j] at g8;rw[Z6H] at g9;simp only[J6T,J7u,J6C,J7v] at g0 g1 g2 g3 g4 g5 g6 g7 g8 g9;obtain⟨a0,e0,_,Ji⟩:=DataW.trod_int underlying3 g0;have Bv:=bounds_i64 (n:=a0) (by simp_all);obtain⟨a1,e1,_,CU⟩:=DataW.trod_int underlying3 g1;have Aq:=bounds_i64 (n:=a1) (by simp_all);obtain⟨a2,e2,_,E3⟩:=DataW.trod_int underlying3 g2
   have Ae:=bounds_i64 (n:=a2) (by simp_all);obtain⟨a3,e3,_,FY⟩:=DataW.trod_int underlying3 g3;have Am:=bounds_i64 (n:=a3) (by simp_all);obtain⟨a4,e4,_,WQ⟩:=DataW.trod_int underlying3 g4;have Av:=bounds_i64 (n:=a4) (by simp_all);obtain⟨a5,e5,_,WX⟩:=DataW.trod_int underlying83 g5;have As:=bounds_u64 (n:=a5) (by simp_all);obtain⟨xx,rfl⟩:=J4F As.1;obtain⟨la,ls,lc,e6,LH,VD,W9⟩:=Q4Y g6;obtain⟨lb,wa,ws,wc,ia,its,ic,e7,FG,Lq,Dm,QO,Ff,Vc,RJ⟩:=Z3W g7;obtain⟨wi,e8,MQ⟩:=Q7v g8;obtain⟨ac,e9,FB,BI⟩:=Z3C g9;simp only[J3l,and_true] at e0 e1 e2 e3 e4 e5 e6 e7;subst e0;subst e1;subst e2;subst e3
   subst e4;subst e5;subst e6;obtain⟨e70,e71,e72⟩:=e7;subst e70;subst e71;subst e72;refine⟨⟨a0,a1,a2,a3,a4,xx,la,lc,ls,lb,wa,wc,ws,ia,ic,its,wi,ac⟩,?_,⟨by simpa using Bv,by simpa using Aq,by simpa using Ae,by simpa using Am,by simpa using Av,by dsimp only;omega,LH,FG,Lq,Dm,MQ,FB,W9,Vc,RJ⟩,⟨VD,QO,Ff,BI⟩⟩;unfold A19.cells;rw[<- e8,<- e9];rfl
theorem A19.len(x:A19):x.cells.length=29:=by simp[A19.cells,A17.cells,It.cells,Wi.cells]
theorem Q6A{H:Type}{enc:TypeId×Value->H}{w:World}{fuel:Nat}{a0:Option Addr}{len cap:Nat}{x:DataW H×List MemPlace}
  (h:DataW.trod enc prog w 0 (fun _=>true) true fuel 95 [.slice a0 len cap]=some x):∃A,IsA19 w a0 len A:=by
 have dflt:A19:=⟨0,0,0,0,0,0,none,0,[],0,none,0,[],none,0,[],⟨0,0⟩,⟨0,0,0,0,0,0,0,0,false,none,0,0,fun _=>⟨0,0,0,false⟩,⟨0,0,0,0,false⟩,⟨0,0⟩⟩⟩
 rcases open_slice underlying95 h with ⟨AO,_⟩|⟨a,len',Cn,m,n,D,Pl,AO,_,hl,_,Il,_,hi⟩
 ·simp only[J3l,Value.slice.injEq,and_true] at AO;obtain⟨rfl,rfl,rfl⟩:=AO;exact⟨fun _=>dflt,fun j hj=>absurd hj (J6D _)⟩
 ·simp only[J3l,Value.slice.injEq,and_true] at AO;obtain⟨rfl,rfl,rfl⟩:=AO;have hm:len<=m:=by rw[Il];simp;exact hl
  have each:∀j,j<len->∃x:A19,(∀(i:Nat) (v:Value),x.cells[i]?=some v->w.cell? ((a.add (j*29)).add i)=some v)/\x.Wf/\A19.Lies w x:=by
   intro j hj;obtain⟨RW,hc,ht⟩:=hi j (by omega);rw[Z7s] at hc;obtain⟨x,rfl,hx,EZ⟩:=Q7I ht;obtain⟨_,_,Bb⟩:=World.cells?_some hc;refine⟨x,fun i v hv=>?_,hx,EZ⟩;have M8:i<29:=by have:=(J3y.1 hv).1;rwa [A19.len] at this
   exact(Bb i M8).trans hv
  by_cases h0:len=0
  ·exact⟨fun _=>dflt,fun j hj=>by omega⟩
  ·obtain⟨x0,c0,_⟩:=each 0 (by omega);have hp:=Q2H (x:=a) (by simpa[Addr.add] using c0 0 _ rfl);refine⟨fun j=>if hj:j<len then(each j hj).choose else dflt,fun j hj=>?_⟩;obtain⟨h1,h2,Tf⟩:=(each j hj).choose_spec;simp only[hj,dif_pos];generalize (each j hj).choose=y at h1 h2 Tf;have h3:∀(i:Nat) (v:Value),y.cells[i]?=some v->w.cell? ⟨a.block,a.off+j*29+i,none⟩=some v:=fun i v hv=>by
    have:=h1 i v hv;rw[hp,add_plain5,add_plain5] at this;exact this
   exact⟨a.block,a.off,congrArg some hp,World.block_lt_of_cell? w ⟨a.block,a.off+j*29+0,none⟩ (h3 0 _ rfl),h3,h2,Tf⟩
end Go.Proofs.YtfidemmgofcnmaaGreatDoor
namespace Go.Proofs.YtfidemmgofcnmaaGreatDoor
open Go.RowKit Go.Proofs.Tryz
def Q2M(n:Int):Nat:=((n%18446744073709551616)%5).toNat
theorem Q2g(n:Int):Q2M n<5:=by unfold Q2M;omega
theorem Q2K(w:World)(n:Int)(hn:I64 n):Calls prog 56 #[.int .i64 n] w fun r w'=>r=.returned (.int .i64 ((Q2M n:Nat):Int))/\w=w':=by
 have h0:0<=n%18446744073709551616:=by omega
 have h1:n%18446744073709551616<18446744073709551616:=by omega
 have hw:IntKind.u64.wrap n=n%18446744073709551616:=rfl;have ht:Int.tmod (n%18446744073709551616) 5=((Q2M n:Nat):Int):=by
  rw[J4S h0];unfold Q2M;omega
 have hp:((Q2M n:Nat):Int)<5:=by have:=Q2g n;omega
 have EV:(0:Int)<=((Q2M n:Nat):Int):=by omega
 generalize ((Q2M n:Nat):Int)=p at *
 clear hn;go_enter func56,ntmps56;go_wp2_with fail
 (try go_ret);exact⟨rfl,rfl⟩
def few1(x:A19):Prop:=x.L.length<=200/\x.W.length<=20/\x.I.length<=20/\x.a.ll<=20
instance (x:A19):Decidable (few1 x):=by unfold few1;infer_instance
def Q4w(A:Nat->A19)(len:Nat):Bool:=decide (len<=40/\∀j,j<len->few1 (A j))
theorem Q9S(w:World)(a0:Option Addr)(len cap:Nat)(A:Nat->A19)(hA:IsA19 w a0 len A) :
  Calls prog 47 #[.slice a0 len cap] w fun r w'=>r=.returned (.bool (Q4w A len))/\w=w':=by
 have OP:(0:Int)<=(len:Int):=by omega
 by_cases TY:len<=40
 ·have hd:decide (40<(len:Int))=false:=by simp;omega
  have HA:=Q0a hA;have D3:(len:Int)<=40:=by omega
  obtain⟨v,hv⟩:∃v,v=Q4w A len:=⟨_,rfl⟩
  have HV:=Q0a hv;rw[<- hv];clear hA hv;go_enter func47,ntmps47;go_wp2_with fail
  go_loopg [3] len (fun gk iv wr=>∃k:Nat,iv=.int .i64 k/\k+gk=len/\wr=w/\∀j,j<k->few1 (A j))
  case atStart=>exact⟨0,rfl,by omega,rfl,fun j hj=>by omega⟩
  case round =>
   obtain⟨k,rfl,BR,rfl,hp⟩:=hrel;have HP:=Q0a hp;have Dz:=Q0a BR;clear hp BR;by_cases Aa:k<len
   ·obtain⟨g,off,rfl,hg,Bi,Gt,_⟩:=HA.out k Aa;have c6:wr.cell? ⟨g,off+k*29+6,none⟩=some (.slice (A k).la (A k).L.length (A k).lc):=Bi 6 _ rfl;have c8:wr.cell? ⟨g,off+k*29+8,none⟩=some (.slice (A k).wa (A k).W.length (A k).wc):=Bi 8 _ rfl;have c9:wr.cell? ⟨g,off+k*29+9,none⟩=some (.slice (A k).ia (A k).I.length (A k).ic):=Bi 9 _ rfl;have XM:wr.cell? ⟨g,off+k*29+21,none⟩=some (.slice (A k).a.la (A k).a.ll (A k).a.lc):=Bi 21 _ rfl;have LH:=Gt.lc;have Lq:=Gt.wc;have Dm:=Gt.ic;have FB:=Gt.a.len;unfold maxLen at LH Lq Dm FB;have CG:(k:Int)<(len:Int):=by omega
    have BE:(0:Int)<=(k:Int):=by omega
    have Ga:Hid (¬few1 (A k)->v=false):=fun h=>by
     rw[HV.out];unfold Q4w;exact decide_eq_false fun h2=>h (h2.2 k Aa)
    have Gi:Hid (few1 (A k)->∀j,j<k+1->few1 (A j)):=fun h j hj=>by
     by_cases e:j=k
     ·rw[e];exact h
     ·exact HP.out j (by omega)
    have HF:Hid (few1 (A k)↔(A k).L.length<=200/\(A k).W.length<=20/\(A k).I.length<=20/\(A k).a.ll<=20):=Iff.rfl;clear Bi Gt;generalize hnl:(A k).L.length=nl at *
    generalize Pv:(A k).W.length=nw at *
    generalize Mo:(A k).I.length=ni at *
    generalize hna:(A k).a.ll=na at *
    clear hnl Pv Mo hna;by_cases h1:nl<=200
    ·have Iw:decide (200<(nl:Int))=false:=by simp;omega
     by_cases h2:nw<=20
     ·have D6:decide (20<(nw:Int))=false:=by simp;omega
      by_cases h3:ni<=20
      ·have Hg:decide (20<(ni:Int))=false:=by simp;omega
       by_cases h4:na<=20
       ·have Jq:decide (20<(na:Int))=false:=by simp;omega
        have FP:=Q0a (Gi.out (HF.out.2 ⟨h1,h2,h3,h4⟩));clear Ga Gi HF;go_wp2_with fail;go_roundg (len-(k+1))
        case measure=>have:=Dz.out;omega
        case rel=>exact⟨k+1,by go_num,by have:=Dz.out;omega,rfl,FP.out⟩
       ·have Jq:decide (20<(na:Int))=true:=by simp;omega
        obtain rfl:=Ga.out fun h=>h4 (HF.out.1 h).2.2.2
        clear HV Gi HF Ga;go_wp2_with fail
        (try go_ret);exact⟨rfl,rfl⟩
      ·have Hg:decide (20<(ni:Int))=true:=by simp;omega
       obtain rfl:=Ga.out fun h=>h3 (HF.out.1 h).2.2.1
       clear HV Gi HF Ga;go_wp2_with fail
       (try go_ret);exact⟨rfl,rfl⟩
     ·have D6:decide (20<(nw:Int))=true:=by simp;omega
      obtain rfl:=Ga.out fun h=>h2 (HF.out.1 h).2.1
      clear HV Gi HF Ga;go_wp2_with fail
      (try go_ret);exact⟨rfl,rfl⟩
    ·have Iw:decide (200<(nl:Int))=true:=by simp;omega
     obtain rfl:=Ga.out fun h=>h1 (HF.out.1 h).1
     clear HV Gi HF Ga;go_wp2_with fail
     (try go_ret);exact⟨rfl,rfl⟩
   ·obtain rfl:k=len:=by have:=Dz.out;omega
    have VS:v=true:=by
     rw[HV.out];unfold Q4w;exact decide_eq_true ⟨TY,HP.out⟩
    subst VS;clear HV;go_wp2_with fail
    (try go_ret);exact⟨rfl,rfl⟩
 ·have hv:Q4w A len=false:=by
   unfold Q4w;exact decide_eq_false fun h=>TY h.1
  have hd:decide (40<(len:Int))=true:=by simp;omega
  rw[hv];clear hA;go_enter func47,ntmps47;go_wp2_with fail
  (try go_ret);exact⟨rfl,rfl⟩
structure KeepJ(Z Z':SP):Prop where
 s:Z'.s=Z.s
 c:Z'.S.c=Z.S.c
 top:Z'.S.P.d.top=Z.S.P.d.top
 l:∀(i:Nat) (q:Pl),Z.S.l[i]?=some q->q.st=1->Z'.S.l[i]?=some q
 nz:(∀q∈Z.S.l,q.st≠2)->∀q∈Z'.S.l,q.st≠2
theorem KeepJ.refl(Z:SP):KeepJ Z Z:=⟨rfl,rfl,rfl,fun _ _ h _=>h,fun h=>h⟩
theorem KeepJ.trans{Z Z1 Z2:SP}(h:KeepJ Z Z1)(k:KeepJ Z1 Z2):KeepJ Z Z2:=⟨k.s.trans h.s,k.c.trans h.c,k.top.trans h.top,fun i q h1 h2=>k.l i q (h.l i q h1 h2) h2,fun hz=>k.nz (h.nz hz)⟩
theorem SameN.keepJ{Z Z':SP}(h:SameN Z Z'):KeepJ Z Z':=⟨h.s,h.alt.c,h.alt.same.top,fun i q h1 _=>by rw[h.alt.l];exact h1,fun hz=>by rw[h.alt.l];exact hz⟩
theorem Q3x(Z:SP)(m:List Nat):KeepJ Z (Z.poke m):=⟨rfl,rfl,rfl,fun _ _ h _=>h,fun h=>h⟩
def GoesJ(Z:SP)(N K:Nat)(M:Int)(w w':World):Prop:=∃(Z':SP) (fr':List Nat),Z'.Ok fr' N K M/\KeepJ Z Z'/\Step Z.hl Z'.hl w w'
theorem GoesJ.mono{Z:SP}{N N' K K':Nat}{M M':Int}{w w':World}(h:GoesJ Z N K M w w')(h1:N<=N')(h2:K<=K')(h3:M<=M'):GoesJ Z N' K' M' w w':=by
 obtain⟨Z',fr',a,b,c⟩:=h;exact⟨Z',fr',a.mono h1 h2 h3,b,c⟩
section
variable {Z:SP} {fr:List Nat} {N K:Nat} {M:Int} {w w':World}
theorem GoesJ.of(hs:Sep w Z.hl)(ok:Z.Ok fr N K M)(hb:Below w.heap.size w w'):GoesJ Z N K M w w':=⟨Z,fr,ok,KeepJ.refl Z,hs.grown hb⟩
theorem GoesJ.at{w1 w2:World}(hs:Sep w Z.hl)(hb:Below w.heap.size w w1)(h:GoesJ Z N K M w1 w2):GoesJ Z N K M w w2:=by
 obtain⟨Z',fr',a,b,c⟩:=h;exact⟨Z',fr',a,b,(hs.grown hb).trans c⟩
theorem BackZ.keepJ(ok:Z.Ok fr N K M){y:Nat}{own:Int}(h:BackZ Z fr N K y own w w'):GoesJ Z N K M w w':=by
 obtain⟨Z',a,_,b,c⟩:=h.ok ok;exact⟨Z',fr,a,b.toSameN.keepJ,c⟩
theorem RootR.keepJ(hs:Sep w Z.hl)(ok:Z.Ok fr N K M){x h:Nat}{z r er:Int}(R:RootR Z fr N K M x z h r w er w'):GoesJ Z N K (M+1) w w':=by
 rcases R with ⟨_,_,hb⟩|⟨s,rn,p,q,_,_,_,_,_,hp,hk,_,_,_,⟨_,Z',a,b,_,_,_,c⟩|⟨_,_,P',tr,st⟩⟩
 ·exact(GoesJ.of hs ok hb).mono (J3h _) (J3h _) (by omega)
 ·exact⟨Z',fr,a,b.keepJ,c⟩
 ·refine GoesJ.mono ?_ (J3h _) (J3h _) (show M<=M+1 by omega);refine BackZ.keepJ (y:=x) (own:=p.fac) ok (LaidP.back (x:=x) (A:=fun _=>⟨0,0,0,false⟩) ok hp hk ((LaidP.start (x:=x) (A:=fun _=>⟨0,0,0,false⟩) ok (p.fac:Int)).tried tr) ?_);rw[Q1c];exact st
theorem MoveR.keepJ(ok:Z.Ok fr N K M){x y n:Nat}{A:Nat->Mv}{er:Int}(R:MoveR Z fr N K M x y n A w er w'):GoesJ Z N K (M+n) w w':=by
 rcases R with ⟨_,_,own,h⟩|⟨p1,p2,_,_,_,_,_,⟨_,a,Z',_,_,h1,h2,_,h3⟩|⟨_,_,h⟩⟩
 ·exact(h.keepJ ok).mono (J3h _) (J3h _) (by omega)
 ·exact⟨Z',fr,h1,h2.keepJ,h3⟩
 ·exact(h.keepJ ok).mono (J3h _) (J3h _) (by omega)
theorem RevR.keepJ(hs:Sep w Z.hl)(ok:Z.Ok fr N K M){x:Nat}{z mask:Int}{self:Bool}{r:Ending}(R:RevR Z fr N K M x z mask self w r w'):(∃a b:Value,r=.returned (.tuple #[a,b]))/\GoesJ Z N K M w w':=by
 rcases R with ⟨e,rfl,hb,_⟩|⟨s,m,n,en,_,_,_,_,_,_,_,_,_,rfl,Z',a,_,b,c⟩
 ·exact⟨⟨_,_,rfl⟩,.of hs ok hb⟩
 ·exact⟨⟨_,_,rfl⟩,Z',fr,a,b.toSameN.keepJ,c⟩
theorem MkR.keepJ(ok:Z.Ok fr N K M){x hh:Nat}{z k er:Int}(R:MkR Z fr N K M x z k w hh er w'):GoesJ Z (N+1) K (M+1) w w':=by
 rcases R with ⟨_,_,own,h⟩|⟨_,Z',fr',s,i,q,q',_,_,h1,h2,_,_,Ww,_,a,b,e,_,c⟩
 ·exact(h.keepJ ok).mono (J7p _) (J3h _) (by omega)
 ·refine⟨Z',fr',a,⟨b.s,b.c,b.same.top,fun j p hj hp=>?_,fun hz p hp=>?_⟩,c⟩
  rotate_left
  ·rw[e] at hp;rcases J5J hp with h|h
   ·exact hz p h
   ·subst h;omega
  rw[e];by_cases D2:i=j
  ·subst D2;rw[h1] at hj;cases hj;omega
  ·rw[J6H D2];exact hj
theorem CPutR.keepJ(hs:Sep w Z.hl)(ok:Z.Ok fr N K M){t:Nat}{a:Int}{x:Msg}{r:Ending}(R:CPutR Z fr N K M t a x w r w'):(∃e:Int,r=.returned (.int .i64 e))/\GoesJ Z N K M w w':=by
 rcases R with ⟨_,rfl,hb⟩|⟨p,_,⟨_,rfl,hb⟩|⟨_,rfl,ok2,st⟩⟩
 ·exact⟨⟨_,rfl⟩,.of hs ok hb⟩
 ·exact⟨⟨_,rfl⟩,.of hs ok hb⟩
 ·exact⟨⟨_,rfl⟩,_,fr,ok2,Q3x Z _,st⟩
theorem COpnR.keepJ(hs:Sep w Z.hl)(ok:Z.Ok fr N K M){t:Nat}{a:Int}{v:Wi}{r:Ending}(R:COpnR Z fr N K M t a v w r w'):(∃e:Int,r=.returned (.int .i64 e))/\GoesJ Z N K M w w':=by
 rcases R with ⟨_,rfl,hb⟩|⟨p,_,⟨_,rfl,hb⟩|⟨_,rfl,ok2,st⟩⟩
 ·exact⟨⟨_,rfl⟩,.of hs ok hb⟩
 ·exact⟨⟨_,rfl⟩,.of hs ok hb⟩
 ·exact⟨⟨_,rfl⟩,_,fr,ok2,Q3x Z _,st⟩
theorem StoR.keepJ(hs:Sep w Z.hl)(ok:Z.Ok fr N K M){t:Nat}{z off:Int}{ws:List Nat}{r:Ending}(R:StoR Z fr N K M t z off ws w r w'):(∃e:Int,r=.returned (.int .i64 e))/\GoesJ Z N K M w w':=by
 rcases R with ⟨_,rfl,hb⟩|⟨_,p,f,_,rfl,ok2,st⟩
 ·exact⟨⟨_,rfl⟩,.of hs ok hb⟩
 ·exact⟨⟨_,rfl⟩,_,fr,ok2,Q3x Z _,st⟩
theorem Q8t(Z:SP)(tf:Nat)(p p':Pl)(h:∀i∈(msgV Z.S.P.a.mem p.at_).its,Q5e Z tf (winV Z.S.P.a.mem p'.at_) i):(carL Z tf p p').length<=256:=by
 have h1:=Q4u Z tf (winV Z.S.P.a.mem p'.at_) _ h;have h2:=(Q8p Z.S.P.a.mem p.at_).1;unfold carL;omega
theorem CCarR.keepJ(hs:Sep w Z.hl)(ok:Z.Ok fr N K M){tf tt lb:Nat}{af at_:Int}{r:Ending}(R:CCarR Z fr N K M tf af tt at_ lb w r w'):(∃e:Int,r=.returned (.int .i64 e))/\GoesJ Z N K (M+256) w w':=by
 rcases R with ⟨er,_,rfl,hb,_⟩|⟨p,p',hp,AG,CE,⟨er,w5,_,rfl,hb,hM⟩|⟨rfl,a,Z1,_,_,_,sn,_,ok1,ok2,st⟩⟩
 ·exact⟨⟨_,rfl⟩,(GoesJ.of hs ok hb).mono (J3h _) (J3h _) (by omega)⟩
 ·have:=Q8t Z tf p p' CE;exact⟨⟨_,rfl⟩,.at hs hb ((hM.keepJ ok).mono (J3h _) (J3h _) (by omega))⟩
 ·have:=Q8t Z tf p p' CE;exact⟨⟨_,rfl⟩,_,fr,ok2.mono (J3h _) (J3h _) (by omega),sn.keepJ.trans (Q3x Z1 _),st⟩
end
theorem J2J(f:Nat->Nat×Nat):∀k,∀q∈lB f k,q.st≠2
 | 0,q,h=>by rcases Q1Q h with rfl|rfl <;> decide
 | k+1,q,h=>by
  rcases J5J h with h|h
  ·exact J2J f k q h
  ·subst h;show(1:Nat)≠2;decide
structure CaJ(Z:SP)(f:Nat->Nat×Nat):Prop where
 top:Z.S.P.d.top=6
 root:Z.S.l[0]?=some ⟨1,64,0,1,0,0⟩
 l:∀i,i<7->Z.S.l[i+1]?=some (plB f i)
 nz:∀q∈Z.S.l,q.st≠2
theorem CaJ.keep{Z Z':SP}{f:Nat->Nat×Nat}(h:CaJ Z f)(k:KeepJ Z Z'):CaJ Z' f:=⟨k.top.trans h.top,k.l 0 _ h.root rfl,fun i hi=>k.l (i+1) _ (h.l i hi) rfl,k.nz h.nz⟩
theorem CaJ.at'{Z:SP}{f:Nat->Nat×Nat}(h:CaJ Z f){i:Nat}(hi:i<7):pget Z.S.l 1 (i+1)=some (plB f i):=by
 refine pget_some.2 ⟨?_,?_,rfl⟩
 ·rw[J4w (by omega)];exact h.l i hi
 ·rw[J4w (by omega)];unfold nm plB;simp
def CaT(c k ge:Nat)(f:Nat->Nat×Nat)(N K:Nat)(M:Int)(w0 wr:World):Prop:=∃(Z:SP) (fr:List Nat),Z.Ok fr N K M/\CaJ Z f/\CarC Z c k wr/\AsideV Z.hl (endC (endL f)) (some ⟨ge,0,none⟩) wr/\Step [] Z.hl w0 wr
section
variable {c k ge:Nat} {f:Nat->Nat×Nat} {N K:Nat} {M:Int} {w0 wr w':World}
theorem CaT.mono(h:CaT c k ge f N K M w0 wr){N' K':Nat}{M':Int}(h1:N<=N')(h2:K<=K')(h3:M<=M'):CaT c k ge f N' K' M' w0 wr:=by
 obtain⟨Z,fr,ok,r⟩:=h;exact⟨Z,fr,ok.mono h1 h2 h3,r⟩
theorem CaT.grown(h:CaT c k ge f N K M w0 wr)(hb:Below wr.heap.size wr w'):CaT c k ge f N K M w0 w':=by
 obtain⟨Z,fr,ok,j,hc,he,st⟩:=h;have s1:=st.sep.grown hb;exact⟨Z,fr,ok,j,hc.step rfl s1,AsideV.step he s1,st.trans s1⟩
theorem CaT.below(h:CaT c k ge f N K M w0 wr):Below w0.heap.size w0 wr:=by
 obtain⟨Z,fr,ok,j,hc,he,st⟩:=h;exact st.fresh
theorem CaT.cells(h:CaT c k ge f N K M w0 wr)(j:Nat)(v:Value)(hj:(endC (endL f))[j]?=some v):wr.cell? ⟨ge,j,none⟩=some v:=by
 obtain⟨Z,fr,ok,_,hc,he,st⟩:=h;obtain⟨g,e,_,_,z⟩:=he j v hj;cases e;exact z
theorem GoesJ.caT{Z:SP}{N' K':Nat}{M':Int}(j:CaJ Z f)(hc:CarC Z c k wr)(he:AsideV Z.hl (endC (endL f)) (some ⟨ge,0,none⟩) wr)(st:Step [] Z.hl w0 wr)(h:GoesJ Z N' K' M' wr w'):CaT c k ge f N' K' M' w0 w':=by
 obtain⟨Z',fr',ok,kp,s1⟩:=h;exact⟨Z',fr',ok,j.keep kp,hc.step kp.s s1,AsideV.step he s1,st.trans s1⟩
theorem CaT.low(h:CaT c k ge f N K M w0 wr):(f 2).1+256<=65536/\(f 3).1+256<=65536/\(f 4).1+256<=65536:=by
 obtain⟨Z,fr,ok,j,hc,he,st⟩:=h;have hm:Z.S.P.a.mem.length=65536:=by rw[ok.core.inv.mem.pool.mem,j.top]
 have key:∀i,i<7->Q0z i=3->(f i).1+256<=65536:=fun i hi hk=>by
  have:=(Q0Z ok.core (J5p (j.l i hi)) (Pl.is_iff.2 (.inl rfl)) (.inl hk)).1;have e:costK (plB f i).kind=256:=by show costK (Q0z i)=256;rw[hk];rfl
  rw[e,hm] at this;exact this
 exact⟨key 2 (by omega) rfl,key 3 (by omega) rfl,key 4 (by omega) rfl⟩
theorem CaT.begin{L:Int}(h:CarB L c k ge f w0 wr):CaT c k ge f 8 0 2 w0 wr:=by
 obtain⟨Z,fr,m,hE,Bs,hc,he,st⟩:=h;have i:CaI Z L 2 f fr:=⟨m,Bs.1⟩
 refine⟨Z,fr,m.ok,⟨Bs.2,?_,fun j hj=>i.idx hj,by rw[m.l];exact J2J f 7⟩,hc,he,st⟩;have:=(pget_some.1 i.root).1;exact this
end
section
variable {L:Int} {c k ge s:Nat} {M M':Int} {f:Nat->Nat×Nat} {C C':SP->Prop} {B:List (Nat×List Value)} {w0 wr w':World}
end
section
variable {L:Int} {c k ge s:Nat} {M M':Int} {f:Nat->Nat×Nat} {C C':SP->Prop} {B:List (Nat×List Value)} {w0 wr w':World}
end
theorem Q9T{w0 wr:World}{a:Option Addr}{ws:List Nat}{H:HL}(h:IsU w0 a ws)(st:Step [] H w0 wr):AsideU H ws a wr:=fun j y hj=>by
 obtain⟨g,o,e,hg,hc⟩:=h j y hj;refine⟨g,o,e,fun hk=>?_,J3j hg st.fresh.size,(World.cell?_of_block (w:=w0) (st.fresh.block g hg)).trans hc⟩;rcases st.new g hk with h4|h4
 ·cases h4
 ·omega
theorem Z3X{w0 wr:World}{a:Option Addr}{n:Nat}{A:Nat->Mv}{H:HL}(h:IsMv w0 a n A)(st:Step [] H w0 wr):AsideM H n A a wr:=⟨h.below st.fresh,fun ad h0 ha hk=>by
 obtain⟨g,off,hg,Aa,_⟩:=h 0 (by omega);rw[ha] at hg;cases hg;rcases st.new _ hk with h|h
 ·cases h
 ·dsimp only at h;omega⟩
section
variable {c k ge:Nat} {f:Nat->Nat×Nat} {N K:Nat} {M:Int} {w0 wr w':World}
theorem J2K(h:CaT c k ge f N K M w0 wr){t:Nat}(ht:t<4294967296){a:Nat}(ha:a<=65536){lb:Nat}(FG:lb<18446744073709551616){wa ia:Option Addr}{W:List Nat}{I:List It}(wcp icp:Nat)(hW:IsU w0 wa W)(hI:IsI w0 ia I)(hw:∀y∈W,y<18446744073709551616)(hi:∀i∈I,i.Wf)(D7:W.length<=20)(D3:I.length<=20) :
  Calls prog 107 #[.pointer (some ⟨c,0,none⟩),.agg #[.int .u32 t,.int .i64 a],.agg #[.int .u64 lb,.slice wa W.length wcp,.slice ia I.length icp]] wr fun r w'=>(∃e:Int,r=.returned (.int .i64 e))/\CaT c k ge f N K M w0 w':=by
 obtain⟨Z,fr,ok,j,hc,he,st⟩:=h;refine(Q6t ok st.sep hc ht (a:Int) (by omega) ⟨lb,W,I⟩ FG hw wcp icp (hW.below st.fresh) (hI.below st.fresh) (by dsimp only;omega) (by dsimp only;omega)).mono ?_;intro r w' R;obtain⟨h1,h2⟩:=R.keepJ st.sep ok;exact⟨h1,h2.caT j hc he st⟩
theorem J1U(h:CaT c k ge f N K M w0 wr){t:Nat}(ht:t<4294967296){a:Nat}(ha:a<=65536)(vb vo:Int) :
  Calls prog 108 #[.pointer (some ⟨c,0,none⟩),.agg #[.int .u32 t,.int .i64 a],.agg #[.int .i64 vb,.int .i64 vo]] wr fun r w'=>(∃e:Int,r=.returned (.int .i64 e))/\CaT c k ge f N K M w0 w':=by
 obtain⟨Z,fr,ok,j,hc,he,st⟩:=h;refine(Q7E ok st.sep hc ht (a:Int) (by omega) ⟨vb,vo⟩).mono ?_;intro r w' R;obtain⟨h1,h2⟩:=R.keepJ st.sep ok;exact⟨h1,h2.caT j hc he st⟩
theorem Z9Q(h:CaT c k ge f N K M w0 wr)(hM:M+256<1099511627776){t1 t2:Nat}(Id:t1<4294967296)(I8:t2<4294967296){a1 a2:Nat}(Lu:a1<=65536)(PI:a2<=65536){lb:Nat}(FG:lb<18446744073709551616) :
  Calls prog 54 #[.pointer (some ⟨c,0,none⟩),.agg #[.int .u32 t1,.int .i64 a1],.agg #[.int .u32 t2,.int .i64 a2],.int .u64 lb] wr fun r w'=>(∃e:Int,r=.returned (.int .i64 e))/\CaT c k ge f N K (M+256) w0 w':=by
 obtain⟨Z,fr,ok,j,hc,he,st⟩:=h;refine(Q1X ok st.sep hM hc Id I8 (a1:Int) (a2:Int) (by omega) (by omega) FG).mono ?_;intro r w' R;obtain⟨h1,h2⟩:=R.keepJ st.sep ok;exact⟨h1,h2.caT j hc he st⟩
theorem Z9R(h:CaT c k ge f N K M w0 wr){t:Nat}(ht:t<4294967296)(z off:Int)(Cs:I64 off){la:Option Addr}{L:List Nat}(lcp:Nat)(hL:IsU w0 la L)(hl:∀y∈L,y<18446744073709551616)(Ab:L.length<=200) :
  Calls prog 45 #[.pointer (some ⟨c,0,none⟩),.int .u32 t,.int .i64 z,.int .i64 off,.slice la L.length lcp] wr fun r w'=>(∃e:Int,r=.returned (.int .i64 e))/\CaT c k ge f N K M w0 w':=by
 obtain⟨Z,fr,ok,j,hc,he,st⟩:=h;refine(Q3T ok st.sep hc ht z off Cs lcp (Q9T hL st) hl (by omega)).mono ?_;intro r w' R;obtain⟨h1,h2⟩:=R.keepJ st.sep ok;exact⟨h1,h2.caT j hc he st⟩
theorem Z7t(h:CaT c k ge f N K M w0 wr)(hN:N+1<1048576)(hM:M+256<1099511627776):∃s,∀V,Below wr.heap.size wr V ->
  (Calls prog 44 #[.pointer (some ⟨c,0,none⟩)] V fun r w'=>r=.returned (.pointer (some ⟨s,0,none⟩))/\V=w') /\
  (∀(t hh:Nat) (z rr:Int),t<4294967296->hh<4294967296->Calls prog 41 #[.pointer (some ⟨s,0,none⟩),.int .u32 t,.int .i64 z,.agg #[.int .u32 hh,.int .i64 rr]] V fun r w'=>(∃e:Int,r=.returned (.int .i64 e))/\CaT c k ge f (N+1) K (M+256) w0 w'/\(∀b,wr.heap.size<=b->b<V.heap.size->w'.heap[b]?=V.heap[b]?)) /\
  (∀(t u n cap:Nat) (A:Nat->Mv) (a:Option Addr),t<4294967296->u<4294967296->n<=20->n<=cap->IsMv w0 a n A->Calls prog 39 #[.pointer (some ⟨s,0,none⟩),.int .u32 t,.int .u32 u,.slice a n cap] V fun r w'=>(∃e:Int,r=.returned (.int .i64 e))/\CaT c k ge f (N+1) K (M+256) w0 w'/\(∀b,wr.heap.size<=b->b<V.heap.size->w'.heap[b]?=V.heap[b]?)) /\
  (∀(t:Nat) (z m:Int) (b:Bool),t<4294967296->Calls prog 81 #[.pointer (some ⟨s,0,none⟩),.int .u32 t,.int .i64 z,.int .i64 m,.bool b] V fun r w'=>(∃x y:Value,r=.returned (.tuple #[x,y]))/\CaT c k ge f (N+1) K (M+256) w0 w'/\(∀b,wr.heap.size<=b->b<V.heap.size->w'.heap[b]?=V.heap[b]?)) /\
  (∀(t:Nat) (z kk m:Int),t<4294967296->Calls prog 40 #[.pointer (some ⟨s,0,none⟩),.int .u32 t,.int .i64 z,.int .u32 0,.int .i64 kk,.int .i64 m] V fun r w'=>(∃(x:Nat) (e:Int),r=.returned (.tuple #[.int .u32 x,.int .i64 e]))/\CaT c k ge f (N+1) K (M+256) w0 w'/\(∀b,wr.heap.size<=b->b<V.heap.size->w'.heap[b]?=V.heap[b]?)):=by
 obtain⟨Z,fr,ok,j,hc,he,st⟩:=h;refine⟨Z.s,fun V hV=>?_⟩;have s1:=st.sep.grown hV;have sV:=st.trans s1;have NS:=hc.step rfl s1;have Vp:=AsideV.step he s1;have up:∀{N':Nat} {M':Int} {w':World},N'<=N+1->M'<=M+256->GoesJ Z N' K M' V w'->CaT c k ge f (N+1) K (M+256) w0 w'/\(∀b,wr.heap.size<=b->b<V.heap.size->w'.heap[b]?=V.heap[b]?):=fun h1 h2 g=>⟨(g.mono h1 (J3h _) h2).caT j NS Vp sV,by
  obtain⟨_,_,_,_,s2⟩:=g;exact s2.keep st.sep (J3h _)⟩
 refine⟨Q2f NS,fun t hh z rr h1 h2=>?_,fun t u n cap A a h1 h2 h3 h4 hA=>?_,fun t z m b h1=>?_,fun t z kk m h1=>?_⟩
 ·refine(Q9A s1.sep ok (by omega) h1 h2 z rr).mono ?_;rintro r w'⟨er,e,R⟩;exact⟨⟨er,e⟩,up (by omega) (by omega) (R.keepJ s1.sep ok)⟩
 ·refine(Q9H s1.sep ok (by omega) h1 h2 (by omega) h4 (Z3X hA sV)).mono ?_;rintro r w'⟨er,e,R⟩;exact⟨⟨er,e⟩,up (by omega) (by omega) (R.keepJ ok)⟩
 ·refine(Z0M s1.sep ok h1 z m b).mono ?_;intro r w' R;obtain⟨h2,h3⟩:=R.keepJ s1.sep ok;exact⟨h2,up (by omega) (by omega) h3⟩
 ·refine(Z7o s1.sep ok hN (by omega) h1 (y:=0) (by omega) z kk m).mono ?_;rintro r w'⟨hh,er,e,R⟩;exact⟨⟨hh,er,e⟩,up (by omega) (by omega) (R.keepJ ok)⟩
end
end Go.Proofs.YtfidemmgofcnmaaGreatDoor

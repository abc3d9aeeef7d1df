/- What the laws of spaces share is proved. No condition. Part of a proof. -/
import Derived.Test.YtfidemmgofcnmaaGreatDoorAt28
set_option maxHeartbeats 16000000
set_option maxRecDepth 100000
set_option linter.unusedVariables false
namespace Go.Proofs.YtfidemmgofcnmaaGreatDoor
open Go.RowKit Go.Proofs.Tryz
theorem Z6c(w:World)(x y:Nat):IsU (w.alloc (.cells #[.int .u64 x,.int .u64 y] 83)) (some ⟨w.heap.size,0,none⟩) [x,y]:=fun j v hj=>by
 have c:=Cells.new w 83 [.int .u64 x,.int .u64 y]
 match j,hj with
 | 0,hj=>cases hj;exact⟨_,0,rfl,by simp,c.cell 0 _ rfl⟩
 | 1,hj=>cases hj;exact⟨_,0,rfl,by simp,c.cell 1 _ rfl⟩
theorem J0v(w:World)(i:It):IsI (w.alloc (.cells #[.int .i64 i.base,.int .i64 i.order,.int .i64 i.r,.int .i64 i.off,.bool i.g] 63)) (some ⟨w.heap.size,0,none⟩) [i]:=fun j v hj=>by
 have c:=Cells.new w 63 [.int .i64 i.base,.int .i64 i.order,.int .i64 i.r,.int .i64 i.off,.bool i.g]
 match j,hj with
 | 0,hj =>
  cases hj
  refine⟨_,0,rfl,by simp,fun t u hu=>?_⟩;have e:0+0*5+t=t:=by omega
  rw[e];exact c.cell t u hu
abbrev Al9S(f:Nat->Nat×Nat)(ge bk bm g gc:Nat)(xa:Option Addr)(xc:Nat)(V:World):Prop:=
 ((V.cell? ⟨ge,0,none⟩=some (.int .u32 1)/\V.cell? ⟨ge,1,none⟩=some (.int .i64 ((f 2).1:Int)))/\(V.cell? ⟨ge,2,none⟩=some (.int .u32 2)/\V.cell? ⟨ge,3,none⟩=some (.int .i64 ((f 3).1:Int))) /\
  (V.cell? ⟨ge,6,none⟩=some (.int .u32 0)/\V.cell? ⟨ge,7,none⟩=some (.int .i64 ((f 2).1:Int)))/\V.cell? ⟨ge,8,none⟩=some (.int .u32 1)/\V.cell? ⟨ge,9,none⟩=some (.int .i64 (((f 2).1:Int)+8))) /\
 (V.cell? ⟨bm,0,none⟩=some (.int .u64 9)/\V.cell? ⟨bm,1,none⟩=some (.slice (some ⟨g,0,none⟩) 2 gc)/\V.cell? ⟨bm,2,none⟩=some (.slice xa 0 xc))/\V.cell? ⟨bk,0,none⟩=some (.int .u32 6)/\V.cell? ⟨bk,1,none⟩=some (.int .i64 3)
theorem al9c(n:Nat):((n+8:Nat):Int)=(n:Int)+8:=by omega
theorem al9S{L:Int}{c k ge:Nat}{M:Int}{f:Nat->Nat×Nat}{C:SP->Prop}{bk bm g gc xc:Nat}{xa:Option Addr}{w0 V:World}(h:CaS L c k ge M f C [(bk,[.int .u32 6,.int .i64 3]),(bm,[.int .u64 9,.slice (some ⟨g,0,none⟩) 2 gc,.slice xa 0 xc]),(g,[.int .u64 5,.int .u64 6])] w0 V):Al9S f ge bk bm g gc xa xc V:=
 ⟨by have e:=h.ends;rw[al9c] at e;exact e,⟨h.bx (q:=(bm,[.int .u64 9,.slice (some ⟨g,0,none⟩) 2 gc,.slice xa 0 xc])) (by simp) 0 _ rfl,h.bx (q:=(bm,[.int .u64 9,.slice (some ⟨g,0,none⟩) 2 gc,.slice xa 0 xc])) (by simp) 1 _ rfl,h.bx (q:=(bm,[.int .u64 9,.slice (some ⟨g,0,none⟩) 2 gc,.slice xa 0 xc])) (by simp) 2 _ rfl⟩,
  h.bx (q:=(bk,[.int .u32 6,.int .i64 3])) (by simp) 0 _ rfl,h.bx (q:=(bk,[.int .u32 6,.int .i64 3])) (by simp) 1 _ rfl⟩
theorem Q6m{w:World}(AM:Env w):Calls prog 42 #[] w (Told w (.bool true)):=by
 have kb:=Q3J AM 65536 (by omega);clear AM;go_enter func42,ntmps42;go_wp2_with fail;refine kb.mono ?_;rintro r w1⟨c,k,ge,cap,f,rfl,hB⟩;clear kb;have h1:=CaS.begin hB;have q1:=(h1.grown ((Below.refl w1.heap.size w1).alloc (J1E _) (.cells #[.int .u64 5,.int .u64 6] 83))).grown ((Below.refl _ _).alloc (J1E _) (.cells #[.int .i64 0,.int .i64 0,.int .i64 3,.int .i64 0,.bool false] 63));have kp:=J0t q1 ((Z6c w1 5 6).below ((Below.refl _ _).alloc (J1E _) (.cells #[.int .i64 0,.int .i64 0,.int .i64 3,.int .i64 0,.bool false] 63))) (J0v (w1.alloc (.cells #[.int .u64 5,.int .u64 6] 83)) it0) 2 1;have AZ:(w1.alloc (.cells #[.int .u64 5,.int .u64 6] 83)).heap.size=w1.heap.size+1:=by simp
 rw[AZ] at kp;obtain⟨⟨e0,e1⟩,⟨e2,e3⟩,⟨e6,e7⟩,e8,e9⟩:=h1.ends;have AS:(5:Int)<=5:=by omega
 have H1:=Q0a kp;clear hB h1 q1 kp AZ;go_wp2_with fail;refine H1.out.mono ?_;rintro r w2⟨rfl,hq⟩;have H2:=Q0a (Z8t hq);clear e0 e1 e2 e3 e6 e7 e8 e9 H1;obtain⟨⟨e0,e1⟩,⟨e2,e3⟩,⟨e6,e7⟩,e8,e9⟩:=hq.ends;clear hq;go_wp2_with fail;refine H2.out.mono ?_;rintro r w3⟨rfl,hq⟩;have H3:=Q0a (Z6a (hq.grown (Below.refl _ _).drew) (by omega) (by omega));clear e0 e1 e2 e3 e6 e7 e8 e9 H2;obtain⟨⟨e0,e1⟩,⟨e2,e3⟩,⟨e6,e7⟩,e8,e9⟩:=hq.ends;obtain⟨⟨d0,d1⟩,⟨d2,d3⟩,-,-,-⟩:=(hq.grown (Below.refl w3.heap.size w3).drew).ends;clear hq;go_upto_region 6 with fail
 go_region_held3 (fun V=>(V.cell? ⟨ge,0,none⟩=some (.int .u32 1)/\V.cell? ⟨ge,1,none⟩=some (.int .i64 ((f 2).1:Int)))/\V.cell? ⟨ge,2,none⟩=some (.int .u32 2)/\V.cell? ⟨ge,3,none⟩=some (.int .i64 ((f 3).1:Int))) (first|exact⟨⟨e0,e1⟩,e2,e3⟩|exact⟨⟨d0,d1⟩,d2,d3⟩|exact x4) (first|(go_at_call 54;refine H3.out.mono ?_;rintro r w4⟨rfl,hq⟩;have x4:=(⟨hq.ends.1,hq.ends.2.1⟩:_/\_);have Mr:=Q0a hq;clear hq))
 all_goals
  clear e0 e1 e2 e3 e6 e7 e8 e9 d0 d1 d2 d3 x4 H3;have hq:=Mr.out;have H4:=Q0a (J0u hq);obtain⟨⟨e0,e1⟩,⟨e2,e3⟩,⟨e6,e7⟩,e8,e9⟩:=hq.ends;clear hq Mr;go_wp2_with fail;refine H4.out.mono ?_;rintro r w5⟨g,gc,xa,xc,rfl,hq⟩;have DM:=hq.box 100 [.int .u64 9,.slice (some ⟨g,0,none⟩) 2 gc,.slice xa 0 xc];have H5:=Q0a (Z8u DM);clear e0 e1 e2 e3 e6 e7 e8 e9 H4 hq DM;go_wp2_with fail;refine H5.out.mono ?_;rintro r w6⟨s,rfl,kl⟩;have H6:=Q0a kl;clear kl H5;go_wp2_with fail;refine H6.out.mono ?_;rintro r w7⟨rfl,hq⟩;have DM:=hq.box 72 [.int .u32 6,.int .i64 3];have Ra:(w7.alloc (.cells #[.int .u32 6,.int .i64 3] 72)).heap.size=w7.heap.size+1:=by simp
  have K7:=DM.box 83 [.int .u64 7];rw[Ra] at K7;have H7:=Q0a (Z6b K7 (wa:=some ⟨w7.heap.size+1,0,none⟩) 1 (fun H st NN j y hj=>by
   match j,hj with
   | 0,hj =>
    cases hj
    obtain⟨g',e,hk,hl,z⟩:=NN (w7.heap.size+1,[.int .u64 7]) (by simp) 0 _ rfl;cases e;exact⟨_,0,rfl,hk,hl,z⟩))
  clear K7;clear H6 hq DM Ra;go_wp2_with fail;refine H7.out.mono ?_;rintro r w8⟨rfl,K7⟩;have hq:=K7.sub (B':=[(w7.heap.size,[.int .u32 6,.int .i64 3]),(w5.heap.size,[.int .u64 9,.slice (some ⟨g,0,none⟩) 2 gc,.slice xa 0 xc]),(g,[.int .u64 5,.int .u64 6])]) (fun q hq=>J5K _ hq);clear K7;have H8:=Q0a (Q7X hq 128 1016 7 0 (.inl ⟨rfl,rfl,rfl,rfl⟩));clear H7 hq;go_wp2_with fail;refine H8.out.mono ?_;rintro r w9⟨rfl,hq⟩;have H9:=Q0a (Q7X hq 128 1017 0 2 (.inr (.inl ⟨rfl,rfl,rfl,rfl⟩)));clear H8 hq;go_wp2_with fail;refine H9.out.mono ?_;rintro r w10⟨rfl,hq⟩;have R4:=Q0a (Q7X hq 0 0 0 10 (.inr (.inr ⟨rfl,rfl,rfl,rfl⟩)))
  clear H9 hq;go_wp2_with fail;refine R4.out.mono ?_;rintro r w11⟨rfl,hq⟩;have NE:=hq.grown ((Below.refl w11.heap.size w11).alloc (J1E _) (.cells #[.int .u64 5,.int .u64 6] 83)).drew;have RP:IsU (w11.alloc (.cells #[.int .u64 5,.int .u64 6] 83)).drew (some ⟨g,0,none⟩) [5,6]:=fun j y hj=>by
   obtain⟨Z,fr,_,_,_,_,_,NN⟩:=NE
   match j,hj with
   | 0,hj =>
    cases hj
    obtain⟨g',e,_,hl,z⟩:=NN (g,[.int .u64 5,.int .u64 6]) (by simp) 0 _ rfl;cases e;exact⟨_,0,rfl,hl,z⟩
   | 1,hj =>
    cases hj
    obtain⟨g',e,_,hl,z⟩:=NN (g,[.int .u64 5,.int .u64 6]) (by simp) 1 _ rfl;cases e;exact⟨_,0,rfl,hl,z⟩
  have RQ:Hid (Calls prog 55 #[.agg #[.int .u64 9,.slice (some ⟨g,0,none⟩) 2 gc,.slice xa 0 xc],.agg #[.int .u64 9,.slice (some ⟨w11.heap.size,0,none⟩) 2 2,.slice none 0 0]] ((w11.alloc (.cells #[.int .u64 5,.int .u64 6] 83)).drew) (Told ((w11.alloc (.cells #[.int .u64 5,.int .u64 6] 83)).drew) (.bool true))):=(Z0p _ 9 (some ⟨g,0,none⟩) (some ⟨w11.heap.size,0,none⟩) xa none gc 2 xc 0 [5,6] RP ((Z6c w11 5 6).below (Below.refl _ _).drew) (by simp))
  have Q5:=Q0a NE;have s0:=Q0a (al9S hq);have s1:=Q0a (al9S (hq.grown (Below.refl w11.heap.size w11).drew));have s2:=Q0a (al9S NE);clear R4 hq RP NE;generalize w5.heap.size=bm at *
  generalize w7.heap.size=bk at *
  go_upto_region 13 with fail;simp only[List.append_eq,J3I,J3H]
  go_region_held3 (fun V=>Al9S f ge bk bm g gc xa xc V) (first|exact s0.out|exact s1.out|exact s2.out|exact s12.out|exact s13.out|exact s14.out|exact s15.out)
   (first|(go_at_call 55;refine RQ.out.mono ?_;clear RQ;rintro r w12⟨rfl,CL⟩;have hq:=Q5.out.grown CL;have s12:=Q0a (al9S hq);have Ri:=Q0a (Z2X hq (by omega));clear hq CL)|(go_at_call 54;refine Ri.out.mono ?_;clear Ri;rintro r w13⟨rfl,hq⟩;have s13:=Q0a (al9S hq);have S8:=Q0a (Z8v hq);clear hq)|(go_at_call 107;refine S8.out.mono ?_;clear S8;rintro r w14⟨rfl,hq⟩;have s14:=Q0a (al9S hq);have kq:=Z8w hq;rw[al9c] at kq;have QH:=Q0a kq;clear hq kq)|(go_at_call 107;refine QH.out.mono ?_;clear QH;rintro r w15⟨rfl,hq⟩;have s15:=Q0a (al9S hq);have HR:Hid (Told w (.bool true) (.returned (.bool true)) w15):=⟨rfl,hq.below⟩;clear hq))
  all_goals
   go_wp2_with fail
   (try go_ret);exact HR.out
end Go.Proofs.YtfidemmgofcnmaaGreatDoor
namespace Go.Proofs.YtfidemmgofcnmaaGreatDoor
open Go.ChangeShapes Go.WideShapes Go.ChangeAt Go.RowKit Go.Deep Go.Proofs.Tryz
def IsW8(w:World)(a0:Option Addr)(len:Nat)(A:Nat->Nat):Prop:=∀j,j<len->∃g off,a0=some ⟨g,off,none⟩/\g<w.heap.size/\w.cell? ⟨g,off+j,none⟩=some (.int .u64 (A j:Int))/\A j<18446744073709551616
theorem Z0q:prog.cellsOf 83=1:=by kernel_rfl
theorem Z1q{H:Type}{enc:TypeId×Value->H}{w:World}{fuel:Nat}{a0:Option Addr}{len cap:Nat}{x:DataW H×List MemPlace}
  (h:DataW.trod enc prog w 0 (fun _=>true) true fuel 82 [.slice a0 len cap]=some x):∃A,IsW8 w a0 len A:=by
 rcases open_slice underlying82 h with ⟨AQ,_⟩|⟨a,len',CG,m,n,D,Pl,AQ,_,hl,_,Hd,_,hi⟩
 ·simp only[J1I,Value.slice.injEq,and_true] at AQ;obtain⟨rfl,rfl,rfl⟩:=AQ;exact⟨fun _=>0,fun j hj=>absurd hj (J4Y _)⟩
 ·simp only[J1I,Value.slice.injEq,and_true] at AQ;obtain⟨rfl,rfl,rfl⟩:=AQ;have hm:len<=m:=by rw[Hd];simp;exact hl
  have each:∀j,j<len->∃x:Nat,w.cell? (a.add j)=some (.int .u64 x)/\x<18446744073709551616:=by
   intro j hj;obtain⟨PH,hc,ht⟩:=hi j (by omega);rw[Z0q,J2D] at hc;obtain⟨_,Ba,AW⟩:=World.cells?_some hc;obtain⟨v,e0,_,hw⟩:=DataW.trod_int underlying83 ht;have hb:=bounds_u64 (n:=v) (by simp_all);obtain⟨y,rfl⟩:=J3b hb.1;refine⟨y,?_,by omega⟩;have:=AW 0 (by omega);simp only[e0] at this
   simpa[Addr.add] using this
  by_cases h0:len=0
  ·exact⟨fun _=>0,fun j hj=>by omega⟩
  ·obtain⟨x0,c0,_⟩:=each 0 (by omega);have hp:=Q2u (x:=a) (by simpa[Addr.add] using c0);refine⟨fun j=>if hj:j<len then(each j hj).choose else 0,fun j hj=>?_⟩;obtain⟨h1,h2⟩:=(each j hj).choose_spec;simp only[hj,dif_pos];generalize (each j hj).choose=y at h1 h2;rw[hp,add_plain5] at h1;exact⟨a.block,a.off,congrArg some hp,World.block_lt_of_cell? w ⟨a.block,a.off+j,none⟩ h1,h1,h2⟩
end Go.Proofs.YtfidemmgofcnmaaGreatDoor
namespace Go.Proofs.YtfidemmgofcnmaaGreatDoor
open Go.ChangeShapes Go.WideShapes Go.ChangeAt Go.RowKit Go.Deep Go.Proofs.Tryz
structure A19 where
 kind:Int
 k:Int
 tt:Int
 s:Int
 off:Int
 lbx:Nat
 la:Option Addr
 lc:Nat
 L:List Nat
 lb:Nat
 wa:Option Addr
 wc:Nat
 W:List Nat
 ia:Option Addr
 ic:Nat
 I:List It
 win:Wi
 a:A17
def A19.cells(x:A19):List Value:=[.int .i64 x.kind,.int .i64 x.k,.int .i64 x.tt,.int .i64 x.s,.int .i64 x.off,.int .u64 (x.lbx:Int),.slice x.la x.L.length x.lc,.int .u64 (x.lb:Int),.slice x.wa x.W.length x.wc,.slice x.ia x.I.length x.ic]++x.win.cells++x.a.cells
structure A19.Wf(x:A19):Prop where
 kind:I64 x.kind
 k:I64 x.k
 tt:I64 x.tt
 s:I64 x.s
 off:I64 x.off
 lbx:x.lbx<18446744073709551616
 lc:x.L.length<=x.lc/\x.lc<=maxLen
 lb:x.lb<18446744073709551616
 wc:x.W.length<=x.wc/\x.wc<=maxLen
 ic:x.I.length<=x.ic/\x.ic<=maxLen
 win:x.win.Wf
 a:x.a.Wf
 L:∀y∈x.L,y<18446744073709551616
 W:∀y∈x.W,y<18446744073709551616
 I:∀i∈x.I,i.Wf
structure A19.Lies(w:World)(x:A19):Prop where
 L:IsU w x.la x.L
 W:IsU w x.wa x.W
 I:IsI w x.ia x.I
 a:IsMv w x.a.la x.a.ll x.a.L
theorem A19.Lies.below{w w':World}{x:A19}(h:A19.Lies w x)(hb:Below w.heap.size w w'):A19.Lies w' x:=⟨h.L.below hb,h.W.below hb,h.I.below hb,h.a.below hb⟩
def IsA19(w:World)(a0:Option Addr)(len:Nat)(A:Nat->A19):Prop:=∀j,j<len->∃g off,a0=some ⟨g,off,none⟩/\g<w.heap.size/\(∀(i:Nat) (v:Value),(A j).cells[i]?=some v->w.cell? ⟨g,off+j*29+i,none⟩=some v)/\(A j).Wf/\A19.Lies w (A j)
theorem IsA19.below{w w':World}{a0:Option Addr}{len:Nat}{A:Nat->A19}(h:IsA19 w a0 len A)(hb:Below w.heap.size w w'):IsA19 w' a0 len A:=by
 intro j hj;obtain⟨g,off,h1,h2,h3,h4,h5⟩:=h j hj;have e:=hb.block g h2;exact⟨g,off,h1,J1G h2 hb.size,fun i v hv=>(World.cell?_of_block (w:=w) e).trans (h3 i v hv),h4,h5.below hb⟩
theorem Z6d:prog.cellsOf 102=29:=by kernel_rfl
theorem Q7n:prog.cellsOf 100=3:=by kernel_rfl
theorem Q6n:prog.cellsOf 82=1:=by kernel_rfl
theorem Z2Y:prog.cellsOf 98=1:=by kernel_rfl
theorem Q4R{H:Type}{enc:TypeId×Value->H}{w:World}{fuel:Nat}{cs:List Value}{x:DataW H×List MemPlace}
  (h:DataW.trod enc prog w 0 (fun _=>true) true fuel 82 cs=some x):∃(a0:Option Addr) (ws:List Nat) (cap:Nat),cs=[.slice a0 ws.length cap]/\(ws.length<=cap/\cap<=maxLen)/\IsU w a0 ws/\∀y∈ws,y<18446744073709551616:=by
 have key:∀(a0:Option Addr) (len cap:Nat),cs=[.slice a0 len cap]->(len<=cap/\cap<=maxLen)->∃(a0:Option Addr) (ws:List Nat) (cap:Nat),cs=[.slice a0 ws.length cap]/\(ws.length<=cap/\cap<=maxLen)/\IsU w a0 ws/\∀y∈ws,y<18446744073709551616:=fun a0 len cap AQ hc=>by
  subst AQ;obtain⟨A,hA⟩:=Z1q h;have Ab:((List.range len).map A).length=len:=by simp
  refine⟨a0,(List.range len).map A,cap,by rw[Ab],by rw[Ab];exact hc,fun j y hj=>?_,fun y hy=>?_⟩
  ·have hl:j<len:=by have:=(J1V.1 hj).1;rwa [Ab] at this
   have e:((List.range len).map A)[j]?=some (A j):=by simp[hl]
   rw[e] at hj;cases hj;obtain⟨g,o,h1,h2,h3,_⟩:=hA j hl;exact⟨g,o,h1,h2,h3⟩
  ·obtain⟨j,hj,rfl⟩:=J1K.1 hy;obtain⟨_,_,_,_,_,h4⟩:=hA j (J1U.1 hj);exact h4
 rcases open_slice underlying82 h with ⟨AQ,_⟩|⟨a,len,cap,m,n,D,Pl,AQ,_,hl,Cy,_⟩
 ·exact key none 0 0 AQ ⟨J1E _,by unfold maxLen;omega⟩
 ·exact key (some a) len cap AQ ⟨hl,Cy⟩
theorem Q9o{H:Type}{enc:TypeId×Value->H}{w:World}{fuel:Nat}{cs:List Value}{x:DataW H×List MemPlace}
  (h:DataW.trod enc prog w 0 (fun _=>true) true fuel 98 cs=some x):∃(a0:Option Addr) (its:List It) (cap:Nat),cs=[.slice a0 its.length cap]/\(its.length<=cap/\cap<=maxLen)/\IsI w a0 its/\∀i∈its,i.Wf:=by
 rcases open_slice underlying98 h with ⟨AQ,_⟩|⟨a,len,cap,m,n,D,Pl,AQ,_,hl,Cy,Hd,_,hi⟩
 ·exact⟨none,[],0,AQ,⟨J1E _,by unfold maxLen;omega⟩,fun j i hj=>by simp at hj,fun i hi=>by cases hi⟩
 ·have hm:len<=m:=by rw[Hd];simp;exact hl
  have each:∀j,j<len->∃x:It,(∀(i:Nat) (v:Value),x.cells[i]?=some v->w.cell? ((a.add (j*5)).add i)=some v)/\x.Wf:=by
   intro j hj;obtain⟨PH,hc,ht⟩:=hi j (by omega);rw[Q5U] at hc;obtain⟨x,rfl,hx⟩:=Q5W ht;obtain⟨_,_,AW⟩:=World.cells?_some hc;refine⟨x,fun i v hv=>?_,hx⟩;have Ll:i<5:=by simpa[It.cells] using (J1V.1 hv).1
   exact(AW i Ll).trans hv
  obtain⟨A,hA⟩:∃A:Nat->It,∀j,j<len->(∀(i:Nat) (v:Value),(A j).cells[i]?=some v->w.cell? ((a.add (j*5)).add i)=some v)/\(A j).Wf:=by
   refine⟨fun j=>if hj:j<len then(each j hj).choose else⟨0,0,0,0,false⟩,fun j hj=>?_⟩;simp only[hj,dif_pos];exact(each j hj).choose_spec
  have Ab:((List.range len).map A).length=len:=by simp
  refine⟨some a,(List.range len).map A,cap,by rw[Ab];exact AQ,by rw[Ab];exact⟨hl,Cy⟩,fun j y hj=>?_,fun y hy=>?_⟩
  ·have FQ:j<len:=by have:=(J1V.1 hj).1;rwa [Ab] at this
   have e:((List.range len).map A)[j]?=some (A j):=by simp[FQ]
   rw[e] at hj;cases hj;have h1:=(hA j FQ).1;have hp:=Q2u (x:=a) (by simpa[Addr.add] using (hA 0 (by omega)).1 0 _ rfl);have h3:∀(i:Nat) (v:Value),(A j).cells[i]?=some v->w.cell? ⟨a.block,a.off+j*5+i,none⟩=some v:=fun i v hv=>by
    have:=h1 i v hv;rw[hp,add_plain5,add_plain5] at this;exact this
   exact⟨a.block,a.off,congrArg some hp,World.block_lt_of_cell? w ⟨a.block,a.off+j*5+0,none⟩ (h3 0 _ rfl),h3⟩
  ·obtain⟨j,hj,rfl⟩:=J1K.1 hy;exact(hA j (J1U.1 hj)).2
theorem Z2Z{H:Type}{enc:TypeId×Value->H}{w:World}{n:Nat}{cs:List Value}{y:DataW H×List MemPlace}
  (h:DataW.trod enc prog w 0 (fun _=>true) true n 100 cs=some y):∃(lb:Nat) (wa:Option Addr) (ws:List Nat) (wc:Nat) (ia:Option Addr) (its:List It) (ic:Nat),cs=[.int .u64 lb,.slice wa ws.length wc,.slice ia its.length ic]/\lb<18446744073709551616/\(ws.length<=wc/\wc<=maxLen)/\(its.length<=ic/\ic<=maxLen)/\IsU w wa ws/\IsI w ia its/\(∀y∈ws,y<18446744073709551616)/\∀i∈its,i.Wf:=by
 obtain⟨xs,n',_,_,Ab,CU,hf⟩:=DataW.trod_struct underlying100 h;rw[Q7n] at Ab
 match cs,Ab with
 | [v0,v1,v2],_ =>
  match xs,CU with
  | [y0,y1,y2],_ =>
   have g0:DataW.trod enc prog w 0 (fun _=>true) true n' 83 (List.take (prog.cellsOf 83) (List.drop 0 [v0,v1,v2]))=some y0:=hf 0 _ rfl;have g1:DataW.trod enc prog w 0 (fun _=>true) true n' 82 (List.take (prog.cellsOf 82) (List.drop 1 [v0,v1,v2]))=some y1:=hf 1 _ rfl;have g2:DataW.trod enc prog w 0 (fun _=>true) true n' 98 (List.take (prog.cellsOf 98) (List.drop 2 [v0,v1,v2]))=some y2:=hf 2 _ rfl;rw[Z0q] at g0;rw[Q6n] at g1;rw[Z2Y] at g2;simp only[J5o,J5L,J4X,J5M] at g0 g1 g2;obtain⟨a0,e0,_,Ib⟩:=DataW.trod_int underlying83 g0;have Bq:=bounds_u64 (n:=a0) (by simp_all);obtain⟨lb,rfl⟩:=J3b Bq.1
   obtain⟨wa,ws,wc,e1,Dj,hu,hw⟩:=Q4R g1;obtain⟨ia,its,ic,e2,Bx,hi,Pn⟩:=Q9o g2;simp only[J1I,and_true] at e0 e1 e2;subst e0;subst e1;subst e2;exact⟨lb,wa,ws,wc,ia,its,ic,rfl,by omega,Dj,Bx,hu,hi,hw,Pn⟩
theorem Z3a{H:Type}{enc:TypeId×Value->H}{w:World}{n:Nat}{cs:List Value}{y:DataW H×List MemPlace}
  (h:DataW.trod enc prog w 0 (fun _=>true) true n 102 cs=some y):∃x:A19,cs=x.cells/\x.Wf/\A19.Lies w x:=by
 obtain⟨xs,n',_,_,Ab,CU,hf⟩:=DataW.trod_struct underlying102 h;rw[Z6d] at Ab
 match cs,Ab with
 | [v0,v1,v2,v3,v4,v5,v6,v7,v8,v9,v10,v11,v12,v13,v14,v15,v16,v17,v18,v19,v20,v21,v22,v23,v24,v25,v26,v27,v28],_ =>
  match xs,CU with
  | [y0,y1,y2,y3,y4,y5,y6,y7,y8,y9],_ =>
   have g0:DataW.trod enc prog w 0 (fun _=>true) true n' 3 (List.take (prog.cellsOf 3) (List.drop 0 [v0,v1,v2,v3,v4,v5,v6,v7,v8,v9,v10,v11,v12,v13,v14,v15,v16,v17,v18,v19,v20,v21,v22,v23,v24,v25,v26,v27,v28]))=some y0:=hf 0 _ rfl;have g1:DataW.trod enc prog w 0 (fun _=>true) true n' 3 (List.take (prog.cellsOf 3) (List.drop 1 [v0,v1,v2,v3,v4,v5,v6,v7,v8,v9,v10,v11,v12,v13,v14,v15,v16,v17,v18,v19,v20,v21,v22,v23,v24,v25,v26,v27,v28]))=some y1:=hf 1 _ rfl;have g2:DataW.trod enc prog w 0 (fun _=>true) true n' 3 (List.take (prog.cellsOf 3) (List.drop 2 [v0,v1,v2,v3,v4,v5,v6,v7,v8,v9,v10,v11,v12,v13,v14,v15,v16,v17,v18,v19,v20,v21,v22,v23,v24,v25,v26,v27,v28]))=some y2:=hf 2 _ rfl
   have g3:DataW.trod enc prog w 0 (fun _=>true) true n' 3 (List.take (prog.cellsOf 3) (List.drop 3 [v0,v1,v2,v3,v4,v5,v6,v7,v8,v9,v10,v11,v12,v13,v14,v15,v16,v17,v18,v19,v20,v21,v22,v23,v24,v25,v26,v27,v28]))=some y3:=hf 3 _ rfl;have g4:DataW.trod enc prog w 0 (fun _=>true) true n' 3 (List.take (prog.cellsOf 3) (List.drop 4 [v0,v1,v2,v3,v4,v5,v6,v7,v8,v9,v10,v11,v12,v13,v14,v15,v16,v17,v18,v19,v20,v21,v22,v23,v24,v25,v26,v27,v28]))=some y4:=hf 4 _ rfl;have g5:DataW.trod enc prog w 0 (fun _=>true) true n' 83 (List.take (prog.cellsOf 83) (List.drop 5 [v0,v1,v2,v3,v4,v5,v6,v7,v8,v9,v10,v11,v12,v13,v14,v15,v16,v17,v18,v19,v20,v21,v22,v23,v24,v25,v26,v27,v28]))=some y5:=hf 5 _ rfl
   have g6:DataW.trod enc prog w 0 (fun _=>true) true n' 82 (List.take (prog.cellsOf 82) (List.drop 6 [v0,v1,v2,v3,v4,v5,v6,v7,v8,v9,v10,v11,v12,v13,v14,v15,v16,v17,v18,v19,v20,v21,v22,v23,v24,v25,v26,v27,v28]))=some y6:=hf 6 _ rfl;have g7:DataW.trod enc prog w 0 (fun _=>true) true n' 100 (List.take (prog.cellsOf 100) (List.drop 7 [v0,v1,v2,v3,v4,v5,v6,v7,v8,v9,v10,v11,v12,v13,v14,v15,v16,v17,v18,v19,v20,v21,v22,v23,v24,v25,v26,v27,v28]))=some y7:=hf 7 _ rfl;have g8:DataW.trod enc prog w 0 (fun _=>true) true n' 65 (List.take (prog.cellsOf 65) (List.drop 10 [v0,v1,v2,v3,v4,v5,v6,v7,v8,v9,v10,v11,v12,v13,v14,v15,v16,v17,v18,v19,v20,v21,v22,v23,v24,v25,v26,v27,v28]))=some y8:=hf 8 _ rfl
   have g9:DataW.trod enc prog w 0 (fun _=>true) true n' 67 (List.take (prog.cellsOf 67) (List.drop 12 [v0,v1,v2,v3,v4,v5,v6,v7,v8,v9,v10,v11,v12,v13,v14,v15,v16,v17,v18,v19,v20,v21,v22,v23,v24,v25,v26,v27,v28]))=some y9:=hf 9 _ rfl;rw[Q2f] at g0 g1 g2 g3 g4;rw[Z0q] at g5;rw[Q6n] at g6;rw[Q7n] at g7;rw[Q5V] at g8;rw[Z5u] at g9;simp only[J5o,J5L,J4X,J5M] at g0 g1 g2 g3 g4 g5 g6 g7 g8 g9;obtain⟨a0,e0,_,Ib⟩:=DataW.trod_int underlying3 g0;have Bq:=bounds_i64 (n:=a0) (by simp_all);obtain⟨a1,e1,_,DD⟩:=DataW.trod_int underlying3 g1;have Ar:=bounds_i64 (n:=a1) (by simp_all);obtain⟨a2,e2,_,Ej⟩:=DataW.trod_int underlying3 g2
   have Ae:=bounds_i64 (n:=a2) (by simp_all);obtain⟨a3,e3,_,FF⟩:=DataW.trod_int underlying3 g3;have An:=bounds_i64 (n:=a3) (by simp_all);obtain⟨a4,e4,_,TS⟩:=DataW.trod_int underlying3 g4;have A2:=bounds_i64 (n:=a4) (by simp_all);obtain⟨a5,e5,_,SV⟩:=DataW.trod_int underlying83 g5;have Au:=bounds_u64 (n:=a5) (by simp_all);obtain⟨xx,rfl⟩:=J3b Au.1;obtain⟨la,ls,lc,e6,K4,UV,SU⟩:=Q4R g6;obtain⟨lb,wa,ws,wc,ia,its,ic,e7,Dr,PJ,FV,PM,Fd,Ux,Pn⟩:=Z2Z g7;obtain⟨wi,e8,Jq⟩:=Q7c g8;obtain⟨ac,e9,Fs,BF⟩:=Z2F g9;simp only[J1I,and_true] at e0 e1 e2 e3 e4 e5 e6 e7;subst e0;subst e1;subst e2;subst e3
   subst e4;subst e5;subst e6;obtain⟨e70,e71,e72⟩:=e7;subst e70;subst e71;subst e72;refine⟨⟨a0,a1,a2,a3,a4,xx,la,lc,ls,lb,wa,wc,ws,ia,ic,its,wi,ac⟩,?_,⟨by simpa using Bq,by simpa using Ar,by simpa using Ae,by simpa using An,by simpa using A2,by dsimp only;omega,K4,Dr,PJ,FV,Jq,Fs,SU,Ux,Pn⟩,⟨UV,PM,Fd,BF⟩⟩;unfold A19.cells;rw[<- e8,<- e9];rfl
theorem A19.len(x:A19):x.cells.length=29:=by simp[A19.cells,A17.cells,It.cells,Wi.cells]
theorem Q6o{H:Type}{enc:TypeId×Value->H}{w:World}{fuel:Nat}{a0:Option Addr}{len cap:Nat}{x:DataW H×List MemPlace}
  (h:DataW.trod enc prog w 0 (fun _=>true) true fuel 95 [.slice a0 len cap]=some x):∃A,IsA19 w a0 len A:=by
 have dflt:A19:=⟨0,0,0,0,0,0,none,0,[],0,none,0,[],none,0,[],⟨0,0⟩,⟨0,0,0,0,0,0,0,0,false,none,0,0,fun _=>⟨0,0,0,false⟩,⟨0,0,0,0,false⟩,⟨0,0⟩⟩⟩
 rcases open_slice underlying95 h with ⟨AQ,_⟩|⟨a,len',CG,m,n,D,Pl,AQ,_,hl,_,Hd,_,hi⟩
 ·simp only[J1I,Value.slice.injEq,and_true] at AQ;obtain⟨rfl,rfl,rfl⟩:=AQ;exact⟨fun _=>dflt,fun j hj=>absurd hj (J4Y _)⟩
 ·simp only[J1I,Value.slice.injEq,and_true] at AQ;obtain⟨rfl,rfl,rfl⟩:=AQ;have hm:len<=m:=by rw[Hd];simp;exact hl
  have each:∀j,j<len->∃x:A19,(∀(i:Nat) (v:Value),x.cells[i]?=some v->w.cell? ((a.add (j*29)).add i)=some v)/\x.Wf/\A19.Lies w x:=by
   intro j hj;obtain⟨PH,hc,ht⟩:=hi j (by omega);rw[Z6d] at hc;obtain⟨x,rfl,hx,Gb⟩:=Z3a ht;obtain⟨_,_,AW⟩:=World.cells?_some hc;refine⟨x,fun i v hv=>?_,hx,Gb⟩;have Ll:i<29:=by have:=(J1V.1 hv).1;rwa [A19.len] at this
   exact(AW i Ll).trans hv
  by_cases h0:len=0
  ·exact⟨fun _=>dflt,fun j hj=>by omega⟩
  ·obtain⟨x0,c0,_⟩:=each 0 (by omega);have hp:=Q2u (x:=a) (by simpa[Addr.add] using c0 0 _ rfl);refine⟨fun j=>if hj:j<len then(each j hj).choose else dflt,fun j hj=>?_⟩;obtain⟨h1,h2,Sk⟩:=(each j hj).choose_spec;simp only[hj,dif_pos];generalize (each j hj).choose=y at h1 h2 Sk;have h3:∀(i:Nat) (v:Value),y.cells[i]?=some v->w.cell? ⟨a.block,a.off+j*29+i,none⟩=some v:=fun i v hv=>by
    have:=h1 i v hv;rw[hp,add_plain5,add_plain5] at this;exact this
   exact⟨a.block,a.off,congrArg some hp,World.block_lt_of_cell? w ⟨a.block,a.off+j*29+0,none⟩ (h3 0 _ rfl),h3,h2,Sk⟩
end Go.Proofs.YtfidemmgofcnmaaGreatDoor
namespace Go.Proofs.YtfidemmgofcnmaaGreatDoor
open Go.RowKit Go.Proofs.Tryz
def Q4m(n:Int):Nat:=((n%18446744073709551616)%5).toNat
theorem Q3l(n:Int):Q4m n<5:=by unfold Q4m;omega
theorem Q4n(w:World)(n:Int)(hn:I64 n):Calls prog 56 #[.int .i64 n] w fun r w'=>r=.returned (.int .i64 ((Q4m n:Nat):Int))/\w=w':=by
 have h0:0<=n%18446744073709551616:=by omega
 have h1:n%18446744073709551616<18446744073709551616:=by omega
 have hw:IntKind.u64.wrap n=n%18446744073709551616:=rfl;have ht:Int.tmod (n%18446744073709551616) 5=((Q4m n:Nat):Int):=by
  rw[J3o h0];unfold Q4m;omega
 have hp:((Q4m n:Nat):Int)<5:=by have:=Q3l n;omega
 have EF:(0:Int)<=((Q4m n:Nat):Int):=by omega
 generalize ((Q4m n:Nat):Int)=p at *
 clear hn;go_enter func56,ntmps56;go_wp2_with fail
 (try go_ret);exact⟨rfl,rfl⟩
def few1(x:A19):Prop:=x.L.length<=200/\x.W.length<=20/\x.I.length<=20/\x.a.ll<=20
instance (x:A19):Decidable (few1 x):=by unfold few1;infer_instance
def Q4o(A:Nat->A19)(len:Nat):Bool:=decide (len<=40/\∀j,j<len->few1 (A j))
theorem Q9p(w:World)(a0:Option Addr)(len cap:Nat)(A:Nat->A19)(hA:IsA19 w a0 len A) :
  Calls prog 47 #[.slice a0 len cap] w fun r w'=>r=.returned (.bool (Q4o A len))/\w=w':=by
 have Q6:(0:Int)<=(len:Int):=by omega
 by_cases QG:len<=40
 ·have hd:decide (40<(len:Int))=false:=by simp;omega
  have HA:=Q0a hA;have DL:(len:Int)<=40:=by omega
  obtain⟨v,hv⟩:∃v,v=Q4o A len:=⟨_,rfl⟩
  have HV:=Q0a hv;rw[<- hv];clear hA hv;go_enter func47,ntmps47;go_wp2_with fail
  go_loopg [3] len (fun gk iv wr=>∃k:Nat,iv=.int .i64 k/\k+gk=len/\wr=w/\∀j,j<k->few1 (A j))
  case atStart=>exact⟨0,rfl,by omega,rfl,fun j hj=>by omega⟩
  case round =>
   obtain⟨k,rfl,BL,rfl,hp⟩:=hrel;have HP:=Q0a hp;have CW:=Q0a BL;clear hp BL;by_cases Aa:k<len
   ·obtain⟨g,off,rfl,hg,Ba,FS,_⟩:=HA.out k Aa;have c6:wr.cell? ⟨g,off+k*29+6,none⟩=some (.slice (A k).la (A k).L.length (A k).lc):=Ba 6 _ rfl;have c8:wr.cell? ⟨g,off+k*29+8,none⟩=some (.slice (A k).wa (A k).W.length (A k).wc):=Ba 8 _ rfl;have c9:wr.cell? ⟨g,off+k*29+9,none⟩=some (.slice (A k).ia (A k).I.length (A k).ic):=Ba 9 _ rfl;have Wm:wr.cell? ⟨g,off+k*29+21,none⟩=some (.slice (A k).a.la (A k).a.ll (A k).a.lc):=Ba 21 _ rfl;have K4:=FS.lc;have PJ:=FS.wc;have FV:=FS.ic;have Fs:=FS.a.len;unfold maxLen at K4 PJ FV Fs;have Cq:(k:Int)<(len:Int):=by omega
    have B4:(0:Int)<=(k:Int):=by omega
    have F7:Hid (¬few1 (A k)->v=false):=fun h=>by
     rw[HV.out];unfold Q4o;exact decide_eq_false fun h2=>h (h2.2 k Aa)
    have F9:Hid (few1 (A k)->∀j,j<k+1->few1 (A j)):=fun h j hj=>by
     by_cases e:j=k
     ·rw[e];exact h
     ·exact HP.out j (by omega)
    have HF:Hid (few1 (A k)↔(A k).L.length<=200/\(A k).W.length<=20/\(A k).I.length<=20/\(A k).a.ll<=20):=Iff.rfl;clear Ba FS;generalize hnl:(A k).L.length=nl at *
    generalize Fh:(A k).W.length=nw at *
    generalize JT:(A k).I.length=ni at *
    generalize hna:(A k).a.ll=na at *
    clear hnl Fh JT hna;by_cases h1:nl<=200
    ·have Hs:decide (200<(nl:Int))=false:=by simp;omega
     by_cases h2:nw<=20
     ·have Dd:decide (20<(nw:Int))=false:=by simp;omega
      by_cases h3:ni<=20
      ·have Gh:decide (20<(ni:Int))=false:=by simp;omega
       by_cases h4:na<=20
       ·have Je:decide (20<(na:Int))=false:=by simp;omega
        have JN:=Q0a (F9.out (HF.out.2 ⟨h1,h2,h3,h4⟩));clear F7 F9 HF;go_wp2_with fail;go_roundg (len-(k+1))
        case measure=>have:=CW.out;omega
        case rel=>exact⟨k+1,by go_num,by have:=CW.out;omega,rfl,JN.out⟩
       ·have Je:decide (20<(na:Int))=true:=by simp;omega
        obtain rfl:=F7.out fun h=>h4 (HF.out.1 h).2.2.2
        clear HV F9 HF F7;go_wp2_with fail
        (try go_ret);exact⟨rfl,rfl⟩
      ·have Gh:decide (20<(ni:Int))=true:=by simp;omega
       obtain rfl:=F7.out fun h=>h3 (HF.out.1 h).2.2.1
       clear HV F9 HF F7;go_wp2_with fail
       (try go_ret);exact⟨rfl,rfl⟩
     ·have Dd:decide (20<(nw:Int))=true:=by simp;omega
      obtain rfl:=F7.out fun h=>h2 (HF.out.1 h).2.1
      clear HV F9 HF F7;go_wp2_with fail
      (try go_ret);exact⟨rfl,rfl⟩
    ·have Hs:decide (200<(nl:Int))=true:=by simp;omega
     obtain rfl:=F7.out fun h=>h1 (HF.out.1 h).1
     clear HV F9 HF F7;go_wp2_with fail
     (try go_ret);exact⟨rfl,rfl⟩
   ·obtain rfl:k=len:=by have:=CW.out;omega
    have Vp:v=true:=by
     rw[HV.out];unfold Q4o;exact decide_eq_true ⟨QG,HP.out⟩
    subst Vp;clear HV;go_wp2_with fail
    (try go_ret);exact⟨rfl,rfl⟩
 ·have hv:Q4o A len=false:=by
   unfold Q4o;exact decide_eq_false fun h=>QG h.1
  have hd:decide (40<(len:Int))=true:=by simp;omega
  rw[hv];clear hA;go_enter func47,ntmps47;go_wp2_with fail
  (try go_ret);exact⟨rfl,rfl⟩
structure KeepJ(Z Z':SP):Prop where
 s:Z'.s=Z.s
 c:Z'.S.c=Z.S.c
 top:Z'.S.P.d.top=Z.S.P.d.top
 l:∀(i:Nat) (q:Pl),Z.S.l[i]?=some q->q.st=1->Z'.S.l[i]?=some q
 nz:(∀q∈Z.S.l,q.st≠2)->∀q∈Z'.S.l,q.st≠2
theorem KeepJ.refl(Z:SP):KeepJ Z Z:=⟨rfl,rfl,rfl,fun _ _ h _=>h,fun h=>h⟩
theorem KeepJ.trans{Z Z1 Z2:SP}(h:KeepJ Z Z1)(k:KeepJ Z1 Z2):KeepJ Z Z2:=⟨k.s.trans h.s,k.c.trans h.c,k.top.trans h.top,fun i q h1 h2=>k.l i q (h.l i q h1 h2) h2,fun hz=>k.nz (h.nz hz)⟩
theorem SameN.keepJ{Z Z':SP}(h:SameN Z Z'):KeepJ Z Z':=⟨h.s,h.alt.c,h.alt.same.top,fun i q h1 _=>by rw[h.alt.l];exact h1,fun hz=>by rw[h.alt.l];exact hz⟩
theorem Q2j(Z:SP)(m:List Nat):KeepJ Z (Z.poke m):=⟨rfl,rfl,rfl,fun _ _ h _=>h,fun h=>h⟩
def GoesJ(Z:SP)(N K:Nat)(M:Int)(w w':World):Prop:=∃(Z':SP) (fr':List Nat),Z'.Ok fr' N K M/\KeepJ Z Z'/\Step Z.hl Z'.hl w w'
theorem GoesJ.mono{Z:SP}{N N' K K':Nat}{M M':Int}{w w':World}(h:GoesJ Z N K M w w')(h1:N<=N')(h2:K<=K')(h3:M<=M'):GoesJ Z N' K' M' w w':=by
 obtain⟨Z',fr',a,b,c⟩:=h;exact⟨Z',fr',a.mono h1 h2 h3,b,c⟩
section
variable {Z:SP} {fr:List Nat} {N K:Nat} {M:Int} {w w':World}
theorem GoesJ.of(hs:Sep w Z.hl)(ok:Z.Ok fr N K M)(hb:Below w.heap.size w w'):GoesJ Z N K M w w':=⟨Z,fr,ok,KeepJ.refl Z,hs.grown hb⟩
theorem GoesJ.at{w1 w2:World}(hs:Sep w Z.hl)(hb:Below w.heap.size w w1)(h:GoesJ Z N K M w1 w2):GoesJ Z N K M w w2:=by
 obtain⟨Z',fr',a,b,c⟩:=h;exact⟨Z',fr',a,b,(hs.grown hb).trans c⟩
theorem BackZ.keepJ(ok:Z.Ok fr N K M){y:Nat}{own:Int}(h:BackZ Z fr N K y own w w'):GoesJ Z N K M w w':=by
 obtain⟨Z',a,_,b,c⟩:=h.ok ok;exact⟨Z',fr,a,b.toSameN.keepJ,c⟩
theorem RootR.keepJ(hs:Sep w Z.hl)(ok:Z.Ok fr N K M){x h:Nat}{z r er:Int}(R:RootR Z fr N K M x z h r w er w'):GoesJ Z N K (M+1) w w':=by
 rcases R with ⟨_,_,hb⟩|⟨s,rn,p,q,_,_,_,_,_,hp,hk,_,_,_,⟨_,Z',a,b,_,_,_,c⟩|⟨_,_,P',tr,st⟩⟩
 ·exact(GoesJ.of hs ok hb).mono (J1E _) (J1E _) (by omega)
 ·exact⟨Z',fr,a,b.keepJ,c⟩
 ·refine GoesJ.mono ?_ (J1E _) (J1E _) (show M<=M+1 by omega);refine BackZ.keepJ (y:=x) (own:=p.fac) ok (LaidP.back (x:=x) (A:=fun _=>⟨0,0,0,false⟩) ok hp hk ((LaidP.start (x:=x) (A:=fun _=>⟨0,0,0,false⟩) ok (p.fac:Int)).tried tr) ?_);rw[Q0Z];exact st
theorem MoveR.keepJ(ok:Z.Ok fr N K M){x y n:Nat}{A:Nat->Mv}{er:Int}(R:MoveR Z fr N K M x y n A w er w'):GoesJ Z N K (M+n) w w':=by
 rcases R with ⟨_,_,own,h⟩|⟨p1,p2,_,_,_,_,_,⟨_,a,Z',_,_,h1,h2,_,h3⟩|⟨_,_,h⟩⟩
 ·exact(h.keepJ ok).mono (J1E _) (J1E _) (by omega)
 ·exact⟨Z',fr,h1,h2.keepJ,h3⟩
 ·exact(h.keepJ ok).mono (J1E _) (J1E _) (by omega)
theorem RevR.keepJ(hs:Sep w Z.hl)(ok:Z.Ok fr N K M){x:Nat}{z mask:Int}{self:Bool}{r:Ending}(R:RevR Z fr N K M x z mask self w r w'):(∃a b:Value,r=.returned (.tuple #[a,b]))/\GoesJ Z N K M w w':=by
 rcases R with ⟨e,rfl,hb,_⟩|⟨s,m,n,en,_,_,_,_,_,_,_,_,_,rfl,Z',a,_,b,c⟩
 ·exact⟨⟨_,_,rfl⟩,.of hs ok hb⟩
 ·exact⟨⟨_,_,rfl⟩,Z',fr,a,b.toSameN.keepJ,c⟩
theorem MkR.keepJ(ok:Z.Ok fr N K M){x hh:Nat}{z k er:Int}(R:MkR Z fr N K M x z k w hh er w'):GoesJ Z (N+1) K (M+1) w w':=by
 rcases R with ⟨_,_,own,h⟩|⟨_,Z',fr',s,i,q,q',_,_,h1,h2,_,_,T9,_,a,b,e,_,c⟩
 ·exact(h.keepJ ok).mono (J5J _) (J1E _) (by omega)
 ·refine⟨Z',fr',a,⟨b.s,b.c,b.same.top,fun j p hj hp=>?_,fun hz p hp=>?_⟩,c⟩
  rotate_left
  ·rw[e] at hp;rcases J4f hp with h|h
   ·exact hz p h
   ·subst h;omega
  rw[e];by_cases DE:i=j
  ·subst DE;rw[h1] at hj;cases hj;omega
  ·rw[J5c DE];exact hj
theorem CPutR.keepJ(hs:Sep w Z.hl)(ok:Z.Ok fr N K M){t:Nat}{a:Int}{x:Msg}{r:Ending}(R:CPutR Z fr N K M t a x w r w'):(∃e:Int,r=.returned (.int .i64 e))/\GoesJ Z N K M w w':=by
 rcases R with ⟨_,rfl,hb⟩|⟨p,_,⟨_,rfl,hb⟩|⟨_,rfl,ok2,st⟩⟩
 ·exact⟨⟨_,rfl⟩,.of hs ok hb⟩
 ·exact⟨⟨_,rfl⟩,.of hs ok hb⟩
 ·exact⟨⟨_,rfl⟩,_,fr,ok2,Q2j Z _,st⟩
theorem COpnR.keepJ(hs:Sep w Z.hl)(ok:Z.Ok fr N K M){t:Nat}{a:Int}{v:Wi}{r:Ending}(R:COpnR Z fr N K M t a v w r w'):(∃e:Int,r=.returned (.int .i64 e))/\GoesJ Z N K M w w':=by
 rcases R with ⟨_,rfl,hb⟩|⟨p,_,⟨_,rfl,hb⟩|⟨_,rfl,ok2,st⟩⟩
 ·exact⟨⟨_,rfl⟩,.of hs ok hb⟩
 ·exact⟨⟨_,rfl⟩,.of hs ok hb⟩
 ·exact⟨⟨_,rfl⟩,_,fr,ok2,Q2j Z _,st⟩
theorem StoR.keepJ(hs:Sep w Z.hl)(ok:Z.Ok fr N K M){t:Nat}{z off:Int}{ws:List Nat}{r:Ending}(R:StoR Z fr N K M t z off ws w r w'):(∃e:Int,r=.returned (.int .i64 e))/\GoesJ Z N K M w w':=by
 rcases R with ⟨_,rfl,hb⟩|⟨_,p,f,_,rfl,ok2,st⟩
 ·exact⟨⟨_,rfl⟩,.of hs ok hb⟩
 ·exact⟨⟨_,rfl⟩,_,fr,ok2,Q2j Z _,st⟩
theorem Q7Y(Z:SP)(tf:Nat)(p p':Pl)(h:∀i∈(msgV Z.S.P.a.mem p.at_).its,Q6j Z tf (winV Z.S.P.a.mem p'.at_) i):(carL Z tf p p').length<=256:=by
 have h1:=Q4k Z tf (winV Z.S.P.a.mem p'.at_) _ h;have h2:=(Q7U Z.S.P.a.mem p.at_).1;unfold carL;omega
theorem CCarR.keepJ(hs:Sep w Z.hl)(ok:Z.Ok fr N K M){tf tt lb:Nat}{af at_:Int}{r:Ending}(R:CCarR Z fr N K M tf af tt at_ lb w r w'):(∃e:Int,r=.returned (.int .i64 e))/\GoesJ Z N K (M+256) w w':=by
 rcases R with ⟨er,_,rfl,hb,_⟩|⟨p,p',hp,AL,Fm,⟨er,w5,_,rfl,hb,hM⟩|⟨rfl,a,Z1,_,_,_,sn,_,ok1,ok2,st⟩⟩
 ·exact⟨⟨_,rfl⟩,(GoesJ.of hs ok hb).mono (J1E _) (J1E _) (by omega)⟩
 ·have:=Q7Y Z tf p p' Fm;exact⟨⟨_,rfl⟩,.at hs hb ((hM.keepJ ok).mono (J1E _) (J1E _) (by omega))⟩
 ·have:=Q7Y Z tf p p' Fm;exact⟨⟨_,rfl⟩,_,fr,ok2.mono (J1E _) (J1E _) (by omega),sn.keepJ.trans (Q2j Z1 _),st⟩
end
theorem J1l(f:Nat->Nat×Nat):∀k,∀q∈lB f k,q.st≠2
 | 0,q,h=>by rcases Q1J h with rfl|rfl <;> decide
 | k+1,q,h=>by
  rcases J4f h with h|h
  ·exact J1l f k q h
  ·subst h;show(1:Nat)≠2;decide
structure CaJ(Z:SP)(f:Nat->Nat×Nat):Prop where
 top:Z.S.P.d.top=6
 root:Z.S.l[0]?=some ⟨1,64,0,1,0,0⟩
 l:∀i,i<7->Z.S.l[i+1]?=some (plB f i)
 nz:∀q∈Z.S.l,q.st≠2
theorem CaJ.keep{Z Z':SP}{f:Nat->Nat×Nat}(h:CaJ Z f)(k:KeepJ Z Z'):CaJ Z' f:=⟨k.top.trans h.top,k.l 0 _ h.root rfl,fun i hi=>k.l (i+1) _ (h.l i hi) rfl,k.nz h.nz⟩
theorem CaJ.at'{Z:SP}{f:Nat->Nat×Nat}(h:CaJ Z f){i:Nat}(hi:i<7):pget Z.S.l 1 (i+1)=some (plB f i):=by
 refine pget_some.2 ⟨?_,?_,rfl⟩
 ·rw[J2S (by omega)];exact h.l i hi
 ·rw[J2S (by omega)];unfold nm plB;simp
def CaT(c k ge:Nat)(f:Nat->Nat×Nat)(N K:Nat)(M:Int)(w0 wr:World):Prop:=∃(Z:SP) (fr:List Nat),Z.Ok fr N K M/\CaJ Z f/\CarC Z c k wr/\AsideV Z.hl (endC (endL f)) (some ⟨ge,0,none⟩) wr/\Step [] Z.hl w0 wr
section
variable {c k ge:Nat} {f:Nat->Nat×Nat} {N K:Nat} {M:Int} {w0 wr w':World}
theorem CaT.mono(h:CaT c k ge f N K M w0 wr){N' K':Nat}{M':Int}(h1:N<=N')(h2:K<=K')(h3:M<=M'):CaT c k ge f N' K' M' w0 wr:=by
 obtain⟨Z,fr,ok,r⟩:=h;exact⟨Z,fr,ok.mono h1 h2 h3,r⟩
theorem CaT.grown(h:CaT c k ge f N K M w0 wr)(hb:Below wr.heap.size wr w'):CaT c k ge f N K M w0 w':=by
 obtain⟨Z,fr,ok,j,hc,he,st⟩:=h;have s1:=st.sep.grown hb;exact⟨Z,fr,ok,j,hc.step rfl s1,AsideV.step he s1,st.trans s1⟩
theorem CaT.below(h:CaT c k ge f N K M w0 wr):Below w0.heap.size w0 wr:=by
 obtain⟨Z,fr,ok,j,hc,he,st⟩:=h;exact st.fresh
theorem CaT.cells(h:CaT c k ge f N K M w0 wr)(j:Nat)(v:Value)(hj:(endC (endL f))[j]?=some v):wr.cell? ⟨ge,j,none⟩=some v:=by
 obtain⟨Z,fr,ok,_,hc,he,st⟩:=h;obtain⟨g,e,_,_,z⟩:=he j v hj;cases e;exact z
theorem GoesJ.caT{Z:SP}{N' K':Nat}{M':Int}(j:CaJ Z f)(hc:CarC Z c k wr)(he:AsideV Z.hl (endC (endL f)) (some ⟨ge,0,none⟩) wr)(st:Step [] Z.hl w0 wr)(h:GoesJ Z N' K' M' wr w'):CaT c k ge f N' K' M' w0 w':=by
 obtain⟨Z',fr',ok,kp,s1⟩:=h;exact⟨Z',fr',ok,j.keep kp,hc.step kp.s s1,AsideV.step he s1,st.trans s1⟩
theorem CaT.low(h:CaT c k ge f N K M w0 wr):(f 2).1+256<=65536/\(f 3).1+256<=65536/\(f 4).1+256<=65536:=by
 obtain⟨Z,fr,ok,j,hc,he,st⟩:=h;have hm:Z.S.P.a.mem.length=65536:=by rw[ok.core.inv.mem.pool.mem,j.top]
 have key:∀i,i<7->Q0z i=3->(f i).1+256<=65536:=fun i hi hk=>by
  have:=(Q0R ok.core (J3L (j.l i hi)) (Pl.is_iff.2 (.inl rfl)) (.inl hk)).1;have e:costK (plB f i).kind=256:=by show costK (Q0z i)=256;rw[hk];rfl
  rw[e,hm] at this;exact this
 exact⟨key 2 (by omega) rfl,key 3 (by omega) rfl,key 4 (by omega) rfl⟩
theorem CaT.begin{L:Int}(h:CarB L c k ge f w0 wr):CaT c k ge f 8 0 2 w0 wr:=by
 obtain⟨Z,fr,m,hE,Bm,hc,he,st⟩:=h;have i:CaI Z L 2 f fr:=⟨m,Bm.1⟩
 refine⟨Z,fr,m.ok,⟨Bm.2,?_,fun j hj=>i.idx hj,by rw[m.l];exact J1l f 7⟩,hc,he,st⟩;have:=(pget_some.1 i.root).1;exact this
end
section
variable {L:Int} {c k ge s:Nat} {M M':Int} {f:Nat->Nat×Nat} {C C':SP->Prop} {B:List (Nat×List Value)} {w0 wr w':World}
end
theorem Z8x{w w0 wr:World}{a0:Option Addr}{len:Nat}{A:Nat->Nat}(h:IsW8 w a0 len A)(hb:Below w.heap.size w w0){H:HL}(st:Step [] H w0 wr):AsideU H ((List.range len).map A) a0 wr:=fun j y hj=>by
 by_cases hl:j<len
 ·have e:((List.range len).map A)[j]?=some (A j):=by simp[hl]
  rw[e] at hj;cases hj;obtain⟨g,o,h1,h2,h3,_⟩:=h j hl;refine⟨g,o,h1,fun hk=>?_,J1G h2 (J1F hb.size st.fresh.size),?_⟩
  ·rcases st.new g hk with h4|h4
   ·cases h4
   ·have:=hb.size;omega
  ·have Ae:=hb.trans (st.fresh.mono hb.size);exact(World.cell?_of_block (w:=w) (Ae.block g h2)).trans h3
 ·have e:((List.range len).map A)[j]?=none:=by simp;omega
  rw[e] at hj;cases hj
theorem Z8y{w:World}{a0:Option Addr}{len:Nat}{A:Nat->Nat}(h:IsW8 w a0 len A):∀y∈(List.range len).map A,y<18446744073709551616:=fun y hy=>by
 obtain⟨j,hj,rfl⟩:=J1K.1 hy;obtain⟨_,_,_,_,_,h4⟩:=h j (J1U.1 hj);exact h4
theorem Z8U(len:Nat)(A:Nat->Nat):((List.range len).map A).length=len:=by simp
section
variable {L:Int} {c k ge s:Nat} {M M':Int} {f:Nat->Nat×Nat} {C C':SP->Prop} {B:List (Nat×List Value)} {w0 wr w':World}
end
theorem Z6e{w0 wr:World}{a:Option Addr}{ws:List Nat}{H:HL}(h:IsU w0 a ws)(st:Step [] H w0 wr):AsideU H ws a wr:=fun j y hj=>by
 obtain⟨g,o,e,hg,hc⟩:=h j y hj;refine⟨g,o,e,fun hk=>?_,J1G hg st.fresh.size,(World.cell?_of_block (w:=w0) (st.fresh.block g hg)).trans hc⟩;rcases st.new g hk with h4|h4
 ·cases h4
 ·omega
theorem Z3b{w0 wr:World}{a:Option Addr}{n:Nat}{A:Nat->Mv}{H:HL}(h:IsMv w0 a n A)(st:Step [] H w0 wr):AsideM H n A a wr:=⟨h.below st.fresh,fun ad h0 ha hk=>by
 obtain⟨g,off,hg,Aa,_⟩:=h 0 (by omega);rw[ha] at hg;cases hg;rcases st.new _ hk with h|h
 ·cases h
 ·dsimp only at h;omega⟩
section
variable {c k ge:Nat} {f:Nat->Nat×Nat} {N K:Nat} {M:Int} {w0 wr w':World}
theorem J1m(h:CaT c k ge f N K M w0 wr){t:Nat}(ht:t<4294967296){a:Nat}(ha:a<=65536){lb:Nat}(Dr:lb<18446744073709551616){wa ia:Option Addr}{W:List Nat}{I:List It}(wcp icp:Nat)(hW:IsU w0 wa W)(hI:IsI w0 ia I)(hw:∀y∈W,y<18446744073709551616)(hi:∀i∈I,i.Wf)(Dt:W.length<=20)(DL:I.length<=20) :
  Calls prog 107 #[.pointer (some ⟨c,0,none⟩),.agg #[.int .u32 t,.int .i64 a],.agg #[.int .u64 lb,.slice wa W.length wcp,.slice ia I.length icp]] wr fun r w'=>(∃e:Int,r=.returned (.int .i64 e))/\CaT c k ge f N K M w0 w':=by
 obtain⟨Z,fr,ok,j,hc,he,st⟩:=h;refine(Q6f ok st.sep hc ht (a:Int) (by omega) ⟨lb,W,I⟩ Dr hw wcp icp (hW.below st.fresh) (hI.below st.fresh) (by dsimp only;omega) (by dsimp only;omega)).mono ?_;intro r w' R;obtain⟨h1,h2⟩:=R.keepJ st.sep ok;exact⟨h1,h2.caT j hc he st⟩
theorem J0w(h:CaT c k ge f N K M w0 wr){t:Nat}(ht:t<4294967296){a:Nat}(ha:a<=65536)(vb vo:Int) :
  Calls prog 108 #[.pointer (some ⟨c,0,none⟩),.agg #[.int .u32 t,.int .i64 a],.agg #[.int .i64 vb,.int .i64 vo]] wr fun r w'=>(∃e:Int,r=.returned (.int .i64 e))/\CaT c k ge f N K M w0 w':=by
 obtain⟨Z,fr,ok,j,hc,he,st⟩:=h;refine(Q7k ok st.sep hc ht (a:Int) (by omega) ⟨vb,vo⟩).mono ?_;intro r w' R;obtain⟨h1,h2⟩:=R.keepJ st.sep ok;exact⟨h1,h2.caT j hc he st⟩
theorem Z8z(h:CaT c k ge f N K M w0 wr)(hM:M+256<1099511627776){t1 t2:Nat}(FB:t1<4294967296)(Gu:t2<4294967296){a1 a2:Nat}(LL:a1<=65536)(QW:a2<=65536){lb:Nat}(Dr:lb<18446744073709551616) :
  Calls prog 54 #[.pointer (some ⟨c,0,none⟩),.agg #[.int .u32 t1,.int .i64 a1],.agg #[.int .u32 t2,.int .i64 a2],.int .u64 lb] wr fun r w'=>(∃e:Int,r=.returned (.int .i64 e))/\CaT c k ge f N K (M+256) w0 w':=by
 obtain⟨Z,fr,ok,j,hc,he,st⟩:=h;refine(Q2y ok st.sep hM hc FB Gu (a1:Int) (a2:Int) (by omega) (by omega) Dr).mono ?_;intro r w' R;obtain⟨h1,h2⟩:=R.keepJ st.sep ok;exact⟨h1,h2.caT j hc he st⟩
theorem Z8A(h:CaT c k ge f N K M w0 wr){t:Nat}(ht:t<4294967296)(z off:Int)(hoff:I64 off){la:Option Addr}{L:List Nat}(lcp:Nat)(hL:IsU w0 la L)(hl:∀y∈L,y<18446744073709551616)(Ab:L.length<=200) :
  Calls prog 45 #[.pointer (some ⟨c,0,none⟩),.int .u32 t,.int .i64 z,.int .i64 off,.slice la L.length lcp] wr fun r w'=>(∃e:Int,r=.returned (.int .i64 e))/\CaT c k ge f N K M w0 w':=by
 obtain⟨Z,fr,ok,j,hc,he,st⟩:=h;refine(Q3K ok st.sep hc ht z off hoff lcp (Z6e hL st) hl (by omega)).mono ?_;intro r w' R;obtain⟨h1,h2⟩:=R.keepJ st.sep ok;exact⟨h1,h2.caT j hc he st⟩
theorem Z6f(h:CaT c k ge f N K M w0 wr)(hN:N+1<1048576)(hM:M+256<1099511627776):∃s,∀V,Below wr.heap.size wr V ->
  (Calls prog 44 #[.pointer (some ⟨c,0,none⟩)] V fun r w'=>r=.returned (.pointer (some ⟨s,0,none⟩))/\V=w') /\
  (∀(t hh:Nat) (z rr:Int),t<4294967296->hh<4294967296->Calls prog 41 #[.pointer (some ⟨s,0,none⟩),.int .u32 t,.int .i64 z,.agg #[.int .u32 hh,.int .i64 rr]] V fun r w'=>(∃e:Int,r=.returned (.int .i64 e))/\CaT c k ge f (N+1) K (M+256) w0 w'/\(∀b,wr.heap.size<=b->b<V.heap.size->w'.heap[b]?=V.heap[b]?)) /\
  (∀(t u n cap:Nat) (A:Nat->Mv) (a:Option Addr),t<4294967296->u<4294967296->n<=20->n<=cap->IsMv w0 a n A->Calls prog 39 #[.pointer (some ⟨s,0,none⟩),.int .u32 t,.int .u32 u,.slice a n cap] V fun r w'=>(∃e:Int,r=.returned (.int .i64 e))/\CaT c k ge f (N+1) K (M+256) w0 w'/\(∀b,wr.heap.size<=b->b<V.heap.size->w'.heap[b]?=V.heap[b]?)) /\
  (∀(t:Nat) (z m:Int) (b:Bool),t<4294967296->Calls prog 81 #[.pointer (some ⟨s,0,none⟩),.int .u32 t,.int .i64 z,.int .i64 m,.bool b] V fun r w'=>(∃x y:Value,r=.returned (.tuple #[x,y]))/\CaT c k ge f (N+1) K (M+256) w0 w'/\(∀b,wr.heap.size<=b->b<V.heap.size->w'.heap[b]?=V.heap[b]?)) /\
  (∀(t:Nat) (z kk m:Int),t<4294967296->Calls prog 40 #[.pointer (some ⟨s,0,none⟩),.int .u32 t,.int .i64 z,.int .u32 0,.int .i64 kk,.int .i64 m] V fun r w'=>(∃(x:Nat) (e:Int),r=.returned (.tuple #[.int .u32 x,.int .i64 e]))/\CaT c k ge f (N+1) K (M+256) w0 w'/\(∀b,wr.heap.size<=b->b<V.heap.size->w'.heap[b]?=V.heap[b]?)):=by
 obtain⟨Z,fr,ok,j,hc,he,st⟩:=h;refine⟨Z.s,fun V hV=>?_⟩;have s1:=st.sep.grown hV;have sV:=st.trans s1;have Lq:=hc.step rfl s1;have Uq:=AsideV.step he s1;have up:∀{N':Nat} {M':Int} {w':World},N'<=N+1->M'<=M+256->GoesJ Z N' K M' V w'->CaT c k ge f (N+1) K (M+256) w0 w'/\(∀b,wr.heap.size<=b->b<V.heap.size->w'.heap[b]?=V.heap[b]?):=fun h1 h2 g=>⟨(g.mono h1 (J1E _) h2).caT j Lq Uq sV,by
  obtain⟨_,_,_,_,s2⟩:=g;exact s2.keep st.sep (J1E _)⟩
 refine⟨Q2T Lq,fun t hh z rr h1 h2=>?_,fun t u n cap A a h1 h2 h3 h4 hA=>?_,fun t z m b h1=>?_,fun t z kk m h1=>?_⟩
 ·refine(Q8W s1.sep ok (by omega) h1 h2 z rr).mono ?_;rintro r w'⟨er,e,R⟩;exact⟨⟨er,e⟩,up (by omega) (by omega) (R.keepJ s1.sep ok)⟩
 ·refine(Q9d s1.sep ok (by omega) h1 h2 (by omega) h4 (Z3b hA sV)).mono ?_;rintro r w'⟨er,e,R⟩;exact⟨⟨er,e⟩,up (by omega) (by omega) (R.keepJ ok)⟩
 ·refine(Z0b s1.sep ok h1 z m b).mono ?_;intro r w' R;obtain⟨h2,h3⟩:=R.keepJ s1.sep ok;exact⟨h2,up (by omega) (by omega) h3⟩
 ·refine(Z5Z s1.sep ok hN (by omega) h1 (y:=0) (by omega) z kk m).mono ?_;rintro r w'⟨hh,er,e,R⟩;exact⟨⟨hh,er,e⟩,up (by omega) (by omega) (R.keepJ ok)⟩
end
end Go.Proofs.YtfidemmgofcnmaaGreatDoor

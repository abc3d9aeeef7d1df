/- What the laws of spaces share is proved. No condition. Part of a proof. -/
import Derived.Test.YtfidemmgofcnmaaGreatDoorAt24
set_option maxHeartbeats 8000000
set_option maxRecDepth 100000
set_option linter.unusedVariables false
namespace Go.Proofs.YtfidemmgofcnmaaGreatDoor
open Go.RowKit Go.Proofs.Tryz
def IsU(w:World)(a:Option Addr)(ws:List Nat):Prop:=∀(j y:Nat),ws[j]?=some y->∃g o,a=some ⟨g,o,none⟩/\g<w.heap.size/\w.cell? ⟨g,o+j,none⟩=some (.int .u64 y)
def IsI(w:World)(a:Option Addr)(its:List It):Prop:=∀(j:Nat) (i:It),its[j]?=some i->∃g o,a=some ⟨g,o,none⟩/\g<w.heap.size/\∀(c:Nat) (v:Value),i.cells[c]?=some v->w.cell? ⟨g,o+j*5+c,none⟩=some v
theorem IsU.below{w w':World}{a:Option Addr}{ws:List Nat}(h:IsU w a ws)(hb:Below w.heap.size w w'):IsU w' a ws:=fun j y hj=>by
 obtain⟨g,o,e,hg,hc⟩:=h j y hj;exact⟨g,o,e,J1G hg hb.size,(World.cell?_of_block (w:=w) (hb.block g hg)).trans hc⟩
theorem IsI.below{w w':World}{a:Option Addr}{its:List It}(h:IsI w a its)(hb:Below w.heap.size w w'):IsI w' a its:=fun j y hj=>by
 obtain⟨g,o,e,hg,hc⟩:=h j y hj;exact⟨g,o,e,J1G hg hb.size,fun c v hv=>(World.cell?_of_block (w:=w) (hb.block g hg)).trans (hc c v hv)⟩
def arrL(ws cs:List Nat):List Nat:=(ws++List.replicate (8-ws.length) 0)++(cs++List.replicate (2-cs.length) 0)
theorem Z8m{ws cs:List Nat}(h:ws.length<=8)(h2:cs.length<=2):(arrL ws cs).length=10:=by simp[arrL];omega
theorem Z8n{ws cs:List Nat}(h:ws.length<=8)(h2:cs.length<2)(y:Nat):(arrL ws cs).set (8+cs.length) y=arrL ws (cs++[y]):=by
 unfold arrL;have hl:(ws++List.replicate (8-ws.length) 0).length=8:=by simp;omega
 rw[J5m _ _ (by rw[hl];omega),hl,show 8+cs.length-8=cs.length by omega,J5m _ _ (J1E _),J4O];obtain⟨r,hr⟩:∃r,2-cs.length=r+1:=⟨1-cs.length,by omega⟩
 have DN:2-(cs++[y]).length=r:=by rw[J2j];simp;omega
 rw[hr,DN,J5v,J4j];simp
theorem Z5O(ws:List Nat)(its:List It):arrL ws (its.map Q1z)=Q3I ws its:=by unfold arrL Q3I;rw[J3g]
abbrev z10:List Value:=[.int .u64 0,.int .u64 0,.int .u64 0,.int .u64 0,.int .u64 0,.int .u64 0,.int .u64 0,.int .u64 0,.int .u64 0,.int .u64 0]
theorem Z5P:(prog.info? 83).map (·.size)=some 1:=by kernel_rfl
theorem Q7S{B g:Nat}{w0 w:World}(hb:Below B w0 w)(hBg:B<=g)(cs:Array Value):Below B w0 (w.setRow g cs):=
 ⟨hb.os,hb.tape,hb.output,by rw[setRow_size];exact hb.size,fun k hk=>by rw[setRow_other _ _ _ _ (by omega)];exact hb.block k hk⟩
theorem Z2S{w:World}{B:Nat}{wa:Option Addr}{ws:List Nat}(wc:Nat)(hB:Cells w B 314 z10)(h8:ws.length<=8)(hu:IsU w wa ws) :
  ∃w',(∀ty,(Builtin.copy_ #[82,82] ty #[.slice (some ⟨B,0,none⟩) 10 10,.slice wa ws.length wc]).run prog w=.ok (.int .i64 (ws.length:Int)) w')/\Cells w' B 314 ((arrL ws []).map encU)/\∀b0,b0<=B->∀w0,Below b0 w0 w->Below b0 w0 w':=by
 by_cases h0:ws.length=0
 ·obtain rfl:ws=[]:=J3w.1 h0;exact⟨w,fun ty=>run_copy_none (P:=prog) w 82 82 ty 83 (some ⟨B,0,none⟩) wa 10 10 0 wc underlying82 Z5P (by simp),hB,fun _ _ _ h=>h⟩
 ·obtain⟨g,o,rfl,_,_⟩:=hu 0 ws[0] (J3O (by omega));have k:=fun ty=>Q2a (P:=prog) w 82 82 ty 83 1 B 0 10 10 ⟨g,o,none⟩ ws.length wc ws.length z10.toArray 314 (ws.map encU) underlying82 Z5P hB (by simp[Nat.min_def];omega) (by simp) (fun j v hj=>by
   rw[J3i] at hj;cases hy:ws[j]? with
   | none=>rw[hy] at hj;cases hj
   | some y =>
    rw[hy] at hj;cases hj;obtain⟨g',o',e,_,hc⟩:=hu j y hy;cases e;have e2:(⟨g,o,none⟩:Addr).add j=⟨g,o+j,none⟩:=by unfold Addr.add;split <;> simp_all
    rw[e2];exact hc) (by simp;omega) (fun v hv=>by
   obtain⟨y,_,rfl⟩:=J1K.1 hv;rfl)
  refine⟨_,k,?_,fun b0 Bq w0 hw=>Q7S hw Bq _⟩;have e:(z10.toArray.toList.take 0++ws.map encU++z10.toArray.toList.drop (0+(ws.map encU).length))=(arrL ws []).map encU:=by
   simp only[J4X,J3H,J3g,J4b];unfold arrL;have hd:z10.toArray.toList.drop ws.length=List.replicate (10-ws.length) (encU 0):=by
    show(List.replicate 10 (encU 0)).drop ws.length=_;rw[List.drop_replicate]
   rw[hd,J4Z,J4Z,J4Z,List.map_replicate,List.map_replicate];simp only[J4d,J3H,J3W,Nat.sub_zero,J2x];rw[List.replicate_append_replicate,show 8-ws.length+2=10-ws.length by omega]
  rw[e];exact setRow_heap w B _ _ _ _ hB
def PutE(ws:List Nat)(its:List It):Prop:=8<ws.length∨2<its.length∨∃i∈its,Q1a i=false
def Z0k(Z:SP)(fr:List Nat)(N K:Nat)(M:Int)(p:Pl)(x:Msg)(w:World)(r:Ending)(w':World):Prop:=
 (PutE x.ws x.its/\r=.returned (.int .i64 1)/\Below w.heap.size w w') ∨
 (x.May/\r=.returned (.int .i64 0)/\(Z.poke (putM Z.S.P.a.mem p.at_ x)).Ok fr N K M/\Step Z.hl (Z.poke (putM Z.S.P.a.mem p.at_ x)).hl w w')
theorem Z5Q{w wr:World}{Z:SP}{fr:List Nat}{N K:Nat}{M:Int}(ok:Z.Ok fr N K M)(h:Sep w Z.hl){p:Pl}(hp:p∈Z.S.l)(hi:p.is=true)(Bf:p.kind=3){g B:Nat}(hb:BlkC Z p g w){x:Msg}(hm:x.May)(hB:Cells wr B 314 ((Q3I x.ws x.its).map encU))(hBk:w.heap.size<=B)(FJ:Below w.heap.size w wr) :
  Calls prog 57 #[.pointer (some ⟨Z.S.P.a.a,0,none⟩),.int .i64 ((p.at_+8*0:Nat):Int),.slice (some ⟨wr.heap.size,0,none⟩) 2 2] (wr.drew.alloc (.cells #[.int .u64 ((x.ws.length+16*x.its.length:Nat):Int),.int .u64 (x.label:Int)] 83)) fun r w2=>r=.returned (.int .i64 0) /\
   (w2.cell? ⟨g,0,none⟩=some (.pointer (some ⟨Z.S.P.a.a,0,none⟩))/\w2.cell? ⟨g,1,none⟩=some (.int .i64 (p.at_:Int))) /\
   Calls prog 57 #[.pointer (some ⟨Z.S.P.a.a,0,none⟩),.int .i64 ((p.at_+8*3:Nat):Int),.slice (some ⟨B,0,none⟩) 10 10] w2.drew fun r w3=>r=.returned (.int .i64 0)/\w3.cell? ⟨g,0,none⟩=some (.pointer (some ⟨Z.S.P.a.a,0,none⟩))/\Z0k Z fr N K M p x w (.returned (.int .i64 0)) w3:=by
 have h1:=h.grown FJ;have DJ:wr.heap.size∉keys Z.hl:=fun hk=>by have:=h.lt hk;have:=FJ.size;omega
 have hA:∀b∈keys Z.S.P.a.hl,b∈keys Z.hl:=fun b hk=>by
  have e:∃o,(b,o)∈Z.S.P.a.hl:=by
   obtain⟨q,hq,rfl⟩:=J1K.1 hk;exact⟨q.2,hq⟩
  obtain⟨o,ho⟩:=e;exact J1K.2 ⟨(b,o),by simp only[SP.hl,CO.hl,PL.hl,J1J,J2m];simp[ho],rfl⟩
 have b2:Below wr.heap.size wr (wr.drew.alloc (.cells #[.int .u64 ((x.ws.length+16*x.its.length:Nat):Int),.int .u64 (x.label:Int)] 83)):=(Below.refl wr.heap.size wr).drew.alloc (J1E _) _;have h2:=h1.trans (h1.sep.grown b2);have cN:=Cells.new wr.drew 83 [.int .u64 ((x.ws.length+16*x.its.length:Nat):Int),.int .u64 (x.label:Int)];have O6:x.ws.length+16*x.its.length<18446744073709551616:=by have:=hm.few;have:=hm.two;omega
 refine(Q4j ok h2.sep hp hi (.inl Bf) (o:=8*0) (by omega) (ws:=[x.ws.length+16*x.its.length,x.label]) (by rw[Bf];show 8*0+8*2<=256;omega) (fun y hy=>by
  rcases J1J.1 hy with rfl|hy
  ·exact O6
  ·rw[J3E.1 hy];exact hm.label) (some ⟨wr.heap.size,0,none⟩) 2 (fun wq hc j y hj=>by
   have cq:=cN.same (hc.block _ cN.lt (fun hk=>DJ (hA _ hk)));refine⟨_,rfl,?_⟩;rw[addp,J4b]
   match j,hj with
   | 0,hj=>cases hj;exact cq.cell 0 _ rfl
   | 1,hj=>cases hj;exact cq.cell 1 _ rfl)).mono ?_
 rintro r w2⟨rfl,ok2,st2⟩;have Ae:=AsideV.step (AsideV.step hb h2) st2;have R9:=hB.lt;have Sd:B∉keys Z.hl:=fun hk=>by have:=h.lt hk;omega
 have cB:=(hB.same (b2.block _ R9)).same (st2.chg.block _ (J1G R9 b2.size) Sd);obtain⟨g0,e0,_,_,z0⟩:=Ae 0 _ rfl;obtain⟨g1,e1,_,_,z1⟩:=Ae 1 _ rfl;cases e0;cases e1;refine⟨rfl,⟨z0,z1⟩,?_⟩;have S7:=Q9g hm.few hm.two;have k:=Q4j (Z:=Z.stored p (8*0) [x.ws.length+16*x.its.length,x.label]) ok2 st2.sep.drew hp hi (.inl Bf) (o:=8*3) (by omega) (ws:=Q3I x.ws x.its) (by rw[Bf,S7];show 8*3+8*10<=256;omega) (Z1j hm) (some ⟨B,0,none⟩) 10 (fun wq hc j y hj=>by
   have T5:B∉keys Z.S.P.a.hl:=fun hk=>Sd (hA _ hk)
   have cq:Cells wq B 314 ((Q3I x.ws x.its).map encU):=cB.same (hc.block _ cB.lt T5);refine⟨_,rfl,?_⟩;rw[addp,J4b];exact cq.cell j _ (by rw[J3i,hj];rfl))
 rw[S7] at k;refine k.mono ?_;rintro r w3⟨rfl,ok3,st3⟩;obtain⟨g3,e3,_,_,z3⟩:=AsideV.step Ae st3.from_drew 0 _ rfl;cases e3;refine⟨rfl,z3,.inr ⟨hm,rfl,ok3,?_⟩⟩;exact(h2.trans st2).trans st3.from_drew
theorem Q9j{w:World}{Z:SP}{fr:List Nat}{N K:Nat}{M:Int}(ok:Z.Ok fr N K M)(h:Sep w Z.hl){p:Pl}(hp:p∈Z.S.l)(hi:p.is=true)(Bf:p.kind=3){g:Nat}(hb:BlkC Z p g w)(x:Msg)(hx:x.label<18446744073709551616)(Gg:∀y∈x.ws,y<18446744073709551616){wa ia:Option Addr}(wc ic:Nat)(hu:IsU w wa x.ws)(Fd:IsI w ia x.its)(Dt:x.ws.length<=1048576)(DL:x.its.length<=1048576) :
  Calls prog 181 #[.pointer (some ⟨g,0,none⟩),.int .u64 (x.label:Int),.slice wa x.ws.length wc,.slice ia x.its.length ic] w (Z0k Z fr N K M p x w):=by
 obtain⟨lb,ws,its⟩:=x;dsimp only at *
 have hr:=Q0R ok.core hp hi (.inl Bf);have CV:=Q0f ok.core.inv.mem.pool;rw[Bf,show costK 3=256 from rfl] at hr;by_cases hE:8<ws.length∨2<its.length
 ·have HR:Hid (Z0k Z fr N K M p ⟨lb,ws,its⟩ w (.returned (.int .i64 1)) w):=.inl ⟨by rcases hE with h|h;exact .inl h;exact .inr (.inl h),rfl,Below.refl _ _⟩;generalize ws.length=nW at *
  generalize its.length=nI at *
  clear ok h hp hi Bf hb hu Fd hr CV;have Ib:(nW:Int)<=1048576:=by omega
  have BB:(nI:Int)<=1048576:=by omega
  by_cases h8:8<nW
  ·have hd:decide ((8:Int)<(nW:Int))=true:=decide_eq_true (by omega);have Dd:decide (8<nW)=true:=decide_eq_true h8;go_enter func181,ntmps181;go_wp2_with fail
   (try go_ret);exact HR.out
  ·have hd:decide ((8:Int)<(nW:Int))=false:=decide_eq_false (by omega);have Dd:decide (8<nW)=false:=decide_eq_false h8;have Gh:decide ((2:Int)<(nI:Int))=true:=decide_eq_true (by omega);have Je:decide (2<nI)=true:=decide_eq_true (by omega);go_enter func181,ntmps181;go_wp2_with fail
   (try go_ret);exact HR.out
 ·have h8:ws.length<=8:=by omega
  have h2:its.length<=2:=by omega
  have b1:Below w.heap.size w (w.alloc (.cells z10.toArray 314)):=(Below.refl _ _).alloc (J1E _) _;obtain⟨V1,ER,Lq,Ql⟩:=Z2S wc (Cells.new w 314 z10) h8 (hu.below b1);have St:=Q0a (Ql w.heap.size (J1E _) w b1);have RU:=Q0a Lq;have Ru:Hid (∀V,Below w.heap.size w V->IsI V ia its):=fun V hV=>Fd.below hV
  have AU:Hid (∀wr,Below w.heap.size w wr->Cells wr w.heap.size 314 ((arrL ws (its.map Q1z)).map encU)->(∀i∈its,Q1a i=true) ->
    ((wr.cell? ⟨g,0,none⟩=some (.pointer (some ⟨Z.S.P.a.a,0,none⟩))/\wr.cell? ⟨g,1,none⟩=some (.int .i64 (p.at_:Int)))/\∀o j,(wr.drew.alloc o).cell? ⟨g,j,none⟩=wr.cell? ⟨g,j,none⟩) /\
    Calls prog 57 #[.pointer (some ⟨Z.S.P.a.a,0,none⟩),.int .i64 ((p.at_+8*0:Nat):Int),.slice (some ⟨wr.heap.size,0,none⟩) 2 2] (wr.drew.alloc (.cells #[.int .u64 ((ws.length+16*its.length:Nat):Int),.int .u64 lb] 83)) fun r w2=>r=.returned (.int .i64 0) /\
     (w2.cell? ⟨g,0,none⟩=some (.pointer (some ⟨Z.S.P.a.a,0,none⟩))/\w2.cell? ⟨g,1,none⟩=some (.int .i64 (p.at_:Int))) /\
     Calls prog 57 #[.pointer (some ⟨Z.S.P.a.a,0,none⟩),.int .i64 ((p.at_+8*3:Nat):Int),.slice (some ⟨w.heap.size,0,none⟩) 10 10] w2.drew fun r w3=>r=.returned (.int .i64 0)/\w3.cell? ⟨g,0,none⟩=some (.pointer (some ⟨Z.S.P.a.a,0,none⟩))/\Z0k Z fr N K M p ⟨lb,ws,its⟩ w (.returned (.int .i64 0)) w3):=fun wr FJ hc A4=>by
   have Bi:=AsideV.step hb (h.grown FJ);obtain⟨g0,e0,_,l0,z0⟩:=Bi 0 _ rfl;obtain⟨g1,e1,_,_,z1⟩:=Bi 1 _ rfl;cases e0;cases e1;rw[Z5O] at hc;exact⟨⟨⟨z0,z1⟩,fun o j=>World.cell?_of_block (w:=wr) (((Below.refl wr.heap.size wr).drew.alloc (J1E _) o).block _ l0)⟩,Z5Q ok h hp hi Bf hb (x:=⟨lb,ws,its⟩) ⟨hx,Gg,A4,h8,h2⟩ hc (J1E _) FJ⟩
  have CB:Hid (∀wr,Below w.heap.size w wr->(∃i∈its,Q1a i=false)->Z0k Z fr N K M p ⟨lb,ws,its⟩ w (.returned (.int .i64 1)) wr):=fun wr FJ he=>.inl ⟨.inr (.inr he),rfl,FJ⟩
  have Qt:Hid (∀(V:World),V.cell? ⟨g,1,none⟩=some (.int .i64 (p.at_:Int))->(Calls prog 217 #[.pointer (some ⟨g,0,none⟩),.int .i64 0] V fun r w'=>r=.returned (.int .i64 ((p.at_+8*0:Nat):Int))/\V=w')/\(Calls prog 217 #[.pointer (some ⟨g,0,none⟩),.int .i64 3] V fun r w'=>r=.returned (.int .i64 ((p.at_+8*3:Nat):Int))/\V=w')):=fun V hV=>⟨Q3k hV (by omega) 0 (by omega),Q3k hV (by omega) 3 (by omega)⟩
  generalize Z0k Z fr N K M p ⟨lb,ws,its⟩ w=Q at *
  generalize Z.S.P.a.a=aa at *
  generalize (p.at_+8*0:Nat)=y0 at *
  generalize (p.at_+8*3:Nat)=y3 at *
  generalize p.at_=pa at *
  have P8:Hid (its.length<=2/\ws.length<=8):=⟨h2,h8⟩
  obtain⟨nI,Ik⟩:∃n,n=its.length:=⟨_,rfl⟩
  have GN:=Q0a Ik;rw[<- Ik] at h2 AU DL;rw[<- Ik];obtain⟨nW,Nr⟩:∃n,n=ws.length:=⟨_,rfl⟩
  have SH:=Q0a Nr;rw[<- Nr] at h8 AU ER Dt P8;rw[<- Nr];clear ok h hp hi Bf hb hu Fd hr CV Nr b1 Lq Ql Ik hE;have Ib:(nW:Int)<=8:=by omega
  have BB:(nI:Int)<=2:=by omega
  have hd:decide ((8:Int)<(nW:Int))=false:=decide_eq_false (by omega);have Dd:decide (8<nW)=false:=decide_eq_false (by omega);have Gh:decide ((2:Int)<(nI:Int))=false:=decide_eq_false (by omega);have Je:decide (2<nI)=false:=decide_eq_false (by omega);have OQ:=ER 3;clear ER;go_enter func181,ntmps181;go_wp2_with fail;clear OQ hd Dd Gh Je
  go_loopg [31] nI (fun gk iv wr=>∃(k:Nat),iv=.int .i64 k/\k+gk=nI/\Below w.heap.size w wr/\Cells wr w.heap.size 314 ((arrL ws ((its.take k).map Q1z)).map encU)/\∀i∈its.take k,Q1a i=true)
  case atStart=>exact⟨0,rfl,by omega,St.out,by simpa using RU.out,by simp⟩
  case round =>
   clear RU St;obtain⟨k,rfl,BL,Bi,KY,A4⟩:=hrel;have CW:=Q0a BL;have Cx:=Q0a A4;have MC:=Q0a KY;have BZ:=Q0a Bi;clear BL A4;by_cases Aa:k<nI
   ·obtain⟨i,Fg⟩:∃i,its[k]?=some i:=⟨_,J3O (by rw[<- GN.out];exact Aa)⟩
    obtain⟨g',o',rfl,Fu,Bj⟩:=Ru.out wr Bi k i Fg;have i0:wr.cell? ⟨g',o'+k*5,none⟩=some (.int .i64 i.base):=Bj 0 _ rfl;have i1:wr.cell? ⟨g',o'+k*5+1,none⟩=some (.int .i64 i.order):=Bj 1 _ rfl;have i2:wr.cell? ⟨g',o'+k*5+2,none⟩=some (.int .i64 i.r):=Bj 2 _ rfl;have i3:wr.cell? ⟨g',o'+k*5+3,none⟩=some (.int .i64 i.off):=Bj 3 _ rfl;have i4:wr.cell? ⟨g',o'+k*5+4,none⟩=some (.bool i.g):=Bj 4 _ rfl;have Cq:(k:Int)<(nI:Int):=by omega
    have B4:(0:Int)<=(k:Int):=by omega
    have kc:=Q9f (wr.alloc (.cells #[.int .i64 i.base,.int .i64 i.order,.int .i64 i.r,.int .i64 i.off,.bool i.g] 63)) i;have HI:=Q0a Fg;have CT:=Q0a Aa;have b4:=Bi.alloc Bi.size (.cells #[.int .i64 i.base,.int .i64 i.order,.int .i64 i.r,.int .i64 i.off,.bool i.g] 63);have Ak:=Q0a b4;have Be:(wr.alloc (.cells #[.int .i64 i.base,.int .i64 i.order,.int .i64 i.r,.int .i64 i.off,.bool i.g] 63)).heap.size=wr.heap.size+1:=by simp
    rw[Be] at kc;clear Bj Fg Bi KY b4 Be;have Av:k=0∨k=1:=by omega
    clear Aa;obtain⟨cv,B5⟩:∃b,b=Q1a i:=⟨_,rfl⟩
    have S4:=Q0a B5;rw[<- B5] at kc;clear B5;go_wp2_with fail;refine kc.mono ?_;rintro r w5⟨y,rfl,Au,hy⟩;have HY:=Q0a hy;have B6:=Q0a (Ak.out.trans (Au.mono (by have:=Ak.out.size;simpa using this)));have EL:Hid (Cells w5 w.heap.size 314 ((arrL ws ((its.take k).map Q1z)).map encU)):=(MC.out.alloc _).same (Au.block _ (J1G MC.out.lt (J5J _)));clear Au hy kc i0 i1 i2 i3 i4 MC;cases cv with
    | false =>
     have HQ:=Q0a (CB.out w5 B6.out ⟨i,J3L HI.out,S4.out.symm⟩);clear CB AU HY EL;go_wp2_with fail
     (try go_ret);exact HQ.out
    | true =>
     obtain rfl:=HY.out rfl;have Wd:=EL.out.free 8;have Wa:=EL.out.free 9;have Ev:=EL.out.lt;have Bo:(arrL ws ((its.take k).map Q1z)).length=10:=Z8m (by rw[<- SH.out];exact P8.out.2) (by rw[J3g,J3Q];omega);obtain⟨v8,Wh⟩:∃v,w5.cell? ⟨w.heap.size,8,none⟩=some v:=⟨_,EL.out.cell 8 _ (J3O (by rw[J3g,Bo];omega))⟩
     obtain⟨v9,VM⟩:∃v,w5.cell? ⟨w.heap.size,9,none⟩=some v:=⟨_,EL.out.cell 9 _ (J3O (by rw[J3g,Bo];omega))⟩
     have HR:Hid (Below w.heap.size w (w5.setCell ⟨w.heap.size,8+k,none⟩ (.int .u64 (Q1z i:Int)))/\Cells (w5.setCell ⟨w.heap.size,8+k,none⟩ (.int .u64 (Q1z i:Int))) w.heap.size 314 ((arrL ws ((its.take (k+1)).map Q1z)).map encU)/\∀i∈its.take (k+1),Q1a i=true):=by
      have Bh:its.take (k+1)=its.take k++[i]:=by rw[J3t,HI.out];rfl
      have Ns:((its.take k).map Q1z).length=k:=by rw[J3g,J3Q];have:=CT.out;have:=GN.out;omega
      refine⟨B6.out.setCell (J1E _) _,?_,?_⟩
      ·have:=EL.out.set (8+k) (.int .u64 (Q1z i:Int));have e2:=Z8n (ws:=ws) (cs:=(its.take k).map Q1z) (by rw[<- SH.out];exact P8.out.2) (by rw[Ns];omega) (Q1z i);rw[Ns] at e2;rw[Bh,J4Z,List.map_singleton,<- e2,J4e];exact this
      ·rw[Bh];intro j hj;rcases J2m.1 hj with hj|hj
       ·exact Cx.out j hj
       ·rw[J3E.1 hj];exact S4.out.symm
     clear CB AU HY EL B6 Bo;rcases Av with rfl|rfl
     ·go_wp2_with fail;go_roundg (nI-1)
      case measure=>have:=CT.out;have:=CW.out;omega
      case rel=>exact⟨1,by go_num,by have:=CT.out;omega,HR.out⟩
     ·go_wp2_with fail;go_roundg (nI-2)
      case measure=>have:=CT.out;have:=CW.out;omega
      case rel=>exact⟨2,by go_num,by have:=CT.out;omega,HR.out⟩
   ·obtain rfl:k=nI:=by have:=CW.out;omega
    have Bh:its.take k=its:=J3v (by rw[<- GN.out];exact J1E _);have Kk:=MC.out;have JX:=Cx.out;rw[Bh] at Kk JX;obtain⟨⟨⟨c0,c1⟩,Bo⟩,ks⟩:=AU.out wr BZ.out Kk JX;have d0:wr.drew.cell? ⟨g,0,none⟩=some (.pointer (some ⟨aa,0,none⟩)):=c0;have d1:wr.drew.cell? ⟨g,1,none⟩=some (.int .i64 pa):=c1;obtain⟨s16,Kt⟩:∃n,n=16*k:=⟨_,rfl⟩
    obtain⟨hh,OG⟩:∃n,n=nW+16*k:=⟨_,rfl⟩
    rw[<- OG] at ks;have hv:(hh:Int)=IntKind.u64.wrap (bits BinOp.or IntKind.i64 (nW:Int) (IntKind.i64.wrap ((k:Int)*16))):=by
     have f1:IntKind.i64.wrap ((k:Int)*16)=(s16:Int):=by rw[Kt,Go.IntWalk.i64_in _ (by omega)];omega
     have f2:bits BinOp.or IntKind.i64 (nW:Int) (s16:Int)=(hh:Int):=by
      rw[Q2h _ _ (by omega) (by omega),OG,Kt];have:=Z0g nW k 4 (by omega);rw[show 16*k=k*2 ^ 4 by omega,this]
     rw[f1,f2,Go.IntWalk.u64_in _ (by omega)]
    rw[hv] at ks;have RJ:=Q0a ks;have Qs:=Q0a Bo;clear CB AU KY Bi Kk JX Cx MC Bh ks Kt OG hv Bo Ru BZ;go_upto_region 13 with fail
    go_region_held3 (fun V=>V.cell? ⟨g,0,none⟩=some (.pointer (some ⟨aa,0,none⟩))) (first|exact c0|exact d0|exact z0|exact(Qs.out _ 0).trans c0) (first|(go_at_call 217;first|(refine(Qt.out _ d1).1.mono ?_;rintro r w'⟨rfl,rfl⟩)|(refine(Qt.out _ ((Qs.out _ 1).trans c1)).1.mono ?_;rintro r w'⟨rfl,rfl⟩))|(go_at_call 57;refine RJ.out.mono ?_;rintro r w2⟨rfl,⟨z0,z1⟩,hq⟩;have HQ:=Q0a hq;clear hq))
    all_goals
     have y0':w2.drew.cell? ⟨g,0,none⟩=some (.pointer (some ⟨aa,0,none⟩)):=z0;have y1':w2.drew.cell? ⟨g,1,none⟩=some (.int .i64 pa):=z1;clear c0 c1 d0 d1 RJ Qs;go_wp2_with fail
     go_region_held3 (fun V=>V.cell? ⟨g,0,none⟩=some (.pointer (some ⟨aa,0,none⟩))) (first|exact z0|exact y0'|exact z3) (first|(go_at_call 217;refine(Qt.out _ y1').2.mono ?_;rintro r w'⟨rfl,rfl⟩)|(go_at_call 57;refine HQ.out.mono ?_;rintro r w3⟨rfl,z3,hq⟩;have HR:=Q0a hq;clear hq))
     all_goals
      go_wp2_with fail
      (try go_ret2);exact HR.out
theorem Q9k{w:World}{Z:SP}{fr:List Nat}{N K:Nat}{M:Int}(ok:Z.Ok fr N K M)(h:Sep w Z.hl){p:Pl}(hp:p∈Z.S.l)(hi:p.is=true)(Bf:p.kind=3){g:Nat}(hb:BlkC Z p g w) :
  Calls prog 117 #[.pointer (some ⟨g,0,none⟩)] w (Told w (.agg #[.int .i64 (winV Z.S.P.a.mem p.at_).base,.int .i64 (winV Z.S.P.a.mem p.at_).order])):=by
 have hx:=Q7R ok.core.inv.mem.pool.bytes (p.at_+8*2);have b1:Below w.heap.size w (w.alloc (.cells #[.int .i64 0,.int .i64 0] 65)):=(Below.refl _ _).alloc (J1E _) _;have kl:=Q7h ok (h.grown b1).sep hp hi Bf (AsideV.step hb (h.grown b1)) 2 (by omega);unfold winV;have Gb:Q0o Z.S.P.a.mem p.at_ 2<18446744073709551616:=hx;generalize Q0o Z.S.P.a.mem p.at_ 2=x at *
 have Hl:∀d:Nat,x/d<18446744073709551616:=fun d=>J2J (J3d _ _) Gb
 have e1:=Q2U x 255 8 Gb rfl (by omega);have e2:=Q2U (x/256) 15 4 (Hl _) rfl (by omega);rw[show(2:Nat) ^ 8=256 from rfl] at e1;rw[show(2:Nat) ^ 4=16 from rfl,J3r] at e2;obtain⟨b,Ar⟩:∃b:Nat,b=x%256:=⟨_,rfl⟩
 obtain⟨o,ho⟩:∃b:Nat,b=x/256%16:=⟨_,rfl⟩
 obtain⟨q,hq⟩:∃b:Nat,b=x/4096:=⟨_,rfl⟩
 rw[<- Ar] at e1;rw[<- ho] at e2;rw[<- Ar,<- ho,<- hq];have d1:bits BinOp.and IntKind.u64 (x:Int) 255=(b:Int):=e1;have d2:bits BinOp.and IntKind.u64 ((x:Int)/256) 15=(o:Int):=e2;have d3:(x:Int)/4096=(q:Int):=by rw[hq];omega
 have w1:wrap64 (b:Int)=(b:Int):=Go.IntWalk.wrap64_in _ (by omega);have w2:wrap64 (o:Int)=(o:Int):=Go.IntWalk.wrap64_in _ (by omega);have c1:=Cells.new w 65 [.int .i64 0,.int .i64 0];have Eg:Hid (∀V,Calls prog 95 #[.agg #[.int .i64 b,.int .i64 o]] V (Told V (.bool (Q0w (b:Int) (o:Int))))):=fun V=>Z0f V ⟨(b:Int),(o:Int)⟩
 have HZ:Hid (∀w3,Below ((w.alloc (.cells #[.int .i64 0,.int .i64 0] 65)).alloc (.cells #[.int .i64 b,.int .i64 o] 65)).heap.size ((w.alloc (.cells #[.int .i64 0,.int .i64 0] 65)).alloc (.cells #[.int .i64 b,.int .i64 o] 65)) w3 ->
   Cells w3 w.heap.size 65 [.int .i64 0,.int .i64 0]/\Cells w3 (w.heap.size+1) 65 [.int .i64 b,.int .i64 o]/\∀v0 v1,Below w.heap.size w ((w3.setCell ⟨w.heap.size,0,none⟩ v0).setCell ⟨w.heap.size,1,none⟩ v1)):=fun w3 An=>by
  have c2:=Cells.new (w.alloc (.cells #[.int .i64 0,.int .i64 0] 65)) 65 [.int .i64 b,.int .i64 o];have hz:(w.alloc (.cells #[.int .i64 0,.int .i64 0] 65)).heap.size=w.heap.size+1:=by simp
  rw[hz] at c2;have c3:=c1.alloc (.cells #[.int .i64 b,.int .i64 o] 65);exact⟨c3.same (An.block _ c3.lt),c2.same (An.block _ c2.lt),fun v0 v1=>((Q0b (Q0b An)).setCell (J1E _) _).setCell (J1E _) _⟩
 have CX:Hid (Below w.heap.size w ((w.alloc (.cells #[.int .i64 0,.int .i64 0] 65)).alloc (.cells #[.int .i64 b,.int .i64 o] 65))):=b1.alloc b1.size _;generalize Bo:Q0w (b:Int) (o:Int)=al at *
 clear ok h hp hi Bf hb hx Gb Hl e1 e2 Ar ho hq b1 c1 Bo;have HV:Hid (∀r w',(q=0->al=true->r=.returned (.agg #[.int .i64 b,.int .i64 o]))->(¬(q=0/\al=true)->r=.returned (.agg #[.int .i64 0,.int .i64 0]))->Below w.heap.size w w'->Told w (.agg #[.int .i64 (if q=0/\al=true then(⟨(b:Int),(o:Int)⟩:Wi) else⟨0,0⟩).base,.int .i64 (if q=0/\al=true then(⟨(b:Int),(o:Int)⟩:Wi) else⟨0,0⟩).order]) r w'):=fun r w' h1 h2 hb=>by
  by_cases hc:q=0/\al=true
  ·rw[if_pos hc];exact⟨h1 hc.1 hc.2,hb⟩
  ·rw[if_neg hc];exact⟨h2 hc,hb⟩
 generalize Told w (.agg #[.int .i64 (if q=0/\al=true then(⟨(b:Int),(o:Int)⟩:Wi) else⟨0,0⟩).base,.int .i64 (if q=0/\al=true then(⟨(b:Int),(o:Int)⟩:Wi) else⟨0,0⟩).order])=Q at *
 by_cases h0:q=0
 case neg =>
  have Ac:((q:Int) != 0)=true:=by simp;omega
  obtain⟨k1,k2,G9⟩:=HZ.out _ (Below.refl _ _);have HR:=Q0a (HV.out _ _ (fun h=>(h0 h).elim) (fun _=>rfl) CX.out.drew);have f0:=k1.free 0;have f1:=k1.free 1;have g0:=k1.cell 0 _ rfl;have g1:=k1.cell 1 _ rfl;have Aa:=k1.lt;clear HZ HV k1 k2 G9 Eg;go_enter func117,ntmps117;go_wp2_with (first|(go_at_call 184;refine kl.mono ?_;rintro r w'⟨rfl,rfl⟩));refine bodyPost_ret (v:=.agg #[.int .i64 0,.int .i64 0]) (by simp[results,results117,go_sem,g0,g1]) rfl HR.out
 case pos =>
  subst h0;have Ac:(((0:Nat):Int) != 0)=false:=by simp
  go_enter func117,ntmps117;go_wp2_with (first|(go_at_call 184;refine kl.mono ?_;rintro r w'⟨rfl,rfl⟩)|fail);refine(Eg.out _).mono ?_;rintro r w5⟨rfl,Au⟩;obtain⟨k1,k2,G9⟩:=HZ.out w5 ((Below.refl _ _).drew.trans (Au.mono (J1E _)));have f0:=k1.free 0;have f1:=k1.free 1;have g0:=k1.cell 0 _ rfl;have g1:=k1.cell 1 _ rfl;have j0:=k2.cell 0 _ rfl;have j1:=k2.cell 1 _ rfl;have Aa:=k1.lt;have HB:=Q0a G9;clear HZ k1 k2 G9 Eg Au kl;cases al with
  | false =>
   have HR:=Q0a (HV.out _ _ (fun _ h=>by cases h) (fun _=>rfl) (HB.out (.int .i64 0) (.int .i64 0)));clear HV;go_wp2_with fail;refine bodyPost_ret (v:=.agg #[.int .i64 0,.int .i64 0]) (by simp[results,results117,go_sem,g0,g1]) rfl HR.out
  | true =>
   have HR:=Q0a (HV.out _ _ (fun _ _=>rfl) (fun h=>(h (by simp)).elim) (HB.out (.int .i64 b) (.int .i64 o)));clear HV;go_wp2_with fail;refine bodyPost_ret (v:=.agg #[.int .i64 b,.int .i64 o]) (by simp[results,results117,go_sem,g0,g1]) rfl HR.out
def OpnR(Z:SP)(fr:List Nat)(N K:Nat)(M:Int)(p:Pl)(v:Wi)(w:World)(r:Ending)(w':World):Prop:=
 (Q0w v.base v.order=false/\r=.returned (.int .i64 1)/\Below w.heap.size w w') ∨
 (Q0w v.base v.order=true/\r=.returned (.int .i64 0)/\(Z.poke (Q4X Z.S.P.a.mem p.at_ v)).Ok fr N K M/\Step Z.hl (Z.poke (Q4X Z.S.P.a.mem p.at_ v)).hl w w')
theorem Z2T{w:World}{Z:SP}{fr:List Nat}{N K:Nat}{M:Int}(ok:Z.Ok fr N K M)(h:Sep w Z.hl){p:Pl}(hp:p∈Z.S.l)(hi:p.is=true)(Bf:p.kind=3){g:Nat}(hb:BlkC Z p g w)(v:Wi) :
  Calls prog 182 #[.pointer (some ⟨g,0,none⟩),.agg #[.int .i64 v.base,.int .i64 v.order]] w (OpnR Z fr N K M p v w):=by
 obtain⟨vb,vo⟩:=v;have b1:Below w.heap.size w (w.alloc (.cells #[.int .i64 vb,.int .i64 vo] 65)):=(Below.refl _ _).alloc (J1E _) _;have km:=Z0f (w.alloc (.cells #[.int .i64 vb,.int .i64 vo] 65)) ⟨vb,vo⟩;have cw:=Cells.new w 65 [.int .i64 vb,.int .i64 vo];dsimp only at km;cases Bo:Q0w vb vo with
 | false =>
  rw[Bo] at km;have HR:Hid (∀w',Below (w.alloc (.cells #[.int .i64 vb,.int .i64 vo] 65)).heap.size (w.alloc (.cells #[.int .i64 vb,.int .i64 vo] 65)) w'->OpnR Z fr N K M p ⟨vb,vo⟩ w (.returned (.int .i64 1)) w'):=fun w' hw=>.inl ⟨Bo,rfl,Q0b hw⟩
  clear ok h hp hi Bf hb Bo b1 cw;go_enter func182,ntmps182;go_wp2_with fail;refine km.mono ?_;rintro r w2⟨rfl,Ae⟩;have HQ:=Q0a (HR.out _ Ae);clear Ae km HR;go_wp2_with fail
  (try go_ret);exact HQ.out
 | true =>
  rw[Bo] at km;obtain⟨h1,h2,h3,h4⟩:=Q1N Bo;obtain⟨bn,rfl⟩:=J3b h1;obtain⟨on,rfl⟩:=J3b h3;have hr:=Q0R ok.core hp hi (.inl Bf);rw[Bf,show costK 3=256 from rfl] at hr;have CV:=Q0f ok.core.inv.mem.pool;obtain⟨xx,Jz⟩:∃n,n=bn+256*on:=⟨_,rfl⟩
  have HF:Hid (∀w2,Below (w.alloc (.cells #[.int .i64 bn,.int .i64 on] 65)).heap.size (w.alloc (.cells #[.int .i64 bn,.int .i64 on] 65)) w2 ->
    (w2.cell? ⟨g,0,none⟩=some (.pointer (some ⟨Z.S.P.a.a,0,none⟩))/\w2.cell? ⟨g,1,none⟩=some (.int .i64 (p.at_:Int))/\w2.cell? ⟨w.heap.size,0,none⟩=some (.int .i64 bn)/\w2.cell? ⟨w.heap.size,1,none⟩=some (.int .i64 on)) /\
    (∀V:World,V.cell? ⟨g,1,none⟩=some (.int .i64 (p.at_:Int))->Calls prog 217 #[.pointer (some ⟨g,0,none⟩),.int .i64 2] V fun r w'=>r=.returned (.int .i64 ((p.at_+8*2:Nat):Int))/\V=w') /\
    (∀o j,(w2.drew.alloc o).cell? ⟨g,j,none⟩=w2.cell? ⟨g,j,none⟩)/\(∀o j,(w2.drew.alloc o).cell? ⟨w.heap.size,j,none⟩=w2.cell? ⟨w.heap.size,j,none⟩) /\
    Calls prog 57 #[.pointer (some ⟨Z.S.P.a.a,0,none⟩),.int .i64 ((p.at_+8*2:Nat):Int),.slice (some ⟨w2.heap.size,0,none⟩) 1 1] (w2.drew.alloc (.cells #[.int .u64 xx] 83)) fun r w3=>r=.returned (.int .i64 0)/\(w3.cell? ⟨g,0,none⟩=some (.pointer (some ⟨Z.S.P.a.a,0,none⟩))/\w3.cell? ⟨w.heap.size,0,none⟩=some (.int .i64 bn)/\w3.cell? ⟨w.heap.size,1,none⟩=some (.int .i64 on))/\OpnR Z fr N K M p ⟨(bn:Int),(on:Int)⟩ w (.returned (.int .i64 0)) w3):=fun w2 Ej=>by
   have Ae:=Q0b Ej;have g2:=h.grown Ae;have AK:=AsideV.step hb g2;obtain⟨g0,e0,_,l0,z0⟩:=AK 0 _ rfl;obtain⟨g1,e1,_,_,z1⟩:=AK 1 _ rfl;cases e0;cases e1;have Lj:=cw.same (Ej.block _ cw.lt);have DJ:w2.heap.size∉keys Z.S.P.a.hl:=Q4e (SP.sA g2.sep);have b3:Below w2.heap.size w2 (w2.drew.alloc (.cells #[.int .u64 xx] 83)):=(Below.refl w2.heap.size w2).drew.alloc (J1E _) _;have cN:=Cells.new w2.drew 83 [.int .u64 xx];refine⟨⟨z0,z1,Lj.cell 0 _ rfl,Lj.cell 1 _ rfl⟩,fun V hV=>Q3k hV (by omega) 2 (by omega),fun o j=>World.cell?_of_block (w:=w2) (((Below.refl w2.heap.size w2).drew.alloc (J1E _) o).block _ l0),fun o j=>World.cell?_of_block (w:=w2) (((Below.refl w2.heap.size w2).drew.alloc (J1E _) o).block _ Lj.lt),?_⟩
   refine(Q4j ok (g2.trans (g2.sep.grown b3)).sep hp hi (.inl Bf) (o:=8*2) (by omega) (ws:=[xx]) (by rw[Bf];show 8*2+8*1<=256;omega) (fun y hy=>by rw[J3E.1 hy];omega) (some ⟨w2.heap.size,0,none⟩) 1 (fun wq hc j y hj=>by
    have cq:=cN.same (hc.block _ cN.lt DJ);refine⟨_,rfl,?_⟩;rw[addp,J4b]
    match j,hj with
    | 0,hj=>cases hj;exact cq.cell 0 _ rfl)).mono ?_
   rintro r w3⟨rfl,ok3,st3⟩;obtain⟨g3,e3,_,_,z3⟩:=AsideV.step (AsideV.step AK (g2.sep.grown b3)) st3 0 _ rfl;cases e3;have Mt:w.heap.size∉keys Z.hl:=Q4e h;have Sy:=(Lj.same (b3.block _ Lj.lt)).same (st3.chg.block _ (J1G Lj.lt b3.size) Mt);refine⟨rfl,⟨z3,Sy.cell 0 _ rfl,Sy.cell 1 _ rfl⟩,.inr ⟨Bo,rfl,?_⟩⟩;have em:Z.poke (Q4X Z.S.P.a.mem p.at_ ⟨(bn:Int),(on:Int)⟩)=Z.stored p (8*2) [xx]:=by
    unfold Q4X SP.stored;rw[Jz,J2C,J2C]
   rw[em];exact⟨ok3,(g2.trans (g2.sep.grown b3)).trans st3⟩
  have hv:(xx:Int)=IntKind.u64.wrap (bits BinOp.or IntKind.i64 (bn:Int) (IntKind.i64.wrap ((on:Int)*256))):=by
   have f1:IntKind.i64.wrap ((on:Int)*256)=((256*on:Nat):Int):=by rw[Go.IntWalk.i64_in _ (by omega)];omega
   have f2:bits BinOp.or IntKind.i64 (bn:Int) ((256*on:Nat):Int)=(xx:Int):=by
    rw[Q2h _ _ (by omega) (by omega),Jz];have:=Z0g bn on 8 (by omega);rw[show 256*on=on*2 ^ 8 by omega,this]
   rw[f1,f2,Go.IntWalk.u64_in _ (by omega)]
  rw[hv] at HF;generalize (p.at_+8*2:Nat)=y2 at *
  generalize OpnR Z fr N K M p ⟨(bn:Int),(on:Int)⟩ w=Q at *
  generalize Z.S.P.a.a=aa at *
  generalize p.at_=pa at *
  clear ok h hp hi Bf hb Bo b1 cw h1 h2 h3 h4 hr CV Jz hv;go_enter func182,ntmps182;go_wp2_with fail;refine km.mono ?_;rintro r w2⟨rfl,Ae⟩;obtain⟨⟨c0,c1,v0,v1⟩,kw,q1,q2,ks⟩:=HF.out w2 Ae;have d0:w2.drew.cell? ⟨g,0,none⟩=some (.pointer (some ⟨aa,0,none⟩)):=c0;have d1:w2.drew.cell? ⟨g,1,none⟩=some (.int .i64 pa):=c1;have u0:w2.drew.cell? ⟨w.heap.size,0,none⟩=some (.int .i64 bn):=v0;have u1:w2.drew.cell? ⟨w.heap.size,1,none⟩=some (.int .i64 on):=v1;have KW:=Q0a kw;have KS:=Q0a ks;have Q1:=Q0a q1;have Q2:=Q0a q2;clear km Ae HF kw ks q1 q2;go_upto_region 3 with fail
  go_region_held3 (fun V=>V.cell? ⟨g,0,none⟩=some (.pointer (some ⟨aa,0,none⟩))/\V.cell? ⟨w.heap.size,0,none⟩=some (.int .i64 bn)/\V.cell? ⟨w.heap.size,1,none⟩=some (.int .i64 on)) (first|exact⟨c0,v0,v1⟩|exact⟨d0,u0,u1⟩|exact z3|exact⟨(Q1.out _ 0).trans c0,(Q2.out _ 0).trans v0,(Q2.out _ 1).trans v1⟩) (first|(go_at_call 217;first|(refine(KW.out _ d1).mono ?_;rintro r w'⟨rfl,rfl⟩)|(refine(KW.out _ ((Q1.out _ 1).trans c1)).mono ?_;rintro r w'⟨rfl,rfl⟩))|(go_at_call 57;refine KS.out.mono ?_;rintro r w3⟨rfl,z3,hq⟩;have HQ:=Q0a hq;clear hq))
  all_goals
   go_wp2_with fail
   (try go_ret);exact HQ.out
theorem Z5R{w w':World}{rw_:RV}{ws:List Nat}{R:HL}(h:rvOk rw_ ws.length)(st:Step [] (rowH rw_ 83 1 (ws.map encU)++R) w w'):∃a cap,lvOf rw_ ws.length=.slice a ws.length cap/\IsU w' a ws:=by
 cases rw_ with
 | none =>
  have h0:ws.length=0:=h;obtain rfl:ws=[]:=J3w.1 h0;exact⟨none,0,rfl,fun j y hj=>by simp at hj⟩
 | some q =>
  obtain⟨g,cap⟩:=q;refine⟨some ⟨g,0,none⟩,cap,rfl,fun j y hj=>⟨g,0,rfl,st.sep.lt (by simp[rowH]),?_⟩⟩;rw[J4b];exact Q0x st.sep.left j _ (by rw[J3i,hj];rfl)
theorem Z5S{w w':World}{ri:RV}{its:List It}{R:HL}(h:rvOk ri its.length)(st:Step [] (R++rowH ri 63 5 (its.flatMap It.cells)) w w'):∃a cap,lvOf ri its.length=.slice a its.length cap/\IsI w' a its:=by
 cases ri with
 | none =>
  have h0:its.length=0:=h;obtain rfl:its=[]:=J3w.1 h0;exact⟨none,0,rfl,fun j y hj=>by simp at hj⟩
 | some q =>
  obtain⟨g,cap⟩:=q;refine⟨some ⟨g,0,none⟩,cap,rfl,fun j y hj=>⟨g,0,rfl,st.sep.lt (by simp[rowH]),fun c v hv=>?_⟩⟩;rw[J4b];exact Q0x st.sep.right (j*5+c) _ (Q7e its j c y v hj hv)
theorem Q7T{m:List Nat}(hm:∀b∈m,b<256)(p:Nat):(msgV m p).ws.length<=8/\∀y∈(msgV m p).ws,y<18446744073709551616:=by
 unfold msgV;split
 ·exact⟨by simp[Msg.none],by simp[Msg.none]⟩
 ·rename_i hc;split
  ·refine⟨by simp;omega,fun y hy=>?_⟩;obtain⟨i,_,rfl⟩:=J1K.1 hy;exact Q7R hm _
  ·exact⟨by simp[Msg.none],by simp[Msg.none]⟩
theorem J1j(w:World)(l:Int)(a xa:Option Addr)(n c xn xc:Nat):Sem.run prog (Instr.field 100 (.agg #[.int .u64 l,.slice a n c,.slice xa xn xc]) 1) w=.ok (.slice a n c) w:=by kernel_rfl
theorem J0o(w:World)(l:Int)(a xa:Option Addr)(n c xn xc:Nat):Sem.run prog (Instr.field 100 (.agg #[.int .u64 l,.slice a n c,.slice xa xn xc]) 2) w=.ok (.slice xa xn xc) w:=by kernel_rfl
theorem Z2U{w:World}{Z:SP}{fr:List Nat}{N K:Nat}{M:Int}(ok:Z.Ok fr N K M)(h:Sep w Z.hl){p p':Pl}(hp:p∈Z.S.l)(hi:p.is=true)(Bf:p.kind=3){g g':Nat}(hb:BlkC Z p g w)(AL:p'∈Z.S.l)(N4:p'.is=true)(hkd':p'.kind=3)(Aj:BlkC Z p' g' w){lb:Nat}(hl:lb<18446744073709551616) :
  Calls prog 119 #[.pointer (some ⟨g,0,none⟩),.pointer (some ⟨g',0,none⟩),.int .u64 lb] w fun r w'=>r=.returned (.int .i64 0)/\(Z.poke (putM Z.S.P.a.mem p'.at_ ⟨lb,(msgV Z.S.P.a.mem p.at_).ws,[]⟩)).Ok fr N K M/\Step Z.hl (Z.poke (putM Z.S.P.a.mem p'.at_ ⟨lb,(msgV Z.S.P.a.mem p.at_).ws,[]⟩)).hl w w':=by
 have kg:=Q6e ok h hp hi Bf hb;obtain⟨SE,Lk⟩:=Q7T ok.core.inv.mem.pool.bytes p.at_;have HP:Hid (∀w1 a cap,Below w.heap.size w w1->IsU w1 a (msgV Z.S.P.a.mem p.at_).ws->Calls prog 181 #[.pointer (some ⟨g',0,none⟩),.int .u64 lb,.slice a (msgV Z.S.P.a.mem p.at_).ws.length cap,.slice none 0 0] w1 fun r w'=>r=.returned (.int .i64 0)/\(Z.poke (putM Z.S.P.a.mem p'.at_ ⟨lb,(msgV Z.S.P.a.mem p.at_).ws,[]⟩)).Ok fr N K M/\Step Z.hl (Z.poke (putM Z.S.P.a.mem p'.at_ ⟨lb,(msgV Z.S.P.a.mem p.at_).ws,[]⟩)).hl w w'):=fun w1 a cap Ar hu=>by
  have s1:=h.grown Ar;refine(Q9j ok s1.sep AL N4 hkd' (AsideV.step Aj s1) ⟨lb,(msgV Z.S.P.a.mem p.at_).ws,[]⟩ hl Lk cap 0 hu (fun j i hj=>by simp at hj) (by dsimp only;omega) (by simp)).mono ?_;rintro r w' (⟨he,_,_⟩|⟨_,rfl,ok2,st2⟩)
  ·rcases he with he|he|⟨i,he,_⟩
   ·dsimp only at he;omega
   ·simp at he
   ·cases he
  ·exact⟨rfl,ok2,s1.trans st2⟩
 have HI:Hid (∀r w1,MsgIs (msgV Z.S.P.a.mem p.at_) w r w1->∃(l:Int) (a:Option Addr) (cap:Nat) (xa:Option Addr) (xn xc:Nat),r=.returned (.agg #[.int .u64 l,.slice a (msgV Z.S.P.a.mem p.at_).ws.length cap,.slice xa xn xc])/\Below w.heap.size w w1/\IsU w1 a (msgV Z.S.P.a.mem p.at_).ws):=by
  rintro r w1⟨rw_,ri,rfl,o1,o2,st⟩;obtain⟨a,cap,e,hu⟩:=Z5R o1 st;obtain⟨xa,xn,xc,e2⟩:=Q1p ri (msgV Z.S.P.a.mem p.at_).its.length;rw[e,e2];exact⟨_,a,cap,xa,xn,xc,rfl,st.fresh,hu⟩
 generalize (Z.poke (putM Z.S.P.a.mem p'.at_ ⟨lb,(msgV Z.S.P.a.mem p.at_).ws,[]⟩))=Z2 at *
 generalize msgV Z.S.P.a.mem p.at_=X at *
 clear ok h hp hi Bf hb AL N4 hkd' Aj hl SE Lk;go_enter func119,ntmps119;go_wp2_with fail;refine kg.mono ?_;intro r w1 hm;obtain⟨l0,a,cap,xa,xn,xc,rfl,Ar,hu⟩:=HI.out r w1 hm;have JN:=Q0a (HP.out w1 a cap Ar hu);have Ev:=J1j w1 l0 a xa X.ws.length cap xn xc;clear hm Ar hu HP HI kg;go_wp2_with fail;refine JN.out.mono ?_;rintro r w2⟨rfl,ok2,st2⟩;have HR:Hid (Z2.Ok fr N K M/\Step Z.hl Z2.hl w w2):=⟨ok2,st2⟩
 clear ok2 st2 JN;go_wp2_with fail
 (try go_ret);exact⟨rfl,HR.out⟩
def BlkAt(Z:SP)(t:Nat)(a:Int)(p:Pl):Prop:=blkE Z t a=0/\p∈Z.S.l/\p.is=true/\p.kind=3/\a=(p.at_:Int)
def CPutR(Z:SP)(fr:List Nat)(N K:Nat)(M:Int)(t:Nat)(a:Int)(x:Msg)(w:World)(r:Ending)(w':World):Prop:=
 (blkE Z t a≠0/\r=.returned (.int .i64 (blkE Z t a))/\Below w.heap.size w w')∨∃p,BlkAt Z t a p/\Z0k Z fr N K M p x w r w'
theorem Q6f{w:World}{Z:SP}{fr:List Nat}{N K:Nat}{M:Int}(ok:Z.Ok fr N K M)(h:Sep w Z.hl){c k:Nat}(hc:CarC Z c k w){t:Nat}(ht:t<4294967296)(a:Int)(ha:a<9223372036854775808)(x:Msg)(hx:x.label<18446744073709551616)(Gg:∀y∈x.ws,y<18446744073709551616){wa ia:Option Addr}(wc ic:Nat)(hu:IsU w wa x.ws)(Fd:IsI w ia x.its)(Dt:x.ws.length<=1048576)(DL:x.its.length<=1048576) :
  Calls prog 107 #[.pointer (some ⟨c,0,none⟩),.agg #[.int .u32 t,.int .i64 a],.agg #[.int .u64 (x.label:Int),.slice wa x.ws.length wc,.slice ia x.its.length ic]] w (CPutR Z fr N K M t a x w):=by
 have b1:Below w.heap.size w (w.alloc (.cells #[.int .u32 t,.int .i64 a] 116)):=(Below.refl _ _).alloc (J1E _) _;have b2:Below w.heap.size w ((w.alloc (.cells #[.int .u32 t,.int .i64 a] 116)).alloc (.cells #[.int .u64 (x.label:Int),.slice wa x.ws.length wc,.slice ia x.its.length ic] 100)):=b1.alloc b1.size _;have h2:=h.grown b2;have kb:=Q2i ok h2.sep (hc.step rfl h2) ht a ha;have c1:=(Cells.new w 116 [.int .u32 t,.int .i64 a]).alloc (.cells #[.int .u64 (x.label:Int),.slice wa x.ws.length wc,.slice ia x.its.length ic] 100);have c2:=Cells.new (w.alloc (.cells #[.int .u32 t,.int .i64 a] 116)) 100 [.int .u64 (x.label:Int),.slice wa x.ws.length wc,.slice ia x.its.length ic]
 have hz:(w.alloc (.cells #[.int .u32 t,.int .i64 a] 116)).heap.size=w.heap.size+1:=by simp
 rw[hz] at c2;have e0:=c1.cell 0 _ rfl;have e1:=c1.cell 1 _ rfl;have HP:Hid (∀V p g,Below ((w.alloc (.cells #[.int .u32 t,.int .i64 a] 116)).alloc (.cells #[.int .u64 (x.label:Int),.slice wa x.ws.length wc,.slice ia x.its.length ic] 100)).heap.size ((w.alloc (.cells #[.int .u32 t,.int .i64 a] 116)).alloc (.cells #[.int .u64 (x.label:Int),.slice wa x.ws.length wc,.slice ia x.its.length ic] 100)) V->blkE Z t a=0->p∈Z.S.l->p.is=true->p.kind=3->a=(p.at_:Int)->BlkC Z p g V ->
   Cells V (w.heap.size+1) 100 [.int .u64 (x.label:Int),.slice wa x.ws.length wc,.slice ia x.its.length ic]/\Calls prog 181 #[.pointer (some ⟨g,0,none⟩),.int .u64 (x.label:Int),.slice wa x.ws.length wc,.slice ia x.its.length ic] V fun r w'=>∃e:Int,r=.returned (.int .i64 e)/\CPutR Z fr N K M t a x w (.returned (.int .i64 e)) w'):=fun V p g hV he hp hi hk B9 hg=>by
  have hb:=Q0b (Q0b hV);have s1:=h.grown hb;refine⟨c2.same (hV.block _ c2.lt),(Q9j ok s1.sep hp hi hk hg x hx Gg wc ic (hu.below hb) (Fd.below hb) Dt DL).mono ?_⟩;rintro r w' (⟨h1,rfl,h3⟩|⟨h1,rfl,h3,h4⟩)
  ·exact⟨1,rfl,.inr ⟨p,⟨he,hp,hi,hk,B9⟩,.inl ⟨h1,rfl,hb.trans (h3.mono hb.size)⟩⟩⟩
  ·exact⟨0,rfl,.inr ⟨p,⟨he,hp,hi,hk,B9⟩,.inr ⟨h1,rfl,h3,s1.trans h4⟩⟩⟩
 have HE:Hid (∀V,Below ((w.alloc (.cells #[.int .u32 t,.int .i64 a] 116)).alloc (.cells #[.int .u64 (x.label:Int),.slice wa x.ws.length wc,.slice ia x.its.length ic] 100)).heap.size ((w.alloc (.cells #[.int .u32 t,.int .i64 a] 116)).alloc (.cells #[.int .u64 (x.label:Int),.slice wa x.ws.length wc,.slice ia x.its.length ic] 100)) V->blkE Z t a≠0->CPutR Z fr N K M t a x w (.returned (.int .i64 (blkE Z t a))) V):=fun V hV he=>.inl ⟨he,rfl,Q0b (Q0b hV)⟩
 unfold BlkR at kb;generalize CPutR Z fr N K M t a x w=Q at *
 generalize blkE Z t a=E at *
 obtain⟨lb,ws,its⟩:=x;dsimp only at *
 clear b1 b2 h2 ok h hc ht hu Fd hx Gg c1 c2 hz;go_enter func107,ntmps107;go_wp2_with fail;refine kb.mono ?_;rintro r w2⟨Ae,hr⟩;rcases hr with ⟨he,rfl⟩|⟨he,p,g,hp,hi,hk,B9,rfl,hg⟩
 ·have Ac:(E != 0)=true:=by simp[he]
  have HR:=Q0a (HE.out w2 Ae he);clear Ae kb HP HE he;go_wp2_with fail
  (try go_ret2);exact HR.out
 ·obtain⟨cm,kp⟩:=HP.out w2 p g Ae he hp hi hk B9 hg;have m0:=cm.cell 0 _ rfl;have m1:=cm.cell 1 _ rfl;have m2:=cm.cell 2 _ rfl;have HK:=Q0a kp;subst he;clear Ae kb HP HE hp hi hk B9 hg cm kp;go_wp2_with fail;refine HK.out.mono ?_;rintro r w3⟨e,rfl,hq⟩;have HR:=Q0a hq;clear hq HK;go_wp2_with fail
  (try go_ret2);exact HR.out
def COpnR(Z:SP)(fr:List Nat)(N K:Nat)(M:Int)(t:Nat)(a:Int)(v:Wi)(w:World)(r:Ending)(w':World):Prop:=
 (blkE Z t a≠0/\r=.returned (.int .i64 (blkE Z t a))/\Below w.heap.size w w')∨∃p,BlkAt Z t a p/\OpnR Z fr N K M p v w r w'
theorem Q7k{w:World}{Z:SP}{fr:List Nat}{N K:Nat}{M:Int}(ok:Z.Ok fr N K M)(h:Sep w Z.hl){c k:Nat}(hc:CarC Z c k w){t:Nat}(ht:t<4294967296)(a:Int)(ha:a<9223372036854775808)(v:Wi) :
  Calls prog 108 #[.pointer (some ⟨c,0,none⟩),.agg #[.int .u32 t,.int .i64 a],.agg #[.int .i64 v.base,.int .i64 v.order]] w (COpnR Z fr N K M t a v w):=by
 have b1:Below w.heap.size w (w.alloc (.cells #[.int .u32 t,.int .i64 a] 116)):=(Below.refl _ _).alloc (J1E _) _;have b2:Below w.heap.size w ((w.alloc (.cells #[.int .u32 t,.int .i64 a] 116)).alloc (.cells #[.int .i64 v.base,.int .i64 v.order] 65)):=b1.alloc b1.size _;have h2:=h.grown b2;have kb:=Q2i ok h2.sep (hc.step rfl h2) ht a ha;have c1:=(Cells.new w 116 [.int .u32 t,.int .i64 a]).alloc (.cells #[.int .i64 v.base,.int .i64 v.order] 65);have c2:=Cells.new (w.alloc (.cells #[.int .u32 t,.int .i64 a] 116)) 65 [.int .i64 v.base,.int .i64 v.order];have hz:(w.alloc (.cells #[.int .u32 t,.int .i64 a] 116)).heap.size=w.heap.size+1:=by simp
 rw[hz] at c2;have e0:=c1.cell 0 _ rfl;have e1:=c1.cell 1 _ rfl;have HP:Hid (∀V p g,Below ((w.alloc (.cells #[.int .u32 t,.int .i64 a] 116)).alloc (.cells #[.int .i64 v.base,.int .i64 v.order] 65)).heap.size ((w.alloc (.cells #[.int .u32 t,.int .i64 a] 116)).alloc (.cells #[.int .i64 v.base,.int .i64 v.order] 65)) V->blkE Z t a=0->p∈Z.S.l->p.is=true->p.kind=3->a=(p.at_:Int)->BlkC Z p g V ->
   Cells V (w.heap.size+1) 65 [.int .i64 v.base,.int .i64 v.order]/\Calls prog 182 #[.pointer (some ⟨g,0,none⟩),.agg #[.int .i64 v.base,.int .i64 v.order]] V fun r w'=>∃e:Int,r=.returned (.int .i64 e)/\COpnR Z fr N K M t a v w (.returned (.int .i64 e)) w'):=fun V p g hV he hp hi hk B9 hg=>by
  have hb:=Q0b (Q0b hV);have s1:=h.grown hb;refine⟨c2.same (hV.block _ c2.lt),(Z2T ok s1.sep hp hi hk hg v).mono ?_⟩;rintro r w' (⟨h1,rfl,h3⟩|⟨h1,rfl,h3,h4⟩)
  ·exact⟨1,rfl,.inr ⟨p,⟨he,hp,hi,hk,B9⟩,.inl ⟨h1,rfl,hb.trans (h3.mono hb.size)⟩⟩⟩
  ·exact⟨0,rfl,.inr ⟨p,⟨he,hp,hi,hk,B9⟩,.inr ⟨h1,rfl,h3,s1.trans h4⟩⟩⟩
 have HE:Hid (∀V,Below ((w.alloc (.cells #[.int .u32 t,.int .i64 a] 116)).alloc (.cells #[.int .i64 v.base,.int .i64 v.order] 65)).heap.size ((w.alloc (.cells #[.int .u32 t,.int .i64 a] 116)).alloc (.cells #[.int .i64 v.base,.int .i64 v.order] 65)) V->blkE Z t a≠0->COpnR Z fr N K M t a v w (.returned (.int .i64 (blkE Z t a))) V):=fun V hV he=>.inl ⟨he,rfl,Q0b (Q0b hV)⟩
 unfold BlkR at kb;generalize COpnR Z fr N K M t a v w=Q at *
 generalize blkE Z t a=E at *
 obtain⟨vb,vo⟩:=v;dsimp only at *
 clear b1 b2 h2 ok h hc ht c1 c2 hz;go_enter func108,ntmps108;go_wp2_with fail;refine kb.mono ?_;rintro r w2⟨Ae,hr⟩;rcases hr with ⟨he,rfl⟩|⟨he,p,g,hp,hi,hk,B9,rfl,hg⟩
 ·have Ac:(E != 0)=true:=by simp[he]
  have HR:=Q0a (HE.out w2 Ae he);clear Ae kb HP HE he;go_wp2_with fail
  (try go_ret2);exact HR.out
 ·obtain⟨cm,kp⟩:=HP.out w2 p g Ae he hp hi hk B9 hg;have m0:=cm.cell 0 _ rfl;have m1:=cm.cell 1 _ rfl;have HK:=Q0a kp;subst he;clear Ae kb HP HE hp hi hk B9 hg cm kp;go_wp2_with fail;refine HK.out.mono ?_;rintro r w3⟨e,rfl,hq⟩;have HR:=Q0a hq;clear hq HK;go_wp2_with fail
  (try go_ret2);exact HR.out
def Z5T(Z:SP)(t:Nat)(a:Int)(w:World)(r:Ending)(w':World):Prop:=
 (blkE Z t a≠0/\r=.returned (.tuple #[.agg #[.int .u64 0,.slice none 0 0,.slice none 0 0],.int .i64 (blkE Z t a)])/\Below w.heap.size w w') ∨
 ∃p v,BlkAt Z t a p/\r=.returned (.tuple #[v,.int .i64 0])/\MsgIs (msgV Z.S.P.a.mem p.at_) w (.returned v) w'
theorem MsgIs.box{x:Msg}{w w1:World}{r:Ending}{w':World}(h:MsgIs x w1 r w'){b:Nat}(hb:b<w1.heap.size)(hw:Below w.heap.size w w1)(Lk:w.heap.size<=b)(AM:Env w)(v0 v1 v2:Value):MsgIs x w r (((w'.setCell ⟨b,0,none⟩ v0).setCell ⟨b,1,none⟩ v1).setCell ⟨b,2,none⟩ v2):=by
 obtain⟨rw_,ri,e,o1,o2,st⟩:=h;refine⟨rw_,ri,e,o1,o2,?_⟩;have s1:=((Sep.nil AM).grown hw).trans st;have Ac:∀g∈keys (rowH rw_ 83 1 (x.ws.map encU)++rowH ri 63 5 (x.its.flatMap It.cells)),g≠b:=fun g hg e=>by
  rcases st.new g hg with h|h
  ·cases h
  ·omega
 have Em:GB<=b:=J1F AM.gb Lk;have Cw:Chg (fun g=>g=b) w' (((w'.setCell ⟨b,0,none⟩ v0).setCell ⟨b,1,none⟩ v1).setCell ⟨b,2,none⟩ v2):=(((Chg.refl (fun g=>g=b) w').set ⟨b,0,none⟩ v0 (.inl rfl)).set ⟨b,1,none⟩ v1 (.inl rfl)).set ⟨b,2,none⟩ v2 (.inl rfl);refine⟨s1.sep.chg Cw (fun g hg=>Ac g hg) (fun g hg=>by rw[hg];exact Em),?_,s1.new⟩;exact(s1.chg.trans Cw fun i hi=>.inr (by rw[hi];exact Lk))
theorem Q9l{w:World}{Z:SP}{fr:List Nat}{N K:Nat}{M:Int}(ok:Z.Ok fr N K M)(h:Sep w Z.hl){c k:Nat}(hc:CarC Z c k w){t:Nat}(ht:t<4294967296)(a:Int)(ha:a<9223372036854775808) :
  Calls prog 52 #[.pointer (some ⟨c,0,none⟩),.agg #[.int .u32 t,.int .i64 a]] w (Z5T Z t a w):=by
 have AM:=h.env;have b1:Below w.heap.size w (w.alloc (.cells #[.int .u32 t,.int .i64 a] 116)):=(Below.refl _ _).alloc (J1E _) _;have b2:Below w.heap.size w ((w.alloc (.cells #[.int .u32 t,.int .i64 a] 116)).alloc (.cells #[.int .u64 0,.slice none 0 0,.slice none 0 0] 100)):=b1.alloc b1.size _;have h2:=h.grown b2;have kb:=Q2i ok h2.sep (hc.step rfl h2) ht a ha;have c1:=(Cells.new w 116 [.int .u32 t,.int .i64 a]).alloc (.cells #[.int .u64 0,.slice none 0 0,.slice none 0 0] 100);have c2:=Cells.new (w.alloc (.cells #[.int .u32 t,.int .i64 a] 116)) 100 [.int .u64 0,.slice none 0 0,.slice none 0 0]
 have hz:(w.alloc (.cells #[.int .u32 t,.int .i64 a] 116)).heap.size=w.heap.size+1:=by simp
 rw[hz] at c2;have e0:=c1.cell 0 _ rfl;have e1:=c1.cell 1 _ rfl;have HP:Hid (∀V p g,Below ((w.alloc (.cells #[.int .u32 t,.int .i64 a] 116)).alloc (.cells #[.int .u64 0,.slice none 0 0,.slice none 0 0] 100)).heap.size ((w.alloc (.cells #[.int .u32 t,.int .i64 a] 116)).alloc (.cells #[.int .u64 0,.slice none 0 0,.slice none 0 0] 100)) V->blkE Z t a=0->p∈Z.S.l->p.is=true->p.kind=3->a=(p.at_:Int)->BlkC Z p g V ->
   Calls prog 116 #[.pointer (some ⟨g,0,none⟩)] V fun r w'=>∃(l:Int) (a1 a2:Option Addr) (n1 c1 n2 c2:Nat),r=.returned (.agg #[.int .u64 l,.slice a1 n1 c1,.slice a2 n2 c2])/\Cells w' (w.heap.size+1) 100 [.int .u64 0,.slice none 0 0,.slice none 0 0]/\∀v0 v1 v2,Z5T Z t a w (.returned (.tuple #[.agg #[.int .u64 l,.slice a1 n1 c1,.slice a2 n2 c2],.int .i64 0])) (((w'.setCell ⟨w.heap.size+1,0,none⟩ v0).setCell ⟨w.heap.size+1,1,none⟩ v1).setCell ⟨w.heap.size+1,2,none⟩ v2)):=fun V p g hV he hp hi hk B9 hg=>by
  have hb:=Q0b (Q0b hV);have s1:=h.grown hb;have c3:=c2.same (hV.block _ c2.lt);refine(Q6e ok s1.sep hp hi hk hg).mono ?_;intro r w' hm;have Fb:=hm;obtain⟨rw_,ri,rfl,o1,o2,st⟩:=hm;obtain⟨a1,n1,k1,e1⟩:=Q1p rw_ (msgV Z.S.P.a.mem p.at_).ws.length;obtain⟨a2,n2,k2,e2⟩:=Q1p ri (msgV Z.S.P.a.mem p.at_).its.length;rw[e1,e2] at Fb ⊢;exact⟨_,a1,a2,n1,k1,n2,k2,rfl,c3.same (st.fresh.block _ c3.lt),fun v0 v1 v2=>.inr ⟨p,_,⟨he,hp,hi,hk,B9⟩,rfl,Fb.box c3.lt hb (J5J _) AM v0 v1 v2⟩⟩
 have HE:Hid (∀V,Below ((w.alloc (.cells #[.int .u32 t,.int .i64 a] 116)).alloc (.cells #[.int .u64 0,.slice none 0 0,.slice none 0 0] 100)).heap.size ((w.alloc (.cells #[.int .u32 t,.int .i64 a] 116)).alloc (.cells #[.int .u64 0,.slice none 0 0,.slice none 0 0] 100)) V->blkE Z t a≠0->Cells V (w.heap.size+1) 100 [.int .u64 0,.slice none 0 0,.slice none 0 0]/\Z5T Z t a w (.returned (.tuple #[.agg #[.int .u64 0,.slice none 0 0,.slice none 0 0],.int .i64 (blkE Z t a)])) V/\∀v0 v1 v2,Z5T Z t a w (.returned (.tuple #[.agg #[.int .u64 0,.slice none 0 0,.slice none 0 0],.int .i64 (blkE Z t a)])) (((V.setCell ⟨w.heap.size+1,0,none⟩ v0).setCell ⟨w.heap.size+1,1,none⟩ v1).setCell ⟨w.heap.size+1,2,none⟩ v2)):=fun V hV he=>by
  have hb:=Q0b (Q0b hV);exact⟨c2.same (hV.block _ c2.lt),.inl ⟨he,rfl,hb⟩,fun v0 v1 v2=>.inl ⟨he,rfl,((hb.setCell (J5J _) _).setCell (J5J _) _).setCell (J5J _) _⟩⟩
 unfold BlkR at kb;generalize Z5T Z t a w=Q at *
 generalize blkE Z t a=E at *
 clear b1 b2 h2 ok h hc ht c1 c2 hz AM;go_enter func52,ntmps52;go_wp2_with fail;refine kb.mono ?_;rintro r w2⟨Ae,hr⟩;rcases hr with ⟨he,rfl⟩|⟨he,p,g,hp,hi,hk,B9,rfl,hg⟩
 ·have Ac:(E != 0)=true:=by simp[he]
  obtain⟨cz,q1,q2⟩:=HE.out w2 Ae he;have EB:=Q0a q1;have DR:=Q0a q2;have g0:=cz.cell 0 _ rfl;have g1:=cz.cell 1 _ rfl;have g2:=cz.cell 2 _ rfl;have f0:=cz.free 0;have f1:=cz.free 1;have f2:=cz.free 2;have Aa:=cz.lt;clear Ae kb HP HE he cz q1 q2;go_wp2_with fail
  first
   | refine bodyPost_ret (v:=.tuple #[.agg #[.int .u64 0,.slice none 0 0,.slice none 0 0],.int .i64 E]) (by simp[results,results52,go_sem,g0,g1,g2]) rfl EB.out
   | refine bodyPost_ret (v:=.tuple #[.agg #[.int .u64 0,.slice none 0 0,.slice none 0 0],.int .i64 E]) (by simp[results,results52,go_sem,g0,g1,g2]) rfl (DR.out _ _ _)
 ·have kp:=Q0a (HP.out w2 p g Ae he hp hi hk B9 hg);subst he;clear Ae kb HP HE hp hi hk B9 hg;go_wp2_with fail;refine kp.out.mono ?_;rintro r w3⟨l,a1,a2,n1,c1,n2,c2,rfl,cz,hq⟩;have HR:=Q0a hq;have g0:=cz.cell 0 _ rfl;have g1:=cz.cell 1 _ rfl;have g2:=cz.cell 2 _ rfl;have f0:=cz.free 0;have f1:=cz.free 1;have f2:=cz.free 2;have Aa:=cz.lt;clear cz hq kp;go_wp2_with fail;refine bodyPost_ret (v:=.tuple #[.agg #[.int .u64 l,.slice a1 n1 c1,.slice a2 n2 c2],.int .i64 0]) (by simp[results,results52,go_sem,g0,g1,g2]) rfl (HR.out _ _ _)
end Go.Proofs.YtfidemmgofcnmaaGreatDoor

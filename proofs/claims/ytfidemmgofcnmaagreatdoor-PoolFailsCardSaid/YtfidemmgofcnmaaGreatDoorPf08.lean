/- PoolFails returns true at every input. No condition. Part of its proof. -/
import Derived.Test.YtfidemmgofcnmaaGreatDoorPf07
set_option maxHeartbeats 4000000
set_option maxRecDepth 100000
set_option linter.unusedVariables false
namespace Go.Proofs.YtfidemmgofcnmaaGreatDoor
open Go.RowKit Go.Proofs.Tryz
theorem Q1C{P:Program}(w:World){ops:Array Oper}{rest:List Oper}{o:Oper}{a:Act}{Q:Exit->Act->World->Prop}
  (hg:o.guard=none) (m k x:Operand) (t K V:TypeId) (hop:o.op=.insert t m k x) (hT:P.underlying t=some (.map K V)) (hK:P.underlying K=some (.int .i64))
  (b:Nat) (kv:List (Int×Value)) (h:Q0n w b kv) (id:Int) (u:Value) (hm:a.eval m=.map (some b)) (hk:a.eval k=.int .i64 id) (hx:a.eval x=u)
  (hK':∀w',Q0n w' b (put kv id u)->w.grownBy w' (some b)->wpList P ops Q rest (a.put o.dst undef) w'):wpList P ops Q (o::rest) a w:=by
 refine wpList_plain hg fun K' hK''=>?_
 obtain⟨w',BN,r1,r2⟩:=Q0N (P:=P) h id u hT hK;unfold Oper.wp;simp[execOp,hop,hm,hk,hx,BN,Result.andThen];exact hK'' _ _ (hK' w' r1 r2)
def Q0Z(t m b:Nat)(limit:Int):QT:=⟨t,m,[⟨0,b,⟨limit,0,0,-1,0⟩⟩],1⟩
theorem Q7P(t m b:Nat)(limit:Int)(h0:0<=limit)(h1:limit<=1073741824):(Q0Z t m b limit).Ok:=by
 refine⟨by simp[Q0Z],by simp[Q0Z],by simp[Q0Z],fun id e he=>?_⟩;simp only[Q0Z,find] at he;by_cases h:id=0
 ·simp[h] at he;subst he;subst h;simp[Q0Z];omega
 ·simp[h] at he
def NewQ(limit:Int)(H:HL)(w:World)(r:Ending)(w':World):Prop:=∃t m b,r=.returned (.pointer (some ⟨t,0,none⟩))/\Step H ((Q0Z t m b limit).hl++H) w w'
theorem Q4A{w:World}{H:HL}(h:Sep w H)(limit:Int)(h0:0<=limit)(h1:limit<=1073741824):Calls prog 62 #[.int .i64 limit] w (NewQ limit H w):=by
 have HR:Hid (∀w1,Q0n w1 w.heap.size [(0,.pointer (some ⟨w.heap.size+1,0,none⟩))]->((w.alloc (.map #[] 0)).alloc (.cells #[.int .i64 limit,.int .i64 0,.int .i64 0,.int .i64 (-1),.int .i64 0] 147)).grownBy w1 (some w.heap.size) ->
   NewQ limit H w (.returned (.pointer (some ⟨w1.heap.size,0,none⟩))) (w1.alloc (.cells #[.map (some w.heap.size),.int .i64 1] 150))):=fun w1 hm hg=>by
  have s1:=h.newMap;have s2:=s1.sep.new 147 [.int .i64 limit,.int .i64 0,.int .i64 0,.int .i64 (-1),.int .i64 0];have e1:(w.alloc (.map #[] 0)).heap.size=w.heap.size+1:=by simp
  rw[e1] at s2;obtain⟨es,Ab,ho,hr⟩:=hm;have s3:=Sep.turn (A:=[(w.heap.size+1,isC 147 [.int .i64 limit,.int .i64 0,.int .i64 0,.int .i64 (-1),.int .i64 0])]) (q':=isMI [(0,.pointer (some ⟨w.heap.size+1,0,none⟩))]) s2.sep hg ⟨_,ho,es,Ab,rfl,hr⟩;have s4:=s3.sep.new 150 [.map (some w.heap.size),.int .i64 1];refine⟨w1.heap.size,w.heap.size,w.heap.size+1,rfl,?_⟩;have:=((s1.trans s2).trans s3).trans s4;refine this.perm (Z2K _) ?_;simp only[Q0Z,QT.hl,facH,kvs,Z0b,Z2g,Z1L,Z1K,Fa.cells,ptr];refine List.Perm.cons _ ?_;exact List.Perm.swap _ _ _
 have hM:Q0n ((w.alloc (.map #[] 0)).alloc (.cells #[.int .i64 limit,.int .i64 0,.int .i64 0,.int .i64 (-1),.int .i64 0] 147)) w.heap.size []:=(MapIs.new w).alloc _;have F1:=@run_makeMap prog;clear h;go_enter func62,ntmps62;go_wp2_with (refine Q1C _ rfl _ _ _ 148 3 140 rfl underlying148 underlying3 w.heap.size [] hM 0 (.pointer (some ⟨w.heap.size+1,0,none⟩)) rfl rfl rfl ?_;intro w1 CG Bn;have Id:=Q0a (HR.out w1 CG Bn);clear CG Bn);go_ret;exact Id.out
theorem Q9z{w:World}(hT:TabB w)(k:Nat)(hk:k<64) :
  Calls prog 125 #[.int .u64 ((2 ^ k:Nat):Int)] w fun r w'=>r=.returned (.int .i64 k)/\w=w':=by
 have k1:=Q4i hT (fun j=>j==k) k hk (by simp) (fun j hj=>by simp;omega);rw[Q4w k hk] at k1;clear hT;have b2:2 ^ k<18446744073709551616:=by
  have:=Z0X (a:=2) (by omega) hk;exact Z0a this (by decide)
 generalize 2 ^ k=n at *
 go_enter func125,ntmps125;go_wp2_with (go_at_call 135;refine k1.mono ?_;rintro e w'⟨rfl,rfl⟩);go_ret;exact⟨rfl,rfl⟩
def Q8Y(top:Nat)(H:HL)(w:World)(r:Ending)(w':World):Prop:=∃d:BD,r=.returned (.pointer (some ⟨d.b,0,none⟩))/\d.top=top/\d.ps=[]/\d.At/\Step H (d.hl++H) w w'
theorem BD.snoc{w w1:World}{H:HL}{d:BD}(h:Sep w (d.hl++H))(hl:d.bms.length<21)(m:BM)(hs:Step (d.hl++H) (m.hl++(d.hl++H)) w w1) :
  Step (d.hl++H) (({d with bms:=d.bms++[m]}:BD).hl++H) w (w1.setCell ⟨d.b,1+d.bms.length,none⟩ (ptr m.b)):=by
 have ec:d.cells.set (1+d.bms.length) (ptr m.b)=({d with bms:=d.bms++[m]}:BD).cells:=by
  unfold BD.cells;rw[Z0O,Z2j];congr 1;simp only[Z0s,Z2V,Z2Q,Z0b,Z2g];rw[show 21-d.bms.length=(21-(d.bms.length+1))+1 from by omega,List.replicate_succ,Z0F,Z2T _ _ (by simp),Z1m,Z2J];simp
 have hp:(m.hl++(d.hl++H)).Perm (d.hl++(m.hl++H)):=by
  rw[<- Z0F,<- Z0F];exact Z2l H Z2m
 have h1:=hs.sep.perm hp;have h2:Sep w1 ([]++(d.b,isC 158 d.cells)::((d.mb,isMI (upk d.ps))::d.bms.flatMap BM.hl++(m.hl++H))):=h1;have h3:=h2.set (1+d.bms.length) (ptr m.b);rw[ec] at h3;have h4:Step (d.hl++H) (d.hl++(m.hl++H)) w w1:=hs.perm (Z2K _) hp;refine(h4.trans h3).perm (Z2K _) ?_;unfold BD.hl;simp only[Z1K,Z1L,Z0r,Z0n,Z2W,Z1G,Z0F];exact Z2K _
theorem Q3o{w:World}{H:HL}(h:Sep w H)(top:Nat)(h1:6<=top)(h2:top<=20):Calls prog 63 #[.int .i64 ((2 ^ (top+10):Nat):Int)] w (Q8Y top H w):=by
 have k1:=Q4x (w:=w) (top+10) (by omega);have k2:=Q9z h.env.tabB top (by omega);have b1:65536<=2 ^ (top+10):=Q9Z (by decide:65536<=2 ^ 16) (Z0T (by omega) (by omega));have b2:2 ^ (top+10)<=1073741824:=Q9Z (Z0T (by omega) (by omega)) (by decide:2 ^ 30<=1073741824);have CT:((2 ^ (top+10):Nat):Int)/1024=((2 ^ top:Nat):Int):=by
  rw[Z1f,show(2:Nat) ^ 10=1024 from rfl];omega
 have bt:2 ^ top<=1048576:=by have:=Q0z (k:=0) h2;simpa using this
 generalize 2 ^ (top+10)=n at *
 generalize 2 ^ top=t at *
 have h0:Hid (Step H ((⟨w.heap.size+1,w.heap.size,top,[],[]⟩:BD).hl++H) w ((w.alloc (.map #[] 0)).alloc (.cells (BD.cells ⟨w.heap.size+1,w.heap.size,top,[],[]⟩).toArray 158))):=by
  have s1:=h.newMap;have s2:=s1.sep.new 158 (BD.cells ⟨w.heap.size+1,w.heap.size,top,[],[]⟩);have:=s1.trans s2;show Step _ _ _ _
  simpa[BD.hl,upk,isMI] using this
 have HR:=Q0a (show ∀(k:Nat) (bms:List BM) (wr:World),k<=top->bms.length=k->(∀j m,bms[j]?=some m->m.bits=List.replicate (2 ^ (top-j)) false)->Step H ((⟨w.heap.size+1,w.heap.size,top,bms,[]⟩:BD).hl++H) w wr ->
   wr.cell? ⟨w.heap.size+1,0,none⟩=some (.int .i64 top)/\wr.cell? ⟨w.heap.size+1,1+k,none⟩=some (.pointer none)/\wr.frozen? ⟨w.heap.size+1,1+k,none⟩=false /\
   Calls prog 126 #[.int .i64 ((2 ^ (top-k):Nat):Int)] wr.drew fun r w1=>∃mb:Nat,r=.returned (.pointer (some ⟨mb,0,none⟩))/\(w1.cell? ⟨w.heap.size+1,0,none⟩=some (.int .i64 top)/\w1.cell? ⟨w.heap.size+1,1+k,none⟩=some (.pointer none)/\w1.frozen? ⟨w.heap.size+1,1+k,none⟩=false)/\(∀v,(w1.setCell ⟨w.heap.size+1,1+k,none⟩ v).cell? ⟨w.heap.size+1,0,none⟩=some (.int .i64 top)) /\
    ∃bms',bms'.length=k+1/\(∀j m,bms'[j]?=some m->m.bits=List.replicate (2 ^ (top-j)) false)/\Step H ((⟨w.heap.size+1,w.heap.size,top,bms',[]⟩:BD).hl++H) w (w1.setCell ⟨w.heap.size+1,1+k,none⟩ (.pointer (some ⟨mb,0,none⟩))) from fun k bms wr hk Ad hb Ah=>by
  have hs:=Ah.sep.left;have cells:∀{w1:World},Sep w1 (⟨w.heap.size+1,w.heap.size,top,bms,[]⟩:BD).hl->w1.cell? ⟨w.heap.size+1,0,none⟩=some (.int .i64 top)/\w1.cell? ⟨w.heap.size+1,1+k,none⟩=some (.pointer none)/\w1.frozen? ⟨w.heap.size+1,1+k,none⟩=false:=by
   intro w1 By;have hc:=BD.sepC By;refine⟨hc.cell 0 _ rfl,hc.cell (1+k) _ ?_,hc.free _⟩;unfold BD.cells;rw[show 1+k=k+1 from Z0O 1 k,Z2E,Z0F,Z2G (by simp[Ad]),Z1m,Ad,Z2J,Z2F (by simp;omega),Z1B,if_pos (by omega)]
  refine⟨(cells hs).1,(cells hs).2.1,(cells hs).2.2,(Q2U Ah.sep.drew (2 ^ (top-k)) (Q0z h2)).mono ?_⟩;rintro r w1⟨m,rfl,EO,By⟩;have D4:=By.from_drew;refine⟨m.b,rfl,cells (By.sep.right.left),fun v=>((BD.sepC By.sep.right.left).set (1+k) v).cell 0 _ (by unfold BD.cells;rw[show 1+k=k+1 from Z0O 1 k,Z2j];rfl),bms++[m],by simp[Ad],?_,?_⟩
  ·intro j x hx;by_cases hj:j<bms.length
   ·rw[Z2F hj] at hx;exact hb j x hx
   ·rw[Z2G (by omega)] at hx;have Jw:j=k:=by
     have:=(Z0k.1 hx).1;simp at this;omega
    subst Jw;rw[Ad,Z2J] at hx;cases hx;exact EO
  ·have:=Ah.trans (BD.snoc Ah.sep (by show bms.length<21;omega) m D4);rw[Ad] at this;exact this)
 have CY:=Q0a (show ∀(bms:List BM) (wr:World),bms.length=top+1->(∀j m,bms[j]?=some m->m.bits=List.replicate (2 ^ (top-j)) false)->Step H ((⟨w.heap.size+1,w.heap.size,top,bms,[]⟩:BD).hl++H) w wr ->
   wr.cell? ⟨w.heap.size+1,0,none⟩=some (.int .i64 top)/\∃b,wr.cell? ⟨w.heap.size+1,1+top,none⟩=some (.pointer (some ⟨b,0,none⟩)) /\
   Calls prog 127 #[.pointer (some ⟨b,0,none⟩),.bool true,.slice (some ⟨wr.heap.size,0,none⟩) 1 1] (wr.alloc (.cells #[.int .i64 0] 3)).drew fun r w1=>r=.returned (.int .i64 1)/\(w1.cell? ⟨w.heap.size+1,0,none⟩=some (.int .i64 top)/\w1.cell? ⟨w.heap.size+1,1+top,none⟩=some (.pointer (some ⟨b,0,none⟩)))/\Q8Y top H w (.returned (.pointer (some ⟨w.heap.size+1,0,none⟩))) w1 from fun bms wr Ad hb Ah=>by
  have hs:=Ah.sep.left;have A7:(⟨w.heap.size+1,w.heap.size,top,bms,[]⟩:BD).Is fun _ _=>false:=by
   refine⟨Ad,h2,fun k m hm=>?_⟩;rw[hb k m hm]
   apply Z1l
   intro j;rw[Z1B,Z1o];by_cases hj:j<2 ^ (top-k)
   ·rw[if_pos hj,Z1q hj];rfl
   ·rw[if_neg hj,Z1r (by simp;omega)];rfl
  obtain⟨b,h3,h4⟩:=Q3c (w:=wr.drew) hs.drew A7 top 0 true (Q9Y _) (Z0U _) (by decide);refine⟨BD.c0 hs,b,h3,h4.mono ?_⟩;rintro r w1⟨rfl,d',Ag,C3⟩;have etop:d'.top=top:=Ag.top;have eps:d'.ps=[]:=Ag.ps;have eb:d'.b=w.heap.size+1:=Ag.b;have Ew:(bms.map BM.b)[top]?=some b:=by
   have Ae:top<bms.length:=by omega
   have hg:=Z1R Ae;have hc:=BD.cf hs.drew top _ hg;rw[h3] at hc;rw[Z1o,hg];cases hc;rfl
  refine⟨rfl,⟨by have:=BD.c0 Ag.step.sep;rw[eb,etop] at this;exact this,Ag.ptr Ew⟩,d',by rw[eb],etop,eps,⟨⟨C3.len,C3.top,?_⟩,by rw[eps];exact List.nodup_nil,by rw[eps];simp⟩,?_⟩
  ·intro k m hm;rw[C3.bits k m hm];have B4:k<=d'.top:=by
    have q1:k<d'.bms.length:=(Z0k.1 hm).1;have q2:d'.bms.length=d'.top+1:=C3.len;omega
   rw[etop] at B4 ⊢
   apply Z1J
   intro x hx;rw[eps,Q7q (uOf []) top (by simp[uOf]) k x B4 (Z0j.1 hx)];unfold upG;by_cases hk:k=top
   ·subst hk;have:x=0:=by have:=Z0j.1 hx;simp at this;exact this
    simp[this]
   ·simp[hk]
  ·have:=Step.frame [] H (by simpa using Ah.sep) Ag.step.from_drew;exact Ah.trans (by simpa using this))
 have EC:Hid (∃bms:List BM,bms.length=0/\(∀j m,bms[j]?=some m->m.bits=List.replicate (2 ^ (top-j)) false)/\Step H ((⟨w.heap.size+1,w.heap.size,top,bms,[]⟩:BD).hl++H) w ((w.alloc (.map #[] 0)).alloc (.cells (Array.mk (.int .i64 top::(List.replicate 21 (.pointer none)++[.map (some w.heap.size)]))) 158))):=
  ⟨[],rfl,by simp,h0.out⟩
 clear h0;have FW:((w.alloc (.map #[] 0)).alloc (.cells (Array.mk (.int .i64 top::(List.replicate 21 (.pointer none)++[.map (some w.heap.size)]))) 158)).cell? ⟨w.heap.size+1,0,none⟩=some (.int .i64 top):=by
  simp
 have F1:=@run_makeMap prog;clear h;go_enter func63,ntmps63;go_wp2_with (first|(go_at_call 124;refine k1.mono ?_;rintro e w'⟨rfl,rfl⟩)|(go_at_call 125;refine k2.mono ?_;rintro e w'⟨rfl,rfl⟩))
 go_loopw [29] (fun kv wr=>∃(k:Nat) (bms:List BM),kv=.int .i64 k/\k<=top+1/\bms.length=k/\(∀j m,bms[j]?=some m->m.bits=List.replicate (2 ^ (top-j)) false)/\Step H ((⟨w.heap.size+1,w.heap.size,top,bms,[]⟩:BD).hl++H) w wr) (fun kv _=>top+1-(intOf kv).toNat)
 case atStart =>
  obtain⟨bms,q1,q2,q3⟩:=EC.out;exact⟨0,bms,rfl,by omega,q1,q2,q3⟩
 case round =>
  clear FW EC k1 k2;obtain⟨k,bms,rfl,hk,q1,q2,q3⟩:=hrel;by_cases Ae:k<=top
  ·obtain⟨c0,c1,cf,Aj⟩:=HR.out k bms wr Ae q1 q2 q3;have d0:wr.drew.cell? ⟨w.heap.size+1,0,none⟩=some (.int .i64 top):=c0;have d1:wr.drew.cell? ⟨w.heap.size+1,1+k,none⟩=some (.pointer none):=c1;have df:wr.drew.frozen? ⟨w.heap.size+1,1+k,none⟩=false:=cf;have Av:=Q0a Aj;clear Aj q1 q2 q3;have By:IntKind.i64.wrap ((top:Int)-k)=((top-k:Nat):Int):=by rw[Go.IntWalk.i64_in _ (by omega)];omega
   have D4:IntKind.i64.wrap (2 ^ (top-k))=((2 ^ (top-k):Nat):Int):=by
    have hp:=Q0z (k:=k) h2;have e:(2:Int) ^ (top-k)=((2 ^ (top-k):Nat):Int):=by push_cast;rfl
    rw[e];generalize 2 ^ (top-k)=y at hp ⊢;exact Go.IntWalk.i64_in _ (by omega)
   have FM:(0:Int)<=k:=by omega
   have DK:(k:Int)<21:=by omega
   go_wp2_with fail
   go_region_held3 (fun w'=>w'.cell? ⟨w.heap.size+1,0,none⟩=some (.int .i64 top))
    (first|exact c0|exact d0|exact e0|exact ek _)
    (first|(go_at_call 126;refine Av.out.mono ?_;rintro r w1⟨mb,rfl,⟨e0,e1,ef⟩,ek,BT⟩;have BF:=Q0a BT;clear BT))
   go_wp2_with fail;obtain⟨bms',r1,r2,r3⟩:=BF.out;go_roundw
   case rel=>exact⟨k+1,bms',by go_num,by omega,r1,r2,r3⟩
   case measure=>simp[intOf];omega
  ·obtain rfl:k=top+1:=by omega
   obtain⟨c0,b,c1,An⟩:=CY.out bms wr q1 q2 q3;clear q1 q2 q3;have d0:wr.drew.cell? ⟨w.heap.size+1,0,none⟩=some (.int .i64 top):=c0;have d1:wr.drew.cell? ⟨w.heap.size+1,1+top,none⟩=some (.pointer (some ⟨b,0,none⟩)):=c1;have FM:(0:Int)<=top:=by omega
   have DK:(top:Int)<21:=by omega
   have BL:=Q0a An;clear An;go_wp2_with fail
   go_region_held3 (fun w'=>w'.cell? ⟨w.heap.size+1,0,none⟩=some (.int .i64 top)/\w'.cell? ⟨w.heap.size+1,1+top,none⟩=some (.pointer (some ⟨b,0,none⟩)))
    (first|exact⟨c0,c1⟩|exact⟨d0,d1⟩|exact⟨e0,e1⟩|go_keep)
    (first|(go_at_call 127;refine BL.out.mono ?_;rintro r w1⟨rfl,⟨e0,e1⟩,BT⟩;have BF:=Q0a BT;clear BT))
   go_wp2_with fail;go_ret;exact BF.out
def Q9A(bb s:Nat)(H:HL)(w:World)(r:Ending)(w':World):Prop:=
 ∃c,r=.returned (ptr c)/\Step H ((⟨c,bb,s,none,[]⟩:CA).hl++H) w w'
theorem CA.ok_new(c bb s:Nat)(s0:16<=s)(s1:s<=512):(⟨c,bb,s,none,[]⟩:CA).Ok:=⟨rfl,s0,s1,.nil,by simp,by simp,by simp⟩
theorem Q3Q{w:World}{H:HL}(h:Sep w H)(bb s:Nat)(s0:16<=s)(s1:s<=512)(sm:s%16=0):Calls prog 65 #[ptr bb,.int .i64 s] w (Q9A bb s H w):=by
 have HR:Hid (Q9A bb s H w (.returned (ptr w.heap.size)) (w.alloc (.cells #[ptr bb,.int .i64 s,.slice none 0 0] 233))):=
  ⟨w.heap.size,rfl,h.new 233 [ptr bb,.int .i64 s,.slice none 0 0]⟩
 have hr:IntKind.i64.wrap ((s:Int).tmod 16)=0:=by rw[Z1t (by omega)];rw[show(s:Int)%16=0 by omega];rfl
 have CJ:(s:Int).tmod 16=0:=by rw[Z1t (by omega)];omega
 have h1:decide ((s:Int)<16)=false:=by simp;omega
 have h2:decide ((512:Int)<s)=false:=by simp;omega
 clear sm h;unfold ptr at *
 go_enter func65,ntmps65;go_wp2_with fail;go_ret;exact HR.out
theorem Q3p{w:World}(bb:Nat):Calls prog 65 #[ptr bb,.int .i64 0] w fun r w'=>r=.returned (.pointer none)/\w=w':=by
 unfold ptr;go_enter func65,ntmps65;go_wp2_with fail;go_ret;exact⟨rfl,rfl⟩
def PL.cellsN(P:PL):List Value:=ptr P.q.t::ptr P.d.b::ptr P.a.a::.pointer none::(P.cs.map (fun c=>ptr c.c)++List.replicate (7-P.cs.length) (.pointer none))
def PL.hlN(P:PL):HL:=(P.p,isC 137 P.cellsN)::(P.q.hl++(P.d.hl++(P.a.hl++P.cs.flatMap CA.hl)))
theorem Q7Q{P:PL}(h:P.cs.length=7):P.hlN=P.hl:=by
 unfold PL.hlN PL.hl PL.cellsN PL.cells;rw[h];simp
theorem PL.snoc{w w1:World}{H:HL}{P:PL}(hl:P.cs.length<7)(c:CA)(hs:Step (P.hlN++H) (c.hl++(P.hlN++H)) w w1) :
  Step (P.hlN++H) (({P with cs:=P.cs++[c]}:PL).hlN++H) w (w1.setCell ⟨P.p,3+(P.cs.length+1),none⟩ (ptr c.c)):=by
 have ec:P.cellsN.set (3+(P.cs.length+1)) (ptr c.c)=({P with cs:=P.cs++[c]}:PL).cellsN:=by
  unfold PL.cellsN;rw[show 3+(P.cs.length+1)=P.cs.length+1+1+1+1 by omega];simp only[Z2j,Z0s,Z2V,Z2Q,Z0b,Z2g];rw[Z2T _ _ (by simp),Z1m,Z2J,show 7-P.cs.length=(7-(P.cs.length+1))+1 by omega,List.replicate_succ,Z2k,Z0F];rfl
 have s2:Step _ _ w1 _:=Sep.set (A:=c.hl) (b:=P.p) (T:=137) (cs:=P.cellsN) (B:=(P.q.hl++(P.d.hl++(P.a.hl++P.cs.flatMap CA.hl)))++H) (by simpa[PL.hlN] using hs.sep) (3+(P.cs.length+1)) (ptr c.c);rw[ec] at s2;have h3:=Step.trans (H1:=c.hl++(P.p,isC 137 P.cellsN)::((P.q.hl++(P.d.hl++(P.a.hl++P.cs.flatMap CA.hl)))++H)) (by simpa[PL.hlN] using hs) s2;refine h3.perm (.of_eq (by unfold PL.hlN;simp)) (Q0F fun a=>?_);simp only[PL.hlN,Z0r,Z0n,Z2W,Z1G,hc_append,Q1A];omega
def FreshC(bb:Nat)(cs:List CA):Prop:=∀j c,cs[j]?=some c->c.bb=bb/\c.size=Q0c (j+1)/\c.rv=none/\c.pg=[]
theorem FreshC.snoc{bb:Nat}{cs:List CA}(h:FreshC bb cs)(c:Nat):FreshC bb (cs++[⟨c,bb,Q0c (cs.length+1),none,[]⟩]):=by
 intro j x hx;by_cases hj:j<cs.length
 ·rw[Z2F hj] at hx;exact h j x hx
 ·rw[Z2G (by omega)] at hx;have:j=cs.length:=by
   have:=(Z0k.1 hx).1;simp at this;omega
  subst this;rw[Z2J] at hx;cases hx;exact⟨rfl,rfl,rfl,rfl⟩
structure FreshP(P:PL)(top:Nat)(limit:Int):Prop where
 q:∃t m b,P.q=Q0Z t m b limit
 etop:P.d.top=top
 ps:P.d.ps=[]
 at':P.d.At
 mem:P.a.mem=List.replicate (2 ^ (top+10)) 0
 cs:FreshC P.d.b P.cs
theorem FreshP.ok{P:PL}{top:Nat}{limit:Int}(h:FreshP P top limit)(hl:P.cs.length=7)(h1:6<=top)(h0:0<=limit)(hm:limit<=1073741824):P.Ok []:=by
 obtain⟨t,m,b,hq⟩:=h.q;have Cr:P.pages=[]:=by
  unfold PL.pages;rw[Z2X];intro c hc;obtain⟨j,hj⟩:=Z2n.1 hc;rw[(h.cs j c hj).2.2.2];rfl
 refine⟨by rw[hq];exact Q7P t m b limit h0 hm,h.at',by rw[h.mem,h.etop,Z0h],by rw[h.etop];exact h1,?_,hl,?_,by rw[Cr,h.ps];exact Z2K _,?_⟩
 ·intro x hx;rw[h.mem] at hx;rw[Z0f hx];omega
 ·intro k c hc;obtain⟨e1,e2,e3,e4⟩:=h.cs k c hc;have hk:k<7:=by have:=(Z0k.1 hc).1;omega
  obtain⟨s0,s1,_⟩:=Q1w (k:=k+1) (by omega) (by omega);have DN:=CA.ok_new c.c c.bb c.size (by rw[e2];omega) (by rw[e2];omega);have:(⟨c.c,c.bb,c.size,none,[]⟩:CA)=c:=by cases c;simp_all
  rw[this] at DN;exact⟨DN,e2,e1⟩
 ·intro c hc x hx;obtain⟨j,hj⟩:=Z2n.1 hc;rw[(h.cs j c hj).2.2.2] at hx;cases hx
def Q8Z(top:Nat)(limit:Int)(H:HL)(w:World)(r:Ending)(w':World):Prop:=∃P:PL,r=.returned (.pointer (some ⟨P.p,0,none⟩))/\P.cs.length=7/\FreshP P top limit/\Step H (P.hl++H) w w'
def Q4B(P:PL)(i:Nat)(top:Nat)(limit:Int)(H:HL)(w wr:World):Prop:=P.cs.length=i-1/\FreshP P top limit/\Step H (P.hlN++H) w wr
theorem Q5b{w wr:World}{H:HL}{P:PL}{i top:Nat}{limit:Int}(hi:i<8)(hp:Q4B P i top limit H w wr)(cst:Int)(hc:Q5r[i]?=some cst) :
  wr.cell? ⟨P.p,1,none⟩=some (ptr P.d.b)/\wr.cell? ⟨P.p,3+i,none⟩=some (.pointer none)/\wr.frozen? ⟨P.p,3+i,none⟩=false /\
  Calls prog 65 #[ptr P.d.b,.int .i64 cst] wr.drew fun r w1=>∃v,r=.returned (.pointer v)/\w1.cell? ⟨P.p,1,none⟩=some (ptr P.d.b)/\(∀v,(w1.setCell ⟨P.p,3+i,none⟩ v).cell? ⟨P.p,1,none⟩=some (ptr P.d.b))/\w1.cell? ⟨P.p,3+i,none⟩=some (.pointer none)/\w1.frozen? ⟨P.p,3+i,none⟩=false /\
   ∃P':PL,P'.p=P.p/\P'.d.b=P.d.b/\Q4B P' (i+1) top limit H w (w1.setCell ⟨P.p,3+i,none⟩ (.pointer v)):=by
 obtain⟨Ad,hf,Ah⟩:=hp;have cells:∀{w1:World},Sep w1 P.hlN->w1.cell? ⟨P.p,1,none⟩=some (ptr P.d.b)/\(∀v,(w1.setCell ⟨P.p,3+i,none⟩ v).cell? ⟨P.p,1,none⟩=some (ptr P.d.b))/\w1.cell? ⟨P.p,3+i,none⟩=some (.pointer none)/\w1.frozen? ⟨P.p,3+i,none⟩=false:=by
  intro w1 By;have AT:Cells w1 P.p 137 P.cellsN:=By.cells (by simp[PL.hlN]);refine⟨AT.cell 1 _ rfl,fun v=>(AT.set (3+i) v).cell 1 _ ?_,AT.cell (3+i) _ ?_,AT.free _⟩
  ·rw[List.getElem?_set_ne (by omega)];rfl
  ·unfold PL.cellsN;cases i with
   | zero=>rfl
   | succ i =>
    rw[show 3+(i+1)=i+1+1+1+1 by omega];simp only[Z2E];rw[Z2G (by simp;omega),Z1m,Ad];rw[Z1B,if_pos (by omega)]
 have hs:=Ah.sep.left;obtain⟨a1,_,a2,a3⟩:=cells hs;refine⟨a1,a2,a3,?_⟩;cases i with
 | zero =>
  cases hc
  refine(Q3p P.d.b).mono ?_;rintro r w1⟨rfl,rfl⟩;obtain⟨b1,b2,b3,b4⟩:=cells Ah.sep.drew.left;have hP:P.cs=[]:=Z1Q Ad;have DQ:Step (P.hlN++H) (P.hlN++H) wr.drew (wr.drew.setCell ⟨P.p,3,none⟩ (.pointer none)):=by
   have:=Sep.set (A:=[]) (b:=P.p) (T:=137) (cs:=P.cellsN) (B:=(P.q.hl++(P.d.hl++(P.a.hl++P.cs.flatMap CA.hl)))++H) (by simpa[PL.hlN] using Ah.sep.drew) 3 (.pointer none);have e:P.cellsN.set 3 (.pointer none)=P.cellsN:=rfl;rw[e] at this
   simpa[PL.hlN] using this
  exact⟨none,rfl,b1,b2,b3,b4,P,rfl,rfl,by simp[Ad],hf,Ah.trans DQ.from_drew⟩
 | succ i =>
  have FA:cst=((Q0c (i+1):Nat):Int):=by
   have:=Q3l (k:=i+1) hi;rw[hc] at this;cases this;rfl
  subst FA;obtain⟨s0,s1,s2⟩:=Q1w (k:=i+1) (by omega) (by omega);refine(Q3Q Ah.sep.drew P.d.b (Q0c (i+1)) (by omega) (by omega) s2).mono ?_;rintro r w1⟨c,rfl,By⟩;obtain⟨b1,b2,b3,b4⟩:=cells By.sep.right.left;have Fi:P.cs.length=i:=by omega
  have C1:=PL.snoc (by omega) _ By.from_drew;rw[Fi] at C1;have Hx:=hf.cs.snoc c;rw[Fi] at Hx;exact⟨some ⟨c,0,none⟩,rfl,b1,b2,b3,b4,{P with cs:=P.cs++[⟨c,P.d.b,Q0c (i+1),none,[]⟩]},rfl,rfl,by simp[Fi],⟨hf.q,hf.etop,hf.ps,hf.at',hf.mem,Hx⟩,Ah.trans C1⟩
theorem Q5c{w w1 w2 w3:World}{H:HL}{limit:Int}{top:Nat}{t m b:Nat}{d:BD}{a:AN}(s1:Step H ((Q0Z t m b limit).hl++H) w w1)(e1:d.top=top)(e2:d.ps=[])(e3:d.At)(s2:Step ((Q0Z t m b limit).hl++H) (d.hl++((Q0Z t m b limit).hl++H)) w1 w2)
  (e4:a.mem=List.replicate (2 ^ (top+10)) 0) (s3:Step (d.hl++((Q0Z t m b limit).hl++H)) (a.hl++(d.hl++((Q0Z t m b limit).hl++H))) w2 w3) :
  Q4B ⟨w3.heap.size,Q0Z t m b limit,d,a,[]⟩ 0 top limit H w (w3.alloc (.cells #[ptr t,ptr d.b,ptr a.a,.pointer none,.pointer none,.pointer none,.pointer none,.pointer none,.pointer none,.pointer none,.pointer none] 137)):=by
 have s4:=s3.sep.new 137 [ptr t,ptr d.b,ptr a.a,.pointer none,.pointer none,.pointer none,.pointer none,.pointer none,.pointer none,.pointer none,.pointer none];refine⟨rfl,⟨⟨t,m,b,rfl⟩,e1,e2,e3,e4,fun j c hj=>by simp at hj⟩,?_⟩;have:=((s1.trans s2).trans s3).trans s4;refine this.perm (Z2K _) (Q0F fun x=>?_);have e:PL.cellsN ⟨w3.heap.size,Q0Z t m b limit,d,a,[]⟩=[ptr t,ptr d.b,ptr a.a,.pointer none,.pointer none,.pointer none,.pointer none,.pointer none,.pointer none,.pointer none,.pointer none]:=rfl;simp only[PL.hlN,e,Z2W,Z1G,hc_append,Q1A];omega
theorem Q6s(w:World):(Instr.index 138 (.agg #[.int .i64 0,.int .i64 64,.int .i64 128,.int .i64 256,.int .i64 32,.int .i64 32,.int .i64 48,.int .i64 256]) (.int .i64 0)).run prog w=.ok (.int .i64 0) w:=by kernel_rfl
theorem Q6t(w:World):(Instr.index 138 (.agg #[.int .i64 0,.int .i64 64,.int .i64 128,.int .i64 256,.int .i64 32,.int .i64 32,.int .i64 48,.int .i64 256]) (.int .i64 1)).run prog w=.ok (.int .i64 64) w:=by kernel_rfl
theorem Q6u(w:World):(Instr.index 138 (.agg #[.int .i64 0,.int .i64 64,.int .i64 128,.int .i64 256,.int .i64 32,.int .i64 32,.int .i64 48,.int .i64 256]) (.int .i64 2)).run prog w=.ok (.int .i64 128) w:=by kernel_rfl
theorem Q6v(w:World):(Instr.index 138 (.agg #[.int .i64 0,.int .i64 64,.int .i64 128,.int .i64 256,.int .i64 32,.int .i64 32,.int .i64 48,.int .i64 256]) (.int .i64 3)).run prog w=.ok (.int .i64 256) w:=by kernel_rfl
theorem Q6w(w:World):(Instr.index 138 (.agg #[.int .i64 0,.int .i64 64,.int .i64 128,.int .i64 256,.int .i64 32,.int .i64 32,.int .i64 48,.int .i64 256]) (.int .i64 4)).run prog w=.ok (.int .i64 32) w:=by kernel_rfl
theorem Q6x(w:World):(Instr.index 138 (.agg #[.int .i64 0,.int .i64 64,.int .i64 128,.int .i64 256,.int .i64 32,.int .i64 32,.int .i64 48,.int .i64 256]) (.int .i64 5)).run prog w=.ok (.int .i64 32) w:=by kernel_rfl
theorem Q6y(w:World):(Instr.index 138 (.agg #[.int .i64 0,.int .i64 64,.int .i64 128,.int .i64 256,.int .i64 32,.int .i64 32,.int .i64 48,.int .i64 256]) (.int .i64 6)).run prog w=.ok (.int .i64 48) w:=by kernel_rfl
theorem Q6z(w:World):(Instr.index 138 (.agg #[.int .i64 0,.int .i64 64,.int .i64 128,.int .i64 256,.int .i64 32,.int .i64 32,.int .i64 48,.int .i64 256]) (.int .i64 7)).run prog w=.ok (.int .i64 256) w:=by kernel_rfl
theorem Q4C{w:World}{H:HL}(h:Sep w H)(top:Nat)(h1:6<=top)(h2:top<=20)(limit:Int)(F7:0<=limit)(F4:limit<=((2 ^ (top+10):Nat):Int)):Calls prog 12 #[.int .i64 ((2 ^ (top+10):Nat):Int),.int .i64 limit] w (Q8Z top limit H w):=by
 have b2:2 ^ (top+10)<=1073741824:=Q9Z (Z0T (by omega) (by omega)) (by decide:2 ^ 30<=1073741824);have k1:=Q4A h limit F7 (by omega);have HQ:Hid (∀r w1,NewQ limit H w r w1->∃t m b,r=.returned (.pointer (some ⟨t,0,none⟩))/\Step H ((Q0Z t m b limit).hl++H) w w1/\Calls prog 63 #[.int .i64 ((2 ^ (top+10):Nat):Int)] w1 (Q8Y top ((Q0Z t m b limit).hl++H) w1)):=by
  rintro r w1⟨t,m,b,rfl,s1⟩;exact⟨t,m,b,rfl,s1,Q3o s1.sep top h1 h2⟩
 have HA:Hid (∀w2 H2,Sep w2 H2->Calls prog 64 #[.int .i64 ((2 ^ (top+10):Nat):Int)] w2 (Q8V (2 ^ (top+10)) H2 w2)):=fun w2 H2 s2=>Q3j s2 (top+10) (by omega) (by omega)
 clear h;generalize AB:2 ^ (top+10)=sz at *
 have Jr:=Q0a AB;clear AB;go_enter func12,ntmps12;go_wp2_with fail;refine k1.mono ?_;intro r w1 hx;obtain⟨t,m,b,rfl,s1,hb⟩:=HQ.out _ _ hx;have HB:=Q0a hb;have S1:=Q0a s1;clear hx hb s1;go_wp2_with fail;refine HB.out.mono ?_;rintro r w2⟨d,rfl,e1,e2,e3,s2⟩;have S2:=Q0a s2;have ha:=HA.out w2 _ s2.sep;have Ja:=Q0a ha;have E1:=Q0a e1;have E2:=Q0a e2;clear ha s2 e1 e2;go_wp2_with fail;refine Ja.out.mono ?_;rintro r w3⟨a,rfl,e4,s3⟩;have Bf:=Q5c S1.out E1.out E2.out e3 S2.out (by rw[Jr.out];exact e4) s3;have HP:=Q0a Bf;have Bk:=Q0a (Bf.2.2.sep.env.tabC);clear e3 e4 s3 Bf;unfold ptr at *
 have g0:(w3.alloc (.cells #[.pointer (some ⟨t,0,none⟩),.pointer (some ⟨d.b,0,none⟩),.pointer (some ⟨a.a,0,none⟩),.pointer none,.pointer none,.pointer none,.pointer none,.pointer none,.pointer none,.pointer none,.pointer none] 137)).cell? ⟨0,0,none⟩=some (.int .i64 0):=Bk.out 0 0 rfl;have g1:(w3.alloc (.cells #[.pointer (some ⟨t,0,none⟩),.pointer (some ⟨d.b,0,none⟩),.pointer (some ⟨a.a,0,none⟩),.pointer none,.pointer none,.pointer none,.pointer none,.pointer none,.pointer none,.pointer none,.pointer none] 137)).cell? ⟨0,1,none⟩=some (.int .i64 64):=Bk.out 1 64 rfl;have g2:(w3.alloc (.cells #[.pointer (some ⟨t,0,none⟩),.pointer (some ⟨d.b,0,none⟩),.pointer (some ⟨a.a,0,none⟩),.pointer none,.pointer none,.pointer none,.pointer none,.pointer none,.pointer none,.pointer none,.pointer none] 137)).cell? ⟨0,2,none⟩=some (.int .i64 128):=Bk.out 2 128 rfl
 have g3:(w3.alloc (.cells #[.pointer (some ⟨t,0,none⟩),.pointer (some ⟨d.b,0,none⟩),.pointer (some ⟨a.a,0,none⟩),.pointer none,.pointer none,.pointer none,.pointer none,.pointer none,.pointer none,.pointer none,.pointer none] 137)).cell? ⟨0,3,none⟩=some (.int .i64 256):=Bk.out 3 256 rfl;have g4:(w3.alloc (.cells #[.pointer (some ⟨t,0,none⟩),.pointer (some ⟨d.b,0,none⟩),.pointer (some ⟨a.a,0,none⟩),.pointer none,.pointer none,.pointer none,.pointer none,.pointer none,.pointer none,.pointer none,.pointer none] 137)).cell? ⟨0,4,none⟩=some (.int .i64 32):=Bk.out 4 32 rfl;have g5:(w3.alloc (.cells #[.pointer (some ⟨t,0,none⟩),.pointer (some ⟨d.b,0,none⟩),.pointer (some ⟨a.a,0,none⟩),.pointer none,.pointer none,.pointer none,.pointer none,.pointer none,.pointer none,.pointer none,.pointer none] 137)).cell? ⟨0,5,none⟩=some (.int .i64 32):=Bk.out 5 32 rfl
 have g6:(w3.alloc (.cells #[.pointer (some ⟨t,0,none⟩),.pointer (some ⟨d.b,0,none⟩),.pointer (some ⟨a.a,0,none⟩),.pointer none,.pointer none,.pointer none,.pointer none,.pointer none,.pointer none,.pointer none,.pointer none] 137)).cell? ⟨0,6,none⟩=some (.int .i64 48):=Bk.out 6 48 rfl;have g7:(w3.alloc (.cells #[.pointer (some ⟨t,0,none⟩),.pointer (some ⟨d.b,0,none⟩),.pointer (some ⟨a.a,0,none⟩),.pointer none,.pointer none,.pointer none,.pointer none,.pointer none,.pointer none,.pointer none,.pointer none] 137)).cell? ⟨0,7,none⟩=some (.int .i64 256):=Bk.out 7 256 rfl;go_wp2_with fail;clear g0 g1 g2 g3 g4 g5 g6 g7
 have ix0:=Q6s;have ix1:=Q6t;have ix2:=Q6u;have ix3:=Q6v;have ix4:=Q6w;have ix5:=Q6x;have ix6:=Q6y;have ix7:=Q6z
 go_loopw [34] (fun iv wr=>∃(i:Nat) (P:PL),iv=.int .i64 i/\i<=8/\P.p=w3.heap.size/\P.d.b=d.b/\Q4B P i top limit H w wr) (fun iv _=>8-(intOf iv).toNat)
 case atStart=>exact⟨0,_,rfl,by omega,rfl,rfl,HP.out⟩
 case round =>
  clear HP;obtain⟨i,P,rfl,hi,ep,ed,hp⟩:=hrel;by_cases Ae:i<8
  ·have C5:=fun cst hc=>Q5b Ae hp cst hc
   rw[ep,ed] at C5;have GX:=Q0a C5;clear C5 hp ep ed;have Dn:i=0∨i=1∨i=2∨i=3∨i=4∨i=5∨i=6∨i=7:=by omega
   rcases Dn with rfl|rfl|rfl|rfl|rfl|rfl|rfl|rfl
   all_goals
    obtain⟨c0,c1,cf,Aj⟩:=GX.out _ rfl;clear GX;unfold ptr at *
    have Av:=Q0a Aj;clear Aj;have d0:wr.drew.cell? ⟨w3.heap.size,1,none⟩=some (.pointer (some ⟨d.b,0,none⟩)):=c0
    try push_cast
    go_wp2_with fail
    go_region_held3 (fun w'=>w'.cell? ⟨w3.heap.size,1,none⟩=some (.pointer (some ⟨d.b,0,none⟩)))
     (first|exact c0|exact d0|exact e0|exact ek _)
     (first|(go_at_call 65;refine Av.out.mono ?_;rintro r w1⟨v,rfl,e0,ek,e1,ef,BT⟩;have BF:=Q0a BT;clear BT))
    go_wp2_with fail;obtain⟨P',r1,r2,r3⟩:=BF.out;go_roundw
    case rel=>exact⟨_,P',by go_num,by omega,r1,r2,r3⟩
    case measure=>simp[intOf]
  ·obtain rfl:i=8:=by omega
   have HR:Hid (Q8Z top limit H w (.returned (.pointer (some ⟨w3.heap.size,0,none⟩))) wr):=by
    obtain⟨q1,q2,q3⟩:=hp;refine⟨P,by rw[ep],q1,q2,?_⟩;rw[Q7Q q1] at q3;exact q3
   clear hp ep ed;go_wp2_with fail
   (try go_ret);exact HR.out
def Q3q(q:QT)(id:Int)(e:En Fa)(b:Nat)(limit:Int):QT:={q with E:=upd q.E id {e.q with given:=e.q.given+limit,kids:=e.q.kids+1}++[⟨q.next,b,⟨limit,0,0,id,0⟩⟩],next:=q.next+1}
def Q3R(w:World)(q:QT)(id:Int)(e:En Fa)(limit:Int)(r:Ending)(w':World):Prop:=r=.returned (.tuple #[.int .i64 q.next,.int .i64 0])/\∃b,Step q.hl (Q3q q id e b limit).hl w w'
def closed(q:QT)(par:Int)(e c:En Fa)(id:Int):QT:={q with E:=rem (upd q.E par {e.q with given:=e.q.given-c.q.limit,kids:=e.q.kids-1}) id}
theorem Q7R{α:Type}(E:List (En α))(x:En α)(id:Int)(f:α)(h:x.id≠id):upd (E++[x]) id f=upd E id f++[x]:=by
 simp[upd,h]
theorem QT.next_none{q:QT}(ok:q.Ok):find q.E q.next=none:=by
 cases h:find q.E q.next with
 | none=>rfl
 | some e=>have:=(ok.fa _ e h).2.2.2.2.2.2.2;omega
theorem Q9a{q:QT}(ok:q.Ok)(b:Nat)(f:Fa):(q.E++[(⟨q.next,b,f⟩:En Fa)]).Pairwise (fun a b=>a.id≠b.id):=by
 rw[Z0u];refine⟨ok.ids,by simp,fun x hx y hy=>?_⟩;rw[Z1H] at hy;subst hy;exact Q2V (QT.next_none ok) x hx
theorem QT.carve{w:World}{q:QT}(h:Sep w q.hl)(ok:q.Ok){id:Int}{e:En Fa}(hf:find q.E id=some e)(limit:Int)(w4:World)(hm:Q0n w4 q.m (put (kvs q.E) q.next (ptr w.heap.size)))
  (hg:((w.setCell ⟨q.t,1,none⟩ (.int .i64 (q.next+1))).alloc (.cells #[.int .i64 limit,.int .i64 0,.int .i64 0,.int .i64 id,.int .i64 0] 147)).grownBy w4 (some q.m)) :
  w4.cell? ⟨e.b,2,none⟩=some (.int .i64 e.q.given)/\w4.cell? ⟨e.b,4,none⟩=some (.int .i64 e.q.kids)/\(∀i,w4.frozen? ⟨e.b,i,none⟩=false) /\
   Step q.hl (Q3q q id e w.heap.size limit).hl w ((w4.setCell ⟨e.b,2,none⟩ (.int .i64 (e.q.given+limit))).setCell ⟨e.b,4,none⟩ (.int .i64 (e.q.kids+1))):=by
 have Ar:=QT.next_none ok;have Ao:q.next≠id:=fun e'=>by rw[e',hf] at Ar;cases Ar
 have s1:Step q.hl ({q with next:=q.next+1}:QT).hl w (w.setCell ⟨q.t,1,none⟩ (.int .i64 (q.next+1))):=Sep.set (A:=[]) (B:=(q.m,isMI (kvs q.E))::facH q.E) h 1 (.int .i64 (q.next+1));have AB:(w.setCell ⟨q.t,1,none⟩ (.int .i64 (q.next+1))).heap.size=w.heap.size:=by simp[World.setCell]
 have s2:=s1.sep.new 147 [.int .i64 limit,.int .i64 0,.int .i64 0,.int .i64 id,.int .i64 0];rw[AB] at s2;obtain⟨es,Ab,ho,hr⟩:=hm;have s3:=Sep.turn (A:=[(w.heap.size,isC 147 [.int .i64 limit,.int .i64 0,.int .i64 0,.int .i64 id,.int .i64 0]),(q.t,isC 150 [.map (some q.m),.int .i64 (q.next+1)])]) (B:=facH q.E) (q':=isMI (put (kvs q.E) q.next (ptr w.heap.size))) s2.sep hg ⟨_,ho,es,Ab,rfl,hr⟩;rw[Q8x q.E q.next w.heap.size ⟨limit,0,0,id,0⟩ Ar] at s3;have s123:=(s1.trans s2).trans s3;obtain⟨q1,Bq⟩:∃q1:QT,q1={q with E:=q.E++[⟨q.next,w.heap.size,⟨limit,0,0,id,0⟩⟩],next:=q.next+1}:=⟨_,rfl⟩
 have s4:Step q.hl q1.hl w w4:=by
  refine s123.perm (Z2K _) ?_;rw[Bq];simp only[QT.hl,facH,Z2Q,Z0b,Z2g,Z1L,Z1K,Fa.cells];refine(List.Perm.swap _ _ _).trans (List.Perm.cons _ ?_);refine(List.Perm.swap _ _ _).trans (List.Perm.cons _ ?_);exact(Z2S _ _).symm
 have C9:q1.E.Pairwise (fun a b=>a.id≠b.id):=by rw[Bq];exact Q9a ok _ _
 have D5:find q1.E id=some e:=by
  rw[Bq];show find (q.E++[_]) id=_;rw[Q1O,hf]
 have k:=QT.fac s4.sep D5;have s5:=QT.setF s4.sep C9 D5 2 (.int .i64 (e.q.given+limit)) {e.q with given:=e.q.given+limit} rfl;have Ct:find (upd q1.E id {e.q with given:=e.q.given+limit}) id=some {e with q:={e.q with given:=e.q.given+limit}}:=Q0m D5 _;have DC:(upd q1.E id {e.q with given:=e.q.given+limit}).Pairwise (fun a b=>a.id≠b.id):=Q1c _ _ (fun a b a' b' _ h1 _ h2 h=>by rw[<- h1,<- h2];exact h) C9;have s6:=QT.setF (q:={q1 with E:=upd q1.E id {e.q with given:=e.q.given+limit}}) s5.sep DC Ct 4 (.int .i64 (e.q.kids+1)) {e.q with given:=e.q.given+limit,kids:=e.q.kids+1} rfl;refine⟨k.cell 2 _ rfl,k.cell 4 _ rfl,k.free,?_⟩
 have:=(s4.trans s5).trans s6;have e1:upd (upd q1.E id {e.q with given:=e.q.given+limit}) id {e.q with given:=e.q.given+limit,kids:=e.q.kids+1}=upd q.E id {e.q with given:=e.q.given+limit,kids:=e.q.kids+1}++[⟨q.next,w.heap.size,⟨limit,0,0,id,0⟩⟩]:=by
  rw[upd_upd,Bq];exact Q7R _ _ _ _ Ao
 rw[e1] at this;rw[Bq] at this;exact this
theorem Q6A{q:QT}(ok:q.Ok){id:Int}{e:En Fa}(hf:find q.E id=some e)(b:Nat){limit:Int}(h0:0<=limit)(BO:limit<=e.q.limit-(e.q.charged+e.q.given))(hn:q.next+1<1048576):(Q3q q id e b limit).Ok:=by
 have Ar:=QT.next_none ok;have Dg:=ok.next0;have Ao:q.next≠id:=fun e'=>by rw[e',hf] at Ar;cases Ar
 have A9:(upd q.E id {e.q with given:=e.q.given+limit,kids:=e.q.kids+1}).Pairwise (fun a b=>a.id≠b.id):=Q1c _ _ (fun a b a' b' _ h1 _ h2 h=>by rw[<- h1,<- h2];exact h) ok.ids;refine⟨?_,by show 0<q.next+1;omega,hn,fun j x hx=>?_⟩
 ·show(upd q.E id _++[_]).Pairwise _;rw[Z0u];refine⟨A9,by simp,fun x hx y hy=>?_⟩;rw[Z1H] at hy;subst hy;obtain⟨y,hy,_,h2,_⟩:=Q8z hx;rw[<- h2];exact Q2V Ar y hy
 ·have Bi:find (upd q.E id {e.q with given:=e.q.given+limit,kids:=e.q.kids+1}++[⟨q.next,b,⟨limit,0,0,id,0⟩⟩]) j=some x:=hx;show _/\_/\_/\_/\_/\_<q.next+1/\_/\j<q.next+1;obtain⟨f1,f2,f3,f4,f5,f6,f7,f8⟩:=ok.fa id e hf;rw[Q1O] at Bi;by_cases hj:j=id
  ·subst hj;rw[Q0m hf] at Bi;cases Bi;show 0<=e.q.charged/\0<=e.q.given+limit/\e.q.charged+(e.q.given+limit)<=e.q.limit/\e.q.limit<=_/\0<=e.q.kids+1/\e.q.kids+1<q.next+1/\0<=j/\j<q.next+1;omega
  ·rw[Q1l hj] at Bi;cases hc:find q.E j with
   | some y =>
    rw[hc] at Bi;cases Bi;obtain⟨g1,g2,g3,g4,g5,g6,g7,g8⟩:=ok.fa j x hc;omega
   | none =>
    rw[hc] at Bi;simp only at Bi;split at Bi
    ·rename_i h';cases Bi;have G4:j=q.next:=h';show 0<=(0:Int)/\0<=(0:Int)/\(0:Int)+0<=limit/\limit<=1073741824/\0<=(0:Int)/\(0:Int)<q.next+1/\0<=j/\j<q.next+1;omega
    ·cases Bi
theorem Q3r{w:World}{q:QT}(h:Sep w q.hl)(ok:q.Ok){id:Int}{e:En Fa}(hf:find q.E id=some e)(limit:Int)(h0:0<=limit)(hq:e.q.limit-(e.q.charged+e.q.given)<limit) :
  Calls prog 14 #[ptr q.t,.int .i64 id,.int .i64 limit] w (Told w (.tuple #[.int .i64 0,.int .i64 5])):=by
 have k1:=Q0E h hf;obtain⟨a1,a2,a3,a4,_⟩:=ok.fa id e hf;have k2:=Q1e (QT.fac h hf) a1 a2 a3 a4 limit;have hd:decide (limit<=e.q.limit-(e.q.charged+e.q.given))=false:=by rw[decide_eq_false_iff_not];omega
 rw[hd] at k2;clear h hf ok hd hq;unfold ptr at *
 go_enter func14,ntmps14;go_wp2_with (first|(go_at_call 66;refine k1.mono ?_;rintro e w'⟨rfl,rfl⟩)|(go_at_call 67;refine k2.mono ?_;rintro e w1⟨rfl,hb⟩;have HB:=Q0a hb;clear hb));go_ret2;exact⟨rfl,HB.out⟩
theorem Q5d{P:Program}{w:World}{m:Nat}{kv:List (Value×Value)}(h:MapIs w m kv){t k e:TypeId}(ht:P.underlying t=some (.map k e))(ty:TypeId):(Builtin.len_ #[t] ty #[.map (some m)]).run P w=.ok (.int .i64 ((kv.length:Nat):Int)) w:=by
 obtain⟨es,Ab,ho,_,hr⟩:=h;have:kv.length=es.size:=by rw[<- hr];simp
 rw[this];simp[Builtin.len_,run_underlying ht,MapKept.run_getObj_map ho,goInt,Result.andThen]
theorem QT.len{w:World}{q:QT}(h:Sep w q.hl)(ty:TypeId):(Builtin.len_ #[148] ty #[.map (some q.m)]).run prog w=.ok (.int .i64 ((q.E.length:Nat):Int)) w:=by
 have:=Q5d (QT.map h) underlying148 ty
 simpa[kvs] using this
theorem Q3S{w:World}{q:QT}(h:Sep w q.hl)(ok:q.Ok){id:Int}{e:En Fa}(hf:find q.E id=some e)(limit:Int)(h0:0<=limit)(hq:limit<=e.q.limit-(e.q.charged+e.q.given))(hl:q.E.length=32) :
  Calls prog 14 #[ptr q.t,.int .i64 id,.int .i64 limit] w (Told w (.tuple #[.int .i64 0,.int .i64 11])):=by
 have k1:=Q0E h hf;obtain⟨a1,a2,a3,a4,_⟩:=ok.fa id e hf;have k2:=Q1e (QT.fac h hf) a1 a2 a3 a4 limit;have hd:decide (limit<=e.q.limit-(e.q.charged+e.q.given))=true:=by rw[decide_eq_true_eq];exact hq
 rw[hd] at k2;have HN:Hid (∀w1,Below w.heap.size w w1->w1.cell? ⟨q.t,0,none⟩=some (.map (some q.m))/\∀ty,(Builtin.len_ #[148] ty #[.map (some q.m)]).run prog w1=.ok (.int .i64 32) w1):=fun w1 hb=>by
  have s1:=(h.grown hb).sep;refine⟨QT.c0 s1,fun ty=>?_⟩;have:=QT.len s1 ty;rw[hl] at this;exact this
 clear h hf ok hd hq hl;unfold ptr at *
 go_enter func14,ntmps14;go_wp2_with (first|(go_at_call 66;refine k1.mono ?_;rintro e w'⟨rfl,rfl⟩)|(go_at_call 67;refine k2.mono ?_;rintro e w1⟨rfl,hb⟩;obtain⟨d0,dl⟩:=HN.out w1 hb;have HB:=Q0a hb;clear hb));go_ret2;exact⟨rfl,HB.out⟩
theorem Q6B{w:World}{q:QT}(h:Sep w q.hl)(ok:q.Ok){id:Int}{e:En Fa}(hf:find q.E id=some e)(limit:Int)(h0:0<=limit)(hq:limit<=e.q.limit-(e.q.charged+e.q.given))(hl:q.E.length≠32)(hn:q.next+1<1048576) :
  Calls prog 14 #[ptr q.t,.int .i64 id,.int .i64 limit] w (Q3R w q id e limit):=by
 have k1:=Q0E h hf;obtain⟨a1,a2,a3,a4,a5,a6,_⟩:=ok.fa id e hf;have k2:=Q1e (QT.fac h hf) a1 a2 a3 a4 limit;have hd:decide (limit<=e.q.limit-(e.q.charged+e.q.given))=true:=by rw[decide_eq_true_eq];exact hq
 rw[hd] at k2;have Dg:=ok.next0;have HN:Hid (∀w1,Below w.heap.size w w1->w1.cell? ⟨q.t,0,none⟩=some (.map (some q.m))/\w1.cell? ⟨q.t,1,none⟩=some (.int .i64 q.next)/\w1.frozen? ⟨q.t,1,none⟩=false/\(∀ty,(Builtin.len_ #[148] ty #[.map (some q.m)]).run prog w1=.ok (.int .i64 ((q.E.length:Nat):Int)) w1) /\
   Q0n ((w1.setCell ⟨q.t,1,none⟩ (.int .i64 (q.next+1))).alloc (.cells #[.int .i64 limit,.int .i64 0,.int .i64 0,.int .i64 id,.int .i64 0] 147)) q.m (kvs q.E) /\
   ∀w4,Q0n w4 q.m (put (kvs q.E) q.next (.pointer (some ⟨w1.heap.size,0,none⟩)))->((w1.setCell ⟨q.t,1,none⟩ (.int .i64 (q.next+1))).alloc (.cells #[.int .i64 limit,.int .i64 0,.int .i64 0,.int .i64 id,.int .i64 0] 147)).grownBy w4 (some q.m) ->
    w4.cell? ⟨e.b,2,none⟩=some (.int .i64 e.q.given)/\w4.cell? ⟨e.b,4,none⟩=some (.int .i64 e.q.kids)/\(∀i,w4.frozen? ⟨e.b,i,none⟩=false) /\
    Q3R w q id e limit (.returned (.tuple #[.int .i64 q.next,.int .i64 0])) ((w4.setCell ⟨e.b,2,none⟩ (.int .i64 (e.q.given+limit))).setCell ⟨e.b,4,none⟩ (.int .i64 (e.q.kids+1)))):=fun w1 hb=>by
  have s1:=h.grown hb;have hm:Q0n (w1.setCell ⟨q.t,1,none⟩ (.int .i64 (q.next+1))) q.m (kvs q.E):=(QT.map s1.sep).set _ _;refine⟨QT.c0 s1.sep,QT.c1 s1.sep,(s1.sep.cells (T:=150) (cs:=[.map (some q.m),.int .i64 q.next]) (by simp[QT.hl])).free 1,QT.len s1.sep,hm.alloc _,fun w4 hm4 hg=>?_⟩;obtain⟨c1,c2,c3,st⟩:=QT.carve s1.sep ok hf limit w4 hm4 hg;exact⟨c1,c2,c3,rfl,_,s1.trans st⟩
 have hw:IntKind.i64.wrap (q.next+1)=q.next+1:=Go.IntWalk.i64_in _ (by omega);have Fb:IntKind.i64.wrap (e.q.given+limit)=e.q.given+limit:=Go.IntWalk.i64_in _ (by omega);have EK:IntKind.i64.wrap (e.q.kids+1)=e.q.kids+1:=Go.IntWalk.i64_in _ (by have:=ok.next1;omega);have If:(((q.E.length:Nat):Int)==32)=false:=by simp;omega
 generalize hQ:Q3R w q id e limit=Q at *
 clear h hf ok hd hq hl hn hQ;unfold ptr at *
 generalize ((q.E.length:Nat):Int)=n32 at *
 go_enter func14,ntmps14;go_wp2_with (first|(go_at_call 66;refine k1.mono ?_;rintro e w'⟨rfl,rfl⟩)|(go_at_call 67;refine k2.mono ?_;rintro e w1⟨rfl,hb⟩;obtain⟨d0,d1,df,dl,hm,Ap⟩:=HN.out w1 hb;have HM:=Q0a hm;have HF:=Q0a Ap;clear hb hm Ap HN)|(refine Q0D _ rfl _ _ _ 148 3 140 rfl underlying148 underlying3 q.m (kvs q.E) HM.out q.next (.pointer (some ⟨w1.heap.size,0,none⟩)) rfl rfl rfl ?_;intro w4 CG Bn;obtain⟨e2,e4,ef,G6⟩:=HF.out w4 CG Bn;have ef2:=ef 2;have ef4:=ef 4;have GE:=Q0a G6;clear CG Bn ef G6))
 (try go_ret2);exact GE.out
theorem Q3T{w:World}{q:QT}(h:Sep w q.hl){id:Int}(hf:find q.E id=none)(limit:Int) :
  Calls prog 14 #[ptr q.t,.int .i64 id,.int .i64 limit] w fun r w'=>r=.returned (.tuple #[.int .i64 0,.int .i64 6])/\w=w':=by
 have k1:=Q1J h hf;clear h hf;unfold ptr at *
 go_enter func14,ntmps14;go_wp2_with (go_at_call 66;refine k1.mono ?_;rintro e w'⟨rfl,rfl⟩);go_ret2;exact⟨rfl,rfl⟩
theorem Q5e{w:World}{q:QT}(h:Sep w q.hl){id:Int}{e:En Fa}(hf:find q.E id=some e)(limit:Int)(hl:limit<0) :
  Calls prog 14 #[ptr q.t,.int .i64 id,.int .i64 limit] w fun r w'=>r=.returned (.tuple #[.int .i64 0,.int .i64 1])/\w=w':=by
 have k1:=Q0E h hf;clear h hf;unfold ptr at *
 go_enter func14,ntmps14;go_wp2_with (go_at_call 66;refine k1.mono ?_;rintro e w'⟨rfl,rfl⟩);go_ret2;exact⟨rfl,rfl⟩
def Q9B(q:QT)(id limit:Int)(w:World)(r:Ending)(w':World):Prop:=
 (∃er,er≠0/\r=.returned (.tuple #[.int .i64 0,.int .i64 er])/\Step q.hl q.hl w w') ∨
 (∃(e:En Fa) (b:Nat),find q.E id=some e/\0<=limit/\limit<=e.q.limit-(e.q.charged+e.q.given)/\q.E.length≠32/\r=.returned (.tuple #[.int .i64 q.next,.int .i64 0])/\Step q.hl (Q3q q id e b limit).hl w w')
theorem Q5f{w:World}{q:QT}(h:Sep w q.hl)(ok:q.Ok)(hn:q.next+1<1048576)(id limit:Int) :
  Calls prog 14 #[ptr q.t,.int .i64 id,.int .i64 limit] w (Q9B q id limit w):=by
 cases hf:find q.E id with
 | none =>
  refine(Q3T h hf limit).mono ?_;rintro r w'⟨rfl,rfl⟩;exact .inl ⟨6,by decide,rfl,Step.refl h⟩
 | some e =>
  by_cases h0:limit<0
  ·refine(Q5e h hf limit h0).mono ?_;rintro r w'⟨rfl,rfl⟩;exact .inl ⟨1,by decide,rfl,Step.refl h⟩
  ·by_cases hq:limit<=e.q.limit-(e.q.charged+e.q.given)
   ·by_cases hl:q.E.length=32
    ·refine(Q3S h ok hf limit (by omega) hq hl).mono ?_;rintro r w'⟨rfl,hb⟩;exact .inl ⟨11,by decide,rfl,h.grown hb⟩
    ·refine(Q6B h ok hf limit (by omega) hq hl hn).mono ?_;rintro r w'⟨rfl,b,st⟩;exact .inr ⟨e,b,hf,by omega,hq,hl,rfl,st⟩
   ·refine(Q3r h ok hf limit (by omega) (by omega)).mono ?_;rintro r w'⟨rfl,hb⟩;exact .inl ⟨5,by decide,rfl,h.grown hb⟩
end Go.Proofs.YtfidemmgofcnmaaGreatDoor

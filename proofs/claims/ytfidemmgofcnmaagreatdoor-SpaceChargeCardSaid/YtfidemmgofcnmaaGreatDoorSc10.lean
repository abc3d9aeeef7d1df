/- SpaceCharge returns true at every input. No condition. Part of its proof. -/
import Derived.Test.YtfidemmgofcnmaaGreatDoorSc09
set_option maxHeartbeats 4000000
set_option maxRecDepth 100000
set_option linter.unusedVariables false
namespace Go.Proofs.YtfidemmgofcnmaaGreatDoor
open Go.RowKit Go.Proofs.Tryz
theorem Q4Z {P:Program} (w:World) {ops:Array Oper} {rest:List Oper} {o:Oper} {a:Act} {Q:Exit->Act->World->Prop}
  (hg:o.guard=none) (m k x:Operand) (t K V:TypeId) (hop:o.op=.insert t m k x) (hT:P.underlying t=some (.map K V)) (hK:P.underlying K=some (.int .i64))
  (b:Nat) (kv:List (Int×Value)) (h:Q0z w b kv) (id:Int) (u:Value) (hm:a.eval m=.map (some b)) (hk:a.eval k=.int .i64 id) (hx:a.eval x=u)
  (hK':∀w',Q0z w' b (put kv id u)->w.grownBy w' (some b)->wpList P ops Q rest (a.put o.dst undef) w'):wpList P ops Q (o::rest) a w:=by
 refine wpList_plain hg fun K' hK''=>?_
 obtain⟨w',DZ,r1,r2⟩:=Q1w (P:=P) h id u hT hK;unfold Oper.wp;simp [execOp,hop,hm,hk,hx,DZ,Result.andThen];exact hK'' _ _ (hK' w' r1 r2)
def Q2r (t m b:Nat) (limit:Int):QT:=⟨t,m,[⟨0,b,⟨limit,0,0,-1,0⟩⟩],1⟩
theorem Z8d (t m b:Nat) (limit:Int) (h0:0<=limit) (h1:limit<=1073741824):(Q2r t m b limit).Ok:=by
 refine⟨by simp [Q2r],by simp [Q2r],by simp [Q2r],fun id e he=>?_⟩;simp only [Q2r,find] at he;by_cases h:id=0
 ·simp [h] at he;subst he;subst h;simp [Q2r];omega
 ·simp [h] at he
def NewQ (limit:Int) (H:HL) (w:World) (r:Ending) (w':World):Prop:=∃t m b,r=.returned (.pointer (some ⟨t,0,none⟩))/\Step H ((Q2r t m b limit).hl++H) w w'
theorem Z8e {w:World} {H:HL} (h:Sep w H) (limit:Int) (h0:0<=limit) (h1:limit<=1073741824):Calls prog 62 #[.int .i64 limit] w (NewQ limit H w):=by
 have HR:Hid (∀w1,Q0z w1 w.heap.size [(0,.pointer (some ⟨w.heap.size+1,0,none⟩))]->((w.alloc (.map #[] 0)).alloc (.cells #[.int .i64 limit,.int .i64 0,.int .i64 0,.int .i64 (-1),.int .i64 0] 147)).grownBy w1 (some w.heap.size) ->
   NewQ limit H w (.returned (.pointer (some ⟨w1.heap.size,0,none⟩))) (w1.alloc (.cells #[.map (some w.heap.size),.int .i64 1] 150))):=fun w1 hm hg=>by
  have s1:=h.newMap;have s2:=s1.sep.new 147 [.int .i64 limit,.int .i64 0,.int .i64 0,.int .i64 (-1),.int .i64 0];have e1:(w.alloc (.map #[] 0)).heap.size=w.heap.size+1:=by simp
  rw [e1] at s2;obtain⟨es,Af,ho,hr⟩:=hm;have s3:=Sep.turn (A:=[(w.heap.size+1,isC 147 [.int .i64 limit,.int .i64 0,.int .i64 0,.int .i64 (-1),.int .i64 0])]) (q':=isMI [(0,.pointer (some ⟨w.heap.size+1,0,none⟩))]) s2.sep hg ⟨_,ho,es,Af,rfl,hr⟩;have s4:=s3.sep.new 150 [.map (some w.heap.size),.int .i64 1];refine⟨w1.heap.size,w.heap.size,w.heap.size+1,rfl,?_⟩;have:=((s1.trans s2).trans s3).trans s4;refine this.perm (J5T _) ?_;simp only [Q2r,QT.hl,facH,kvs,J2B,J5g,J4L,J4K,Fa.cells,ptr];refine List.Perm.cons _ ?_;exact List.Perm.swap _ _ _
 have hM:Q0z ((w.alloc (.map #[] 0)).alloc (.cells #[.int .i64 limit,.int .i64 0,.int .i64 0,.int .i64 (-1),.int .i64 0] 147)) w.heap.size []:=(MapIs.new w).alloc _;have KT:=@run_makeMap prog;clear h;go_enter func62,ntmps62;go_wp2_with (refine Q4Z _ rfl _ _ _ 148 3 140 rfl underlying148 underlying3 w.heap.size [] hM 0 (.pointer (some ⟨w.heap.size+1,0,none⟩)) rfl rfl rfl ?_;intro w1 Dm C3;have Hb:=Q0a (HR.out w1 Dm C3);clear Dm C3);go_ret;exact Hb.out
theorem J1A {w:World} (hT:TabB w) (k:Nat) (hk:k<64) :
  Calls prog 125 #[.int .u64 ((2 ^ k:Nat):Int)] w fun r w'=>r=.returned (.int .i64 k)/\w=w':=by
 have k1:=Z1j hT (fun j=>j==k) k hk (by simp) (fun j hj=>by simp;omega);rw [Z1y k hk] at k1;clear hT;have b2:2 ^ k<18446744073709551616:=by
  have:=J3S (a:=2) (by omega) hk;exact J2A this (by decide)
 generalize 2 ^ k=n at *
 go_enter func125,ntmps125;go_wp2_with (go_at_call 135;refine k1.mono ?_;rintro e w' ⟨rfl,rfl⟩);go_ret;exact⟨rfl,rfl⟩
def J0v (top:Nat) (H:HL) (w:World) (r:Ending) (w':World):Prop:=∃d:BD,r=.returned (.pointer (some ⟨d.b,0,none⟩))/\d.top=top/\d.ps=[]/\d.At/\Step H (d.hl++H) w w'
theorem BD.snoc {w w1:World} {H:HL} {d:BD} (h:Sep w (d.hl++H)) (hl:d.bms.length<21) (m:BM) (hs:Step (d.hl++H) (m.hl++(d.hl++H)) w w1) :
  Step (d.hl++H) (({d with bms:=d.bms++[m]}:BD).hl++H) w (w1.setCell ⟨d.b,1+d.bms.length,none⟩ (ptr m.b)):=by
 have ec:d.cells.set (1+d.bms.length) (ptr m.b)=({d with bms:=d.bms++[m]}:BD).cells:=by
  unfold BD.cells;rw [J3J,J5k];congr 1;simp only [J3j,J6B,J6d,J2B,J5g];rw [show 21-d.bms.length=(21-(d.bms.length+1))+1 from by omega,List.replicate_succ,J3A,J6r _ _ (by simp),J4j,J5R];simp
 have hp:(m.hl++(d.hl++H)).Perm (d.hl++(m.hl++H)):=by
  rw [<- J3A,<- J3A];exact J5m H J5n
 have h1:=hs.sep.perm hp;have h2:Sep w1 ([]++(d.b,isC 158 d.cells)::((d.mb,isMI (upk d.ps))::d.bms.flatMap BM.hl++(m.hl++H))):=h1;have h3:=h2.set (1+d.bms.length) (ptr m.b);rw [ec] at h3;have h4:Step (d.hl++H) (d.hl++(m.hl++H)) w w1:=hs.perm (J5T _) hp;refine (h4.trans h3).perm (J5T _) ?_;unfold BD.hl;simp only [J4K,J4L,J3h,J2W,J6C,J4G,J3A];exact J5T _
theorem Z5o {w:World} {H:HL} (h:Sep w H) (top:Nat) (h1:6<=top) (h2:top<=20):Calls prog 63 #[.int .i64 ((2 ^ (top+10):Nat):Int)] w (J0v top H w):=by
 have k1:=Z1z (w:=w) (top+10) (by omega);have k2:=J1A h.env.tabB top (by omega);have b1:65536<=2 ^ (top+10):=J2z (by decide:65536<=2 ^ 16) (J3O (by omega) (by omega));have b2:2 ^ (top+10)<=1073741824:=J2z (J3O (by omega) (by omega)) (by decide:2 ^ 30<=1073741824);have Kq:((2 ^ (top+10):Nat):Int)/1024=((2 ^ top:Nat):Int):=by
  rw [J4b,show (2:Nat) ^ 10=1024 from rfl];omega
 have bt:2 ^ top<=1048576:=by have:=Q2m (k:=0) h2;simpa using this
 generalize 2 ^ (top+10)=n at *
 generalize 2 ^ top=t at *
 have h0:Hid (Step H ((⟨w.heap.size+1,w.heap.size,top,[],[]⟩:BD).hl++H) w ((w.alloc (.map #[] 0)).alloc (.cells (BD.cells ⟨w.heap.size+1,w.heap.size,top,[],[]⟩).toArray 158))):=by
  have s1:=h.newMap;have s2:=s1.sep.new 158 (BD.cells ⟨w.heap.size+1,w.heap.size,top,[],[]⟩);have:=s1.trans s2;show Step _ _ _ _
  simpa [BD.hl,upk,isMI] using this
 have HR:=Q0a (show ∀(k:Nat) (bms:List BM) (wr:World),k<=top->bms.length=k->(∀j m,bms[j]?=some m->m.bits=List.replicate (2 ^ (top-j)) false)->Step H ((⟨w.heap.size+1,w.heap.size,top,bms,[]⟩:BD).hl++H) w wr ->
   wr.cell? ⟨w.heap.size+1,0,none⟩=some (.int .i64 top)/\wr.cell? ⟨w.heap.size+1,1+k,none⟩=some (.pointer none)/\wr.frozen? ⟨w.heap.size+1,1+k,none⟩=false /\
   Calls prog 126 #[.int .i64 ((2 ^ (top-k):Nat):Int)] wr.drew fun r w1=>∃mb:Nat,r=.returned (.pointer (some ⟨mb,0,none⟩))/\(w1.cell? ⟨w.heap.size+1,0,none⟩=some (.int .i64 top)/\w1.cell? ⟨w.heap.size+1,1+k,none⟩=some (.pointer none)/\w1.frozen? ⟨w.heap.size+1,1+k,none⟩=false)/\(∀v,(w1.setCell ⟨w.heap.size+1,1+k,none⟩ v).cell? ⟨w.heap.size+1,0,none⟩=some (.int .i64 top)) /\
    ∃bms',bms'.length=k+1/\(∀j m,bms'[j]?=some m->m.bits=List.replicate (2 ^ (top-j)) false)/\Step H ((⟨w.heap.size+1,w.heap.size,top,bms',[]⟩:BD).hl++H) w (w1.setCell ⟨w.heap.size+1,1+k,none⟩ (.pointer (some ⟨mb,0,none⟩))) from fun k bms wr hk Ae hb Ao=>by
  have hs:=Ao.sep.left;have cells:∀{w1:World},Sep w1 (⟨w.heap.size+1,w.heap.size,top,bms,[]⟩:BD).hl->w1.cell? ⟨w.heap.size+1,0,none⟩=some (.int .i64 top)/\w1.cell? ⟨w.heap.size+1,1+k,none⟩=some (.pointer none)/\w1.frozen? ⟨w.heap.size+1,1+k,none⟩=false:=by
   intro w1 Ct;have hc:=BD.sepC Ct;refine⟨hc.cell 0 _ rfl,hc.cell (1+k) _ ?_,hc.free _⟩;unfold BD.cells;rw [show 1+k=k+1 from J3J 1 k,J5M,J3A,J5O (by simp [Ae]),J4j,Ae,J5R,J5N (by simp;omega),J4B,if_pos (by omega)]
  refine⟨(cells hs).1,(cells hs).2.1,(cells hs).2.2,(Q8t Ao.sep.drew (2 ^ (top-k)) (Q2m h2)).mono ?_⟩;rintro r w1 ⟨m,rfl,GF,Ct⟩;have A7:=Ct.from_drew;refine⟨m.b,rfl,cells (Ct.sep.right.left),fun v=>((BD.sepC Ct.sep.right.left).set (1+k) v).cell 0 _ (by unfold BD.cells;rw [show 1+k=k+1 from J3J 1 k,J5k];rfl),bms++[m],by simp [Ae],?_,?_⟩
  ·intro j x hx;by_cases hj:j<bms.length
   ·rw [J5N hj] at hx;exact hb j x hx
   ·rw [J5O (by omega)] at hx;have KZ:j=k:=by
     have:=(J2Q.1 hx).1;simp at this;omega
    subst KZ;rw [Ae,J5R] at hx;cases hx;exact GF
  ·have:=Ao.trans (BD.snoc Ao.sep (by show bms.length<21;omega) m A7);rw [Ae] at this;exact this)
 have EV:=Q0a (show ∀(bms:List BM) (wr:World),bms.length=top+1->(∀j m,bms[j]?=some m->m.bits=List.replicate (2 ^ (top-j)) false)->Step H ((⟨w.heap.size+1,w.heap.size,top,bms,[]⟩:BD).hl++H) w wr ->
   wr.cell? ⟨w.heap.size+1,0,none⟩=some (.int .i64 top)/\∃b,wr.cell? ⟨w.heap.size+1,1+top,none⟩=some (.pointer (some ⟨b,0,none⟩)) /\
   Calls prog 127 #[.pointer (some ⟨b,0,none⟩),.bool true,.slice (some ⟨wr.heap.size,0,none⟩) 1 1] (wr.alloc (.cells #[.int .i64 0] 3)).drew fun r w1=>r=.returned (.int .i64 1)/\(w1.cell? ⟨w.heap.size+1,0,none⟩=some (.int .i64 top)/\w1.cell? ⟨w.heap.size+1,1+top,none⟩=some (.pointer (some ⟨b,0,none⟩)))/\J0v top H w (.returned (.pointer (some ⟨w.heap.size+1,0,none⟩))) w1 from fun bms wr Ae hb Ao=>by
  have hs:=Ao.sep.left;have Ap:(⟨w.heap.size+1,w.heap.size,top,bms,[]⟩:BD).Is fun _ _=>false:=by
   refine⟨Ae,h2,fun k m hm=>?_⟩;rw [hb k m hm]
   apply J4i
   intro j;rw [J4B,J4l];by_cases hj:j<2 ^ (top-k)
   ·rw [if_pos hj,J4n hj];rfl
   ·rw [if_neg hj,J4p (by simp;omega)];rfl
  obtain⟨b,h3,h4⟩:=Q8B (w:=wr.drew) hs.drew Ap top 0 true (J2y _) (J3P _) (by decide);refine⟨BD.c0 hs,b,h3,h4.mono ?_⟩;rintro r w1 ⟨rfl,d',AB,Hn⟩;have etop:d'.top=top:=AB.top;have eps:d'.ps=[]:=AB.ps;have eb:d'.b=w.heap.size+1:=AB.b;have Gp:(bms.map BM.b)[top]?=some b:=by
   have Ab:top<bms.length:=by omega
   have hg:=J4R Ab;have hc:=BD.cf hs.drew top _ hg;rw [h3] at hc;rw [J4l,hg];cases hc;rfl
  refine⟨rfl,⟨by have:=BD.c0 AB.step.sep;rw [eb,etop] at this;exact this,AB.ptr Gp⟩,d',by rw [eb],etop,eps,⟨⟨Hn.len,Hn.top,?_⟩,by rw [eps];exact J6D,by rw [eps];simp⟩,?_⟩
  ·intro k m hm;rw [Hn.bits k m hm];have Ee:k<=d'.top:=by
    have q1:k<d'.bms.length:=(J2Q.1 hm).1;have q2:d'.bms.length=d'.top+1:=Hn.len;omega
   rw [etop] at Ee ⊢
   apply J4J
   intro x hx;rw [eps,Z7K (uOf []) top (by simp [uOf]) k x Ee (J2P.1 hx)];unfold upG;by_cases hk:k=top
   ·subst hk;have:x=0:=by have:=J2P.1 hx;simp at this;exact this
    simp [this]
   ·simp [hk]
  ·have:=Step.frame [] H (by simpa using Ao.sep) AB.step.from_drew;exact Ao.trans (by simpa using this))
 have II:Hid (∃bms:List BM,bms.length=0/\(∀j m,bms[j]?=some m->m.bits=List.replicate (2 ^ (top-j)) false)/\Step H ((⟨w.heap.size+1,w.heap.size,top,bms,[]⟩:BD).hl++H) w ((w.alloc (.map #[] 0)).alloc (.cells (Array.mk (.int .i64 top::(List.replicate 21 (.pointer none)++[.map (some w.heap.size)]))) 158))):=
  ⟨[],rfl,by simp,h0.out⟩
 clear h0;have BI:((w.alloc (.map #[] 0)).alloc (.cells (Array.mk (.int .i64 top::(List.replicate 21 (.pointer none)++[.map (some w.heap.size)]))) 158)).cell? ⟨w.heap.size+1,0,none⟩=some (.int .i64 top):=by
  simp
 have KT:=@run_makeMap prog;clear h;go_enter func63,ntmps63;go_wp2_with (first|(go_at_call 124;refine k1.mono ?_;rintro e w' ⟨rfl,rfl⟩)|(go_at_call 125;refine k2.mono ?_;rintro e w' ⟨rfl,rfl⟩))
 go_loopw [29] (fun kv wr=>∃(k:Nat) (bms:List BM),kv=.int .i64 k/\k<=top+1/\bms.length=k/\(∀j m,bms[j]?=some m->m.bits=List.replicate (2 ^ (top-j)) false)/\Step H ((⟨w.heap.size+1,w.heap.size,top,bms,[]⟩:BD).hl++H) w wr) (fun kv _=>top+1-(intOf kv).toNat)
 case atStart =>
  obtain⟨bms,q1,q2,q3⟩:=II.out;exact⟨0,bms,rfl,by omega,q1,q2,q3⟩
 case round =>
  clear BI II k1 k2;obtain⟨k,bms,rfl,hk,q1,q2,q3⟩:=hrel;by_cases Ab:k<=top
  ·obtain⟨c0,c1,cf,Bc⟩:=HR.out k bms wr Ab q1 q2 q3;have d0:wr.drew.cell? ⟨w.heap.size+1,0,none⟩=some (.int .i64 top):=c0;have d1:wr.drew.cell? ⟨w.heap.size+1,1+k,none⟩=some (.pointer none):=c1;have df:wr.drew.frozen? ⟨w.heap.size+1,1+k,none⟩=false:=cf;have Do:=Q0a Bc;clear Bc q1 q2 q3;have Ct:IntKind.i64.wrap ((top:Int)-k)=((top-k:Nat):Int):=by rw [Go.IntWalk.i64_in _ (by omega)];omega
   have A7:IntKind.i64.wrap (2 ^ (top-k))=((2 ^ (top-k):Nat):Int):=by
    have hp:=Q2m (k:=k) h2;have e:(2:Int) ^ (top-k)=((2 ^ (top-k):Nat):Int):=by push_cast;rfl
    rw [e];generalize 2 ^ (top-k)=y at hp ⊢;exact Go.IntWalk.i64_in _ (by omega)
   have Pv:(0:Int)<=k:=by omega
   have O7:(k:Int)<21:=by omega
   go_wp2_with fail
   go_region_held3 (fun w'=>w'.cell? ⟨w.heap.size+1,0,none⟩=some (.int .i64 top))
    (first|exact c0|exact d0|exact e0|exact ek _)
    (first|(go_at_call 126;refine Do.out.mono ?_;rintro r w1 ⟨mb,rfl,⟨e0,e1,ef⟩,ek,Bq⟩;have Ig:=Q0a Bq;clear Bq))
   go_wp2_with fail;obtain⟨bms',r1,r2,r3⟩:=Ig.out;go_roundw
   case rel=>exact⟨k+1,bms',by go_num,by omega,r1,r2,r3⟩
   case measure=>simp [intOf];omega
  ·obtain rfl:k=top+1:=by omega
   obtain⟨c0,b,c1,AP⟩:=EV.out bms wr q1 q2 q3;clear q1 q2 q3;have d0:wr.drew.cell? ⟨w.heap.size+1,0,none⟩=some (.int .i64 top):=c0;have d1:wr.drew.cell? ⟨w.heap.size+1,1+top,none⟩=some (.pointer (some ⟨b,0,none⟩)):=c1;have Pv:(0:Int)<=top:=by omega
   have O7:(top:Int)<21:=by omega
   have C9:=Q0a AP;clear AP;go_wp2_with fail
   go_region_held3 (fun w'=>w'.cell? ⟨w.heap.size+1,0,none⟩=some (.int .i64 top)/\w'.cell? ⟨w.heap.size+1,1+top,none⟩=some (.pointer (some ⟨b,0,none⟩)))
    (first|exact⟨c0,c1⟩|exact⟨d0,d1⟩|exact⟨e0,e1⟩|go_keep)
    (first|(go_at_call 127;refine C9.out.mono ?_;rintro r w1 ⟨rfl,⟨e0,e1⟩,Bq⟩;have Ig:=Q0a Bq;clear Bq))
   go_wp2_with fail;go_ret;exact Ig.out
def J1B (bb s:Nat) (H:HL) (w:World) (r:Ending) (w':World):Prop:=
 ∃c,r=.returned (ptr c)/\Step H ((⟨c,bb,s,none,[]⟩:CA).hl++H) w w'
theorem CA.ok_new (c bb s:Nat) (s0:16<=s) (s1:s<=512):(⟨c,bb,s,none,[]⟩:CA).Ok:=⟨rfl,s0,s1,.nil,by simp,by simp,by simp⟩
theorem Z0q {w:World} {H:HL} (h:Sep w H) (bb s:Nat) (s0:16<=s) (s1:s<=512) (sm:s%16=0):Calls prog 65 #[ptr bb,.int .i64 s] w (J1B bb s H w):=by
 have HR:Hid (J1B bb s H w (.returned (ptr w.heap.size)) (w.alloc (.cells #[ptr bb,.int .i64 s,.slice none 0 0] 233))):=
  ⟨w.heap.size,rfl,h.new 233 [ptr bb,.int .i64 s,.slice none 0 0]⟩
 have hr:IntKind.i64.wrap ((s:Int).tmod 16)=0:=by rw [J4r (by omega)];rw [show (s:Int)%16=0 by omega];rfl
 have KY:(s:Int).tmod 16=0:=by rw [J4r (by omega)];omega
 have h1:decide ((s:Int)<16)=false:=by simp;omega
 have h2:decide ((512:Int)<s)=false:=by simp;omega
 clear sm h;unfold ptr at *
 go_enter func65,ntmps65;go_wp2_with fail;go_ret;exact HR.out
theorem Q8O {w:World} (bb:Nat):Calls prog 65 #[ptr bb,.int .i64 0] w fun r w'=>r=.returned (.pointer none)/\w=w':=by
 unfold ptr;go_enter func65,ntmps65;go_wp2_with fail;go_ret;exact⟨rfl,rfl⟩
def PL.cellsN (P:PL):List Value:=ptr P.q.t::ptr P.d.b::ptr P.a.a::.pointer none::(P.cs.map (fun c=>ptr c.c)++List.replicate (7-P.cs.length) (.pointer none))
def PL.hlN (P:PL):HL:=(P.p,isC 137 P.cellsN)::(P.q.hl++(P.d.hl++(P.a.hl++P.cs.flatMap CA.hl)))
theorem Z8f {P:PL} (h:P.cs.length=7):P.hlN=P.hl:=by
 unfold PL.hlN PL.hl PL.cellsN PL.cells;rw [h];simp
theorem PL.snoc {w w1:World} {H:HL} {P:PL} (hl:P.cs.length<7) (c:CA) (hs:Step (P.hlN++H) (c.hl++(P.hlN++H)) w w1) :
  Step (P.hlN++H) (({P with cs:=P.cs++[c]}:PL).hlN++H) w (w1.setCell ⟨P.p,3+(P.cs.length+1),none⟩ (ptr c.c)):=by
 have ec:P.cellsN.set (3+(P.cs.length+1)) (ptr c.c)=({P with cs:=P.cs++[c]}:PL).cellsN:=by
  unfold PL.cellsN;rw [show 3+(P.cs.length+1)=P.cs.length+1+1+1+1 by omega];simp only [J5k,J3j,J6B,J6d,J2B,J5g];rw [J6r _ _ (by simp),J4j,J5R,show 7-P.cs.length=(7-(P.cs.length+1))+1 by omega,List.replicate_succ,J5l,J3A];rfl
 have s2:Step _ _ w1 _:=Sep.set (A:=c.hl) (b:=P.p) (T:=137) (cs:=P.cellsN) (B:=(P.q.hl++(P.d.hl++(P.a.hl++P.cs.flatMap CA.hl)))++H) (by simpa [PL.hlN] using hs.sep) (3+(P.cs.length+1)) (ptr c.c);rw [ec] at s2;have h3:=Step.trans (H1:=c.hl++(P.p,isC 137 P.cellsN)::((P.q.hl++(P.d.hl++(P.a.hl++P.cs.flatMap CA.hl)))++H)) (by simpa [PL.hlN] using hs) s2;refine h3.perm (.of_eq (by unfold PL.hlN;simp)) (Q1e fun a=>?_);simp only [PL.hlN,J3h,J2W,J6C,J4G,hc_append,hc_cons];omega
def FreshC (bb:Nat) (cs:List CA):Prop:=∀j c,cs[j]?=some c->c.bb=bb/\c.size=Q0c (j+1)/\c.rv=none/\c.pg=[]
theorem FreshC.snoc {bb:Nat} {cs:List CA} (h:FreshC bb cs) (c:Nat):FreshC bb (cs++[⟨c,bb,Q0c (cs.length+1),none,[]⟩]):=by
 intro j x hx;by_cases hj:j<cs.length
 ·rw [J5N hj] at hx;exact h j x hx
 ·rw [J5O (by omega)] at hx;have:j=cs.length:=by
   have:=(J2Q.1 hx).1;simp at this;omega
  subst this;rw [J5R] at hx;cases hx;exact⟨rfl,rfl,rfl,rfl⟩
structure FreshP (P:PL) (top:Nat) (limit:Int):Prop where
 q:∃t m b,P.q=Q2r t m b limit
 etop:P.d.top=top
 ps:P.d.ps=[]
 at':P.d.At
 mem:P.a.mem=List.replicate (2 ^ (top+10)) 0
 cs:FreshC P.d.b P.cs
theorem FreshP.ok {P:PL} {top:Nat} {limit:Int} (h:FreshP P top limit) (hl:P.cs.length=7) (h1:6<=top) (h0:0<=limit) (hm:limit<=1073741824):P.Ok []:=by
 obtain⟨t,m,b,hq⟩:=h.q;have DI:P.pages=[]:=by
  unfold PL.pages;rw [List.flatMap_eq_nil_iff];intro c hc;obtain⟨j,hj⟩:=J5o.1 hc;rw [(h.cs j c hj).2.2.2];rfl
 refine⟨by rw [hq];exact Z8d t m b limit h0 hm,h.at',by rw [h.mem,h.etop,J2I],by rw [h.etop];exact h1,?_,hl,?_,by rw [DI,h.ps];exact J5T _,?_⟩
 ·intro x hx;rw [h.mem] at hx;rw [J2G hx];omega
 ·intro k c hc;obtain⟨e1,e2,e3,e4⟩:=h.cs k c hc;have hk:k<7:=by have:=(J2Q.1 hc).1;omega
  obtain⟨s0,s1,_⟩:=Q7S (k:=k+1) (by omega) (by omega);have Mh:=CA.ok_new c.c c.bb c.size (by rw [e2];omega) (by rw [e2];omega);have:(⟨c.c,c.bb,c.size,none,[]⟩:CA)=c:=by cases c;simp_all
  rw [this] at Mh;exact⟨Mh,e2,e1⟩
 ·intro c hc x hx;obtain⟨j,hj⟩:=J5o.1 hc;rw [(h.cs j c hj).2.2.2] at hx;cases hx
def J0w (top:Nat) (limit:Int) (H:HL) (w:World) (r:Ending) (w':World):Prop:=∃P:PL,r=.returned (.pointer (some ⟨P.p,0,none⟩))/\P.cs.length=7/\FreshP P top limit/\Step H (P.hl++H) w w'
def Z1E (P:PL) (i:Nat) (top:Nat) (limit:Int) (H:HL) (w wr:World):Prop:=P.cs.length=i-1/\FreshP P top limit/\Step H (P.hlN++H) w wr
theorem Z2D {w wr:World} {H:HL} {P:PL} {i top:Nat} {limit:Int} (hi:i<8) (hp:Z1E P i top limit H w wr) (cst:Int) (hc:Z4i[i]?=some cst) :
  wr.cell? ⟨P.p,1,none⟩=some (ptr P.d.b)/\wr.cell? ⟨P.p,3+i,none⟩=some (.pointer none)/\wr.frozen? ⟨P.p,3+i,none⟩=false /\
  Calls prog 65 #[ptr P.d.b,.int .i64 cst] wr.drew fun r w1=>∃v,r=.returned (.pointer v)/\w1.cell? ⟨P.p,1,none⟩=some (ptr P.d.b)/\(∀v,(w1.setCell ⟨P.p,3+i,none⟩ v).cell? ⟨P.p,1,none⟩=some (ptr P.d.b))/\w1.cell? ⟨P.p,3+i,none⟩=some (.pointer none)/\w1.frozen? ⟨P.p,3+i,none⟩=false /\
   ∃P':PL,P'.p=P.p/\P'.d.b=P.d.b/\Z1E P' (i+1) top limit H w (w1.setCell ⟨P.p,3+i,none⟩ (.pointer v)):=by
 obtain⟨Ae,hf,Ao⟩:=hp;have cells:∀{w1:World},Sep w1 P.hlN->w1.cell? ⟨P.p,1,none⟩=some (ptr P.d.b)/\(∀v,(w1.setCell ⟨P.p,3+i,none⟩ v).cell? ⟨P.p,1,none⟩=some (ptr P.d.b))/\w1.cell? ⟨P.p,3+i,none⟩=some (.pointer none)/\w1.frozen? ⟨P.p,3+i,none⟩=false:=by
  intro w1 Ct;have AJ:Cells w1 P.p 137 P.cellsN:=Ct.cells (by simp [PL.hlN]);refine⟨AJ.cell 1 _ rfl,fun v=>(AJ.set (3+i) v).cell 1 _ ?_,AJ.cell (3+i) _ ?_,AJ.free _⟩
  ·rw [J6h (by omega)];rfl
  ·unfold PL.cellsN;cases i with
   | zero=>rfl
   | succ i =>
    rw [show 3+(i+1)=i+1+1+1+1 by omega];simp only [J5M];rw [J5O (by simp;omega),J4j,Ae];rw [J4B,if_pos (by omega)]
 have hs:=Ao.sep.left;obtain⟨a1,_,a2,a3⟩:=cells hs;refine⟨a1,a2,a3,?_⟩;cases i with
 | zero =>
  cases hc
  refine (Q8O P.d.b).mono ?_;rintro r w1 ⟨rfl,rfl⟩;obtain⟨b1,b2,b3,b4⟩:=cells Ao.sep.drew.left;have hP:P.cs=[]:=J4Q Ae;have G8:Step (P.hlN++H) (P.hlN++H) wr.drew (wr.drew.setCell ⟨P.p,3,none⟩ (.pointer none)):=by
   have:=Sep.set (A:=[]) (b:=P.p) (T:=137) (cs:=P.cellsN) (B:=(P.q.hl++(P.d.hl++(P.a.hl++P.cs.flatMap CA.hl)))++H) (by simpa [PL.hlN] using Ao.sep.drew) 3 (.pointer none);have e:P.cellsN.set 3 (.pointer none)=P.cellsN:=rfl;rw [e] at this
   simpa [PL.hlN] using this
  exact⟨none,rfl,b1,b2,b3,b4,P,rfl,rfl,by simp [Ae],hf,Ao.trans G8.from_drew⟩
 | succ i =>
  have PI:cst=((Q0c (i+1):Nat):Int):=by
   have:=Q8F (k:=i+1) hi;rw [hc] at this;cases this;rfl
  subst PI;obtain⟨s0,s1,s2⟩:=Q7S (k:=i+1) (by omega) (by omega);refine (Z0q Ao.sep.drew P.d.b (Q0c (i+1)) (by omega) (by omega) s2).mono ?_;rintro r w1 ⟨c,rfl,Ct⟩;obtain⟨b1,b2,b3,b4⟩:=cells Ct.sep.right.left;have Hd:P.cs.length=i:=by omega
  have D0:=PL.snoc (by omega) _ Ct.from_drew;rw [Hd] at D0;have Ky:=hf.cs.snoc c;rw [Hd] at Ky;exact⟨some ⟨c,0,none⟩,rfl,b1,b2,b3,b4,{P with cs:=P.cs++[⟨c,P.d.b,Q0c (i+1),none,[]⟩]},rfl,rfl,by simp [Hd],⟨hf.q,hf.etop,hf.ps,hf.at',hf.mem,Ky⟩,Ao.trans D0⟩
theorem Z2E {w w1 w2 w3:World} {H:HL} {limit:Int} {top:Nat} {t m b:Nat} {d:BD} {a:AN} (s1:Step H ((Q2r t m b limit).hl++H) w w1) (e1:d.top=top) (e2:d.ps=[]) (e3:d.At) (s2:Step ((Q2r t m b limit).hl++H) (d.hl++((Q2r t m b limit).hl++H)) w1 w2)
  (e4:a.mem=List.replicate (2 ^ (top+10)) 0) (s3:Step (d.hl++((Q2r t m b limit).hl++H)) (a.hl++(d.hl++((Q2r t m b limit).hl++H))) w2 w3) :
  Z1E ⟨w3.heap.size,Q2r t m b limit,d,a,[]⟩ 0 top limit H w (w3.alloc (.cells #[ptr t,ptr d.b,ptr a.a,.pointer none,.pointer none,.pointer none,.pointer none,.pointer none,.pointer none,.pointer none,.pointer none] 137)):=by
 have s4:=s3.sep.new 137 [ptr t,ptr d.b,ptr a.a,.pointer none,.pointer none,.pointer none,.pointer none,.pointer none,.pointer none,.pointer none,.pointer none];refine⟨rfl,⟨⟨t,m,b,rfl⟩,e1,e2,e3,e4,fun j c hj=>by simp at hj⟩,?_⟩;have:=((s1.trans s2).trans s3).trans s4;refine this.perm (J5T _) (Q1e fun x=>?_);have e:PL.cellsN ⟨w3.heap.size,Q2r t m b limit,d,a,[]⟩=[ptr t,ptr d.b,ptr a.a,.pointer none,.pointer none,.pointer none,.pointer none,.pointer none,.pointer none,.pointer none,.pointer none]:=rfl;simp only [PL.hlN,e,J6C,J4G,hc_append,hc_cons];omega
theorem Z5p (w:World):(Instr.index 138 (.agg #[.int .i64 0,.int .i64 64,.int .i64 128,.int .i64 256,.int .i64 32,.int .i64 32,.int .i64 48,.int .i64 256]) (.int .i64 0)).run prog w=.ok (.int .i64 0) w:=by kernel_rfl
theorem Z5q (w:World):(Instr.index 138 (.agg #[.int .i64 0,.int .i64 64,.int .i64 128,.int .i64 256,.int .i64 32,.int .i64 32,.int .i64 48,.int .i64 256]) (.int .i64 1)).run prog w=.ok (.int .i64 64) w:=by kernel_rfl
theorem Z5r (w:World):(Instr.index 138 (.agg #[.int .i64 0,.int .i64 64,.int .i64 128,.int .i64 256,.int .i64 32,.int .i64 32,.int .i64 48,.int .i64 256]) (.int .i64 2)).run prog w=.ok (.int .i64 128) w:=by kernel_rfl
theorem Z5s (w:World):(Instr.index 138 (.agg #[.int .i64 0,.int .i64 64,.int .i64 128,.int .i64 256,.int .i64 32,.int .i64 32,.int .i64 48,.int .i64 256]) (.int .i64 3)).run prog w=.ok (.int .i64 256) w:=by kernel_rfl
theorem Z5t (w:World):(Instr.index 138 (.agg #[.int .i64 0,.int .i64 64,.int .i64 128,.int .i64 256,.int .i64 32,.int .i64 32,.int .i64 48,.int .i64 256]) (.int .i64 4)).run prog w=.ok (.int .i64 32) w:=by kernel_rfl
theorem Z5u (w:World):(Instr.index 138 (.agg #[.int .i64 0,.int .i64 64,.int .i64 128,.int .i64 256,.int .i64 32,.int .i64 32,.int .i64 48,.int .i64 256]) (.int .i64 5)).run prog w=.ok (.int .i64 32) w:=by kernel_rfl
theorem Z5v (w:World):(Instr.index 138 (.agg #[.int .i64 0,.int .i64 64,.int .i64 128,.int .i64 256,.int .i64 32,.int .i64 32,.int .i64 48,.int .i64 256]) (.int .i64 6)).run prog w=.ok (.int .i64 48) w:=by kernel_rfl
theorem Z5w (w:World):(Instr.index 138 (.agg #[.int .i64 0,.int .i64 64,.int .i64 128,.int .i64 256,.int .i64 32,.int .i64 32,.int .i64 48,.int .i64 256]) (.int .i64 7)).run prog w=.ok (.int .i64 256) w:=by kernel_rfl
theorem Z8g {w:World} {H:HL} (h:Sep w H) (top:Nat) (h1:6<=top) (h2:top<=20) (limit:Int) (Oa:0<=limit) (Dq:limit<=((2 ^ (top+10):Nat):Int)):Calls prog 12 #[.int .i64 ((2 ^ (top+10):Nat):Int),.int .i64 limit] w (J0w top limit H w):=by
 have b2:2 ^ (top+10)<=1073741824:=J2z (J3O (by omega) (by omega)) (by decide:2 ^ 30<=1073741824);have k1:=Z8e h limit Oa (by omega);have HQ:Hid (∀r w1,NewQ limit H w r w1->∃t m b,r=.returned (.pointer (some ⟨t,0,none⟩))/\Step H ((Q2r t m b limit).hl++H) w w1/\Calls prog 63 #[.int .i64 ((2 ^ (top+10):Nat):Int)] w1 (J0v top ((Q2r t m b limit).hl++H) w1)):=by
  rintro r w1 ⟨t,m,b,rfl,s1⟩;exact⟨t,m,b,rfl,s1,Z5o s1.sep top h1 h2⟩
 have HA:Hid (∀w2 H2,Sep w2 H2->Calls prog 64 #[.int .i64 ((2 ^ (top+10):Nat):Int)] w2 (J0n (2 ^ (top+10)) H2 w2)):=fun w2 H2 s2=>Z4U s2 (top+10) (by omega) (by omega)
 clear h;generalize Bj:2 ^ (top+10)=sz at *
 have NO:=Q0a Bj;clear Bj;go_enter func12,ntmps12;go_wp2_with fail;refine k1.mono ?_;intro r w1 hx;obtain⟨t,m,b,rfl,s1,hb⟩:=HQ.out _ _ hx;have HB:=Q0a hb;have S1:=Q0a s1;clear hx hb s1;go_wp2_with fail;refine HB.out.mono ?_;rintro r w2 ⟨d,rfl,e1,e2,e3,s2⟩;have S2:=Q0a s2;have ha:=HA.out w2 _ s2.sep;have UN:=Q0a ha;have E1:=Q0a e1;have E2:=Q0a e2;clear ha s2 e1 e2;go_wp2_with fail;refine UN.out.mono ?_;rintro r w3 ⟨a,rfl,e4,s3⟩;have FW:=Z2E S1.out E1.out E2.out e3 S2.out (by rw [NO.out];exact e4) s3;have HP:=Q0a FW;have DT:=Q0a (FW.2.2.sep.env.tabC);clear e3 e4 s3 FW;unfold ptr at *
 have g0:(w3.alloc (.cells #[.pointer (some ⟨t,0,none⟩),.pointer (some ⟨d.b,0,none⟩),.pointer (some ⟨a.a,0,none⟩),.pointer none,.pointer none,.pointer none,.pointer none,.pointer none,.pointer none,.pointer none,.pointer none] 137)).cell? ⟨0,0,none⟩=some (.int .i64 0):=DT.out 0 0 rfl;have g1:(w3.alloc (.cells #[.pointer (some ⟨t,0,none⟩),.pointer (some ⟨d.b,0,none⟩),.pointer (some ⟨a.a,0,none⟩),.pointer none,.pointer none,.pointer none,.pointer none,.pointer none,.pointer none,.pointer none,.pointer none] 137)).cell? ⟨0,1,none⟩=some (.int .i64 64):=DT.out 1 64 rfl;have g2:(w3.alloc (.cells #[.pointer (some ⟨t,0,none⟩),.pointer (some ⟨d.b,0,none⟩),.pointer (some ⟨a.a,0,none⟩),.pointer none,.pointer none,.pointer none,.pointer none,.pointer none,.pointer none,.pointer none,.pointer none] 137)).cell? ⟨0,2,none⟩=some (.int .i64 128):=DT.out 2 128 rfl
 have g3:(w3.alloc (.cells #[.pointer (some ⟨t,0,none⟩),.pointer (some ⟨d.b,0,none⟩),.pointer (some ⟨a.a,0,none⟩),.pointer none,.pointer none,.pointer none,.pointer none,.pointer none,.pointer none,.pointer none,.pointer none] 137)).cell? ⟨0,3,none⟩=some (.int .i64 256):=DT.out 3 256 rfl;have g4:(w3.alloc (.cells #[.pointer (some ⟨t,0,none⟩),.pointer (some ⟨d.b,0,none⟩),.pointer (some ⟨a.a,0,none⟩),.pointer none,.pointer none,.pointer none,.pointer none,.pointer none,.pointer none,.pointer none,.pointer none] 137)).cell? ⟨0,4,none⟩=some (.int .i64 32):=DT.out 4 32 rfl;have g5:(w3.alloc (.cells #[.pointer (some ⟨t,0,none⟩),.pointer (some ⟨d.b,0,none⟩),.pointer (some ⟨a.a,0,none⟩),.pointer none,.pointer none,.pointer none,.pointer none,.pointer none,.pointer none,.pointer none,.pointer none] 137)).cell? ⟨0,5,none⟩=some (.int .i64 32):=DT.out 5 32 rfl
 have g6:(w3.alloc (.cells #[.pointer (some ⟨t,0,none⟩),.pointer (some ⟨d.b,0,none⟩),.pointer (some ⟨a.a,0,none⟩),.pointer none,.pointer none,.pointer none,.pointer none,.pointer none,.pointer none,.pointer none,.pointer none] 137)).cell? ⟨0,6,none⟩=some (.int .i64 48):=DT.out 6 48 rfl;have g7:(w3.alloc (.cells #[.pointer (some ⟨t,0,none⟩),.pointer (some ⟨d.b,0,none⟩),.pointer (some ⟨a.a,0,none⟩),.pointer none,.pointer none,.pointer none,.pointer none,.pointer none,.pointer none,.pointer none,.pointer none] 137)).cell? ⟨0,7,none⟩=some (.int .i64 256):=DT.out 7 256 rfl;go_wp2_with fail;clear g0 g1 g2 g3 g4 g5 g6 g7
 have ix0:=Z5p;have ix1:=Z5q;have ix2:=Z5r;have ix3:=Z5s;have ix4:=Z5t;have ix5:=Z5u;have ix6:=Z5v;have ix7:=Z5w
 go_loopw [34] (fun iv wr=>∃(i:Nat) (P:PL),iv=.int .i64 i/\i<=8/\P.p=w3.heap.size/\P.d.b=d.b/\Z1E P i top limit H w wr) (fun iv _=>8-(intOf iv).toNat)
 case atStart=>exact⟨0,_,rfl,by omega,rfl,rfl,HP.out⟩
 case round =>
  clear HP;obtain⟨i,P,rfl,hi,ep,ed,hp⟩:=hrel;by_cases Ab:i<8
  ·have KN:=fun cst hc=>Z2D Ab hp cst hc
   rw [ep,ed] at KN;have Jr:=Q0a KN;clear KN hp ep ed;have JV:i=0∨i=1∨i=2∨i=3∨i=4∨i=5∨i=6∨i=7:=by omega
   rcases JV with rfl|rfl|rfl|rfl|rfl|rfl|rfl|rfl
   all_goals
    obtain⟨c0,c1,cf,Bc⟩:=Jr.out _ rfl;clear Jr;unfold ptr at *
    have Do:=Q0a Bc;clear Bc;have d0:wr.drew.cell? ⟨w3.heap.size,1,none⟩=some (.pointer (some ⟨d.b,0,none⟩)):=c0
    try push_cast
    go_wp2_with fail
    go_region_held3 (fun w'=>w'.cell? ⟨w3.heap.size,1,none⟩=some (.pointer (some ⟨d.b,0,none⟩)))
     (first|exact c0|exact d0|exact e0|exact ek _)
     (first|(go_at_call 65;refine Do.out.mono ?_;rintro r w1 ⟨v,rfl,e0,ek,e1,ef,Bq⟩;have Ig:=Q0a Bq;clear Bq))
    go_wp2_with fail;obtain⟨P',r1,r2,r3⟩:=Ig.out;go_roundw
    case rel=>exact⟨_,P',by go_num,by omega,r1,r2,r3⟩
    case measure=>simp [intOf]
  ·obtain rfl:i=8:=by omega
   have HR:Hid (J0w top limit H w (.returned (.pointer (some ⟨w3.heap.size,0,none⟩))) wr):=by
    obtain⟨q1,q2,q3⟩:=hp;refine⟨P,by rw [ep],q1,q2,?_⟩;rw [Z8f q1] at q3;exact q3
   clear hp ep ed;go_wp2_with fail
   first|exact HR.out|(go_ret;exact HR.out)
theorem Z8h {c:CA} (h:c.used=[]) (hb:∀x∈c.pg,cntB x.1.bits≠0):c.pg=[]:=by
 cases hp:c.pg with
 | nil=>rfl
 | cons x r =>
  exfalso;have hx:x∈c.pg:=by rw [hp];simp
  have h1:=hb x hx;rw [<- Q5R] at h1;obtain⟨i,hi⟩:=List.exists_mem_of_length_pos (Nat.pos_of_ne_zero h1);have:addr c.size x.2 i∈c.used:=mem_used.2 ⟨x,hx,i,mem_trues.1 hi,rfl⟩;rw [h] at this;cases this
theorem Z8i {P:PL} {fr:List Nat} (ok:P.Ok fr) (h:∀j,P.usedOf j=[]):∀(k:Nat) (c:CA),P.cs[k]?=some c->c.pg=[]:=by
 intro k c hc;have I0:P.Cls (k+1) c:=⟨by omega,by simpa using hc⟩
 have:=h (k+1);rw [Q0U I0] at this;exact Z8h this (PL.busyC ok hc)
theorem Q7j {P:PL} {top:Nat} {limit:Int} (h:FreshP P top limit) (j:Nat):P.usedOf j=[]:=by
 unfold PL.usedOf;split
 ·split
  ·rename_i c hc;unfold CA.used;rw [(h.cs _ c hc).2.2.2];rfl
  ·rfl
 ·rfl
theorem Z2F (m:List Nat) (a n:Nat) (hn:8<=n) (hl:a<=m.length):Q0u (put_ m a (List.replicate n 0)) a=0:=by
 unfold Q0u put_;rw [J3A,J4W (by rw [J4T];omega),List.drop_of_length_le (by rw [J4T];omega),J4K,J4U (by simpa using hn),J5X,J5Y hn];rfl
def newL (a:Nat):List Pl:=⟨1,a,0,1,0,0⟩::List.replicate 255 (noPl 0)
theorem Q2A {a:Nat} {p:Pl} (h:p∈newL a):p=⟨1,a,0,1,0,0⟩∨p=noPl 0:=by
 rcases J2D.1 h with h|h
 ·exact .inl h
 ·exact .inr (J2G h)
theorem Q7Y {a:Nat} {p:Pl} (h:p∈newL a) (hi:p.is=true):p=⟨1,a,0,1,0,0⟩:=by
 rcases Q2A h with h|rfl
 ·exact h
 ·cases hi
theorem Q7Z {β:Type} (f:Pl->Option β) (h:f (noPl 0)=none) (a:Nat):(newL a).filterMap f=match f ⟨1,a,0,1,0,0⟩ with|some b=>[b]|none=>[]:=by
 have e:(List.replicate 255 (noPl 0)).filterMap f=[]:=by
  rw [List.filterMap_eq_nil_iff];intro x hx;rw [J2G hx];exact h
 unfold newL;cases hc:f ⟨1,a,0,1,0,0⟩ with
 | none=>rw [J6k hc,e]
 | some b=>rw [J6l hc,e]
theorem Z2G (a h:Nat):pget (newL a) 2 h=none:=by
 cases hp:pget (newL a) 2 h with
 | none=>rfl
 | some p =>
  have h1:=Q0A hp;have h2:=(pget_some.1 hp).2.2;rcases Q2A h1 with rfl|rfl <;> cases h2
theorem J0x {P P':PL} {top:Nat} {limit:Int} {a:Nat} (h:FreshP P top limit) (hl:P.cs.length=7) (h1:6<=top) (h0:0<=limit) (hm:limit<=1073741824) (g:GotM P [] 0 1 a P' []):Inv P' (newL a) [] x0 []:=by
 have ok:=h.ok hl h1 h0 hm;obtain⟨t,m,b,hq⟩:=h.q;obtain⟨e,q1,q2,q3⟩:=g.q;have he:e=⟨0,b,⟨limit,0,0,-1,0⟩⟩:=by
  rw [hq] at q1;simp only [Q2r,find,if_true,J2N] at q1;exact q1.symm
 have hE:P'.q.E=[⟨0,b,⟨limit,64,0,-1,0⟩⟩]:=by
  rw [q3,hq,he];simp [Q2r,upd,costK,Q0c]
 have hid:∀id x,find P'.q.E id=some x->id=0/\x=⟨0,b,⟨limit,64,0,-1,0⟩⟩:=fun id x hx=>by
  rw [hE] at hx;simp only [find] at hx;split at hx
  ·rename_i h;cases hx;exact⟨h,rfl⟩
  ·cases hx
 have AS:∀k,P.usedOf k=[]:=fun k=>Q7j h k
 refine⟨by unfold newL;rw [J3k,J2I],fun p hp=>?_,⟨g.ok,fun p hp hi=>?_,fun k k1 k5=>?_,?_,fun p hp hi _=>?_⟩,⟨?_,fun p hp hi=>?_,fun p hp hi _ x hx=>?_,fun id x hx=>?_,fun id x hx=>?_⟩,⟨?_,fun i p hi B5 hs=>?_,fun id=>⟨J6E _,fun h=>absurd rfl h⟩,by simp,fun x=>?_,by simp⟩⟩
 ·rcases Q2A hp with rfl|rfl
  ·exact⟨by show (1:Nat)<=2;omega,by show (0:Nat)<=1048575;omega⟩
  ·exact⟨by show (0:Nat)<=2;omega,by show (0:Nat)<=1048575;omega⟩
 ·rw [Q7Y hp hi];exact .inr ⟨J2y 1,by show (1:Nat)<=5;omega⟩
 ·unfold Q2b;rw [Q7Z (atsF k) rfl a];by_cases e1:k=1
  ·subst e1;have:=g.used (by decide);rw [AS] at this;exact this.symm
  ·rw [Q6a (show (⟨1,a,0,1,0,0⟩:Pl).kind≠k from fun h=>e1 h.symm),g.other k e1,AS]
 ·unfold Q2b;rw [Q7Z (atsF 8) rfl a];exact J5T _
 ·rw [Q7Y hp hi];show Q0u P'.a.mem a=0;rw [g.mem];exact Z2F _ _ _ (by decide) (by have:=g.room.1;omega)
 ·unfold Q7g;rw [Q7Z ownF rfl a,hE];exact J5T _
 ·rw [Q7Y hp hi,hE];exact⟨_,rfl⟩
 ·obtain⟨_,rfl⟩:=hid _ _ hx;rw [Q7Y hp hi];exact⟨fun _=>rfl,fun h=>absurd rfl h⟩
 ·obtain⟨rfl,rfl⟩:=hid _ _ hx;have hz:Q0v (List.replicate 255 (noPl 0)) 0=0:=Q2n fun p hp hi=>by rw [J2G hp] at hi;cases hi
  show (64:Int)=Q0v (newL a) 0+0;have:Q0v (newL a) 0=Q1M 0 ⟨1,a,0,1,0,0⟩+Q0v (List.replicate 255 (noPl 0)) 0:=by unfold Q0v newL;rw [J2B,J6m]
  rw [this,hz];rfl
 ·obtain⟨rfl,rfl⟩:=hid _ _ hx;rw [hE];exact⟨rfl,rfl⟩
 ·exact⟨⟨1,a,0,1,0,0⟩,rfl,rfl,rfl,rfl,rfl,rfl⟩
 ·exfalso;rcases Q2A (J4O hi) with rfl|rfl
  ·have:(List.replicate 255 (noPl 0))[i-1]?=some ⟨1,a,0,1,0,0⟩:=by
    have e:i=(i-1)+1:=by omega
    rw [e] at hi;unfold newL at hi;rw [J5M] at hi;exact hi
   have:=J2G (J4O this);cases this
  ·cases hs
 ·rw [Z2G];simp
end Go.Proofs.YtfidemmgofcnmaaGreatDoor
namespace Go.Proofs.YtfidemmgofcnmaaGreatDoor
open Go.Proofs.Tryz
theorem Q4y {l:List Pl} {N:Nat} (t:Tre l N) (h:Nat):pre l N h=h::(Q0L l N h).reverse:=by
 rw [Q5M t h];unfold Q0L;rw [J3m,Q5M t h];rfl
theorem Z1F {l:List Pl} {N:Nat} (t:Tre l N) (h:Nat):(Q0L l N h).reverse=(kids l h).reverse.flatMap (pre l N):=by
 unfold Q0L;rw [J3m,Q5M t h];rfl
theorem Q8P {l:List Pl} {N:Nat} (t:Tre l N) {h:Nat}:Q0L l N h=[]↔kids l h=[]:=by
 constructor
 ·intro e;have h1:=Z1F t h;rw [e] at h1;cases hk:kids l h with
  | nil=>rfl
  | cons x r =>
   exfalso;rw [hk] at h1;have hx:x∈(x::r).reverse.flatMap (pre l N):=J2Z.2 ⟨x,by simp,Q1F l N x⟩;rw [<- h1] at hx;cases hx
 ·intro e;have h1:=Z1F t h;rw [e] at h1
  simpa using h1
theorem Q2B {l:List Pl} {N:Nat} (t:Tre l N) {h x:Nat}:x∈Q0L l N h↔x∈pre l N h/\x≠h:=by
 have hp:(pre l N h).Pairwise (fun a b=>a≠b/\a∉kids l b):=Q5w t N h;rw [Q4y t h] at hp ⊢;obtain⟨h1,_⟩:=J3a.1 hp
 constructor
 ·intro hx;exact⟨by simp [hx],fun e=>(h1 x (by simp [hx])).1 e.symm⟩
 ·rintro⟨hx,Aa⟩;rcases J2D.1 hx with e|hx
  ·exact absurd e Aa
  ·simpa using hx
theorem Q4z {l:List Pl} {h:Nat} (hn:∀p,pget l 1 h=some p->p.kind≠1):kids l h=[]:=by
 unfold kids;cases hp:pget l 1 h with
 | none=>rfl
 | some p=>simp [hn p hp]
theorem Z5x {l:List Pl} {N:Nat} (t:Tre l N) {h:Nat} {p:Pl} (hp:pget l 1 h=some p) (hk:p.kind=1) {x:Nat} {A B:List Nat} (hu:Q0L l N h=A++x::B) :
  ∃q,pget l 1 x=some q/\x≠h/\x≠0/\(∀y∈B,y%256≠x%256)/\(∀y∈A,y%256≠x%256)/\(∀y∈kids l x,y∈A)/\(q.fac=p.own∨∃y∈B,∃r,pget l 1 y=some r/\r.kind=1/\r.own=q.fac):=by
 obtain⟨MN,Cl,⟨q,hq⟩,Fb,Nu,UL⟩:=Z7q t hu;have BQ:∀y∈Q0L l N h,∃r,pget l 1 y=some r:=fun y hy=>by
  have:=(Q2B t).1 hy;exact ((Q5x t this.1).resolve_left this.2).2
 have apart:∀y∈Q0L l N h,y≠x->y%256≠x%256:=fun y hy Aa e=>by
  obtain⟨r,hr⟩:=BQ y hy;exact Aa (Q0R hr hq e).1
 refine⟨q,hq,MN,Cl,fun y hy=>apart y (by rw [hu];simp [hy]) (fun e=>UL (e ▸ hy)),fun y hy=>apart y (by rw [hu];simp [hy]) (fun e=>Nu (e ▸ hy)),Fb,?_⟩;have Ke:x∈preN l N h:=((Q2B t).1 (by rw [hu];simp)).1;rcases Z7n N h x Ke with e|⟨z,hz,RG⟩
 ·exact absurd e MN
 ·obtain⟨s,u,a1,a2,a3,a4,a5⟩:=(Q0P t.len).1 RG;rw [hq] at a3;cases a3;by_cases Qr:z=h
  ·subst Qr;rw [hp] at a1;cases a1;exact .inl a5
  ·right;have RH:z∈Q0L l N h:=(Q2B t).2 ⟨hz,Qr⟩;have SQ:z≠x:=by
    rintro rfl;rw [hq] at a1;cases a1;have:=t.rise z q hq a4 a2;omega
   rw [hu] at RH;rcases J3o.1 RH with UZ|Ph
   ·exfalso;have He:(pre l N h).Pairwise (fun a b=>a≠b/\a∉kids l b):=Q5w t N h;rw [Q4y t h,hu] at He;have h2:=(J3a.1 He).2;rw [J3f,List.reverse_cons] at h2;have:=(J3n.1 h2).2.2 x (by simp) z (by simpa using UZ);exact this.2 RG
   ·rcases J2D.1 Ph with e|Ph
    ·exact absurd e SQ
    ·exact⟨z,Ph,s,a1,a2,a5.symm⟩
theorem Z5y {l:List Pl} {N:Nat} (t:Tre l N) {h:Nat} {p:Pl} (hp:pget l 1 h=some p) (hk:p.kind=1) {y:Nat} {q:Pl} (hy:pget l 1 y=some q) (h0:y≠0) (Aa:y≠h)
  (hf:q.fac=p.own∨∃z∈Q0L l N h,∃r,pget l 1 z=some r/\r.kind=1/\r.own=q.fac):y∈Q0L l N h:=by
 refine (Q2B t).2 ⟨?_,Aa⟩;rcases hf with e|⟨z,hz,r,h1,h2,h3⟩
 ·exact Q3u t N h h y (Q4S _ _ _) (Q1F l N h) ((Q0P t.len).2 ⟨p,q,hp,hk,hy,h0,e⟩)
 ·exact Q3u t N h z y (Q4S _ _ _) ((Q2B t).1 hz).1 ((Q0P t.len).2 ⟨r,q,h1,h2,hy,h0,h3.symm⟩)
def Dmd (l:List Pl) (A:List Nat) (l':List Pl):Prop:=∀y,pget l' 1 y=if y∈A then none else pget l 1 y
theorem Dmd.nil (l:List Pl):Dmd l [] l:=fun y=>by simp
theorem Dmd.none_left {l l':List Pl} {A:List Nat} (hl:l.length<=256) (Hd:l'.length<=256) (d:Dmd l A l') {x:Nat} (hk:∀y∈kids l x,y∈A):kids l' x=[]:=by
 cases hc:kids l' x with
 | nil=>rfl
 | cons y r =>
  exfalso;obtain⟨p,q,a1,a2,a3,a4,a5⟩:=(Q0P Hd).1 (by rw [hc];simp:y∈kids l' x);rw [d x] at a1;rw [d y] at a3;split at a1
  ·cases a1
  ·split at a3
   ·cases a3
   ·rename_i h2;exact h2 (hk y ((Q0P hl).2 ⟨p,q,a1,a2,a3,a4,a5⟩))
theorem Dmd.step {l l' l'':List Pl} {A:List Nat} {x:Nat} (d:Dmd l A l') (h:Dmd l' [x] l''):Dmd l (A++[x]) l'':=fun y=>by
 rw [h y,d y];by_cases e:y=x
 ·simp [e]
 ·by_cases hy:y∈A <;> simp [e,hy]
theorem J0y {l:List Pl} {x:Nat} {p:Pl} (hp:pget l 1 x=some p):Dmd l [x] (l.set (x%256) {p with st:=2}):=fun y=>by
 obtain⟨hi,hn,hs⟩:=pget_some.1 hp;unfold pget;by_cases e:y%256=x%256
 ·rw [e];have Ab:=(J2Q.1 hi).1;rw [J6p Ab];simp only;rw [if_neg (by rintro⟨_,h⟩;exact absurd h (by decide))];by_cases e2:y=x
  ·simp [e2]
  ·rw [if_neg (by simpa using e2),hi];simp only;rw [if_neg];rintro⟨h,_⟩;exact e2 (h.symm.trans hn)
 ·rw [J6h (fun h=>e h.symm)];rw [if_neg (by rintro h;rw [J4H] at h;exact e (by rw [h]))]
open Go.RowKit
def Q1b (l:List Nat):List Value:=l.map fun (a:Nat)=>Value.int .u32 a
theorem Q3d (l:List Nat):(Q1b l).length=l.length:=by simp [Q1b]
theorem hands_app (l m:List Nat):Q1b (l++m)=Q1b l++Q1b m:=by simp [Q1b]
theorem Q8a {l:List Nat} {j x:Nat} (h:l[j]?=some x):(Q1b l)[j]?=some (.int .u32 x):=by unfold Q1b;rw [J4l,h];rfl
def NewHs (w:World) (l:List Nat) (r:Ending) (w':World):Prop:=∃v,r=.returned v/\w'.ownsRow w.heap.size 58 1 v l.length (Q1b l)/\Below w.heap.size w w'
structure IsHs (B:Nat) (L:List Nat) (a:Option Addr) (w:World):Prop where
 at':∀(j x:Nat),L[j]?=some x->∃g,a=some ⟨g,0,none⟩/\B<=g/\g<w.heap.size/\w.cell? ⟨g,j,none⟩=some (.int .u32 x)
theorem IsHs.below {B:Nat} {L:List Nat} {a:Option Addr} {w w':World} (h:IsHs B L a w) (hb:Below w.heap.size w w'):IsHs B L a w':=⟨fun j x hj=>by
 obtain⟨g,h1,h2,h3,h4⟩:=h.at' j x hj;exact⟨g,h1,h2,J2A h3 hb.size,(World.cell?_of_block (w:=w) (hb.block g h3)).trans h4⟩⟩
theorem NewHs.shape {w:World} {L:List Nat} {r:Ending} {w':World} (h:NewHs w L r w'):∃(a:Option Addr) (cap:Nat),r=.returned (.slice a L.length cap)/\Below w.heap.size w w'/\IsHs w.heap.size L a w':=by
 obtain⟨v,rfl,⟨_,h2⟩,hb⟩:=h;rcases h2 with ⟨rfl,h0⟩|⟨g,cap,Aj,rfl,hg,Cm,hn,hm,hs,AR⟩
 ·refine⟨none,0,by rw [h0],hb,⟨fun j x hj=>?_⟩⟩;have:=(J2Q.1 hj).1;omega
 ·refine⟨_,cap,rfl,hb,⟨fun j x hj=>⟨g,rfl,hg,lt_of_block Cm,?_⟩⟩⟩;have hv:=Q8a hj;rw [<- AR,J4D] at hv;split at hv
  ·simp only [World.cell?,Cm,J5D,J6s,if_false];rw [<- J5a];exact hv
  ·cases hv
def OutH (w wr:World) (v:Value) (L:List Nat):Prop:=wr.ownsRow w.heap.size 58 1 v L.length (Q1b L)/\Below w.heap.size w wr
theorem OutH.nil (w:World):OutH w w (.slice none 0 0) []:=⟨World.ownsRow_nil _ _ _ _,Below.refl _ _⟩
theorem OutH.app0 {w wr w1:World} {v v':Value} {L M:List Nat} (h:OutH w wr v L) (Ah:w1.ownsRow w.heap.size 58 1 v' (L.length+M.length) (Q1b L++Q1b M)) (hg:wr.grownBy w1 v.ownBlock):OutH w w1 v' (L++M):=
 ⟨by rw [J3j,hands_app];exact Ah,h.2.trans ((Below.refl _ wr).mono h.2.size |>.grown hg h.2.size (fun b hb=>(h.1.lt b hb).1))⟩
theorem OutH.alloc {w wr:World} {v:Value} {L:List Nat} (h:OutH w wr v L) (o:Obj):OutH w (wr.alloc o) v L:=⟨h.1.alloc _,h.2.alloc h.2.size _⟩
theorem OutH.app1 {w wr w1:World} {v v':Value} {L M:List Nat} {o:Obj} (h:OutH w wr v L) (Ah:w1.ownsRow w.heap.size 58 1 v' (L.length+M.length) (Q1b L++Q1b M)) (hg:(wr.alloc o).grownBy w1 v.ownBlock):OutH w w1 v' (L++M):=(h.alloc o).app0 Ah hg
theorem OutH.app2 {w wr w1:World} {v v':Value} {L M:List Nat} {o o2:Obj} (h:OutH w wr v L) (Ah:w1.ownsRow w.heap.size 58 1 v' (L.length+M.length) (Q1b L++Q1b M)) (hg:((wr.alloc o).alloc o2).grownBy w1 v.ownBlock):OutH w w1 v' (L++M):=((h.alloc o).alloc o2).app0 Ah hg
theorem OutH.below {w wr w1:World} {v:Value} {L:List Nat} (h:OutH w wr v L) (hb:Below wr.heap.size wr w1):OutH w w1 v L:=
 ⟨h.1.kept (row:=none) ⟨hb.os,hb.tape,hb.output,hb.size,fun k hk _=>hb.block k hk⟩ (by cases hv:v.ownBlock with|none=>exact .inl rfl|some b=>exact .inr (by simp)),h.2.trans (hb.mono h.2.size)⟩
theorem Z5z (w:World) (x:Value):∀j u,[x][j]?=some u->(w.alloc (.cells #[x] 58)).cell? ((⟨w.heap.size,0,none⟩:Addr).add j)=some u:=by
 intro j u hj;have:=(Cells.new w 58 [x]).cell j u hj;have e:(⟨w.heap.size,0,none⟩:Addr).add j=⟨w.heap.size,j,none⟩:=by unfold Addr.add;split <;> simp_all
 rw [e];exact this
theorem Q7k (w:World) (o:Obj) (x:Value):∀j u,[x][j]?=some u->((w.alloc o).alloc (.cells #[x] 58)).cell? ((⟨w.heap.size+1,0,none⟩:Addr).add j)=some u:=by
 intro j u hj;have:=Z5z (w.alloc o) x j u hj;rw [World.size_alloc] at this;exact this
theorem Q3B:(prog.info? 58).map (fun i=>(i.zero,i.size,i.bytes))=some (some (.int .u32 0),1,4):=by kernel_rfl
end Go.Proofs.YtfidemmgofcnmaaGreatDoor

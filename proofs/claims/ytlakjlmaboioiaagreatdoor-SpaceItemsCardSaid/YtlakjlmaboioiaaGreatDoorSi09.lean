/- SpaceItems returns true at every input. No condition. Part of its proof. -/
import Derived.Test.YtlakjlmaboioiaaGreatDoorSi06
import Derived.Test.YtlakjlmaboioiaaGreatDoorSi05
import Derived.Deep.RegionHeld3
import Derived.Deep.RegionWith
import Derived.Test.YtlakjlmaboioiaaGreatDoorSi03
import Derived.Deep.QuietTactic
import Derived.BigQuiet
import Derived.Test.YtlakjlmaboioiaaGreatDoorSi07
import Derived.Test.YtlakjlmaboioiaaGreatDoorSi08
import Derived.Test.YtlakjlmaboioiaaGreatDoorSi01
import Derived.Deep.AppendSrc
set_option maxHeartbeats 4000000
set_option maxRecDepth 100000
set_option linter.unusedVariables false
namespace Go.Proofs.YtlakjlmaboioiaaGreatDoor
open Go.RowKit Go.Proofs.Tryz
theorem Q4D {P:Program} (w:World) {ops:Array Oper} {rest:List Oper} {o:Oper} {a:Act} {Q:Exit->Act->World->Prop}
  (hg:o.guard=none) (m k x:Operand) (t K V:TypeId) (hop:o.op=.insert t m k x) (hT:P.underlying t=some (.map K V)) (hK:P.underlying K=some (.int .i64))
  (b:Nat) (kv:List (Int×Value)) (h:Q0G w b kv) (id:Int) (u:Value) (hm:a.eval m=.map (some b)) (hk:a.eval k=.int .i64 id) (hx:a.eval x=u)
  (hK':∀w',Q0G w' b (put kv id u)->w.grownBy w' (some b)->wpList P ops Q rest (a.put o.dst undef) w'):wpList P ops Q (o::rest) a w:=by
 refine wpList_plain hg fun K' hK''=>?_
 obtain⟨w',hrun,r1,r2⟩:=Q1n (P:=P) h id u hT hK;unfold Oper.wp;simp [execOp,hop,hm,hk,hx,hrun,Result.andThen];exact hK'' _ _ (hK' w' r1 r2)
def Q1V (t m b:Nat) (limit:Int):QT:=⟨t,m,[⟨0,b,⟨limit,0,0,-1,0⟩⟩],1⟩
theorem Z6t (t m b:Nat) (limit:Int) (h0:0<=limit) (h1:limit<=1073741824):(Q1V t m b limit).Ok:=by
 refine⟨by simp [Q1V],by simp [Q1V],by simp [Q1V],fun id e he=>?_⟩;simp only [Q1V,find] at he;by_cases h:id=0
 ·simp [h] at he;subst he;subst h;simp [Q1V];omega
 ·simp [h] at he
def NewQ (limit:Int) (H:HL) (w:World) (r:Ending) (w':World):Prop:=∃t m b,r=.returned (.pointer (some ⟨t,0,none⟩))/\Step H ((Q1V t m b limit).hl++H) w w'
theorem Z6u {w:World} {H:HL} (h:Sep w H) (limit:Int) (h0:0<=limit) (h1:limit<=1073741824):Calls prog 142 #[.int .i64 limit] w (NewQ limit H w):=by
 have HR:Hid (∀w1,Q0G w1 w.heap.size [(0,.pointer (some ⟨w.heap.size+1,0,none⟩))]->((w.alloc (.map #[] 0)).alloc (.cells #[.int .i64 limit,.int .i64 0,.int .i64 0,.int .i64 (-1),.int .i64 0] 236)).grownBy w1 (some w.heap.size) ->
   NewQ limit H w (.returned (.pointer (some ⟨w1.heap.size,0,none⟩))) (w1.alloc (.cells #[.map (some w.heap.size),.int .i64 1] 254))):=fun w1 hm hg=>by
  have s1:=h.newMap;have s2:=s1.sep.new 236 [.int .i64 limit,.int .i64 0,.int .i64 0,.int .i64 (-1),.int .i64 0];have e1:(w.alloc (.map #[] 0)).heap.size=w.heap.size+1:=by simp
  rw [e1] at s2;obtain⟨es,clock,ho,hr⟩:=hm;have s3:=Sep.turn (A:=[(w.heap.size+1,isC 236 [.int .i64 limit,.int .i64 0,.int .i64 0,.int .i64 (-1),.int .i64 0])]) (q':=isMI [(0,.pointer (some ⟨w.heap.size+1,0,none⟩))]) s2.sep hg ⟨_,ho,es,clock,rfl,hr⟩;have s4:=s3.sep.new 254 [.map (some w.heap.size),.int .i64 1];refine⟨w1.heap.size,w.heap.size,w.heap.size+1,rfl,?_⟩;have:=((s1.trans s2).trans s3).trans s4;refine this.perm (J3K _) ?_;simp only [Q1V,QT.hl,facH,kvs,J0w,J2Y,J2D,J2C,Fa.cells,ptr];refine List.Perm.cons _ ?_;exact List.Perm.swap _ _ _
 have hM:Q0G ((w.alloc (.map #[] 0)).alloc (.cells #[.int .i64 limit,.int .i64 0,.int .i64 0,.int .i64 (-1),.int .i64 0] 236)) w.heap.size []:=(MapIs.new w).alloc _;have hmm:=@run_makeMap prog;clear h;go_enter func142,ntmps142;go_wp2_with (refine Q4D _ rfl _ _ _ 252 3 229 rfl underlying252 underlying3 w.heap.size [] hM 0 (.pointer (some ⟨w.heap.size+1,0,none⟩)) rfl rfl rfl ?_;intro w1 hm1 hg1;have HR1:=Q0a (HR.out w1 hm1 hg1);clear hm1 hg1);go_ret;exact HR1.out
theorem Z9G {w:World} (hT:TabB w) (k:Nat) (hk:k<64) :
  Calls prog 221 #[.int .u64 ((2 ^ k:Nat):Int)] w fun r w'=>r=.returned (.int .i64 k)/\w=w':=by
 have k1:=Z0a hT (fun j=>j==k) k hk (by simp) (fun j hj=>by simp;omega);rw [Z0s k hk] at k1;clear hT;have b2:2 ^ k<18446744073709551616:=by
  have:=J1K (a:=2) (by omega) hk;exact J0v this (by decide)
 generalize 2 ^ k=n at *
 go_enter func221,ntmps221;go_wp2_with (go_at_call 211;refine k1.mono ?_;rintro e w' ⟨rfl,rfl⟩);go_ret;exact⟨rfl,rfl⟩
def Z8K (top:Nat) (H:HL) (w:World) (r:Ending) (w':World):Prop:=∃d:BD,r=.returned (.pointer (some ⟨d.b,0,none⟩))/\d.top=top/\d.ps=[]/\d.At/\Step H (d.hl++H) w w'
theorem BD.snoc {w w1:World} {H:HL} {d:BD} (h:Sep w (d.hl++H)) (hl:d.bms.length<21) (m:BM) (hs:Step (d.hl++H) (m.hl++(d.hl++H)) w w1) :
  Step (d.hl++H) (({d with bms:=d.bms++[m]}:BD).hl++H) w (w1.setCell ⟨d.b,1+d.bms.length,none⟩ (ptr m.b)):=by
 have ec:d.cells.set (1+d.bms.length) (ptr m.b)=({d with bms:=d.bms++[m]}:BD).cells:=by
  unfold BD.cells;rw [J1B,J3c];congr 1;simp only [J1d,J4o,J3S,J0w,J2Y];rw [show 21-d.bms.length=(21-(d.bms.length+1))+1 from by omega,List.replicate_succ,J1s,J4g _ _ (by simp),J2b,J3I];simp
 have hp:(m.hl++(d.hl++H)).Perm (d.hl++(m.hl++H)):=by
  rw [<- J1s,<- J1s];exact J3e H J3f
 have h1:=hs.sep.perm hp;have h2:Sep w1 ([]++(d.b,isC 243 d.cells)::((d.mb,isMI (upk d.ps))::d.bms.flatMap BM.hl++(m.hl++H))):=h1;have h3:=h2.set (1+d.bms.length) (ptr m.b);rw [ec] at h3;have h4:Step (d.hl++H) (d.hl++(m.hl++H)) w w1:=hs.perm (J3K _) hp;refine (h4.trans h3).perm (J3K _) ?_;unfold BD.hl;simp only [J2C,J2D,J1b,J0Q,J4p,J2y,J1s];exact J3K _
theorem Z3U {w:World} {H:HL} (h:Sep w H) (top:Nat) (h1:6<=top) (h2:top<=20):Calls prog 143 #[.int .i64 ((2 ^ (top+10):Nat):Int)] w (Z8K top H w):=by
 have k1:=Z0t (w:=w) (top+10) (by omega);have k2:=Z9G h.env.tabB top (by omega);have b1:65536<=2 ^ (top+10):=J0u (by decide:65536<=2 ^ 16) (J1G (by omega) (by omega));have b2:2 ^ (top+10)<=1073741824:=J0u (J1G (by omega) (by omega)) (by decide:2 ^ 30<=1073741824);have hdv:((2 ^ (top+10):Nat):Int)/1024=((2 ^ top:Nat):Int):=by
  rw [J1T,show (2:Nat) ^ 10=1024 from rfl];omega
 have bt:2 ^ top<=1048576:=by have:=Q1Q (k:=0) h2;simpa using this
 generalize 2 ^ (top+10)=n at *
 generalize 2 ^ top=t at *
 have h0:Hid (Step H ((⟨w.heap.size+1,w.heap.size,top,[],[]⟩:BD).hl++H) w ((w.alloc (.map #[] 0)).alloc (.cells (BD.cells ⟨w.heap.size+1,w.heap.size,top,[],[]⟩).toArray 243))):=by
  have s1:=h.newMap;have s2:=s1.sep.new 243 (BD.cells ⟨w.heap.size+1,w.heap.size,top,[],[]⟩);have:=s1.trans s2;show Step _ _ _ _
  simpa [BD.hl,upk,isMI] using this
 have HR:=Q0a (show ∀(k:Nat) (bms:List BM) (wr:World),k<=top->bms.length=k->(∀j m,bms[j]?=some m->m.bits=List.replicate (2 ^ (top-j)) false)->Step H ((⟨w.heap.size+1,w.heap.size,top,bms,[]⟩:BD).hl++H) w wr ->
   wr.cell? ⟨w.heap.size+1,0,none⟩=some (.int .i64 top)/\wr.cell? ⟨w.heap.size+1,1+k,none⟩=some (.pointer none)/\wr.frozen? ⟨w.heap.size+1,1+k,none⟩=false /\
   Calls prog 222 #[.int .i64 ((2 ^ (top-k):Nat):Int)] wr.drew fun r w1=>∃mb:Nat,r=.returned (.pointer (some ⟨mb,0,none⟩))/\(w1.cell? ⟨w.heap.size+1,0,none⟩=some (.int .i64 top)/\w1.cell? ⟨w.heap.size+1,1+k,none⟩=some (.pointer none)/\w1.frozen? ⟨w.heap.size+1,1+k,none⟩=false)/\(∀v,(w1.setCell ⟨w.heap.size+1,1+k,none⟩ v).cell? ⟨w.heap.size+1,0,none⟩=some (.int .i64 top)) /\
    ∃bms',bms'.length=k+1/\(∀j m,bms'[j]?=some m->m.bits=List.replicate (2 ^ (top-j)) false)/\Step H ((⟨w.heap.size+1,w.heap.size,top,bms',[]⟩:BD).hl++H) w (w1.setCell ⟨w.heap.size+1,1+k,none⟩ (.pointer (some ⟨mb,0,none⟩))) from fun k bms wr hk hlen hb hst=>by
  have hs:=hst.sep.left;have cells:∀{w1:World},Sep w1 (⟨w.heap.size+1,w.heap.size,top,bms,[]⟩:BD).hl->w1.cell? ⟨w.heap.size+1,0,none⟩=some (.int .i64 top)/\w1.cell? ⟨w.heap.size+1,1+k,none⟩=some (.pointer none)/\w1.frozen? ⟨w.heap.size+1,1+k,none⟩=false:=by
   intro w1 hs1;have hc:=BD.sepC hs1;refine⟨hc.cell 0 _ rfl,hc.cell (1+k) _ ?_,hc.free _⟩;unfold BD.cells;rw [show 1+k=k+1 from J1B 1 k,J3D,J1s,J3F (by simp [hlen]),J2b,hlen,J3I,J3E (by simp;omega),J2t,if_pos (by omega)]
  refine⟨(cells hs).1,(cells hs).2.1,(cells hs).2.2,(Q7E hst.sep.drew (2 ^ (top-k)) (Q1Q h2)).mono ?_⟩;rintro r w1 ⟨m,rfl,hmb,hs1⟩;have hs2:=hs1.from_drew;refine⟨m.b,rfl,cells (hs1.sep.right.left),fun v=>((BD.sepC hs1.sep.right.left).set (1+k) v).cell 0 _ (by unfold BD.cells;rw [show 1+k=k+1 from J1B 1 k,J3c];rfl),bms++[m],by simp [hlen],?_,?_⟩
  ·intro j x hx;by_cases hj:j<bms.length
   ·rw [J3E hj] at hx;exact hb j x hx
   ·rw [J3F (by omega)] at hx;have hjk:j=k:=by
     have:=(J0K.1 hx).1;simp at this;omega
    subst hjk;rw [hlen,J3I] at hx;cases hx;exact hmb
  ·have:=hst.trans (BD.snoc hst.sep (by show bms.length<21;omega) m hs2);rw [hlen] at this;exact this)
 have HEnd:=Q0a (show ∀(bms:List BM) (wr:World),bms.length=top+1->(∀j m,bms[j]?=some m->m.bits=List.replicate (2 ^ (top-j)) false)->Step H ((⟨w.heap.size+1,w.heap.size,top,bms,[]⟩:BD).hl++H) w wr ->
   wr.cell? ⟨w.heap.size+1,0,none⟩=some (.int .i64 top)/\∃b,wr.cell? ⟨w.heap.size+1,1+top,none⟩=some (.pointer (some ⟨b,0,none⟩)) /\
   Calls prog 223 #[.pointer (some ⟨b,0,none⟩),.bool true,.slice (some ⟨wr.heap.size,0,none⟩) 1 1] (wr.alloc (.cells #[.int .i64 0] 3)).drew fun r w1=>r=.returned (.int .i64 1)/\(w1.cell? ⟨w.heap.size+1,0,none⟩=some (.int .i64 top)/\w1.cell? ⟨w.heap.size+1,1+top,none⟩=some (.pointer (some ⟨b,0,none⟩)))/\Z8K top H w (.returned (.pointer (some ⟨w.heap.size+1,0,none⟩))) w1 from fun bms wr hlen hb hst=>by
  have hs:=hst.sep.left;have his:(⟨w.heap.size+1,w.heap.size,top,bms,[]⟩:BD).Is fun _ _=>false:=by
   refine⟨hlen,h2,fun k m hm=>?_⟩;rw [hb k m hm]
   apply J2a
   intro j;rw [J2t,J2d];by_cases hj:j<2 ^ (top-k)
   ·rw [if_pos hj,J2f hj];rfl
   ·rw [if_neg hj,J2h (by simp;omega)];rfl
  obtain⟨b,h3,h4⟩:=Q7M (w:=wr.drew) hs.drew his top 0 true (J0t _) (J1H _) (by decide);refine⟨BD.c0 hs,b,h3,h4.mono ?_⟩;rintro r w1 ⟨rfl,d',hto,his'⟩;have etop:d'.top=top:=hto.top;have eps:d'.ps=[]:=hto.ps;have eb:d'.b=w.heap.size+1:=hto.b;have hcp:(bms.map BM.b)[top]?=some b:=by
   have hlt:top<bms.length:=by omega
   have hg:=J2J hlt;have hc:=BD.cf hs.drew top _ hg;rw [h3] at hc;rw [J2d,hg];cases hc;rfl
  refine⟨rfl,⟨by have:=BD.c0 hto.step.sep;rw [eb,etop] at this;exact this,hto.ptr hcp⟩,d',by rw [eb],etop,eps,⟨⟨his'.len,his'.top,?_⟩,by rw [eps];exact J4q,by rw [eps];simp⟩,?_⟩
  ·intro k m hm;rw [his'.bits k m hm];have hkt:k<=d'.top:=by
    have q1:k<d'.bms.length:=(J0K.1 hm).1;have q2:d'.bms.length=d'.top+1:=his'.len;omega
   rw [etop] at hkt ⊢
   apply J2B
   intro x hx;rw [eps,Z6a (uOf []) top (by simp [uOf]) k x hkt (J0J.1 hx)];unfold upG;by_cases hk:k=top
   ·subst hk;have:x=0:=by have:=J0J.1 hx;simp at this;exact this
    simp [this]
   ·simp [hk]
  ·have:=Step.frame [] H (by simpa using hst.sep) hto.step.from_drew;exact hst.trans (by simpa using this))
 have HR0:Hid (∃bms:List BM,bms.length=0/\(∀j m,bms[j]?=some m->m.bits=List.replicate (2 ^ (top-j)) false)/\Step H ((⟨w.heap.size+1,w.heap.size,top,bms,[]⟩:BD).hl++H) w ((w.alloc (.map #[] 0)).alloc (.cells (Array.mk (.int .i64 top::(List.replicate 21 (.pointer none)++[.map (some w.heap.size)]))) 243))):=
  ⟨[],rfl,by simp,h0.out⟩
 clear h0;have hb0:((w.alloc (.map #[] 0)).alloc (.cells (Array.mk (.int .i64 top::(List.replicate 21 (.pointer none)++[.map (some w.heap.size)]))) 243)).cell? ⟨w.heap.size+1,0,none⟩=some (.int .i64 top):=by
  simp
 have hmm:=@run_makeMap prog;clear h;go_enter func143,ntmps143;go_wp2_with (first|(go_at_call 220;refine k1.mono ?_;rintro e w' ⟨rfl,rfl⟩)|(go_at_call 221;refine k2.mono ?_;rintro e w' ⟨rfl,rfl⟩))
 go_loopw [29] (fun kv wr=>∃(k:Nat) (bms:List BM),kv=.int .i64 k/\k<=top+1/\bms.length=k/\(∀j m,bms[j]?=some m->m.bits=List.replicate (2 ^ (top-j)) false)/\Step H ((⟨w.heap.size+1,w.heap.size,top,bms,[]⟩:BD).hl++H) w wr) (fun kv _=>top+1-(intOf kv).toNat)
 case atStart =>
  obtain⟨bms,q1,q2,q3⟩:=HR0.out;exact⟨0,bms,rfl,by omega,q1,q2,q3⟩
 case round =>
  clear hb0 HR0 k1 k2;obtain⟨k,bms,rfl,hk,q1,q2,q3⟩:=hrel;by_cases hlt:k<=top
  ·obtain⟨c0,c1,cf,hcall⟩:=HR.out k bms wr hlt q1 q2 q3;have d0:wr.drew.cell? ⟨w.heap.size+1,0,none⟩=some (.int .i64 top):=c0;have d1:wr.drew.cell? ⟨w.heap.size+1,1+k,none⟩=some (.pointer none):=c1;have df:wr.drew.frozen? ⟨w.heap.size+1,1+k,none⟩=false:=cf;have HCall:=Q0a hcall;clear hcall q1 q2 q3;have hs1:IntKind.i64.wrap ((top:Int)-k)=((top-k:Nat):Int):=by rw [Go.IntWalk.i64_in _ (by omega)];omega
   have hs2:IntKind.i64.wrap (2 ^ (top-k))=((2 ^ (top-k):Nat):Int):=by
    have hp:=Q1Q (k:=k) h2;have e:(2:Int) ^ (top-k)=((2 ^ (top-k):Nat):Int):=by push_cast;rfl
    rw [e];generalize 2 ^ (top-k)=y at hp ⊢;exact Go.IntWalk.i64_in _ (by omega)
   have hk00:(0:Int)<=k:=by omega
   have hk21:(k:Int)<21:=by omega
   go_wp2_with fail
   go_region_held3 (fun w'=>w'.cell? ⟨w.heap.size+1,0,none⟩=some (.int .i64 top))
    (first|exact c0|exact d0|exact e0|exact ek _)
    (first|(go_at_call 222;refine HCall.out.mono ?_;rintro r w1 ⟨mb,rfl,⟨e0,e1,ef⟩,ek,hnx⟩;have HNx:=Q0a hnx;clear hnx))
   go_wp2_with fail;obtain⟨bms',r1,r2,r3⟩:=HNx.out;go_roundw
   case rel=>exact⟨k+1,bms',by go_num,by omega,r1,r2,r3⟩
   case measure=>simp [intOf];omega
  ·obtain rfl:k=top+1:=by omega
   obtain⟨c0,b,c1,hset⟩:=HEnd.out bms wr q1 q2 q3;clear q1 q2 q3;have d0:wr.drew.cell? ⟨w.heap.size+1,0,none⟩=some (.int .i64 top):=c0;have d1:wr.drew.cell? ⟨w.heap.size+1,1+top,none⟩=some (.pointer (some ⟨b,0,none⟩)):=c1;have hk00:(0:Int)<=top:=by omega
   have hk21:(top:Int)<21:=by omega
   have HSet:=Q0a hset;clear hset;go_wp2_with fail
   go_region_held3 (fun w'=>w'.cell? ⟨w.heap.size+1,0,none⟩=some (.int .i64 top)/\w'.cell? ⟨w.heap.size+1,1+top,none⟩=some (.pointer (some ⟨b,0,none⟩)))
    (first|exact⟨c0,c1⟩|exact⟨d0,d1⟩|exact⟨e0,e1⟩|go_keep)
    (first|(go_at_call 223;refine HSet.out.mono ?_;rintro r w1 ⟨rfl,⟨e0,e1⟩,hnx⟩;have HNx:=Q0a hnx;clear hnx))
   go_wp2_with fail;go_ret;exact HNx.out
def Z9H (bb s:Nat) (H:HL) (w:World) (r:Ending) (w':World):Prop:=
 ∃c,r=.returned (ptr c)/\Step H ((⟨c,bb,s,none,[]⟩:CA).hl++H) w w'
theorem CA.ok_new (c bb s:Nat) (s0:16<=s) (s1:s<=512):(⟨c,bb,s,none,[]⟩:CA).Ok:=⟨rfl,s0,s1,.nil,by simp,by simp,by simp⟩
theorem Q9i {w:World} {H:HL} (h:Sep w H) (bb s:Nat) (s0:16<=s) (s1:s<=512) (sm:s%16=0):Calls prog 145 #[ptr bb,.int .i64 s] w (Z9H bb s H w):=by
 have HR:Hid (Z9H bb s H w (.returned (ptr w.heap.size)) (w.alloc (.cells #[ptr bb,.int .i64 s,.slice none 0 0] 341))):=
  ⟨w.heap.size,rfl,h.new 341 [ptr bb,.int .i64 s,.slice none 0 0]⟩
 have hr:IntKind.i64.wrap ((s:Int).tmod 16)=0:=by rw [J2j (by omega)];rw [show (s:Int)%16=0 by omega];rfl
 have hr2:(s:Int).tmod 16=0:=by rw [J2j (by omega)];omega
 have h1:decide ((s:Int)<16)=false:=by simp;omega
 have h2:decide ((512:Int)<s)=false:=by simp;omega
 clear sm h;unfold ptr at *
 go_enter func145,ntmps145;go_wp2_with fail;go_ret;exact HR.out
theorem Q7V {w:World} (bb:Nat):Calls prog 145 #[ptr bb,.int .i64 0] w fun r w'=>r=.returned (.pointer none)/\w=w':=by
 unfold ptr;go_enter func145,ntmps145;go_wp2_with fail;go_ret;exact⟨rfl,rfl⟩
def PL.cellsN (P:PL):List Value:=ptr P.q.t::ptr P.d.b::ptr P.a.a::.pointer none::(P.cs.map (fun c=>ptr c.c)++List.replicate (7-P.cs.length) (.pointer none))
def PL.hlN (P:PL):HL:=(P.p,isC 228 P.cellsN)::(P.q.hl++(P.d.hl++(P.a.hl++P.cs.flatMap CA.hl)))
theorem Z6v {P:PL} (h:P.cs.length=7):P.hlN=P.hl:=by
 unfold PL.hlN PL.hl PL.cellsN PL.cells;rw [h];simp
theorem PL.snoc {w w1:World} {H:HL} {P:PL} (hl:P.cs.length<7) (c:CA) (hs:Step (P.hlN++H) (c.hl++(P.hlN++H)) w w1) :
  Step (P.hlN++H) (({P with cs:=P.cs++[c]}:PL).hlN++H) w (w1.setCell ⟨P.p,3+(P.cs.length+1),none⟩ (ptr c.c)):=by
 have ec:P.cellsN.set (3+(P.cs.length+1)) (ptr c.c)=({P with cs:=P.cs++[c]}:PL).cellsN:=by
  unfold PL.cellsN;rw [show 3+(P.cs.length+1)=P.cs.length+1+1+1+1 by omega];simp only [J3c,J1d,J4o,J3S,J0w,J2Y];rw [J4g _ _ (by simp),J2b,J3I,show 7-P.cs.length=(7-(P.cs.length+1))+1 by omega,List.replicate_succ,J3d,J1s];rfl
 have s2:Step _ _ w1 _:=Sep.set (A:=c.hl) (b:=P.p) (T:=228) (cs:=P.cellsN) (B:=(P.q.hl++(P.d.hl++(P.a.hl++P.cs.flatMap CA.hl)))++H) (by simpa [PL.hlN] using hs.sep) (3+(P.cs.length+1)) (ptr c.c);rw [ec] at s2;have h3:=Step.trans (H1:=c.hl++(P.p,isC 228 P.cellsN)::((P.q.hl++(P.d.hl++(P.a.hl++P.cs.flatMap CA.hl)))++H)) (by simpa [PL.hlN] using hs) s2;refine h3.perm (.of_eq (by unfold PL.hlN;simp)) (Q0V fun a=>?_);simp only [PL.hlN,J1b,J0Q,J4p,J2y,hc_append,hc_cons];omega
def FreshC (bb:Nat) (cs:List CA):Prop:=∀j c,cs[j]?=some c->c.bb=bb/\c.size=Q0c (j+1)/\c.rv=none/\c.pg=[]
theorem FreshC.snoc {bb:Nat} {cs:List CA} (h:FreshC bb cs) (c:Nat):FreshC bb (cs++[⟨c,bb,Q0c (cs.length+1),none,[]⟩]):=by
 intro j x hx;by_cases hj:j<cs.length
 ·rw [J3E hj] at hx;exact h j x hx
 ·rw [J3F (by omega)] at hx;have:j=cs.length:=by
   have:=(J0K.1 hx).1;simp at this;omega
  subst this;rw [J3I] at hx;cases hx;exact⟨rfl,rfl,rfl,rfl⟩
structure FreshP (P:PL) (top:Nat) (limit:Int):Prop where
 q:∃t m b,P.q=Q1V t m b limit
 etop:P.d.top=top
 ps:P.d.ps=[]
 at':P.d.At
 mem:P.a.mem=List.replicate (2 ^ (top+10)) 0
 cs:FreshC P.d.b P.cs
theorem FreshP.ok {P:PL} {top:Nat} {limit:Int} (h:FreshP P top limit) (hl:P.cs.length=7) (h1:6<=top) (h0:0<=limit) (hm:limit<=1073741824):P.Ok []:=by
 obtain⟨t,m,b,hq⟩:=h.q;have hpg:P.pages=[]:=by
  unfold PL.pages;rw [List.flatMap_eq_nil_iff];intro c hc;obtain⟨j,hj⟩:=J3g.1 hc;rw [(h.cs j c hj).2.2.2];rfl
 refine⟨by rw [hq];exact Z6t t m b limit h0 hm,h.at',by rw [h.mem,h.etop,J0D],by rw [h.etop];exact h1,?_,hl,?_,by rw [hpg,h.ps];exact J3K _,?_⟩
 ·intro x hx;rw [h.mem] at hx;rw [J0B hx];omega
 ·intro k c hc;obtain⟨e1,e2,e3,e4⟩:=h.cs k c hc;have hk:k<7:=by have:=(J0K.1 hc).1;omega
  obtain⟨s0,s1,_⟩:=Q7i (k:=k+1) (by omega) (by omega);have hcok:=CA.ok_new c.c c.bb c.size (by rw [e2];omega) (by rw [e2];omega);have:(⟨c.c,c.bb,c.size,none,[]⟩:CA)=c:=by cases c;simp_all
  rw [this] at hcok;exact⟨hcok,e2,e1⟩
 ·intro c hc x hx;obtain⟨j,hj⟩:=J3g.1 hc;rw [(h.cs j c hj).2.2.2] at hx;cases hx
def Z8L (top:Nat) (limit:Int) (H:HL) (w:World) (r:Ending) (w':World):Prop:=∃P:PL,r=.returned (.pointer (some ⟨P.p,0,none⟩))/\P.cs.length=7/\FreshP P top limit/\Step H (P.hl++H) w w'
def Z0y (P:PL) (i:Nat) (top:Nat) (limit:Int) (H:HL) (w wr:World):Prop:=P.cs.length=i-1/\FreshP P top limit/\Step H (P.hlN++H) w wr
theorem Z1v {w wr:World} {H:HL} {P:PL} {i top:Nat} {limit:Int} (hi:i<8) (hp:Z0y P i top limit H w wr) (cst:Int) (hc:Z2P[i]?=some cst) :
  wr.cell? ⟨P.p,1,none⟩=some (ptr P.d.b)/\wr.cell? ⟨P.p,3+i,none⟩=some (.pointer none)/\wr.frozen? ⟨P.p,3+i,none⟩=false /\
  Calls prog 145 #[ptr P.d.b,.int .i64 cst] wr.drew fun r w1=>∃v,r=.returned (.pointer v)/\w1.cell? ⟨P.p,1,none⟩=some (ptr P.d.b)/\(∀v,(w1.setCell ⟨P.p,3+i,none⟩ v).cell? ⟨P.p,1,none⟩=some (ptr P.d.b))/\w1.cell? ⟨P.p,3+i,none⟩=some (.pointer none)/\w1.frozen? ⟨P.p,3+i,none⟩=false /\
   ∃P':PL,P'.p=P.p/\P'.d.b=P.d.b/\Z0y P' (i+1) top limit H w (w1.setCell ⟨P.p,3+i,none⟩ (.pointer v)):=by
 obtain⟨hlen,hf,hst⟩:=hp;have cells:∀{w1:World},Sep w1 P.hlN->w1.cell? ⟨P.p,1,none⟩=some (ptr P.d.b)/\(∀v,(w1.setCell ⟨P.p,3+i,none⟩ v).cell? ⟨P.p,1,none⟩=some (ptr P.d.b))/\w1.cell? ⟨P.p,3+i,none⟩=some (.pointer none)/\w1.frozen? ⟨P.p,3+i,none⟩=false:=by
  intro w1 hs1;have hcl:Cells w1 P.p 228 P.cellsN:=hs1.cells (by simp [PL.hlN]);refine⟨hcl.cell 1 _ rfl,fun v=>(hcl.set (3+i) v).cell 1 _ ?_,hcl.cell (3+i) _ ?_,hcl.free _⟩
  ·rw [J3W (by omega)];rfl
  ·unfold PL.cellsN;cases i with
   | zero=>rfl
   | succ i =>
    rw [show 3+(i+1)=i+1+1+1+1 by omega];simp only [J3D];rw [J3F (by simp;omega),J2b,hlen];rw [J2t,if_pos (by omega)]
 have hs:=hst.sep.left;obtain⟨a1,_,a2,a3⟩:=cells hs;refine⟨a1,a2,a3,?_⟩;cases i with
 | zero =>
  cases hc
  refine (Q7V P.d.b).mono ?_;rintro r w1 ⟨rfl,rfl⟩;obtain⟨b1,b2,b3,b4⟩:=cells hst.sep.drew.left;have hP:P.cs=[]:=J2I hlen;have hsame:Step (P.hlN++H) (P.hlN++H) wr.drew (wr.drew.setCell ⟨P.p,3,none⟩ (.pointer none)):=by
   have:=Sep.set (A:=[]) (b:=P.p) (T:=228) (cs:=P.cellsN) (B:=(P.q.hl++(P.d.hl++(P.a.hl++P.cs.flatMap CA.hl)))++H) (by simpa [PL.hlN] using hst.sep.drew) 3 (.pointer none);have e:P.cellsN.set 3 (.pointer none)=P.cellsN:=rfl;rw [e] at this
   simpa [PL.hlN] using this
  exact⟨none,rfl,b1,b2,b3,b4,P,rfl,rfl,by simp [hlen],hf,hst.trans hsame.from_drew⟩
 | succ i =>
  have hcst:cst=((Q0c (i+1):Nat):Int):=by
   have:=Q7O (k:=i+1) hi;rw [hc] at this;cases this;rfl
  subst hcst;obtain⟨s0,s1,s2⟩:=Q7i (k:=i+1) (by omega) (by omega);refine (Q9i hst.sep.drew P.d.b (Q0c (i+1)) (by omega) (by omega) s2).mono ?_;rintro r w1 ⟨c,rfl,hs1⟩;obtain⟨b1,b2,b3,b4⟩:=cells hs1.sep.right.left;have hl':P.cs.length=i:=by omega
  have hsn:=PL.snoc (by omega) _ hs1.from_drew;rw [hl'] at hsn;have hfs:=hf.cs.snoc c;rw [hl'] at hfs;exact⟨some ⟨c,0,none⟩,rfl,b1,b2,b3,b4,{P with cs:=P.cs++[⟨c,P.d.b,Q0c (i+1),none,[]⟩]},rfl,rfl,by simp [hl'],⟨hf.q,hf.etop,hf.ps,hf.at',hf.mem,hfs⟩,hst.trans hsn⟩
theorem Z1w {w w1 w2 w3:World} {H:HL} {limit:Int} {top:Nat} {t m b:Nat} {d:BD} {a:AN} (s1:Step H ((Q1V t m b limit).hl++H) w w1) (e1:d.top=top) (e2:d.ps=[]) (e3:d.At) (s2:Step ((Q1V t m b limit).hl++H) (d.hl++((Q1V t m b limit).hl++H)) w1 w2)
  (e4:a.mem=List.replicate (2 ^ (top+10)) 0) (s3:Step (d.hl++((Q1V t m b limit).hl++H)) (a.hl++(d.hl++((Q1V t m b limit).hl++H))) w2 w3) :
  Z0y ⟨w3.heap.size,Q1V t m b limit,d,a,[]⟩ 0 top limit H w (w3.alloc (.cells #[ptr t,ptr d.b,ptr a.a,.pointer none,.pointer none,.pointer none,.pointer none,.pointer none,.pointer none,.pointer none,.pointer none] 228)):=by
 have s4:=s3.sep.new 228 [ptr t,ptr d.b,ptr a.a,.pointer none,.pointer none,.pointer none,.pointer none,.pointer none,.pointer none,.pointer none,.pointer none];refine⟨rfl,⟨⟨t,m,b,rfl⟩,e1,e2,e3,e4,fun j c hj=>by simp at hj⟩,?_⟩;have:=((s1.trans s2).trans s3).trans s4;refine this.perm (J3K _) (Q0V fun x=>?_);have e:PL.cellsN ⟨w3.heap.size,Q1V t m b limit,d,a,[]⟩=[ptr t,ptr d.b,ptr a.a,.pointer none,.pointer none,.pointer none,.pointer none,.pointer none,.pointer none,.pointer none,.pointer none]:=rfl;simp only [PL.hlN,e,J4p,J2y,hc_append,hc_cons];omega
theorem Z3V (w:World):(Instr.index 258 (.agg #[.int .i64 0,.int .i64 64,.int .i64 128,.int .i64 256,.int .i64 32,.int .i64 32,.int .i64 48,.int .i64 256]) (.int .i64 0)).run prog w=.ok (.int .i64 0) w:=by kernel_rfl
theorem Z3W (w:World):(Instr.index 258 (.agg #[.int .i64 0,.int .i64 64,.int .i64 128,.int .i64 256,.int .i64 32,.int .i64 32,.int .i64 48,.int .i64 256]) (.int .i64 1)).run prog w=.ok (.int .i64 64) w:=by kernel_rfl
theorem Z3X (w:World):(Instr.index 258 (.agg #[.int .i64 0,.int .i64 64,.int .i64 128,.int .i64 256,.int .i64 32,.int .i64 32,.int .i64 48,.int .i64 256]) (.int .i64 2)).run prog w=.ok (.int .i64 128) w:=by kernel_rfl
theorem Z3Y (w:World):(Instr.index 258 (.agg #[.int .i64 0,.int .i64 64,.int .i64 128,.int .i64 256,.int .i64 32,.int .i64 32,.int .i64 48,.int .i64 256]) (.int .i64 3)).run prog w=.ok (.int .i64 256) w:=by kernel_rfl
theorem Z3Z (w:World):(Instr.index 258 (.agg #[.int .i64 0,.int .i64 64,.int .i64 128,.int .i64 256,.int .i64 32,.int .i64 32,.int .i64 48,.int .i64 256]) (.int .i64 4)).run prog w=.ok (.int .i64 32) w:=by kernel_rfl
theorem Z4a (w:World):(Instr.index 258 (.agg #[.int .i64 0,.int .i64 64,.int .i64 128,.int .i64 256,.int .i64 32,.int .i64 32,.int .i64 48,.int .i64 256]) (.int .i64 5)).run prog w=.ok (.int .i64 32) w:=by kernel_rfl
theorem Z4b (w:World):(Instr.index 258 (.agg #[.int .i64 0,.int .i64 64,.int .i64 128,.int .i64 256,.int .i64 32,.int .i64 32,.int .i64 48,.int .i64 256]) (.int .i64 6)).run prog w=.ok (.int .i64 48) w:=by kernel_rfl
theorem Z4c (w:World):(Instr.index 258 (.agg #[.int .i64 0,.int .i64 64,.int .i64 128,.int .i64 256,.int .i64 32,.int .i64 32,.int .i64 48,.int .i64 256]) (.int .i64 7)).run prog w=.ok (.int .i64 256) w:=by kernel_rfl
theorem Z6w {w:World} {H:HL} (h:Sep w H) (top:Nat) (h1:6<=top) (h2:top<=20) (limit:Int) (hl0:0<=limit) (hl1:limit<=((2 ^ (top+10):Nat):Int)):Calls prog 62 #[.int .i64 ((2 ^ (top+10):Nat):Int),.int .i64 limit] w (Z8L top limit H w):=by
 have b2:2 ^ (top+10)<=1073741824:=J0u (J1G (by omega) (by omega)) (by decide:2 ^ 30<=1073741824);have k1:=Z6u h limit hl0 (by omega);have HQ:Hid (∀r w1,NewQ limit H w r w1->∃t m b,r=.returned (.pointer (some ⟨t,0,none⟩))/\Step H ((Q1V t m b limit).hl++H) w w1/\Calls prog 143 #[.int .i64 ((2 ^ (top+10):Nat):Int)] w1 (Z8K top ((Q1V t m b limit).hl++H) w1)):=by
  rintro r w1 ⟨t,m,b,rfl,s1⟩;exact⟨t,m,b,rfl,s1,Z3U s1.sep top h1 h2⟩
 have HA:Hid (∀w2 H2,Sep w2 H2->Calls prog 144 #[.int .i64 ((2 ^ (top+10):Nat):Int)] w2 (Z8C (2 ^ (top+10)) H2 w2)):=fun w2 H2 s2=>Z3B s2 (top+10) (by omega) (by omega)
 clear h;generalize hsz:2 ^ (top+10)=sz at *
 have HSz:=Q0a hsz;clear hsz;go_enter func62,ntmps62;go_wp2_with fail;refine k1.mono ?_;intro r w1 hx;obtain⟨t,m,b,rfl,s1,hb⟩:=HQ.out _ _ hx;have HB:=Q0a hb;have S1:=Q0a s1;clear hx hb s1;go_wp2_with fail;refine HB.out.mono ?_;rintro r w2 ⟨d,rfl,e1,e2,e3,s2⟩;have S2:=Q0a s2;have ha:=HA.out w2 _ s2.sep;have HA2:=Q0a ha;have E1:=Q0a e1;have E2:=Q0a e2;clear ha s2 e1 e2;go_wp2_with fail;refine HA2.out.mono ?_;rintro r w3 ⟨a,rfl,e4,s3⟩;have hps:=Z1w S1.out E1.out E2.out e3 S2.out (by rw [HSz.out];exact e4) s3;have HP:=Q0a hps;have HTab:=Q0a (hps.2.2.sep.env.tabC);clear e3 e4 s3 hps;unfold ptr at *
 have g0:(w3.alloc (.cells #[.pointer (some ⟨t,0,none⟩),.pointer (some ⟨d.b,0,none⟩),.pointer (some ⟨a.a,0,none⟩),.pointer none,.pointer none,.pointer none,.pointer none,.pointer none,.pointer none,.pointer none,.pointer none] 228)).cell? ⟨0,0,none⟩=some (.int .i64 0):=HTab.out 0 0 rfl;have g1:(w3.alloc (.cells #[.pointer (some ⟨t,0,none⟩),.pointer (some ⟨d.b,0,none⟩),.pointer (some ⟨a.a,0,none⟩),.pointer none,.pointer none,.pointer none,.pointer none,.pointer none,.pointer none,.pointer none,.pointer none] 228)).cell? ⟨0,1,none⟩=some (.int .i64 64):=HTab.out 1 64 rfl;have g2:(w3.alloc (.cells #[.pointer (some ⟨t,0,none⟩),.pointer (some ⟨d.b,0,none⟩),.pointer (some ⟨a.a,0,none⟩),.pointer none,.pointer none,.pointer none,.pointer none,.pointer none,.pointer none,.pointer none,.pointer none] 228)).cell? ⟨0,2,none⟩=some (.int .i64 128):=HTab.out 2 128 rfl
 have g3:(w3.alloc (.cells #[.pointer (some ⟨t,0,none⟩),.pointer (some ⟨d.b,0,none⟩),.pointer (some ⟨a.a,0,none⟩),.pointer none,.pointer none,.pointer none,.pointer none,.pointer none,.pointer none,.pointer none,.pointer none] 228)).cell? ⟨0,3,none⟩=some (.int .i64 256):=HTab.out 3 256 rfl;have g4:(w3.alloc (.cells #[.pointer (some ⟨t,0,none⟩),.pointer (some ⟨d.b,0,none⟩),.pointer (some ⟨a.a,0,none⟩),.pointer none,.pointer none,.pointer none,.pointer none,.pointer none,.pointer none,.pointer none,.pointer none] 228)).cell? ⟨0,4,none⟩=some (.int .i64 32):=HTab.out 4 32 rfl;have g5:(w3.alloc (.cells #[.pointer (some ⟨t,0,none⟩),.pointer (some ⟨d.b,0,none⟩),.pointer (some ⟨a.a,0,none⟩),.pointer none,.pointer none,.pointer none,.pointer none,.pointer none,.pointer none,.pointer none,.pointer none] 228)).cell? ⟨0,5,none⟩=some (.int .i64 32):=HTab.out 5 32 rfl
 have g6:(w3.alloc (.cells #[.pointer (some ⟨t,0,none⟩),.pointer (some ⟨d.b,0,none⟩),.pointer (some ⟨a.a,0,none⟩),.pointer none,.pointer none,.pointer none,.pointer none,.pointer none,.pointer none,.pointer none,.pointer none] 228)).cell? ⟨0,6,none⟩=some (.int .i64 48):=HTab.out 6 48 rfl;have g7:(w3.alloc (.cells #[.pointer (some ⟨t,0,none⟩),.pointer (some ⟨d.b,0,none⟩),.pointer (some ⟨a.a,0,none⟩),.pointer none,.pointer none,.pointer none,.pointer none,.pointer none,.pointer none,.pointer none,.pointer none] 228)).cell? ⟨0,7,none⟩=some (.int .i64 256):=HTab.out 7 256 rfl;go_wp2_with fail;clear g0 g1 g2 g3 g4 g5 g6 g7
 have ix0:=Z3V;have ix1:=Z3W;have ix2:=Z3X;have ix3:=Z3Y;have ix4:=Z3Z;have ix5:=Z4a;have ix6:=Z4b;have ix7:=Z4c
 go_loopw [34] (fun iv wr=>∃(i:Nat) (P:PL),iv=.int .i64 i/\i<=8/\P.p=w3.heap.size/\P.d.b=d.b/\Z0y P i top limit H w wr) (fun iv _=>8-(intOf iv).toNat)
 case atStart=>exact⟨0,_,rfl,by omega,rfl,rfl,HP.out⟩
 case round =>
  clear HP;obtain⟨i,P,rfl,hi,ep,ed,hp⟩:=hrel;by_cases hlt:i<8
  ·have hrd:=fun cst hc=>Z1v hlt hp cst hc
   rw [ep,ed] at hrd;have HRd:=Q0a hrd;clear hrd hp ep ed;have hcases:i=0∨i=1∨i=2∨i=3∨i=4∨i=5∨i=6∨i=7:=by omega
   rcases hcases with rfl|rfl|rfl|rfl|rfl|rfl|rfl|rfl
   all_goals
    obtain⟨c0,c1,cf,hcall⟩:=HRd.out _ rfl;clear HRd;unfold ptr at *
    have HCall:=Q0a hcall;clear hcall;have d0:wr.drew.cell? ⟨w3.heap.size,1,none⟩=some (.pointer (some ⟨d.b,0,none⟩)):=c0
    try push_cast
    go_wp2_with fail
    go_region_held3 (fun w'=>w'.cell? ⟨w3.heap.size,1,none⟩=some (.pointer (some ⟨d.b,0,none⟩)))
     (first|exact c0|exact d0|exact e0|exact ek _)
     (first|(go_at_call 145;refine HCall.out.mono ?_;rintro r w1 ⟨v,rfl,e0,ek,e1,ef,hnx⟩;have HNx:=Q0a hnx;clear hnx))
    go_wp2_with fail;obtain⟨P',r1,r2,r3⟩:=HNx.out;go_roundw
    case rel=>exact⟨_,P',by go_num,by omega,r1,r2,r3⟩
    case measure=>simp [intOf]
  ·obtain rfl:i=8:=by omega
   have HR:Hid (Z8L top limit H w (.returned (.pointer (some ⟨w3.heap.size,0,none⟩))) wr):=by
    obtain⟨q1,q2,q3⟩:=hp;refine⟨P,by rw [ep],q1,q2,?_⟩;rw [Z6v q1] at q3;exact q3
   clear hp ep ed;go_wp2_with fail
   first|exact HR.out|(go_ret;exact HR.out)
theorem Z6x {c:CA} (h:c.used=[]) (hb:∀x∈c.pg,cntB x.1.bits≠0):c.pg=[]:=by
 cases hp:c.pg with
 | nil=>rfl
 | cons x r =>
  exfalso;have hx:x∈c.pg:=by rw [hp];simp
  have h1:=hb x hx;rw [<- Q5o] at h1;obtain⟨i,hi⟩:=List.exists_mem_of_length_pos (Nat.pos_of_ne_zero h1);have:addr c.size x.2 i∈c.used:=mem_used.2 ⟨x,hx,i,mem_trues.1 hi,rfl⟩;rw [h] at this;cases this
theorem Z6y {P:PL} {fr:List Nat} (ok:P.Ok fr) (h:∀j,P.usedOf j=[]):∀(k:Nat) (c:CA),P.cs[k]?=some c->c.pg=[]:=by
 intro k c hc;have hcls:P.Cls (k+1) c:=⟨by omega,by simpa using hc⟩
 have:=h (k+1);rw [Q0O hcls] at this;exact Z6x this (PL.busyC ok hc)
theorem Q6F {P:PL} {top:Nat} {limit:Int} (h:FreshP P top limit) (j:Nat):P.usedOf j=[]:=by
 unfold PL.usedOf;split
 ·split
  ·rename_i c hc;unfold CA.used;rw [(h.cs _ c hc).2.2.2];rfl
  ·rfl
 ·rfl
theorem Z1x (m:List Nat) (a n:Nat) (hn:8<=n) (hl:a<=m.length):Q0s (put_ m a (List.replicate n 0)) a=0:=by
 unfold Q0s put_;rw [J1s,J2O (by rw [J2L];omega),List.drop_of_length_le (by rw [J2L];omega),J2C,J2M (by simpa using hn),J3O,J3P hn];rfl
def newL (a:Nat):List Pl:=⟨1,a,0,1,0,0⟩::List.replicate 255 (noPl 0)
theorem Q2d {a:Nat} {p:Pl} (h:p∈newL a):p=⟨1,a,0,1,0,0⟩∨p=noPl 0:=by
 rcases J0y.1 h with h|h
 ·exact .inl h
 ·exact .inr (J0B h)
theorem Q7m {a:Nat} {p:Pl} (h:p∈newL a) (hi:p.is=true):p=⟨1,a,0,1,0,0⟩:=by
 rcases Q2d h with h|rfl
 ·exact h
 ·cases hi
theorem Q7n {β:Type} (f:Pl->Option β) (h:f (noPl 0)=none) (a:Nat):(newL a).filterMap f=match f ⟨1,a,0,1,0,0⟩ with|some b=>[b]|none=>[]:=by
 have e:(List.replicate 255 (noPl 0)).filterMap f=[]:=by
  rw [List.filterMap_eq_nil_iff];intro x hx;rw [J0B hx];exact h
 unfold newL;cases hc:f ⟨1,a,0,1,0,0⟩ with
 | none=>rw [J3Z hc,e]
 | some b=>rw [J4a hc,e]
theorem Z1y (a h:Nat):pget (newL a) 2 h=none:=by
 cases hp:pget (newL a) 2 h with
 | none=>rfl
 | some p =>
  have h1:=Q1h hp;have h2:=(pget_some.1 hp).2.2;rcases Q2d h1 with rfl|rfl <;> cases h2
theorem Z8M {P P':PL} {top:Nat} {limit:Int} {a:Nat} (h:FreshP P top limit) (hl:P.cs.length=7) (h1:6<=top) (h0:0<=limit) (hm:limit<=1073741824) (g:GotM P [] 0 1 a P' []):Inv P' (newL a) [] x0 []:=by
 have ok:=h.ok hl h1 h0 hm;obtain⟨t,m,b,hq⟩:=h.q;obtain⟨e,q1,q2,q3⟩:=g.q;have he:e=⟨0,b,⟨limit,0,0,-1,0⟩⟩:=by
  rw [hq] at q1;simp only [Q1V,find,if_true,J0H] at q1;exact q1.symm
 have hE:P'.q.E=[⟨0,b,⟨limit,64,0,-1,0⟩⟩]:=by
  rw [q3,hq,he];simp [Q1V,upd,costK,Q0c]
 have hid:∀id x,find P'.q.E id=some x->id=0/\x=⟨0,b,⟨limit,64,0,-1,0⟩⟩:=fun id x hx=>by
  rw [hE] at hx;simp only [find] at hx;split at hx
  ·rename_i h;cases hx;exact⟨h,rfl⟩
  ·cases hx
 have hnone:∀k,P.usedOf k=[]:=fun k=>Q6F h k
 refine⟨by unfold newL;rw [J1e,J0D],fun p hp=>?_,⟨g.ok,fun p hp hi=>?_,fun k k1 k5=>?_,?_,fun p hp hi _=>?_⟩,⟨?_,fun p hp hi=>?_,fun p hp hi _ x hx=>?_,fun id x hx=>?_,fun id x hx=>?_⟩,⟨?_,fun i p hi hi0 hs=>?_,fun id=>⟨J4r _,fun h=>absurd rfl h⟩,by simp,fun x=>?_,by simp⟩⟩
 ·rcases Q2d hp with rfl|rfl
  ·exact⟨by show (1:Nat)<=2;omega,by show (0:Nat)<=1048575;omega⟩
  ·exact⟨by show (0:Nat)<=2;omega,by show (0:Nat)<=1048575;omega⟩
 ·rw [Q7m hp hi];exact .inr ⟨J0t 1,by show (1:Nat)<=5;omega⟩
 ·unfold Q1N;rw [Q7n (atsF k) rfl a];by_cases e1:k=1
  ·subst e1;have:=g.used (by decide);rw [hnone] at this;exact this.symm
  ·rw [Q9h (show (⟨1,a,0,1,0,0⟩:Pl).kind≠k from fun h=>e1 h.symm),g.other k e1,hnone]
 ·unfold Q1N;rw [Q7n (atsF 8) rfl a];exact J3K _
 ·rw [Q7m hp hi];show Q0s P'.a.mem a=0;rw [g.mem];exact Z1x _ _ _ (by decide) (by have:=g.room.1;omega)
 ·unfold Z0w;rw [Q7n ownF rfl a,hE];exact J3K _
 ·rw [Q7m hp hi,hE];exact⟨_,rfl⟩
 ·obtain⟨_,rfl⟩:=hid _ _ hx;rw [Q7m hp hi];exact⟨fun _=>rfl,fun h=>absurd rfl h⟩
 ·obtain⟨rfl,rfl⟩:=hid _ _ hx;have hz:Q0u (List.replicate 255 (noPl 0)) 0=0:=Q2I fun p hp hi=>by rw [J0B hp] at hi;cases hi
  show (64:Int)=Q0u (newL a) 0+0;have:Q0u (newL a) 0=Q2H 0 ⟨1,a,0,1,0,0⟩+Q0u (List.replicate 255 (noPl 0)) 0:=by unfold Q0u newL;rw [J0w,J4b]
  rw [this,hz];rfl
 ·obtain⟨rfl,rfl⟩:=hid _ _ hx;rw [hE];exact⟨rfl,rfl⟩
 ·exact⟨⟨1,a,0,1,0,0⟩,rfl,rfl,rfl,rfl,rfl,rfl⟩
 ·exfalso;rcases Q2d (J2G hi) with rfl|rfl
  ·have:(List.replicate 255 (noPl 0))[i-1]?=some ⟨1,a,0,1,0,0⟩:=by
    have e:i=(i-1)+1:=by omega
    rw [e] at hi;unfold newL at hi;rw [J3D] at hi;exact hi
   have:=J0B (J2G this);cases this
  ·cases hs
 ·rw [Z1y];simp
end Go.Proofs.YtlakjlmaboioiaaGreatDoor
namespace Go.Proofs.YtlakjlmaboioiaaGreatDoor
open Go.Proofs.Tryz
theorem Q4b {l:List Pl} {N:Nat} (t:Tre l N) (h:Nat):pre l N h=h::(Q0D l N h).reverse:=by
 rw [Q5j t h];unfold Q0D;rw [J1f,Q5j t h];rfl
theorem Z0z {l:List Pl} {N:Nat} (t:Tre l N) (h:Nat):(Q0D l N h).reverse=(kids l h).reverse.flatMap (pre l N):=by
 unfold Q0D;rw [J1f,Q5j t h];rfl
theorem Q7W {l:List Pl} {N:Nat} (t:Tre l N) {h:Nat}:Q0D l N h=[]↔kids l h=[]:=by
 constructor
 ·intro e;have h1:=Z0z t h;rw [e] at h1;cases hk:kids l h with
  | nil=>rfl
  | cons x r =>
   exfalso;rw [hk] at h1;have hx:x∈(x::r).reverse.flatMap (pre l N):=J0T.2 ⟨x,by simp,Q1s l N x⟩;rw [<- h1] at hx;cases hx
 ·intro e;have h1:=Z0z t h;rw [e] at h1
  simpa using h1
theorem Q2e {l:List Pl} {N:Nat} (t:Tre l N) {h x:Nat}:x∈Q0D l N h↔x∈pre l N h/\x≠h:=by
 have hp:(pre l N h).Pairwise (fun a b=>a≠b/\a∉kids l b):=Q4W t N h;rw [Q4b t h] at hp ⊢;obtain⟨h1,_⟩:=J0U.1 hp
 constructor
 ·intro hx;exact⟨by simp [hx],fun e=>(h1 x (by simp [hx])).1 e.symm⟩
 ·rintro⟨hx,hne⟩;rcases J0y.1 hx with e|hx
  ·exact absurd e hne
  ·simpa using hx
theorem Q4c {l:List Pl} {h:Nat} (hn:∀p,pget l 1 h=some p->p.kind≠1):kids l h=[]:=by
 unfold kids;cases hp:pget l 1 h with
 | none=>rfl
 | some p=>simp [hn p hp]
theorem Z4d {l:List Pl} {N:Nat} (t:Tre l N) {h:Nat} {p:Pl} (hp:pget l 1 h=some p) (hk:p.kind=1) {x:Nat} {A B:List Nat} (hu:Q0D l N h=A++x::B) :
  ∃q,pget l 1 x=some q/\x≠h/\x≠0/\(∀y∈B,y%256≠x%256)/\(∀y∈A,y%256≠x%256)/\(∀y∈kids l x,y∈A)/\(q.fac=p.own∨∃y∈B,∃r,pget l 1 y=some r/\r.kind=1/\r.own=q.fac):=by
 obtain⟨hxh,hx0,⟨q,hq⟩,hkids,hxA,hxB⟩:=Z5G t hu;have hlive:∀y∈Q0D l N h,∃r,pget l 1 y=some r:=fun y hy=>by
  have:=(Q2e t).1 hy;exact ((Q4X t this.1).resolve_left this.2).2
 have apart:∀y∈Q0D l N h,y≠x->y%256≠x%256:=fun y hy hne e=>by
  obtain⟨r,hr⟩:=hlive y hy;exact hne (Q1a hr hq e).1
 refine⟨q,hq,hxh,hx0,fun y hy=>apart y (by rw [hu];simp [hy]) (fun e=>hxB (e ▸ hy)),fun y hy=>apart y (by rw [hu];simp [hy]) (fun e=>hxA (e ▸ hy)),hkids,?_⟩;have hxp:x∈preN l N h:=((Q2e t).1 (by rw [hu];simp)).1;rcases Z5D N h x hxp with e|⟨z,hz,hxz⟩
 ·exact absurd e hxh
 ·obtain⟨s,u,a1,a2,a3,a4,a5⟩:=(Q0H t.len).1 hxz;rw [hq] at a3;cases a3;by_cases hzh:z=h
  ·subst hzh;rw [hp] at a1;cases a1;exact .inl a5
  ·right;have hzu:z∈Q0D l N h:=(Q2e t).2 ⟨hz,hzh⟩;have hzx:z≠x:=by
    rintro rfl;rw [hq] at a1;cases a1;have:=t.rise z q hq a4 a2;omega
   rw [hu] at hzu;rcases J1h.1 hzu with hzA|hzB
   ·exfalso;have hpp:(pre l N h).Pairwise (fun a b=>a≠b/\a∉kids l b):=Q4W t N h;rw [Q4b t h,hu] at hpp;have h2:=(J0U.1 hpp).2;rw [J0Z,List.reverse_cons] at h2;have:=(J1g.1 h2).2.2 x (by simp) z (by simpa using hzA);exact this.2 hxz
   ·rcases J0y.1 hzB with e|hzB
    ·exact absurd e hzx
    ·exact⟨z,hzB,s,a1,a2,a5.symm⟩
theorem Z4e {l:List Pl} {N:Nat} (t:Tre l N) {h:Nat} {p:Pl} (hp:pget l 1 h=some p) (hk:p.kind=1) {y:Nat} {q:Pl} (hy:pget l 1 y=some q) (h0:y≠0) (hne:y≠h)
  (hf:q.fac=p.own∨∃z∈Q0D l N h,∃r,pget l 1 z=some r/\r.kind=1/\r.own=q.fac):y∈Q0D l N h:=by
 refine (Q2e t).2 ⟨?_,hne⟩;rcases hf with e|⟨z,hz,r,h1,h2,h3⟩
 ·exact Q2Y t N h h y (Q4w _ _ _) (Q1s l N h) ((Q0H t.len).2 ⟨p,q,hp,hk,hy,h0,e⟩)
 ·exact Q2Y t N h z y (Q4w _ _ _) ((Q2e t).1 hz).1 ((Q0H t.len).2 ⟨r,q,h1,h2,hy,h0,h3.symm⟩)
def Dmd (l:List Pl) (A:List Nat) (l':List Pl):Prop:=∀y,pget l' 1 y=if y∈A then none else pget l 1 y
theorem Dmd.nil (l:List Pl):Dmd l [] l:=fun y=>by simp
theorem Dmd.none_left {l l':List Pl} {A:List Nat} (hl:l.length<=256) (hl':l'.length<=256) (d:Dmd l A l') {x:Nat} (hk:∀y∈kids l x,y∈A):kids l' x=[]:=by
 cases hc:kids l' x with
 | nil=>rfl
 | cons y r =>
  exfalso;obtain⟨p,q,a1,a2,a3,a4,a5⟩:=(Q0H hl').1 (by rw [hc];simp:y∈kids l' x);rw [d x] at a1;rw [d y] at a3;split at a1
  ·cases a1
  ·split at a3
   ·cases a3
   ·rename_i h2;exact h2 (hk y ((Q0H hl).2 ⟨p,q,a1,a2,a3,a4,a5⟩))
theorem Dmd.step {l l' l'':List Pl} {A:List Nat} {x:Nat} (d:Dmd l A l') (h:Dmd l' [x] l''):Dmd l (A++[x]) l'':=fun y=>by
 rw [h y,d y];by_cases e:y=x
 ·simp [e]
 ·by_cases hy:y∈A <;> simp [e,hy]
theorem Z8N {l:List Pl} {x:Nat} {p:Pl} (hp:pget l 1 x=some p):Dmd l [x] (l.set (x%256) {p with st:=2}):=fun y=>by
 obtain⟨hi,hn,hs⟩:=pget_some.1 hp;unfold pget;by_cases e:y%256=x%256
 ·rw [e];have hlt:=(J0K.1 hi).1;rw [J4e hlt];simp only;rw [if_neg (by rintro⟨_,h⟩;exact absurd h (by decide))];by_cases e2:y=x
  ·simp [e2]
  ·rw [if_neg (by simpa using e2),hi];simp only;rw [if_neg];rintro⟨h,_⟩;exact e2 (h.symm.trans hn)
 ·rw [J3W (fun h=>e h.symm)];rw [if_neg (by rintro h;rw [J2z] at h;exact e (by rw [h]))]
open Go.RowKit
def Q1i (l:List Nat):List Value:=l.map fun (a:Nat)=>Value.int .u32 a
theorem Q2J (l:List Nat):(Q1i l).length=l.length:=by simp [Q1i]
theorem hands_app (l m:List Nat):Q1i (l++m)=Q1i l++Q1i m:=by simp [Q1i]
theorem Q7o {l:List Nat} {j x:Nat} (h:l[j]?=some x):(Q1i l)[j]?=some (.int .u32 x):=by unfold Q1i;rw [J2d,h];rfl
def NewHs (w:World) (l:List Nat) (r:Ending) (w':World):Prop:=∃v,r=.returned v/\w'.ownsRow w.heap.size 27 1 v l.length (Q1i l)/\Below w.heap.size w w'
structure IsHs (B:Nat) (L:List Nat) (a:Option Addr) (w:World):Prop where
 at':∀(j x:Nat),L[j]?=some x->∃g,a=some ⟨g,0,none⟩/\B<=g/\g<w.heap.size/\w.cell? ⟨g,j,none⟩=some (.int .u32 x)
theorem IsHs.below {B:Nat} {L:List Nat} {a:Option Addr} {w w':World} (h:IsHs B L a w) (hb:Below w.heap.size w w'):IsHs B L a w':=⟨fun j x hj=>by
 obtain⟨g,h1,h2,h3,h4⟩:=h.at' j x hj;exact⟨g,h1,h2,J0v h3 hb.size,(World.cell?_of_block (w:=w) (hb.block g h3)).trans h4⟩⟩
theorem NewHs.shape {w:World} {L:List Nat} {r:Ending} {w':World} (h:NewHs w L r w'):∃(a:Option Addr) (cap:Nat),r=.returned (.slice a L.length cap)/\Below w.heap.size w w'/\IsHs w.heap.size L a w':=by
 obtain⟨v,rfl,⟨_,h2⟩,hb⟩:=h;rcases h2 with ⟨rfl,h0⟩|⟨g,cap,cur,rfl,hg,hgb,hn,hm,hs,htk⟩
 ·refine⟨none,0,by rw [h0],hb,⟨fun j x hj=>?_⟩⟩;have:=(J0K.1 hj).1;omega
 ·refine⟨_,cap,rfl,hb,⟨fun j x hj=>⟨g,rfl,hg,lt_of_block hgb,?_⟩⟩⟩;have hv:=Q7o hj;rw [<- htk,J2v] at hv;split at hv
  ·simp only [World.cell?,hgb,J3u,J4h,if_false];rw [<- J2S];exact hv
  ·cases hv
def OutH (w wr:World) (v:Value) (L:List Nat):Prop:=wr.ownsRow w.heap.size 27 1 v L.length (Q1i L)/\Below w.heap.size w wr
theorem OutH.nil (w:World):OutH w w (.slice none 0 0) []:=⟨World.ownsRow_nil _ _ _ _,Below.refl _ _⟩
theorem OutH.app0 {w wr w1:World} {v v':Value} {L M:List Nat} (h:OutH w wr v L) (hown:w1.ownsRow w.heap.size 27 1 v' (L.length+M.length) (Q1i L++Q1i M)) (hg:wr.grownBy w1 v.ownBlock):OutH w w1 v' (L++M):=
 ⟨by rw [J1d,hands_app];exact hown,h.2.trans ((Below.refl _ wr).mono h.2.size |>.grown hg h.2.size (fun b hb=>(h.1.lt b hb).1))⟩
theorem OutH.alloc {w wr:World} {v:Value} {L:List Nat} (h:OutH w wr v L) (o:Obj):OutH w (wr.alloc o) v L:=⟨h.1.alloc _,h.2.alloc h.2.size _⟩
theorem OutH.app1 {w wr w1:World} {v v':Value} {L M:List Nat} {o:Obj} (h:OutH w wr v L) (hown:w1.ownsRow w.heap.size 27 1 v' (L.length+M.length) (Q1i L++Q1i M)) (hg:(wr.alloc o).grownBy w1 v.ownBlock):OutH w w1 v' (L++M):=(h.alloc o).app0 hown hg
theorem OutH.app2 {w wr w1:World} {v v':Value} {L M:List Nat} {o o2:Obj} (h:OutH w wr v L) (hown:w1.ownsRow w.heap.size 27 1 v' (L.length+M.length) (Q1i L++Q1i M)) (hg:((wr.alloc o).alloc o2).grownBy w1 v.ownBlock):OutH w w1 v' (L++M):=((h.alloc o).alloc o2).app0 hown hg
theorem OutH.below {w wr w1:World} {v:Value} {L:List Nat} (h:OutH w wr v L) (hb:Below wr.heap.size wr w1):OutH w w1 v L:=
 ⟨h.1.kept (row:=none) ⟨hb.os,hb.tape,hb.output,hb.size,fun k hk _=>hb.block k hk⟩ (by cases hv:v.ownBlock with|none=>exact .inl rfl|some b=>exact .inr (by simp)),h.2.trans (hb.mono h.2.size)⟩
theorem Z4f (w:World) (x:Value):∀j u,[x][j]?=some u->(w.alloc (.cells #[x] 27)).cell? ((⟨w.heap.size,0,none⟩:Addr).add j)=some u:=by
 intro j u hj;have:=(Cells.new w 27 [x]).cell j u hj;have e:(⟨w.heap.size,0,none⟩:Addr).add j=⟨w.heap.size,j,none⟩:=by unfold Addr.add;split <;> simp_all
 rw [e];exact this
theorem Q6G (w:World) (o:Obj) (x:Value):∀j u,[x][j]?=some u->((w.alloc o).alloc (.cells #[x] 27)).cell? ((⟨w.heap.size+1,0,none⟩:Addr).add j)=some u:=by
 intro j u hj;have:=Z4f (w.alloc o) x j u hj;rw [World.size_alloc] at this;exact this
theorem Q3f:(prog.info? 27).map (fun i=>(i.zero,i.size,i.bytes))=some (some (.int .u32 0),1,4):=by kernel_rfl
def Q3y (q:QT) (id:Int) (e:En Fa) (b:Nat) (limit:Int):QT:={q with E:=upd q.E id {e.q with given:=e.q.given+limit,kids:=e.q.kids+1}++[⟨q.next,b,⟨limit,0,0,id,0⟩⟩],next:=q.next+1}
def Q9j (w:World) (q:QT) (id:Int) (e:En Fa) (limit:Int) (r:Ending) (w':World):Prop:=r=.returned (.tuple #[.int .i64 q.next,.int .i64 0])/\∃b,Step q.hl (Q3y q id e b limit).hl w w'
def closed (q:QT) (par:Int) (e c:En Fa) (id:Int):QT:={q with E:=rem (upd q.E par {e.q with given:=e.q.given-c.q.limit,kids:=e.q.kids-1}) id}
theorem Z6z {α:Type} (E:List (En α)) (x:En α) (id:Int) (f:α) (h:x.id≠id):upd (E++[x]) id f=upd E id f++[x]:=by
 simp [upd,h]
theorem QT.next_none {q:QT} (ok:q.Ok):find q.E q.next=none:=by
 cases h:find q.E q.next with
 | none=>rfl
 | some e=>have:=(ok.fa _ e h).2.2.2.2.2.2.2;omega
theorem Z8O {q:QT} (ok:q.Ok) (b:Nat) (f:Fa):(q.E++[(⟨q.next,b,f⟩:En Fa)]).Pairwise (fun a b=>a.id≠b.id):=by
 rw [J1g];refine⟨ok.ids,by simp,fun x hx y hy=>?_⟩;rw [J2z] at hy;subst hy;exact Q7F (QT.next_none ok) x hx
theorem QT.carve {w:World} {q:QT} (h:Sep w q.hl) (ok:q.Ok) {id:Int} {e:En Fa} (hf:find q.E id=some e) (limit:Int) (w4:World) (hm:Q0G w4 q.m (put (kvs q.E) q.next (ptr w.heap.size)))
  (hg:((w.setCell ⟨q.t,1,none⟩ (.int .i64 (q.next+1))).alloc (.cells #[.int .i64 limit,.int .i64 0,.int .i64 0,.int .i64 id,.int .i64 0] 236)).grownBy w4 (some q.m)) :
  w4.cell? ⟨e.b,2,none⟩=some (.int .i64 e.q.given)/\w4.cell? ⟨e.b,4,none⟩=some (.int .i64 e.q.kids)/\(∀i,w4.frozen? ⟨e.b,i,none⟩=false) /\
   Step q.hl (Q3y q id e w.heap.size limit).hl w ((w4.setCell ⟨e.b,2,none⟩ (.int .i64 (e.q.given+limit))).setCell ⟨e.b,4,none⟩ (.int .i64 (e.q.kids+1))):=by
 have hno:=QT.next_none ok;have hne:q.next≠id:=fun e'=>by rw [e',hf] at hno;cases hno
 have s1:Step q.hl ({q with next:=q.next+1}:QT).hl w (w.setCell ⟨q.t,1,none⟩ (.int .i64 (q.next+1))):=Sep.set (A:=[]) (B:=(q.m,isMI (kvs q.E))::facH q.E) h 1 (.int .i64 (q.next+1));have hsz:(w.setCell ⟨q.t,1,none⟩ (.int .i64 (q.next+1))).heap.size=w.heap.size:=by simp [World.setCell]
 have s2:=s1.sep.new 236 [.int .i64 limit,.int .i64 0,.int .i64 0,.int .i64 id,.int .i64 0];rw [hsz] at s2;obtain⟨es,clock,ho,hr⟩:=hm;have s3:=Sep.turn (A:=[(w.heap.size,isC 236 [.int .i64 limit,.int .i64 0,.int .i64 0,.int .i64 id,.int .i64 0]),(q.t,isC 254 [.map (some q.m),.int .i64 (q.next+1)])]) (B:=facH q.E) (q':=isMI (put (kvs q.E) q.next (ptr w.heap.size))) s2.sep hg ⟨_,ho,es,clock,rfl,hr⟩;rw [Z3a q.E q.next w.heap.size ⟨limit,0,0,id,0⟩ hno] at s3;have s123:=(s1.trans s2).trans s3;obtain⟨q1,hq1⟩:∃q1:QT,q1={q with E:=q.E++[⟨q.next,w.heap.size,⟨limit,0,0,id,0⟩⟩],next:=q.next+1}:=⟨_,rfl⟩
 have s4:Step q.hl q1.hl w w4:=by
  refine s123.perm (J3K _) ?_;rw [hq1];simp only [QT.hl,facH,J3S,J0w,J2Y,J2D,J2C,Fa.cells];refine (List.Perm.swap _ _ _).trans (List.Perm.cons _ ?_);refine (List.Perm.swap _ _ _).trans (List.Perm.cons _ ?_);exact (J3V _ _).symm
 have hids1:q1.E.Pairwise (fun a b=>a.id≠b.id):=by rw [hq1];exact Z8O ok _ _
 have hf1:find q1.E id=some e:=by
  rw [hq1];show find (q.E++[_]) id=_;rw [Q1G,hf]
 have k:=QT.fac s4.sep hf1;have s5:=QT.setF s4.sep hids1 hf1 2 (.int .i64 (e.q.given+limit)) {e.q with given:=e.q.given+limit} rfl;have hf2:find (upd q1.E id {e.q with given:=e.q.given+limit}) id=some {e with q:={e.q with given:=e.q.given+limit}}:=Q0m hf1 _;have hids2:(upd q1.E id {e.q with given:=e.q.given+limit}).Pairwise (fun a b=>a.id≠b.id):=Q2C _ _ (fun a b a' b' _ h1 _ h2 h=>by rw [<- h1,<- h2];exact h) hids1;have s6:=QT.setF (q:={q1 with E:=upd q1.E id {e.q with given:=e.q.given+limit}}) s5.sep hids2 hf2 4 (.int .i64 (e.q.kids+1)) {e.q with given:=e.q.given+limit,kids:=e.q.kids+1} rfl;refine⟨k.cell 2 _ rfl,k.cell 4 _ rfl,k.free,?_⟩
 have:=(s4.trans s5).trans s6;have e1:upd (upd q1.E id {e.q with given:=e.q.given+limit}) id {e.q with given:=e.q.given+limit,kids:=e.q.kids+1}=upd q.E id {e.q with given:=e.q.given+limit,kids:=e.q.kids+1}++[⟨q.next,w.heap.size,⟨limit,0,0,id,0⟩⟩]:=by
  rw [upd_upd,hq1];exact Z6z _ _ _ _ hne
 rw [e1] at this;rw [hq1] at this;exact this
theorem Z4g {q:QT} (ok:q.Ok) {id:Int} {e:En Fa} (hf:find q.E id=some e) (b:Nat) {limit:Int} (h0:0<=limit) (hfit:limit<=e.q.limit-(e.q.charged+e.q.given)) (hn:q.next+1<1048576):(Q3y q id e b limit).Ok:=by
 have hno:=QT.next_none ok;have hn0:=ok.next0;have hne:q.next≠id:=fun e'=>by rw [e',hf] at hno;cases hno
 have hids:(upd q.E id {e.q with given:=e.q.given+limit,kids:=e.q.kids+1}).Pairwise (fun a b=>a.id≠b.id):=Q2C _ _ (fun a b a' b' _ h1 _ h2 h=>by rw [<- h1,<- h2];exact h) ok.ids;refine⟨?_,by show 0<q.next+1;omega,hn,fun j x hx=>?_⟩
 ·show (upd q.E id _++[_]).Pairwise _;rw [J1g];refine⟨hids,by simp,fun x hx y hy=>?_⟩;rw [J2z] at hy;subst hy;obtain⟨y,hy,_,h2,_⟩:=Z8i hx;rw [<- h2];exact Q7F hno y hy
 ·have hx':find (upd q.E id {e.q with given:=e.q.given+limit,kids:=e.q.kids+1}++[⟨q.next,b,⟨limit,0,0,id,0⟩⟩]) j=some x:=hx;show _/\_/\_/\_/\_/\_<q.next+1/\_/\j<q.next+1;obtain⟨f1,f2,f3,f4,f5,f6,f7,f8⟩:=ok.fa id e hf;rw [Q1G] at hx';by_cases hj:j=id
  ·subst hj;rw [Q0m hf] at hx';cases hx';show 0<=e.q.charged/\0<=e.q.given+limit/\e.q.charged+(e.q.given+limit)<=e.q.limit/\e.q.limit<=_/\0<=e.q.kids+1/\e.q.kids+1<q.next+1/\0<=j/\j<q.next+1;omega
  ·rw [Q0L hj] at hx';cases hc:find q.E j with
   | some y =>
    rw [hc] at hx';cases hx';obtain⟨g1,g2,g3,g4,g5,g6,g7,g8⟩:=ok.fa j x hc;omega
   | none =>
    rw [hc] at hx';simp only at hx';split at hx'
    ·rename_i h';cases hx';have h'':j=q.next:=h';show 0<=(0:Int)/\0<=(0:Int)/\(0:Int)+0<=limit/\limit<=1073741824/\0<=(0:Int)/\(0:Int)<q.next+1/\0<=j/\j<q.next+1;omega
    ·cases hx'
end Go.Proofs.YtlakjlmaboioiaaGreatDoor

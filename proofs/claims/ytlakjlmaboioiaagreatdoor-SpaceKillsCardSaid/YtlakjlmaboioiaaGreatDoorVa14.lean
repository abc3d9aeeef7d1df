/- What the laws of spaces share is proved. No condition. Part of a proof. -/
import Derived.Sort.WalkB12
import Derived.Lib.SlicesMore
import Derived.Laws.OwnMore
import Derived.Shelf.RegionOpenPlain
import Derived.Test.YtlakjlmaboioiaaGreatDoorVa13
set_option maxHeartbeats 8000000
set_option maxRecDepth 1000000
set_option linter.unusedVariables false
namespace Go.Proofs.YtlakjlmaboioiaaGreatDoor
open Go.RowKit Go.Proofs.Tryz
def encH (x:Nat):Value:=.int .u32 x
theorem OutH.shape {w wr:World} {v:Value} {L:List Nat} (h:OutH w wr v L):∃(a:Option Addr) (cap:Nat),v=.slice a L.length cap:=by
 rcases h.1.2 with ⟨rfl,h0⟩|⟨g,cap,Ag,rfl,_⟩
 ·exact⟨none,0,by rw [h0]⟩
 ·exact⟨_,cap,rfl⟩
theorem OutH.shape1 {w wr:World} {v:Value} {L:List Nat} (h:OutH w wr v L) (hl:L≠[]):∃(g cap:Nat),v=.slice (some ⟨g,0,none⟩) L.length cap:=by
 rcases h.1.2 with ⟨rfl,h0⟩|⟨g,cap,Ag,rfl,_⟩
 ·exact absurd (J4x h0) hl
 ·exact⟨g,cap,rfl⟩
theorem OutH.parts {w wr:World} {g n cap:Nat} {L:List Nat} (h:OutH w wr (.slice (some ⟨g,0,none⟩) n cap) L):∃Ag,n=L.length/\w.heap.size<=g/\wr.heap[g]?=some (.cells Ag 27 (0,0))/\L.length<=cap/\cap<=maxLen/\Ag.size=cap/\Ag.toList.take L.length=Q1g L:=by
 rcases h.1.2 with ⟨h',_⟩|⟨g',BH,Ag,h',a1,a2,a3,a4,a5,a6⟩
 ·simp at h'
 ·simp only [Value.slice.injEq,J2v,Addr.mk.injEq,and_true] at h';obtain⟨rfl,rfl,rfl⟩:=h';exact⟨Ag,rfl,a1,a2,a3,a4,by simpa using a5,by simpa using a6⟩
theorem OutH.cellAt {w wr:World} {g n cap:Nat} {L:List Nat} (h:OutH w wr (.slice (some ⟨g,0,none⟩) n cap) L) {j x:Nat} (hj:L[j]?=some x):wr.cell? ⟨g,j,none⟩=some (.int .u32 x)/\w.heap.size<=g/\g<wr.heap.size:=by
 obtain⟨Ag,_,a1,a2,_,_,_,a6⟩:=h.parts;refine⟨?_,a1,lt_of_block a2⟩;have hv:=Q8n hj;rw [<- a6,J4k] at hv;split at hv
 ·simp only [World.cell?,a2,J5k,J5Z,if_false];rw [<- J4H];exact hv
 ·cases hv
theorem OutH.cut {w wr:World} {g n cap x:Nat} {L:List Nat} (h:OutH w wr (.slice (some ⟨g,0,none⟩) n cap) (L++[x])):OutH w wr (.slice (some ⟨g,0,none⟩) L.length cap) L:=by
 obtain⟨Ag,_,a1,a2,a3,a4,a5,a6⟩:=h.parts;have hl:L.length+1<=cap:=by simpa using a3
 refine⟨⟨by simp [Q3h],.inr ⟨g,cap,Ag,rfl,a1,a2,by omega,a4,by simpa using a5,?_⟩⟩,h.2⟩;have:=congrArg (List.take L.length) a6;rw [J4C,J2R,hands_app,show min L.length (L.length+[x].length)=L.length by simp] at this;rw [J3n,this];have e:=Q3h L;rw [<- e,J4F]
def Two (w wr:World) (v:Value) (L:List Nat) (u:Value) (M:List Nat):Prop:=OutH w wr v L/\OutH w wr u M/\∀b,v.ownBlock=some b->u.ownBlock≠some b
theorem Two.swap {w wr:World} {v u:Value} {L M:List Nat} (h:Two w wr v L u M):Two w wr u M v L:=⟨h.2.1,h.1,fun b h1 h2=>h.2.2 b h2 h1⟩
theorem Two.below {w wr w1:World} {v u:Value} {L M:List Nat} (h:Two w wr v L u M) (hb:Below wr.heap.size wr w1):Two w w1 v L u M:=⟨h.1.below hb,h.2.1.below hb,h.2.2⟩
theorem Two.alloc {w wr:World} {v u:Value} {L M:List Nat} (h:Two w wr v L u M) (o:Obj):Two w (wr.alloc o) v L u M:=⟨h.1.alloc o,h.2.1.alloc o,h.2.2⟩
theorem Two.cut {w wr:World} {g n cap x:Nat} {u:Value} {L M:List Nat} (h:Two w wr (.slice (some ⟨g,0,none⟩) n cap) (L++[x]) u M):Two w wr (.slice (some ⟨g,0,none⟩) L.length cap) L u M:=⟨h.1.cut,h.2.1,h.2.2⟩
theorem Two.app {w wr w1:World} {v v' u:Value} {L M X:List Nat} (h:Two w wr v L u M) (Ak:w1.ownsRow w.heap.size 27 1 v' (L.length+X.length) (Q1g L++Q1g X)) (hg:wr.grownBy w1 v.ownBlock) (AC:v'.ownBlock=v.ownBlock∨v'.ownBlock=some wr.heap.size):Two w w1 v' (L++X) u M:=by
 obtain⟨h1,h2,h3⟩:=h;have hb:Below w.heap.size w w1:=h1.2.trans ((Below.refl _ wr).mono h1.2.size |>.grown hg h1.2.size (fun b hb=>(h1.1.lt b hb).1));refine⟨h1.app0 Ak hg,⟨h2.1.kept hg ?_,hb⟩,fun b e1 e2=>?_⟩
 ·cases hv:v.ownBlock with
  | none=>cases hu:u.ownBlock with
   | none=>exact .inl rfl
   | some c=>exact .inr (by simp)
  | some b=>exact .inr (fun e=>h3 b hv e)
 ·rcases AC with e|e
  ·exact h3 b (e ▸ e1) e2
  ·rw [e] at e1;cases e1;exact absurd (h2.1.lt _ e2).2 (by omega)
theorem Z6e {w:World} {B B':Nat} {v:Value} {L M:List Nat} {a:Option Addr} {cap:Nat} {ty:TypeId} (h:w.ownsRow B 27 1 v L.length (Q1g L)) (hM:IsHs B' M a w) (hn:L.length+M.length<=65536) (hB:B<=w.heap.size) :
  ∃v' w',(Builtin.append_ #[66,66] ty #[v,.slice a M.length (match a with|none=>0|some _=>cap)]).run prog w=.ok v' w'/\w'.ownsRow B 27 1 v' (L.length+M.length) (Q1g L++Q1g M)/\w.grownBy w' v.ownBlock/\(v'.ownBlock=v.ownBlock∨v'.ownBlock=some w.heap.size):=by
 obtain⟨i0,DE,BN,Bt,Bp⟩:=info_parts Q3F;cases a with
 | none =>
  have QK:M=[]:=by
   cases M with
   | nil=>rfl
   | cons x r=>obtain⟨g,h1,_⟩:=hM.at' 0 x rfl;cases h1
  subst QK;exact⟨v,w,run_append_owned_none w B 66 ty 27 i0 1 underlying66 DE v _ _ h,by simpa [Q1g] using h,⟨rfl,rfl,rfl,J2h _,fun _ _ _=>rfl⟩,.inl rfl⟩
 | some ad =>
  obtain⟨v',w',e1,e2,e3,_,e5⟩:=run_append_own_at (P:=prog) w B 66 ty 27 i0 (.int .u32 0) 1 4 underlying66 DE BN Bt Bp rfl (by decide) v _ _ h ad M.length cap (Q1g M) (by simp [Q3h]) (fun j u hj=>by
   have Bw:j<M.length:=by have:=(J2y.1 hj).1;simpa [Q3h] using this
   obtain⟨g,g1,_,_,g4⟩:=hM.at' j M[j] (J4y Bw);cases g1;rw [Q8n (J4y Bw)] at hj;cases hj;have e:(⟨g,0,none⟩:Addr).add j=⟨g,j,none⟩:=by unfold Addr.add;split <;> simp_all
   rw [e];exact g4) (fun u hu=>by
    obtain⟨x,_,rfl⟩:=J2n.1 hu;rfl) (by unfold maxLen;omega) (by omega) hB
  exact⟨v',w',e1,e2,e3,e5⟩
theorem Z0J {w wr:World} {g n cap:Nat} {L:List Nat} (h:OutH w wr (.slice (some ⟨g,0,none⟩) n cap) L):Go.Sort.Holds encH wr g 0 L.toArray:=by
 obtain⟨Ag,_,a1,a2,_,_,_,a6⟩:=h.parts;intro j hj;have Bw:j<L.length:=by simpa using hj
 have hx:=J4y Bw;refine⟨?_,by simp [World.frozen?,a2]⟩;have:=(h.cellAt hx).1;rw [J4L,this,getElem!_pos _ j hj];simp [encH]
theorem Q7a (Ag:Array Value) (F:Array Nat) (h:F.size<=Ag.size):(Go.Sort.putCells encH 0 F Ag).toList.take F.size=F.toList.map encH:=by
 apply J3P
 intro j;by_cases hj:j<F.size
 ·rw [J6z hj,J4H];simp [Go.Sort.putCells,hj,show j<Ag.size by omega]
 ·rw [J6A (by omega),J3W (by simp;omega)]
theorem Z6f {w:World} {g n:Nat} {Ag:Array Value} {e:TypeId} (d:Array Nat) (hb:w.heap[g]?=some (.cells Ag e (0,0))) :
  (Go.Sort.putRow encH (Go.Sort.ahead w n) g 0 d).heap[g]?=some (.cells (Go.Sort.putCells encH 0 d Ag) e (0,0)):=by
 have hg:g<w.heap.size:=(J6B.1 hb).1;simp [Go.Sort.putRow,Go.Sort.mapBlock,Go.Sort.ahead,Array.getElem?_modify,hb,Go.Sort.onCells]
theorem Z3e {w:World} {g n:Nat} (d:Array Nat):w.grownBy (Go.Sort.putRow encH (Go.Sort.ahead w n) g 0 d) (some g):=by
 refine⟨rfl,rfl,rfl,by simp [Go.Sort.putRow,Go.Sort.mapBlock,Go.Sort.ahead],fun k hk Aa=>?_⟩;have:g≠k:=fun e=>Aa (by rw [e])
 simp [Go.Sort.putRow,Go.Sort.mapBlock,Go.Sort.ahead,Array.getElem?_modify,this]
theorem OutH.reversed {w wr:World} {g n cap k:Nat} {L:List Nat} (h:OutH w wr (.slice (some ⟨g,0,none⟩) n cap) L):OutH w (Go.Sort.putRow encH (Go.Sort.ahead wr k) g 0 L.toArray.reverse) (.slice (some ⟨g,0,none⟩) n cap) L.reverse:=by
 obtain⟨Ag,rfl,a1,a2,a3,a4,a5,a6⟩:=h.parts;have Dk:=Z3e (w:=wr) (g:=g) (n:=k) L.toArray.reverse;have B7:L.toArray.reverse.size=L.length:=by simp
 refine⟨⟨by simp [Q3h],.inr ⟨g,cap,_,by rw [J6C],a1,Z6f _ a2,by simpa using a3,a4,by simp [Go.Sort.putCells,a5],?_⟩⟩,h.2.trans ((Below.refl _ wr).mono h.2.size |>.grown Dk h.2.size (fun b hb=>by cases hb;exact a1))⟩;have e:L.reverse.length*1=L.toArray.reverse.size:=by simp
 rw [e,Q7a _ _ (by rw [B7,a5];exact a3)];simp [Q1g,encH]
theorem NewHs.shape0 {w:World} {L:List Nat} {r:Ending} {w':World} (h:NewHs w L r w'):∃(a:Option Addr) (cap:Nat),r=.returned (.slice a L.length cap)/\Below w.heap.size w w'/\IsHs w.heap.size L a w'/\(a=none->cap=0):=by
 obtain⟨v,rfl,⟨h1,h2⟩,hb⟩:=h;have h:=NewHs.shape (w:=w) (L:=L) (w':=w') (r:=.returned v) ⟨v,rfl,⟨h1,h2⟩,hb⟩;obtain⟨a,cap,e,Al,hi⟩:=h;refine⟨a,cap,e,Al,hi,fun ha=>?_⟩;subst ha;rcases h2 with ⟨rfl,h0⟩|⟨g,BH,Ag,rfl,_⟩
 ·simp only [Ending.returned.injEq,Value.slice.injEq] at e;omega
 ·simp at e
theorem J0G {w:World} {B B':Nat} {v:Value} {L M:List Nat} {a:Option Addr} {cap:Nat} {ty:TypeId} (h:w.ownsRow B 27 1 v L.length (Q1g L)) (hM:IsHs B' M a w) (ha:a=none->cap=0) (hn:L.length+M.length<=65536) (hB:B<=w.heap.size) :
  ∃v' w',(Builtin.append_ #[66,66] ty #[v,.slice a M.length cap]).run prog w=.ok v' w'/\w'.ownsRow B 27 1 v' (L.length+M.length) (Q1g L++Q1g M)/\w.grownBy w' v.ownBlock/\(v'.ownBlock=v.ownBlock∨v'.ownBlock=some w.heap.size):=by
 have:=Z6e (ty:=ty) (cap:=cap) h hM hn hB;cases a with
 | none=>rw [ha rfl];exact this
 | some ad=>exact this
open Go.Sort (Holds putRow holds_putRow holds_ahead putRow_self reverseLoop swp size_swp)
theorem Z0K (blk cap:Nat) (d:Array Nat) (w:World) (hH:Holds encH w blk 0 d) (B7:d.size<=65536) :
  Calls prog 96 #[.slice (some ⟨blk,0,none⟩) d.size cap] w fun e w'=>e=.returned (.tuple #[])/\∃n,w'=putRow encH (Go.Sort.ahead w n) blk 0 d.reverse:=by
 go_enter func96,ntmps96;go_wp2_with fail
 go_loopg [2,3] d.size (fun k s2 s3 wr=>∃(i jn:Nat) (jz:Int) (dk:Array Nat) (n:Nat),s2=.int .i64 i/\s3=.int .i64 jz/\((i:Int)<jz->jz=jn/\jn<d.size)/\(¬(i:Int)<jz->¬i<jn)/\jn-i<=k /\
  dk.size=d.size/\wr=putRow encH (Go.Sort.ahead w n) blk 0 dk/\reverseLoop i jn dk=reverseLoop 0 (d.size-1) d)
 case atStart=>exact⟨0,d.size-1,(d.size:Int)-1,d,0,rfl,rfl,fun h=>⟨by omega,by omega⟩,fun h=>by omega,by omega,rfl,(putRow_self encH w blk 0 d hH).symm,rfl⟩
 case round =>
  obtain⟨i,jn,jz,dk,n,rfl,rfl,h1,h2,hk,Gv,IO,GC⟩:=hrel;by_cases Ab:(i:Int)<jz
  ·obtain⟨rfl,NX⟩:=h1 Ab;have G1:i<jn:=by omega
   have Kd:Holds encH wr blk 0 dk:=by rw [IO];exact holds_putRow encH _ blk 0 d dk (holds_ahead encH w n blk 0 d hH) Gv
   obtain⟨ci,fi⟩:=Kd i (by omega);obtain⟨cj,fj⟩:=Kd jn (by omega);have A:Go.Aside (wr=putRow encH (Go.Sort.ahead w n) blk 0 dk):=IO;have SW:Hid (((wr.setCell ⟨blk,i,none⟩ (.int .u32 (dk[jn]!:Int))).setCell ⟨blk,jn,none⟩ (.int .u32 (dk[i]!:Int))).drew=putRow encH (Go.Sort.ahead w (n+1)) blk 0 (swp dk i jn)):=by
    have:=swap_world encH (off:=0) (i:=i) (j:=jn) (by omega) (by omega) IO rfl rfl;rw [J4L,J4L] at this;exact this
   clear IO Kd hH h1 h2;go_wp2_with fail;rw [J4L] at ci fi cj fj;unfold encH at ci cj;go_region
   all_goals
    go_wp2_with fail;go_roundg (jn-1-(i+1))
    case measure=>omega
    case rel =>
     rw [reverseLoop,if_pos G1] at GC;exact⟨i+1,jn-1,(jn:Int)-1,swp dk i jn,n+1,by go_num,by go_num,fun h=>⟨by omega,by omega⟩,fun h=>by omega,J2h _,by rw [size_swp];exact Gv,
      (by have Kt:=SW.out;first|exact Kt|(simp only [getElem!_pos dk jn (by omega)] at Kt;exact Kt)),GC⟩
  ·have DO:=h2 Ab;go_wp2_with fail
   first|go_end0|skip
   refine⟨rfl,n,?_⟩;rw [reverseLoop,if_neg DO] at GC;rw [<- Go.Lib.reverseLoop_reverse,<- GC]
end Go.Proofs.YtlakjlmaboioiaaGreatDoor
namespace Go.Proofs.YtlakjlmaboioiaaGreatDoor
open Go.RowKit Go.Proofs.Tryz
theorem Z8D (l:List Pl) (hl:l.length<=256) (x:Nat):(kids l x).length<=256:=by
 unfold kids;split
 ·split
  ·unfold Z7r;refine J2i (J4w _ _) ?_;have:=Q1Y l 1 l.length;unfold allL;omega
  ·simp
 ·simp
structure UndI (l:List Pl) (N x:Nat) (ws os:List Nat):Prop where
 eq:os++rest l N ws=pre l N x
theorem UndI.start (l:List Pl) (N x:Nat):UndI l N x [x] []:=⟨by simp [rest]⟩
theorem UndI.step {l:List Pl} {N x y:Nat} {ws os:List Nat} (t:Tre l N) (u:UndI l N x (ws++[y]) os):UndI l N x (ws++kids l y) (os++[y])/\(rest l N (ws++kids l y)).length<(rest l N (ws++[y])).length:=by
 have h:=u.eq;rw [Q8I t] at h ⊢;exact⟨⟨by rw [J3h];exact h⟩,by simp⟩
theorem UndI.len {l:List Pl} {N x:Nat} {ws os:List Nat} (t:Tre l N) (u:UndI l N x ws os):ws.length<=256/\os.length<=256:=by
 have h1:=congrArg List.length u.eq;have h2:=Z4l t x;have h3:=Z7u l N ws;rw [J2R] at h1;omega
theorem UndI.name {l:List Pl} {N x y:Nat} {ws os:List Nat} (t:Tre l N) (ok:LOk l) (hx:x<4294967296) (u:UndI l N x (ws++[y]) os):y<4294967296:=by
 have hy:y∈pre l N x:=by
  rw [<- u.eq,Q8I t];simp
 rcases Q5G t hy with rfl|⟨_,q,hq⟩
 ·exact hx
 ·obtain⟨a1,a2,_⟩:=pget_some.1 hq;have:=(ok.2 q (J4v a1)).2;unfold nm at a2;omega
theorem UndI.done {l:List Pl} {N x:Nat} {os:List Nat} (t:Tre l N) (u:UndI l N x [] os):os.reverse=Q0w l N x++[x]:=by
 have h:=u.eq;rw [show rest l N []=[] from rfl,J4n,Q4F t] at h;rw [h];simp
theorem OutH.single (w:World) (x:Nat):OutH w (w.alloc (.cells #[.int .u32 x] 27)) (.slice (some ⟨w.heap.size,0,none⟩) 1 1) [x]:=
 ⟨⟨rfl,.inr ⟨w.heap.size,1,#[.int .u32 x],rfl,J2h _,Cells.new w 27 [.int .u32 x],J2h 1,(by decide:1<=maxLen),rfl,rfl⟩⟩,(Below.refl _ _).alloc (J2h _) _⟩
theorem Two.start (w:World) (x:Nat):Two w (w.alloc (.cells #[.int .u32 x] 27)) (.slice (some ⟨w.heap.size,0,none⟩) 1 1) [x] (.slice none 0 0) []:=
 ⟨OutH.single w x,(OutH.nil w).alloc _,fun b _ h=>by simp [Value.ownBlock] at h⟩
theorem Two.drew {w wr:World} {v u:Value} {L M:List Nat} (h:Two w wr v L u M):Two w wr.drew v L u M:=h.below (Below.refl _ _).drew
theorem Z1S (w:World) (y:Nat):IsHs w.heap.size [y] (some ⟨w.heap.size,0,none⟩) (w.alloc (.cells #[.int .u32 y] 27)):=⟨fun j x hj=>by
 match j,hj with
 | 0,hj =>
  cases hj
  exact⟨_,rfl,J2h _,by simp,(Cells.new w 27 [.int .u32 y]).cell 0 _ rfl⟩
 | k+1,hj=>cases hj⟩
theorem Q7y {w:World} {S:CO} {fr:List Nat} {N K:Nat} (h:Sep w S.hl) (ok:S.Ok fr N K) {x:Nat} (hx:x<4294967296) :
  Calls prog 33 #[.pointer (some ⟨S.c,0,none⟩),.int .u32 x] w (NewHs w (Q0w S.l S.P.q.next.toNat x)):=by
 have tre:=ok.inv.tree;have lok:=ok.inv.lok;have HM:Hid (∀(w1:World) (y:Nat),Below w.heap.size w w1->y<4294967296->Calls prog 95 #[.pointer (some ⟨S.c,0,none⟩),.int .u32 y] w1 (NewHs w1 (kids S.l y))):=fun w1 y hb hy=>Q9m (h.grown hb).sep ok hy
 generalize S.P.q.next.toNat=M at *
 have Jq:=Q0a tre;have DK:=Q0a lok;have HX:=Q0a hx;have HS:=Q0a (Two.start w x);clear h ok tre lok hx;go_enter func33,ntmps33;go_wp2_with fail
 go_loopg [5,6] (pre S.l M x).length (fun gk ov wv wr=>∃ws os,Two w wr wv ws ov os/\UndI S.l M x ws os/\(rest S.l M ws).length<=gk)
 case atStart=>exact⟨[x],[],HS.out,UndI.start _ _ _,by have:=(UndI.start S.l M x).eq;rw [J4r] at this;rw [this];exact J2h _⟩
 case round =>
  obtain⟨ws,os,C4,hu,EX⟩:=hrel;obtain⟨l1,l2⟩:=hu.len Jq.out;have A6:ws=[]∨∃(ws':List Nat) (y:Nat),ws=ws'++[y]:=by
   rcases J6D ws with h|⟨a,b,h⟩
   ·exact .inl h
   ·exact .inr ⟨a,b,by rw [h,J6E]⟩
  rcases A6 with rfl|⟨ws',y,rfl⟩
  ·have BF:=hu.done Jq.out;have Aa:os≠[]:=fun e=>by rw [e] at BF;simp at BF
   obtain⟨aw,cw,rfl⟩:=C4.1.shape;obtain⟨g,co,rfl⟩:=C4.2.1.shape1 Aa;obtain⟨_,_,_,_,LO,_⟩:=C4.2.1.parts;have DL:=Z0K g co os.toArray wr (Z0J C4.2.1) (by simp;omega);have Bj:∀n,NewHs w (Q0w S.l M x) (.returned (.slice (some ⟨g,0,none⟩) (Q0w S.l M x).length co)) (Go.Sort.putRow encH (Go.Sort.ahead wr n) g 0 os.toArray.reverse):=fun n=>by
    have h1:=C4.2.1.reversed (k:=n);rw [BF] at h1;have h2:=h1.cut;exact⟨_,rfl,h2.1,h2.2⟩
   have Ac:os.length=(Q0w S.l M x).length+1:=by
    have:=congrArg List.length BF
    simpa using this
   have HF:=Q0a Bj;rw [show os.toArray.size=os.length from rfl] at DL;rw [Ac] at DL ⊢;have hm:(Q0w S.l M x).length<=256:=by omega
   have Ia:(((Q0w S.l M x).length:Nat):Int)<=(co:Int):=by omega
   have AM:(Q0w S.l M x).length<=co:=by omega
   have hw:IntKind.i64.wrap ((Q0w S.l M x).length:Int)=((Q0w S.l M x).length:Int):=Go.IntWalk.i64_in _ (by omega);clear Bj C4 hu EX BF Aa l1 l2 Ac;generalize (Q0w S.l M x).length=m at *
   generalize NewHs w (Q0w S.l M x)=Q at *
   go_wp2_with fail;refine DL.mono ?_;rintro r w1 ⟨rfl,n,rfl⟩;have HQ:=Q0a (HF.out n);clear DL HF;generalize Go.Sort.putRow encH (Go.Sort.ahead wr n) g 0 os.toArray.reverse=w1 at *
   go_wp2_with fail
   first|exact HQ.out|(go_ret;exact HQ.out)
  ·obtain⟨g,cw,rfl⟩:=C4.1.shape1 (by simp);obtain⟨_,_,_,_,Tr,_⟩:=C4.1.parts;have AM:ws'.length<=cw:=by
    have:ws'.length+1<=cw:=by simpa using Tr
    omega
   have Ia:((ws'.length:Nat):Int)<=(cw:Int):=by omega
   clear Tr;obtain⟨Ah,_,_⟩:=C4.1.cellAt (j:=ws'.length) (x:=y) (by simp);have hy:=hu.name Jq.out DK.out HX.out;obtain⟨BL,Ab⟩:=hu.step Jq.out;have hb:=C4.1.2;have MV:=HM.out wr.drew y hb.drew hy;have Fz:=Z8D S.l (by rw [DK.out.1];exact J2h _) y;have hl:ws'.length+1<=256:=by simpa using l1
   have Ih:Hid (∀w1 am cm,Below wr.drew.heap.size wr.drew w1->IsHs wr.drew.heap.size (kids S.l y) am w1->(am=none->cm=0)->∃v1 w2,(Builtin.append_ #[66,66] 66 #[.slice (some ⟨g,0,none⟩) ws'.length cw,.slice am (kids S.l y).length cm]).run prog w1=.ok v1 w2/\Two w w2 v1 (ws'++kids S.l y) u5 os):=fun w1 am cm Av hi S5=>by
    have t1:Two w w1 (.slice (some ⟨g,0,none⟩) ws'.length cw) ws' u5 os:=C4.cut.drew.below Av;obtain⟨v1,w2,e1,e2,e3,e4⟩:=J0G (ty:=66) (a:=am) (cap:=cm) t1.1.1 hi S5 (by omega) t1.1.2.size;exact⟨v1,w2,e1,t1.app e2 e3 e4⟩
   have MA:Hid (∀w2 v1 L,Two w w2 v1 L u5 os->∃v2 w3,(Builtin.append_ #[66,66] 66 #[u5,.slice (some ⟨w2.heap.size,0,none⟩) 1 1]).run prog (w2.alloc (.cells #[.int .u32 y] 27))=.ok v2 w3/\Two w w3 v1 L v2 (os++[y])):=fun w2 v1 L t=>by
    have t1:=(t.alloc (.cells #[.int .u32 y] 27)).swap;obtain⟨v2,w3,e1,e2,e3,e4⟩:=Z6e (ty:=66) (a:=some ⟨w2.heap.size,0,none⟩) (cap:=1) t1.1.1 (Z1S w2 y) (by simp;omega) t1.1.2.size;exact⟨v2,w3,e1,(t1.app e2 e3 e4).swap⟩
   have AJ:=Q0a BL;have UY:=Q0a (J2j Ab EX);have hw:IntKind.i64.wrap (ws'.length:Int)=(ws'.length:Int):=Go.IntWalk.i64_in _ (by omega);rw [show (ws'++[y]).length=ws'.length+1 by simp] at *
   clear C4 hu EX l1 l2 BL Ab hb Fz hy;generalize OC:kids S.l y=kk at *
   generalize hn:ws'.length=n at *
   go_wp2_with fail
   go_region_law (first|(go_simp;go_at_call 95;refine MV.mono ?_;intro r w1 Cn;obtain⟨am,cm,rfl,GI,Ja,FQ⟩:=Cn.shape0;obtain⟨v1,w2,r1,r2⟩:=Ih.out w1 am cm GI Ja FQ;clear FQ;have HR:=Q0a r1;have Kb:=Q0a r2;clear r1 r2 GI Ja Cn)|(refine Q0F rfl (.tmp 23) (.tmp 26) 66 66 rfl _ _ (by simp [Act.eval]) (by simp [Act.eval]) HR.out ?_))
   all_goals
    obtain⟨v2,w3,r3,r4⟩:=MA.out _ _ _ Kb.out;have NN:=Q0a r4;clear r4;go_wp2_with (at_builtin;refine Lib.wpList_append_run _ rfl _ _ _ _ rfl _ _ rfl rfl _ _ r3 ?_);go_roundg (rest S.l M (ws'++kk)).length
    case measure=>exact UY.out
    case rel=>exact⟨_,_,NN.out,AJ.out,J2h _⟩
theorem Q4I {α:Type} (f:α->Int) {l:List α} (h:∀x∈l,0<=f x) {a:α} (ha:a∈l):f a<=(l.map f).sum:=by
 have nn:∀l:List α,(∀x∈l,0<=f x)->0<=(l.map f).sum:=by
  intro l
  induction l with
  | nil=>simp
  | cons x r ih =>
   intro h;rw [J2k,J5T];have:=h x (by simp);have:=ih fun y hy=>h y (by simp [hy])
   omega
 induction l with
 | nil=>cases ha
 | cons x r ih =>
  rw [J2k,J5T];have h1:=h x (by simp);have h2:∀y∈r,0<=f y:=fun y hy=>h y (by simp [hy])
  rcases J2m.1 ha with rfl|ha
  ·have:=nn r h2;omega
  ·have:=ih h2 ha;omega
theorem Z8E {q:QT} (ok:q.Ok) {l:List Pl} {xc:Int->Int} (t:TreI q.E l xc) {par id:Int} {e c:En Fa} (he:find q.E par=some e) (hc:find q.E id=some c) (hp:c.q.parent=par):c.q.limit<=e.q.given/\1<=e.q.kids:=by
 obtain⟨g1,g2⟩:=t.given par e he;have hm:c∈q.E:=(Q0b hc).1;have El:∀x∈q.E,0<=x.q.limit:=fun x hx=>by
  have:=ok.fa _ _ (Q4f ok.ids hx);omega
 have k1:givF par c<=(q.E.map (givF par)).sum:=Q4I _ (fun x hx=>by have:=El x hx;unfold givF;split <;> omega) hm;have k2:kidF par c<=(q.E.map (kidF par)).sum:=Q4I _ (fun x _=>by unfold kidF;split <;> omega) hm;unfold Q1R at g1;unfold Q1S at g2;unfold givF at k1;unfold kidF at k2;rw [if_pos hp] at k1 k2;unfold givF at g1;unfold kidF at g2;omega
theorem Inv.wordf {P:PL} {l:List Pl} {fr:List Nat} {xc:Int->Int} {zs:List Nat} (v:Inv P l fr xc zs) {p:Pl} (hp:p∈l) (hi:p.is=true) (hk:p.kind=1):Q0u P.a.mem p.at_=p.own/\p.at_%8=0/\p.at_+8<=P.a.mem.length/\p.own<1048576:=by
 have hu:=v.mem.used hp hi (by omega);rw [hk] at hu;have h1:=Q0m v.mem.pool hu;have:Q0c 1=64:=rfl;refine⟨v.mem.word p hp hi hk,Q2q v.mem.pool hu,by omega,?_⟩;obtain⟨e,he⟩:=v.tre.acc hp hi hk;have h2:=v.mem.pool.q.fa _ e he;have h3:=v.mem.pool.q.next1;omega
theorem Q4c {α:Type} (p:α->Bool):∀l:List α,l.drop (l.takeWhile p).length=l.dropWhile p
 | []=>rfl
 | x::r=>by
  rw [List.takeWhile_cons,List.dropWhile_cons];cases h:p x with
  | true=>simpa using Q4c p r
  | false=>simp
def Z6g (S1:CO) (N K h:Nat) (zs:List Nat) (wr w5:World):Prop:=∃S2 fr2,Mid S2 fr2 N K zs/\Ticked S1 S2 [h]/\Step S1.hl S2.hl wr w5
def TF (S:CO) (bx k a f:Nat) (w':World):Prop:=w'.cell? ⟨S.c,0,none⟩=some (.pointer (some ⟨S.P.p,0,none⟩))/\w'.cell? ⟨S.P.p,0,none⟩=some (.pointer (some ⟨S.P.q.t,0,none⟩))/\w'.cell? ⟨bx,0,none⟩=some (.int .i64 k)/\w'.cell? ⟨bx,1,none⟩=some (.int .i64 a)/\w'.cell? ⟨bx,2,none⟩=some (.int .i64 f)
theorem TF.of {w1 w2:World} {S:CO} {l':List Pl} {P':PL} (h1:Sep w1 (S.setL l').hl) {w0:World} (st:Step (S.setL l').hl ((S.setL l').setP P').hl w0 w2) (hp:P'.p=S.P.p) (hq:P'.q.t=S.P.q.t) (hl:w1.heap.size<w0.heap.size) {k a f:Nat}
  (e0:w0.cell? ⟨w1.heap.size,0,none⟩=some (.int .i64 k)) (e1:w0.cell? ⟨w1.heap.size,1,none⟩=some (.int .i64 a)) (e2:w0.cell? ⟨w1.heap.size,2,none⟩=some (.int .i64 f)):TF S w1.heap.size k a f w2:=by
 have c:=CO.c0 st.sep;have p0:=PL.c0 (CO.sP st.sep);have e:((S.setL l').setP P').P=P':=rfl;rw [e,hp] at c p0;rw [hq] at p0;exact⟨c,p0,st.box h1 hl e0,st.box h1 hl e1,st.box h1 hl e2⟩
theorem Z3f {wr:World} {S1:CO} {fr1:List Nat} {N K h:Nat} {zs:List Nat} (hs:Sep wr S1.hl) (m:Mid S1 fr1 N K (h::zs)) (hK:K<=1048575) :
  ∃p:Pl,pget S1.l 2 h=some p/\h<4294967296/\Calls prog 135 #[.pointer (some ⟨S1.t,0,none⟩),.int .u32 h] wr fun r w1=>r=.returned (.tuple #[.agg #[.int .i64 (p.kind:Int),.int .i64 (p.at_:Int),.int .i64 (p.fac:Int)],.int .i64 0])/\wr.heap.size<=w1.heap.size/\S1.c<w1.heap.size /\
   (p.kind≠1->Calls prog 71 #[.pointer (some ⟨S1.c,0,none⟩),.agg #[.int .i64 (p.kind:Int),.int .i64 (p.at_:Int),.int .i64 (p.fac:Int)]] (w1.alloc (.cells #[.int .i64 (p.kind:Int),.int .i64 (p.at_:Int),.int .i64 (p.fac:Int)] 69)) fun r w5=>r=.returned (.tuple #[])/\Z6g S1 N K h zs wr w5) /\
   (p.kind=1->TF S1 w1.heap.size p.kind p.at_ p.fac (w1.alloc (.cells #[.int .i64 (p.kind:Int),.int .i64 (p.at_:Int),.int .i64 (p.fac:Int)] 69)) /\
    Calls prog 137 #[.pointer (some ⟨S1.c,0,none⟩),.agg #[.int .i64 (p.kind:Int),.int .i64 (p.at_:Int),.int .i64 (p.fac:Int)]] (w1.alloc (.cells #[.int .i64 (p.kind:Int),.int .i64 (p.at_:Int),.int .i64 (p.fac:Int)] 69)).drew fun r w3=>r=.returned (.int .i64 (p.own:Int))/\TF S1 w1.heap.size p.kind p.at_ p.fac w3 /\
     Calls prog 136 #[.pointer (some ⟨S1.P.q.t,0,none⟩),.int .i64 (p.own:Int)] w3 fun r w4=>r=.returned (.int .i64 0)/\TF S1 w1.heap.size p.kind p.at_ p.fac w4 /\
      Calls prog 71 #[.pointer (some ⟨S1.c,0,none⟩),.agg #[.int .i64 (p.kind:Int),.int .i64 (p.at_:Int),.int .i64 (p.fac:Int)]] w4 fun r w5=>r=.returned (.tuple #[])/\Z6g S1 N K h zs wr w5):=by
 obtain⟨p,hp⟩:=(m.inv.que.has h).1 (by simp);obtain⟨hi,K8,Ap⟩:=pget_some.1 hp;have BQ:=Q0z hp;have Cr:p.is=true:=Pl.is_iff.2 (.inr Ap);have DQ:=(m.age p BQ).2 Ap;have Fy:=m.now;have Sa:=(m.inv.st p BQ).2;have Lu:h<4294967296:=by unfold nm at K8;omega
 have A4:=m.inv.lok;have BG:=m.inv.mem.pool;obtain⟨e,he⟩:=m.inv.tre.fac p BQ Cr;have IE:=m.inv.tre.pays BQ Cr (m.inv.que.xc _).1 he;refine⟨p,hp,Lu,?_⟩;refine Calls.mono (Z2O (h:=S1.ht) (CO.sT hs) A4 Lu hp (by omega)) ?_;rintro r w1 ⟨rfl,st⟩;have s1:Step S1.hl (S1.setL (S1.l.set (h%256) (noPl (p.age+1)))).hl wr w1:=CO.stepL hs _ st;have AR:S1.c<w1.heap.size:=(CO.cells s1.sep).lt;have hB:=Cells.new w1 69 [.int .i64 (p.kind:Int),.int .i64 (p.at_:Int),.int .i64 (p.fac:Int)];have sA:=s1.sep.grown (((Below.refl _ w1).alloc (J2h _) (.cells #[.int .i64 (p.kind:Int),.int .i64 (p.at_:Int),.int .i64 (p.fac:Int)] 69)))
 refine⟨rfl,s1.chg.size,AR,fun hk=>?_,fun hk=>?_⟩
 ·have BT:Held S1.P fr1 p.fac p.kind p.at_ e:=⟨he,IE,fun h8=>m.inv.mem.used BQ Cr h8,fun h8=>m.inv.mem.frame BQ Cr h8⟩
  refine Calls.mono (Q8r (S:=S1.setL (S1.l.set (h%256) (noPl (p.age+1)))) sA.sep BG BT) ?_;rintro r w5 ⟨rfl,P',fr',bk,st5⟩;have Fx:=m.inv.freeN hp hk bk (by omega);obtain⟨e',q1,_,q3⟩:=bk.q;obtain⟨m2,t2⟩:=m.freed hp bk.same bk.mem (by rw [q3];rfl) (bk.high BG (by have:=m.inv.kind hp (.inr rfl);omega)) bk.few Fx;exact⟨rfl,_,fr',m2,t2,(s1.trans sA).trans st5⟩
 ·obtain⟨h0,Ar,c,hc,c1,c2,c3,c4⟩:=m.inv.last hp hk;obtain⟨k1,k2,k3,k4⟩:=m.inv.wordf BQ Cr hk;obtain⟨k5,k6⟩:=Z8E BG.q m.inv.tre he hc c4;have Aa:(p.own:Int)≠p.fac:=by
   have:=(m.inv.tre.par p BQ Cr hk c hc).2 h0;omega
  have MT:=BG.q.fa _ c hc;have DD:w1.heap.size<(w1.alloc (.cells #[.int .i64 (p.kind:Int),.int .i64 (p.at_:Int),.int .i64 (p.fac:Int)] 69)).heap.size:=by simp
  have F0:TF S1 w1.heap.size p.kind p.at_ p.fac (w1.alloc (.cells #[.int .i64 (p.kind:Int),.int .i64 (p.at_:Int),.int .i64 (p.fac:Int)] 69)):=⟨CO.c0 (S:=S1.setL (S1.l.set (h%256) (noPl (p.age+1)))) sA.sep,PL.c0 (CO.sP (S:=S1.setL (S1.l.set (h%256) (noPl (p.age+1)))) sA.sep),hB.cell 0 _ rfl,hB.cell 1 _ rfl,hB.cell 2 _ rfl⟩
  refine⟨F0,?_⟩;refine Calls.mono (Q9i (k:=p.kind) (f:=p.fac) sA.sep.drew BG.bytes (Q0p BG) k2 k3 k1 k4) ?_;rintro r w3 ⟨rfl,hb⟩;have sW:=sA.drew.sep.grown hb;have s3:=sA.drew.trans sW;have WM:=sW.chg.size;have F3:TF S1 w1.heap.size p.kind p.at_ p.fac w3:=TF.of (P':=S1.P) s1.sep sW rfl rfl DD F0.2.2.1 F0.2.2.2.1 F0.2.2.2.2;refine⟨rfl,F3,?_⟩;have hq:=Z5T (PL.sQ (CO.sP s3.sep)) BG.q (id:=(p.own:Int)) hc (by omega) c1 c2 c3 (by rw [c4];exact he) k5 (by omega);refine Calls.mono hq ?_;rintro r w4 ⟨rfl,st4⟩;rw [c4] at st4;have s4:=CO.stepP s3.sep (S1.P.setQ (closed S1.P.q p.fac e c p.own)) rfl (PL.stepQ (CO.sP s3.sep) (closed S1.P.q p.fac e c p.own) rfl st4)
  have F4:TF S1 w1.heap.size p.kind p.at_ p.fac w4:=TF.of (P':=S1.P.setQ (closed S1.P.q p.fac e c p.own)) s1.sep s4 rfl rfl (by have:w1.heap.size<(w1.alloc (.cells #[.int .i64 (p.kind:Int),.int .i64 (p.at_:Int),.int .i64 (p.fac:Int)] 69)).drew.heap.size:=DD;omega) F3.2.2.1 F3.2.2.2.1 F3.2.2.2.2;refine⟨rfl,F4,?_⟩;have okq:=Z5H BG.q he hc Aa.symm (by omega) (by omega) (by omega);have ok1:=PL.ok_setQ BG okq;have pw1:(upd S1.P.q.E p.fac {e.q with given:=e.q.given-c.q.limit,kids:=e.q.kids-1}).Pairwise (fun a b=>a.id≠b.id):=Q0N _ _ (fun a b a' b' _ h1 _ h2 h=>by rw [<- h1,<- h2];exact h) BG.q.ids
  have FM:find (closed S1.P.q p.fac e c p.own).E p.fac=some {e with q:={e.q with given:=e.q.given-c.q.limit,kids:=e.q.kids-1}}:=by
   show find (rem (upd S1.P.q.E p.fac _) p.own) p.fac=_;rw [Q2m pw1,if_neg (fun h=>Aa h.symm),Q0i he]
  have BT:Held (S1.P.setQ (closed S1.P.q p.fac e c p.own)) fr1 p.fac p.kind p.at_ {e with q:={e.q with given:=e.q.given-c.q.limit,kids:=e.q.kids-1}}:=⟨FM,IE,fun h8=>m.inv.mem.used BQ Cr h8,fun h8=>m.inv.mem.frame BQ Cr h8⟩
  refine Calls.mono (Q8r (S:=(S1.setL (S1.l.set (h%256) (noPl (p.age+1)))).setP (S1.P.setQ (closed S1.P.q p.fac e c p.own))) s4.sep ok1 BT) ?_;rintro r w5 ⟨rfl,P',fr',bk,st5⟩;rw [hk] at bk;have Fx:=m.inv.freeF hp hk he hc (P1:=S1.P.setQ (closed S1.P.q p.fac e c p.own)) rfl bk (by omega);obtain⟨e',q1,_,q3⟩:=bk.q;obtain⟨m2,t2⟩:=m.freed hp (P':=P') (SameP.trans (P:=S1.P) (P1:=S1.P.setQ (closed S1.P.q p.fac e c p.own)) ⟨rfl,rfl,rfl,rfl,rfl,rfl,rfl⟩ bk.same) (bk.mem.trans rfl) (by rw [q3];rfl) (bk.high ok1 (by omega)) bk.few Fx;exact⟨rfl,_,fr',m2,t2,((s1.trans s3).trans s4).trans st5⟩
theorem Q5z {w w1:World} {B size n:Nat} {T:TypeId} {v:Value} {xs:List Value} (h:w.ownsRow B T size v n xs) (hk:∀b,v.ownBlock=some b->w1.heap[b]?=w.heap[b]?):w1.ownsRow B T size v n xs:=by
 refine⟨h.1,?_⟩;rcases h.2 with h|⟨g,cap,Ag,rfl,hB,hg,rest⟩
 ·exact .inl h
 ·exact .inr ⟨g,cap,Ag,rfl,hB,(hk g rfl).trans hg,rest⟩
theorem Step.own {H H':HL} {w w1 w2:World} (st:Step H H' w w1) {v:Value} (hg:w1.grownBy w2 v.ownBlock) (Ak:∀b,v.ownBlock=some b->w.heap.size<=b/\b∉keys H') (Cs:GB<=w.heap.size):Step H H' w w2:=by
 have hk:∀b∈keys H',w2.heap[b]?=w1.heap[b]?:=fun b hb=>hg.block b (st.sep.lt hb) (fun e=>(Ak b e.symm).2 hb)
 refine⟨st.sep.same hk ?_,?_,st.new⟩
 ·exact st.sep.env.same (fun b hb=>hg.block b (J2j hb st.sep.env.gb) (fun e=>by
   have h1:=(Ak b e.symm).1;omega)) (J2i st.sep.env.gb hg.size)
 ·refine⟨hg.os.trans st.chg.os,hg.tape.trans st.chg.tape,hg.output.trans st.chg.output,J2i st.chg.size hg.size,fun k hk hF=>?_⟩;exact (hg.block k (J2j hk st.chg.size) (fun e=>by have:=(Ak k e.symm).1;omega)).trans (st.chg.block k hk hF)
structure TI (w:World) (S1:CO) (gi:Nat) (ids:List Nat) (ov:Value) (D:List Nat) (wr:World):Prop where
 row:wr.ownsRow w.heap.size 27 1 ov D.length (Q1g D)
 off:∀b∈keys S1.hl,ov.ownBlock≠some b
 cell:∀(j y:Nat),ids[j]?=some y->gi<wr.heap.size/\gi∉keys S1.hl/\ov.ownBlock≠some gi/\wr.cell? ⟨gi,j,none⟩=some (.int .i64 y)
theorem TI.step {w wr w1:World} {S1 S2:CO} {gi:Nat} {ids D:List Nat} {ov:Value} (t:TI w S1 gi ids ov D wr) (st:Step S1.hl S2.hl wr w1):TI w S2 gi ids ov D w1:=by
 have Ak:∀b,ov.ownBlock=some b->b<wr.heap.size:=fun b hb=>(t.row.lt b hb).2
 refine⟨Q5z t.row (fun b hb=>st.chg.block b (Ak b hb) (fun hk=>t.off b hk hb)),fun b hb e=>?_,fun j y hj=>?_⟩
 ·rcases st.new b hb with h|h
  ·exact t.off b h e
  ·have:=Ak b e;omega
 ·obtain⟨a1,a2,a3,a4⟩:=t.cell j y hj;refine⟨J2j a1 st.chg.size,fun hk=>?_,a3,(World.cell?_of_block (w:=wr) (st.chg.block _ a1 a2)).trans a4⟩;rcases st.new _ hk with h|h
  ·exact a2 h
  ·omega
theorem TI.app {w wr w1:World} {S1:CO} {gi y:Nat} {ids D:List Nat} {ov v':Value} (t:TI w S1 gi ids ov D wr) (hs:Sep wr S1.hl) (Ak:w1.ownsRow w.heap.size 27 1 v' (D.length+1) (Q1g D++Q1g [y])) (hg:(wr.alloc (.cells #[.int .u32 y] 27)).grownBy w1 ov.ownBlock) (AC:v'.ownBlock=ov.ownBlock∨v'.ownBlock=some (wr.alloc (.cells #[.int .u32 y] 27)).heap.size):TI w S1 gi ids v' (D++[y]) w1:=by
 have B7:(wr.alloc (.cells #[.int .u32 y] 27)).heap.size=wr.heap.size+1:=by simp
 refine⟨by rw [J2R,hands_app];exact Ak,fun b hb e=>?_,fun j z hj=>?_⟩
 ·rcases AC with h|h
  ·exact t.off b hb (h ▸ e)
  ·rw [h] at e;cases e;have:=hs.lt hb;omega
 ·obtain⟨a1,a2,a3,a4⟩:=t.cell j z hj;have Ir:=hg.size;refine⟨by omega,a2,fun e=>?_,(World.cell?_of_block (w:=wr.alloc _) (hg.block gi (by omega) (fun e=>a3 e.symm))).trans (Q0K a4)⟩;rcases AC with h|h
  ·exact a3 (h ▸ e)
  ·rw [h] at e;have:=J3e e;omega
def TRel (S:CO) (N K:Nat) (rv:OV) (w:World) (gi k gk:Nat) (ov:Value) (wr:World):Prop:=
 ∃(S1:CO) (fr1:List Nat),k+gk=(dueN S).length/\Mid S1 fr1 N (K+1) ((dueN S).drop k)/\Ticked (S.setG (S.now+1) rv (dueT S)) S1 ((dueN S).take k)/\Step S.hl S1.hl w wr/\TI w S1 gi (dueN S) ov ((dueN S).take k) wr
theorem Z8F {S S1 S2:CO} {fr2:List Nat} {N K k y gk:Nat} {rv:OV} {w wr w5:World} {gi:Nat} {ov:Value} (Cs:GB<=w.heap.size) (hy:(dueN S)[k]?=some y) (A7:k+1+gk=(dueN S).length) (hl:(dueN S).length<=256) (AW:Ticked (S.setG (S.now+1) rv (dueT S)) S1 ((dueN S).take k)) (Ap:Step S.hl S1.hl w wr) (hti:TI w S1 gi (dueN S) ov ((dueN S).take k) wr)
  (hm:Mid S2 fr2 N (K+1) ((dueN S).drop (k+1))) (ht:Ticked S1 S2 [y]) (st:Step S1.hl S2.hl wr w5) :
  ∃v' w6,(Builtin.append_ #[66,66] 66 #[ov,.slice (some ⟨w5.heap.size,0,none⟩) 1 1]).run prog (w5.alloc (.cells #[.int .u32 y] 27))=.ok v' w6/\TRel S N K rv w gi (k+1) gk v' w6:=by
 have t5:=hti.step st;have O5:=Ap.trans st;have hk:k<(dueN S).length:=(J2y.1 hy).1;have Az:(w5.alloc (.cells #[.int .u32 y] 27)).ownsRow w.heap.size 27 1 ov ((dueN S).take k).length (Q1g ((dueN S).take k)):=t5.row.alloc _;have OF:w.heap.size<=(w5.alloc (.cells #[.int .u32 y] 27)).heap.size:=by
  have:=O5.chg.size;rw [World.size_alloc];omega
 obtain⟨v',w6,e1,e2,e3,e4⟩:=Z6e (ty:=66) (a:=some ⟨w5.heap.size,0,none⟩) (cap:=1) Az (Z1S w5 y) (by rw [J4A,J6i];omega) OF;have Dj:(dueN S).take (k+1)=(dueN S).take k++[y]:=by
  rw [J4d,hy];rfl
 refine⟨v',w6,e1,S2,fr2,A7,hm,?_,?_,?_⟩
 ·rw [Dj];exact AW.trans ht
 ·have Ho:=O5.trans (O5.sep.grown ((Below.refl _ w5).alloc (J2h _) (.cells #[.int .u32 y] 27)));refine Ho.own e3 (fun b hb=>⟨(Az.lt b hb).1,fun hk=>t5.off b hk hb⟩) Cs
 ·rw [Dj];exact t5.app O5.sep e2 e3 e4
theorem Z8G {S:CO} {fr:List Nat} {N K:Nat} (ok:S.Ok fr N K):(dueN S).length<=256:=by
 have:=ok.few;unfold dueN;rw [J3Q];exact J2i (List.takeWhile_sublist _).length_le this
theorem Z3g {S:CO} {fr:List Nat} {N K:Nat} {w w1:World} {r:Ending} (h:Sep w S.hl) (ok:S.Ok fr N K) (hg:Z1Q S.g S.period (S.now+1) S.rv S.ts w r w1) :
  ∃(rv:OV) (gi:Nat) (ad:Option Addr) (cap:Nat),r=.returned (.slice ad (dueN S).length cap)/\((dueN S).length≠0->ad=some ⟨gi,0,none⟩)/\ovOk rv (dueT S).length/\TRel S N K rv w gi 0 (dueN S).length (.slice none 0 0) w1:=by
 obtain⟨rv,ro,bx,b0,rfl,o1,o2,st⟩:=hg;have e0:S.now+1-1=S.now:=by omega
 rw [e0] at st;have eT:S.ts.drop (dueK (S.now+1) S.ts)=dueT S:=by
  exact Q4c _ S.ts
 have eN:(S.ts.take (dueK (S.now+1) S.ts)).map Prod.fst=dueN S:=by rw [Q9k];rfl
 have eL:dueK (S.now+1) S.ts=(dueN S).length:=by unfold dueK dueN;rw [J3Q]
 unfold Q2j at st;rw [eT] at st o1;rw [eN] at st;rw [eL] at st o2 ⊢;have stW:=Step.lift S.permG (J5A _) h st;have st1:=CO.stepG h (S.now+1) rv (dueT S) (st.drop (J2W _ _));have BO:∀b∈keys (S.setG (S.now+1) rv (dueT S)).hl,b∈keys (qhl S.g S.period (S.now+1) rv (dueT S)++(S.head::(S.P.hl++S.ht.hl))):=fun b hb=>((S.setG (S.now+1) rv (dueT S)).permG.map Prod.fst).mem_iff.1 hb
 obtain⟨gi,ad,cap,e1,e2,e3⟩:∃(gi:Nat) (ad:Option Addr) (cap:Nat),lvOf ro (dueN S).length=.slice ad (dueN S).length cap/\((dueN S).length≠0->ad=some ⟨gi,0,none⟩)/\((dueN S).length≠0->ro=some (gi,cap)):=by
  cases ro with
  | none =>
   have h0:(dueN S).length=0:=o2;exact⟨0,none,0,by rw [h0];rfl,fun h=>absurd h0 h,fun h=>absurd h0 h⟩
  | some q=>exact⟨q.1,some ⟨q.1,0,none⟩,q.2,rfl,fun _=>rfl,fun _=>rfl⟩
 refine⟨rv,gi,ad,cap,by rw [e1],e2,o1,_,fr,by omega,?_,?_,st1,⟨World.ownsRow_nil _ _ _ _,fun b _ h=>by simp [Value.ownBlock] at h,fun j y hj=>?_⟩⟩
 ·rw [J6a];exact ok.mid o1
 ·rw [J5G];exact Ticked.refl _
 ·have Bw:=(J2y.1 hj).1;have Jz:=e3 (by omega);subst Jz;have sR:Sep w1 (rowH (some (gi,cap)) 3 1 (ints (dueN S))):=st.sep.right.tail.tail;have VC:gi∈keys (rowH (some (gi,cap)) 3 1 (ints (dueN S))):=by simp [rowH]
  refine⟨sR.lt VC,fun hk=>?_,by simp [Value.ownBlock],Q0Y sR j _ (by unfold ints;rw [J3S,hj];rfl)⟩;have A2:=BO gi hk;have AD:=stW.sep.nd;simp only [keys_append,keys_cons,J3h,J4s,rowH,keys_nil] at AD A2;have Cb:=List.nodup_iff_count.1 AD gi;simp only [J5H,J5I,List.count_nil,beq_self_eq_true,if_true] at Cb;have Cp:0<(keys (qhl S.g S.period (S.now+1) rv (dueT S))++S.head.fst::(keys S.P.hl++keys S.ht.hl)).count gi:=List.count_pos_iff.2 (by simpa using A2);simp only [J5H,J5I] at Cp;omega
theorem Z6h {w:World} {S:CO} {fr:List Nat} {N K:Nat} (h:Sep w S.hl) (ok:S.Ok fr N K) (hK:K<1048575) :
  Calls prog 56 #[.pointer (some ⟨S.c,0,none⟩)] w (TickR S fr N K w):=by
 have Cs:=h.env.gb;have c2:=CO.c2 h;have Fy:=ok.now;have K3:=Z6b (CO.sG h) ok.ov ok.few (by omega) ok.ord;have Bq:Hid (∀r w1,Z1Q S.g S.period (S.now+1) S.rv S.ts w r w1->∃(rv:OV) (gi:Nat) (ad:Option Addr) (cap:Nat),r=.returned (.slice ad (dueN S).length cap)/\((dueN S).length≠0->ad=some ⟨gi,0,none⟩)/\ovOk rv (dueT S).length/\TRel S N K rv w gi 0 (dueN S).length (.slice none 0 0) w1):=fun r w1 hg=>Z3g h ok hg
 have hl:=Z8G ok;have Bm:Hid (∀rv gi k gk ov wr,ovOk rv (dueT S).length->¬k<(dueN S).length->TRel S N K rv w gi k gk ov wr->TickR S fr N K w (.returned ov) wr):=fun rv gi k gk ov wr Ec hk ⟨S1,fr1,A7,Fh,AW,Ap,hti⟩=>by
  have e:k=(dueN S).length:=by omega
  subst e;rw [List.drop_length] at Fh;rw [J6q] at AW hti;exact⟨rv,S1,fr1,ov,rfl,hti.row,Ec,AW,Fh.ok,Ap,hti.off⟩
 have CW:Hid (∀rv gi k gk ov wr,k<(dueN S).length->TRel S N K rv w gi k gk ov wr->∃(y:Nat) (p:Pl) (tt pp qt:Nat),y<4294967296/\wr.cell? ⟨gi,k,none⟩=some (.int .i64 y)/\wr.cell? ⟨S.c,1,none⟩=some (.pointer (some ⟨tt,0,none⟩)) /\
   Calls prog 135 #[.pointer (some ⟨tt,0,none⟩),.int .u32 y] wr fun r w1=>r=.returned (.tuple #[.agg #[.int .i64 (p.kind:Int),.int .i64 (p.at_:Int),.int .i64 (p.fac:Int)],.int .i64 0]) /\
    (p.kind≠1->Calls prog 71 #[.pointer (some ⟨S.c,0,none⟩),.agg #[.int .i64 (p.kind:Int),.int .i64 (p.at_:Int),.int .i64 (p.fac:Int)]] (w1.alloc (.cells #[.int .i64 (p.kind:Int),.int .i64 (p.at_:Int),.int .i64 (p.fac:Int)] 69)) fun r w5=>r=.returned (.tuple #[]) /\
     ∃v' w6,(Builtin.append_ #[66,66] 66 #[ov,.slice (some ⟨w5.heap.size,0,none⟩) 1 1]).run prog (w5.alloc (.cells #[.int .u32 y] 27))=.ok v' w6/\TRel S N K rv w gi (k+1) ((dueN S).length-(k+1)) v' w6) /\
    (p.kind=1->(w1.alloc (.cells #[.int .i64 (p.kind:Int),.int .i64 (p.at_:Int),.int .i64 (p.fac:Int)] 69)).cell? ⟨S.c,0,none⟩=some (.pointer (some ⟨pp,0,none⟩))/\(w1.alloc (.cells #[.int .i64 (p.kind:Int),.int .i64 (p.at_:Int),.int .i64 (p.fac:Int)] 69)).cell? ⟨pp,0,none⟩=some (.pointer (some ⟨qt,0,none⟩)) /\
     Calls prog 137 #[.pointer (some ⟨S.c,0,none⟩),.agg #[.int .i64 (p.kind:Int),.int .i64 (p.at_:Int),.int .i64 (p.fac:Int)]] (w1.alloc (.cells #[.int .i64 (p.kind:Int),.int .i64 (p.at_:Int),.int .i64 (p.fac:Int)] 69)).drew fun r w3=>r=.returned (.int .i64 (p.own:Int)) /\
      (w3.cell? ⟨S.c,0,none⟩=some (.pointer (some ⟨pp,0,none⟩))/\w3.cell? ⟨pp,0,none⟩=some (.pointer (some ⟨qt,0,none⟩))/\w3.cell? ⟨w1.heap.size,0,none⟩=some (.int .i64 (p.kind:Int))/\w3.cell? ⟨w1.heap.size,1,none⟩=some (.int .i64 (p.at_:Int))/\w3.cell? ⟨w1.heap.size,2,none⟩=some (.int .i64 (p.fac:Int))) /\
      Calls prog 136 #[.pointer (some ⟨qt,0,none⟩),.int .i64 (p.own:Int)] w3 fun r w4=>r=.returned (.int .i64 0) /\
       (w4.cell? ⟨S.c,0,none⟩=some (.pointer (some ⟨pp,0,none⟩))/\w4.cell? ⟨pp,0,none⟩=some (.pointer (some ⟨qt,0,none⟩))/\w4.cell? ⟨w1.heap.size,0,none⟩=some (.int .i64 (p.kind:Int))/\w4.cell? ⟨w1.heap.size,1,none⟩=some (.int .i64 (p.at_:Int))/\w4.cell? ⟨w1.heap.size,2,none⟩=some (.int .i64 (p.fac:Int))) /\
       Calls prog 71 #[.pointer (some ⟨S.c,0,none⟩),.agg #[.int .i64 (p.kind:Int),.int .i64 (p.at_:Int),.int .i64 (p.fac:Int)]] w4 fun r w5=>r=.returned (.tuple #[]) /\
        ∃v' w6,(Builtin.append_ #[66,66] 66 #[ov,.slice (some ⟨w5.heap.size,0,none⟩) 1 1]).run prog (w5.alloc (.cells #[.int .u32 y] 27))=.ok v' w6/\TRel S N K rv w gi (k+1) ((dueN S).length-(k+1)) v' w6)):=fun rv gi k gk ov wr hk ⟨S1,fr1,A7,Fh,AW,Ap,hti⟩=>by
  obtain⟨y,hy⟩:∃y,(dueN S)[k]?=some y:=⟨_,J4y hk⟩
  have N1:(dueN S).drop k=y::(dueN S).drop (k+1):=by
   rw [J5a hk];rw [J4y hk] at hy;cases hy;rfl
  rw [N1] at Fh;have ec:S1.c=S.c:=AW.c;obtain⟨p,hp,C5,Ax⟩:=Z3f Ap.sep Fh (by omega);have c1:=CO.c1 Ap.sep;obtain⟨_,_,_,Ah⟩:=hti.cell k y hy;have IL:∀w5,Z6g S1 N (K+1) y ((dueN S).drop (k+1)) wr w5->∃v' w6,(Builtin.append_ #[66,66] 66 #[ov,.slice (some ⟨w5.heap.size,0,none⟩) 1 1]).run prog (w5.alloc (.cells #[.int .u32 y] 27))=.ok v' w6/\TRel S N K rv w gi (k+1) ((dueN S).length-(k+1)) v' w6:=fun w5 ⟨S2,fr2,m2,t2,s2⟩=>Z8F Cs hy (by omega) hl AW Ap hti m2 t2 s2
  unfold TF at Ax;rw [ec] at c1 Ax;refine⟨y,p,S1.t,S1.P.p,S1.P.q.t,C5,Ah,c1,Ax.mono ?_⟩;rintro r w1 ⟨rfl,_,_,h1,h2⟩;refine⟨rfl,fun A0=>(h1 A0).mono ?_,fun A0=>?_⟩
  ·rintro r w5 ⟨rfl,hr⟩;exact⟨rfl,IL w5 hr⟩
  ·obtain⟨⟨f0,f1,_⟩,hw⟩:=h2 A0;refine⟨f0,f1,hw.mono ?_⟩;rintro r w3 ⟨rfl,f3,AR⟩;refine⟨rfl,f3,AR.mono ?_⟩;rintro r w4 ⟨rfl,f4,Gr⟩;refine⟨rfl,f4,Gr.mono ?_⟩;rintro r w5 ⟨rfl,hr⟩;exact⟨rfl,IL w5 hr⟩
 generalize TickR S fr N K w=Q at *
 generalize (dueN S).length=n at *
 clear h ok Fy Cs;go_enter func56,ntmps56;go_wp2_with fail;refine K3.mono ?_;intro r w1 hg;obtain⟨rv,gi,ad,cap,rfl,Ox,Ec,Et⟩:=Bq.out r w1 hg;have MI:=Q0a Et;have TZ:=Q0a Ox;have VL:=Q0a Ec;have HL:=Q0a hl;clear hg Et Ox Ec Bq K3 hl;go_wp2_with fail
 go_loopg [3,17] n (fun gk ov kv wr=>∃k:Nat,kv=.int .i64 k/\k+gk=n/\TRel S N K rv w gi k gk ov wr)
 case atStart=>exact⟨0,rfl,by omega,MI.out⟩
 case round =>
  obtain⟨k,rfl,A7,hrel⟩:=hrel;have Bi:=Q0a A7;clear A7;by_cases Ab:k<n
  ·obtain⟨y,p,tt,pp,qt,C5,Ah,c1,Ax⟩:=CW.out _ _ _ _ _ _ Ab hrel;have Qw:=TZ.out (by omega);subst Qw;have hw:IntKind.u32.wrap (y:Int)=(y:Int):=Go.IntWalk.u32_in _ (by omega);have HN:Hid (k<=256):=by have:=HL.out;show k<=256;omega
   clear hrel C5 CW Bm c2;by_cases A0:p.kind=1
   ·have LQ:((p.kind:Nat):Int)=1:=by omega
    have G5:=Q0a A0;go_wp2_with fail;refine Ax.mono ?_;rintro r w2 ⟨rfl,-,hx⟩;obtain⟨f0,f1,Mc⟩:=hx G5.out;have Ve:=Q0a Mc;clear hx Mc Ax Ah c1;rw [LQ] at *
    have b0:=(Cells.new w2 69 [.int .i64 1,.int .i64 (p.at_:Int),.int .i64 (p.fac:Int)]).cell 0 _ rfl;have b1:=(Cells.new w2 69 [.int .i64 1,.int .i64 (p.at_:Int),.int .i64 (p.fac:Int)]).cell 1 _ rfl;have b2:=(Cells.new w2 69 [.int .i64 1,.int .i64 (p.at_:Int),.int .i64 (p.fac:Int)]).cell 2 _ rfl;have DN:Hid (∀(v:World) b i x,v.cell? ⟨b,i,none⟩=some x->v.drew.cell? ⟨b,i,none⟩=some x):=fun v b i x hv=>hv
    have d0:=DN.out _ _ _ _ f0;have d1:=DN.out _ _ _ _ f1;have e0:=DN.out _ _ _ _ b0;have e1:=DN.out _ _ _ _ b1;have e2:=DN.out _ _ _ _ b2;clear A0 LQ DN;go_wp2_with fail
    go_region_held3 (fun w'=>w'.cell? ⟨S.c,0,none⟩=some (.pointer (some ⟨pp,0,none⟩))/\w'.cell? ⟨pp,0,none⟩=some (.pointer (some ⟨qt,0,none⟩))/\w'.cell? ⟨w2.heap.size,0,none⟩=some (.int .i64 1)/\w'.cell? ⟨w2.heap.size,1,none⟩=some (.int .i64 (p.at_:Int))/\w'.cell? ⟨w2.heap.size,2,none⟩=some (.int .i64 (p.fac:Int))) (first|exact⟨f0,f1,b0,b1,b2⟩|exact⟨d0,d1,e0,e1,e2⟩|exact F3|exact F4)
     (first|(go_at_call 137;refine Ve.out.mono ?_;rintro r w3 ⟨rfl,F3,hx⟩;have HY:=Q0a hx;clear hx)|(go_at_call 136;refine HY.out.mono ?_;rintro r w4 ⟨rfl,F4,hx⟩;have HZ:=Q0a hx;clear hx))
    all_goals
     obtain⟨g0,g1,g2,g3,g4⟩:=F4;clear d0 d1 e0 e1 e2 f0 f1 b0 b1 b2;go_wp2_with fail;refine HZ.out.mono ?_;rintro r w5 ⟨rfl,v',w6,r1,r2⟩;have Dl:=Q0a r2;clear r2 g0 g1 g2 g3 g4;go_wp2_with (at_builtin;refine Lib.wpList_append_run _ rfl _ _ _ _ rfl _ _ rfl rfl _ _ r1 ?_);go_roundg (n-(k+1))
     case measure=>have:=Bi.out;omega
     case rel =>
      have A2:(k:Int)<=256:=by have:=HN.out;omega
      exact⟨k+1,by rw [Go.IntWalk.wrap64_in _ (by omega)];rfl,by omega,Dl.out⟩
   ·have Av:(((p.kind:Nat):Int)==1)=false:=by simp;omega
    have G5:=Q0a A0;go_wp2_with fail;refine Ax.mono ?_;rintro r w2 ⟨rfl,hx,-⟩;have HX:=Q0a (hx G5.out);clear hx Ax Ah c1 A0;go_wp2_with fail;refine HX.out.mono ?_;rintro r w5 ⟨rfl,v',w6,r1,r2⟩;have Dl:=Q0a r2;clear r2;go_wp2_with (at_builtin;refine Lib.wpList_append_run _ rfl _ _ _ _ rfl _ _ rfl rfl _ _ r1 ?_);go_roundg (n-(k+1))
    case measure=>have:=Bi.out;omega
    case rel =>
     have A2:(k:Int)<=256:=by have:=HN.out;omega
     exact⟨k+1,by rw [Go.IntWalk.wrap64_in _ (by omega)];rfl,by omega,Dl.out⟩
  ·have HR:=Q0a (Bm.out _ _ _ _ _ _ VL.out Ab hrel);clear hrel CW Bm;go_wp2_with fail
   first|exact HR.out|(go_ret;exact HR.out)
theorem Z3h {w w2:World} {S:CO} {fr:List Nat} {N K:Nat} (h:Sep w S.hl) (ok:S.Ok fr N K) (hK:K<=1048576) {x:Nat} (hx:x<4294967296) {p:Pl} (hp:pget S.l 1 x=some p) (h0:x≠0) (hk:kids S.l x=[]) (hb:Below w.heap.size w w2) :
  w2.cell? ⟨S.c,1,none⟩=some (.pointer (some ⟨S.t,0,none⟩))/\Calls prog 172 #[.pointer (some ⟨S.t,0,none⟩),.int .u32 x] w2 fun r w3=>r=.returned (.int .i64 0)/\w3.cell? ⟨S.c,2,none⟩=some (.pointer (some ⟨S.g,0,none⟩))/\S.c<w3.heap.size /\
   Calls prog 173 #[.pointer (some ⟨S.g,0,none⟩),.slice (some ⟨w3.heap.size,0,none⟩) 1 1] (w3.alloc (.cells #[.int .i64 x] 3)) fun r w4=>∃z:Int,r=.returned (.int .i64 z)/\J0x S x w (.returned (.int .i64 0)) w4:=by
 have s2:=h.grown hb;have Fy:=ok.now;refine⟨CO.c1 s2.sep,?_⟩;refine Calls.mono (Z2N (h:=S.ht) (CO.sT s2.sep) ok.inv.lok hx hp) ?_;rintro r w3 ⟨rfl,st⟩;have s3:=s2.trans (CO.stepL s2.sep _ st);refine⟨rfl,CO.c2 (S:=S.setL (S.l.set (x%256) {p with st:=2})) s3.sep,(CO.cells s3.sep).lt,?_⟩;have s4:=s3.trans (s3.sep.grown ((Below.refl _ w3).alloc (J2h _) (.cells #[.int .i64 x] 3)));refine Calls.mono (Z8u (CO.sG s4.sep) ok.ov ok.few ok.per.2 (by show S.now<=_;omega) ((Cells.new w3 3 [.int .i64 x]).cell 0 _ rfl)) ?_;rintro r w4 ⟨rv,rfl,Ec,st4⟩;have s5:=s4.trans (CO.stepG s4.sep S.now rv (S.ts++[(x,S.now+S.period)]) st4)
 exact⟨_,rfl,.inr (.inr (.inr ⟨p,rv,hp,h0,hk,Ec,rfl,s5⟩))⟩
theorem Z8H {w:World} {S:CO} {fr:List Nat} {N K:Nat} (h:Sep w S.hl) (ok:S.Ok fr N K) (hK:K<=1048576) {x:Nat} (hx:x<4294967296) {p:Pl} (hp:pget S.l 1 x=some p) (h0:x≠0) (hk:kids S.l x=[]) :
  Calls prog 98 #[.pointer (some ⟨S.c,0,none⟩),.int .u32 x] w (J0x S x w):=by
 have hO:Calls prog 30 #[.pointer (some ⟨S.c,0,none⟩),.int .u32 x,.int .i64 0] w (Told w (.tuple #[.agg #[.int .i64 (p.kind:Int),.int .i64 (p.at_:Int),.int .i64 (p.fac:Int)],.int .i64 0])):=Q1F h ok.inv.lok hx 0 hp (.inl rfl);have HM:Hid (∀w1,Below w.heap.size w w1->Calls prog 95 #[.pointer (some ⟨S.c,0,none⟩),.int .u32 x] w1 (NewHs w1 (kids S.l x))):=fun w1 hb=>Q9m (h.grown hb).sep ok hx
 rw [hk] at HM;have HC:Hid (∀w2,Below w.heap.size w w2->_):=fun w2 hb=>Z3h (w2:=w2) h ok hK hx hp h0 hk hb
 have Av:(((x:Nat):Int)==0)=false:=by simp;omega
 have hw:IntKind.i64.wrap (x:Int)=(x:Int):=Go.IntWalk.i64_in _ (by omega);generalize J0x S x w=Q at *
 clear h ok hK hx hp h0 hk;go_enter func98,ntmps98;go_wp2_with fail;refine hO.mono ?_;rintro r w1 ⟨rfl,hb⟩;have Pf:=hb.alloc hb.size (.cells #[.int .i64 (p.kind:Int),.int .i64 (p.at_:Int),.int .i64 (p.fac:Int)] 69);have hm:=HM.out _ Pf;have HB:=Q0a Pf;clear hb Pf hO HM;go_wp2_with fail;refine hm.mono ?_;intro r w2 hn;obtain⟨am,cm,rfl,GI,Ja⟩:=hn.shape;obtain⟨c1,JO⟩:=HC.out w2 (HB.out.trans (GI.mono (by have:=HB.out.size;omega)));clear hn GI Ja hm HB HC;go_wp2_with fail;refine JO.mono ?_;rintro r w3 ⟨rfl,c2,Ab,BE⟩;have HA:=Q0a BE;clear BE JO c1;go_wp2_with fail;refine HA.out.mono ?_
 rintro r w4 ⟨z,rfl,hx⟩;have HX:=Q0a hx;clear hx HA;go_wp2_with fail
 first|exact HX.out|(go_ret;exact HX.out)
end Go.Proofs.YtlakjlmaboioiaaGreatDoor

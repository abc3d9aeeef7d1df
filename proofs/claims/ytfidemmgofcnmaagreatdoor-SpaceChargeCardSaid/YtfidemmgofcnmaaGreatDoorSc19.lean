/- SpaceCharge returns true at every input. No condition. Part of its proof. -/
import Derived.Sort.WalkB12
import Derived.Lib.SlicesMore
import Derived.Laws.OwnMore
import Derived.Shelf.RegionOpenPlain
import Derived.ScopeJumps
import Derived.Test.YtfidemmgofcnmaaGreatDoorSc18
set_option maxHeartbeats 4000000
set_option maxRecDepth 1000000
set_option linter.unusedVariables false
namespace Go.Proofs.YtfidemmgofcnmaaGreatDoor
open Go.RowKit Go.Proofs.Tryz
def encH (x:Nat):Value:=.int .u32 x
theorem OutH.shape {w wr:World} {v:Value} {L:List Nat} (h:OutH w wr v L):∃(a:Option Addr) (cap:Nat),v=.slice a L.length cap:=by
 rcases h.1.2 with ⟨rfl,h0⟩|⟨g,cap,Aj,rfl,_⟩
 ·exact⟨none,0,by rw [h0]⟩
 ·exact⟨_,cap,rfl⟩
theorem OutH.shape1 {w wr:World} {v:Value} {L:List Nat} (h:OutH w wr v L) (hl:L≠[]):∃(g cap:Nat),v=.slice (some ⟨g,0,none⟩) L.length cap:=by
 rcases h.1.2 with ⟨rfl,h0⟩|⟨g,cap,Aj,rfl,_⟩
 ·exact absurd (J4Q h0) hl
 ·exact⟨g,cap,rfl⟩
theorem OutH.parts {w wr:World} {g n cap:Nat} {L:List Nat} (h:OutH w wr (.slice (some ⟨g,0,none⟩) n cap) L):∃Aj,n=L.length/\w.heap.size<=g/\wr.heap[g]?=some (.cells Aj 58 (0,0))/\L.length<=cap/\cap<=maxLen/\Aj.size=cap/\Aj.toList.take L.length=Q1b L:=by
 rcases h.1.2 with ⟨h',_⟩|⟨g',B9,Aj,h',a1,a2,a3,a4,a5,a6⟩
 ·simp at h'
 ·simp only [Value.slice.injEq,J2N,Addr.mk.injEq,and_true] at h';obtain⟨rfl,rfl,rfl⟩:=h';exact⟨Aj,rfl,a1,a2,a3,a4,by simpa using a5,by simpa using a6⟩
theorem OutH.cellAt {w wr:World} {g n cap:Nat} {L:List Nat} (h:OutH w wr (.slice (some ⟨g,0,none⟩) n cap) L) {j x:Nat} (hj:L[j]?=some x):wr.cell? ⟨g,j,none⟩=some (.int .u32 x)/\w.heap.size<=g/\g<wr.heap.size:=by
 obtain⟨Aj,_,a1,a2,_,_,_,a6⟩:=h.parts;refine⟨?_,a1,lt_of_block a2⟩;have hv:=Q8a hj;rw [<- a6,J4D] at hv;split at hv
 ·simp only [World.cell?,a2,J5D,J6s,if_false];rw [<- J5a];exact hv
 ·cases hv
theorem OutH.cut {w wr:World} {g n cap x:Nat} {L:List Nat} (h:OutH w wr (.slice (some ⟨g,0,none⟩) n cap) (L++[x])):OutH w wr (.slice (some ⟨g,0,none⟩) L.length cap) L:=by
 obtain⟨Aj,_,a1,a2,a3,a4,a5,a6⟩:=h.parts;have hl:L.length+1<=cap:=by simpa using a3
 refine⟨⟨by simp [Q3d],.inr ⟨g,cap,Aj,rfl,a1,a2,by omega,a4,by simpa using a5,?_⟩⟩,h.2⟩;have:=congrArg (List.take L.length) a6;rw [J4V,J3j,hands_app,show min L.length (L.length+[x].length)=L.length by simp] at this;rw [J3G,this];have e:=Q3d L;rw [<- e,J4Y]
def Two (w wr:World) (v:Value) (L:List Nat) (u:Value) (M:List Nat):Prop:=OutH w wr v L/\OutH w wr u M/\∀b,v.ownBlock=some b->u.ownBlock≠some b
theorem Two.swap {w wr:World} {v u:Value} {L M:List Nat} (h:Two w wr v L u M):Two w wr u M v L:=⟨h.2.1,h.1,fun b h1 h2=>h.2.2 b h2 h1⟩
theorem Two.below {w wr w1:World} {v u:Value} {L M:List Nat} (h:Two w wr v L u M) (hb:Below wr.heap.size wr w1):Two w w1 v L u M:=⟨h.1.below hb,h.2.1.below hb,h.2.2⟩
theorem Two.alloc {w wr:World} {v u:Value} {L M:List Nat} (h:Two w wr v L u M) (o:Obj):Two w (wr.alloc o) v L u M:=⟨h.1.alloc o,h.2.1.alloc o,h.2.2⟩
theorem Two.cut {w wr:World} {g n cap x:Nat} {u:Value} {L M:List Nat} (h:Two w wr (.slice (some ⟨g,0,none⟩) n cap) (L++[x]) u M):Two w wr (.slice (some ⟨g,0,none⟩) L.length cap) L u M:=⟨h.1.cut,h.2.1,h.2.2⟩
theorem Two.app {w wr w1:World} {v v' u:Value} {L M X:List Nat} (h:Two w wr v L u M) (Ah:w1.ownsRow w.heap.size 58 1 v' (L.length+X.length) (Q1b L++Q1b X)) (hg:wr.grownBy w1 v.ownBlock) (AA:v'.ownBlock=v.ownBlock∨v'.ownBlock=some wr.heap.size):Two w w1 v' (L++X) u M:=by
 obtain⟨h1,h2,h3⟩:=h;have hb:Below w.heap.size w w1:=h1.2.trans ((Below.refl _ wr).mono h1.2.size |>.grown hg h1.2.size (fun b hb=>(h1.1.lt b hb).1));refine⟨h1.app0 Ah hg,⟨h2.1.kept hg ?_,hb⟩,fun b e1 e2=>?_⟩
 ·cases hv:v.ownBlock with
  | none=>cases hu:u.ownBlock with
   | none=>exact .inl rfl
   | some c=>exact .inr (by simp)
  | some b=>exact .inr (fun e=>h3 b hv e)
 ·rcases AA with e|e
  ·exact h3 b (e ▸ e1) e2
  ·rw [e] at e1;cases e1;exact absurd (h2.1.lt _ e2).2 (by omega)
theorem Z6n {w:World} {B B':Nat} {v:Value} {L M:List Nat} {a:Option Addr} {cap:Nat} {ty:TypeId} (h:w.ownsRow B 58 1 v L.length (Q1b L)) (hM:IsHs B' M a w) (hn:L.length+M.length<=65536) (hB:B<=w.heap.size) :
  ∃v' w',(Builtin.append_ #[51,51] ty #[v,.slice a M.length (match a with|none=>0|some _=>cap)]).run prog w=.ok v' w'/\w'.ownsRow B 58 1 v' (L.length+M.length) (Q1b L++Q1b M)/\w.grownBy w' v.ownBlock/\(v'.ownBlock=v.ownBlock∨v'.ownBlock=some w.heap.size):=by
 obtain⟨i0,Dv,BH,Bi,Be⟩:=info_parts Q3B;cases a with
 | none =>
  have Pp:M=[]:=by
   cases M with
   | nil=>rfl
   | cons x r=>obtain⟨g,h1,_⟩:=hM.at' 0 x rfl;cases h1
  subst Pp;exact⟨v,w,run_append_owned_none w B 51 ty 58 i0 1 underlying51 Dv v _ _ h,by simpa [Q1b] using h,⟨rfl,rfl,rfl,J2y _,fun _ _ _=>rfl⟩,.inl rfl⟩
 | some ad =>
  obtain⟨v',w',e1,e2,e3,_,e5⟩:=run_append_own_at (P:=prog) w B 51 ty 58 i0 (.int .u32 0) 1 4 underlying51 Dv BH Bi Be rfl (by decide) v _ _ h ad M.length cap (Q1b M) (by simp [Q3d]) (fun j u hj=>by
   have Bl:j<M.length:=by have:=(J2Q.1 hj).1;simpa [Q3d] using this
   obtain⟨g,g1,_,_,g4⟩:=hM.at' j M[j] (J4R Bl);cases g1;rw [Q8a (J4R Bl)] at hj;cases hj;have e:(⟨g,0,none⟩:Addr).add j=⟨g,j,none⟩:=by unfold Addr.add;split <;> simp_all
   rw [e];exact g4) (fun u hu=>by
    obtain⟨x,_,rfl⟩:=J2E.1 hu;rfl) (by unfold maxLen;omega) (by omega) hB
  exact⟨v',w',e1,e2,e3,e5⟩
theorem Z0F {w wr:World} {g n cap:Nat} {L:List Nat} (h:OutH w wr (.slice (some ⟨g,0,none⟩) n cap) L):Go.Sort.Holds encH wr g 0 L.toArray:=by
 obtain⟨Aj,_,a1,a2,_,_,_,a6⟩:=h.parts;intro j hj;have Bl:j<L.length:=by simpa using hj
 have hx:=J4R Bl;refine⟨?_,by simp [World.frozen?,a2]⟩;have:=(h.cellAt hx).1;rw [J5e,this,getElem!_pos _ j hj];simp [encH]
theorem Q6P (Aj:Array Value) (F:Array Nat) (h:F.size<=Aj.size):(Go.Sort.putCells encH 0 F Aj).toList.take F.size=F.toList.map encH:=by
 apply J4i
 intro j;by_cases hj:j<F.size
 ·rw [J6S hj,J5a];simp [Go.Sort.putCells,hj,show j<Aj.size by omega]
 ·rw [J6T (by omega),J4p (by simp;omega)]
theorem Z6o {w:World} {g n:Nat} {Aj:Array Value} {e:TypeId} (d:Array Nat) (hb:w.heap[g]?=some (.cells Aj e (0,0))) :
  (Go.Sort.putRow encH (Go.Sort.ahead w n) g 0 d).heap[g]?=some (.cells (Go.Sort.putCells encH 0 d Aj) e (0,0)):=by
 have hg:g<w.heap.size:=(J6U.1 hb).1;simp [Go.Sort.putRow,Go.Sort.mapBlock,Go.Sort.ahead,Array.getElem?_modify,hb,Go.Sort.onCells]
theorem Z3g {w:World} {g n:Nat} (d:Array Nat):w.grownBy (Go.Sort.putRow encH (Go.Sort.ahead w n) g 0 d) (some g):=by
 refine⟨rfl,rfl,rfl,by simp [Go.Sort.putRow,Go.Sort.mapBlock,Go.Sort.ahead],fun k hk Aa=>?_⟩;have:g≠k:=fun e=>Aa (by rw [e])
 simp [Go.Sort.putRow,Go.Sort.mapBlock,Go.Sort.ahead,Array.getElem?_modify,this]
theorem OutH.reversed {w wr:World} {g n cap k:Nat} {L:List Nat} (h:OutH w wr (.slice (some ⟨g,0,none⟩) n cap) L):OutH w (Go.Sort.putRow encH (Go.Sort.ahead wr k) g 0 L.toArray.reverse) (.slice (some ⟨g,0,none⟩) n cap) L.reverse:=by
 obtain⟨Aj,rfl,a1,a2,a3,a4,a5,a6⟩:=h.parts;have CY:=Z3g (w:=wr) (g:=g) (n:=k) L.toArray.reverse;have Bj:L.toArray.reverse.size=L.length:=by simp
 refine⟨⟨by simp [Q3d],.inr ⟨g,cap,_,by rw [J6V],a1,Z6o _ a2,by simpa using a3,a4,by simp [Go.Sort.putCells,a5],?_⟩⟩,h.2.trans ((Below.refl _ wr).mono h.2.size |>.grown CY h.2.size (fun b hb=>by cases hb;exact a1))⟩;have e:L.reverse.length*1=L.toArray.reverse.size:=by simp
 rw [e,Q6P _ _ (by rw [Bj,a5];exact a3)];simp [Q1b,encH]
theorem NewHs.shape0 {w:World} {L:List Nat} {r:Ending} {w':World} (h:NewHs w L r w'):∃(a:Option Addr) (cap:Nat),r=.returned (.slice a L.length cap)/\Below w.heap.size w w'/\IsHs w.heap.size L a w'/\(a=none->cap=0):=by
 obtain⟨v,rfl,⟨h1,h2⟩,hb⟩:=h;have h:=NewHs.shape (w:=w) (L:=L) (w':=w') (r:=.returned v) ⟨v,rfl,⟨h1,h2⟩,hb⟩;obtain⟨a,cap,e,Ak,hi⟩:=h;refine⟨a,cap,e,Ak,hi,fun ha=>?_⟩;subst ha;rcases h2 with ⟨rfl,h0⟩|⟨g,B9,Aj,rfl,_⟩
 ·simp only [Ending.returned.injEq,Value.slice.injEq] at e;omega
 ·simp at e
theorem Z6p {w:World} {B B':Nat} {v:Value} {L M:List Nat} {a:Option Addr} {cap:Nat} {ty:TypeId} (h:w.ownsRow B 58 1 v L.length (Q1b L)) (hM:IsHs B' M a w) (ha:a=none->cap=0) (hn:L.length+M.length<=65536) (hB:B<=w.heap.size) :
  ∃v' w',(Builtin.append_ #[51,51] ty #[v,.slice a M.length cap]).run prog w=.ok v' w'/\w'.ownsRow B 58 1 v' (L.length+M.length) (Q1b L++Q1b M)/\w.grownBy w' v.ownBlock/\(v'.ownBlock=v.ownBlock∨v'.ownBlock=some w.heap.size):=by
 have:=Z6n (ty:=ty) (cap:=cap) h hM hn hB;cases a with
 | none=>rw [ha rfl];exact this
 | some ad=>exact this
open Go.Sort (Holds putRow holds_putRow holds_ahead putRow_self reverseLoop swp size_swp)
theorem Q9w (blk cap:Nat) (d:Array Int) (w:World) (hH:Holds encI w blk 0 d) (Bj:d.size<=65536) :
  Calls prog 205 #[.slice (some ⟨blk,0,none⟩) d.size cap] w fun e w'=>e=.returned (.tuple #[])/\∃n,w'=putRow encI (Go.Sort.ahead w n) blk 0 d.reverse:=by
 go_enter func205,ntmps205;go_wp2_with fail
 go_loopg [2,3] d.size (fun k s2 s3 wr=>∃(i jn:Nat) (jz:Int) (dk:Array Int) (n:Nat),s2=.int .i64 i/\s3=.int .i64 jz/\((i:Int)<jz->jz=jn/\jn<d.size)/\(¬(i:Int)<jz->¬i<jn)/\jn-i<=k /\
  dk.size=d.size/\wr=putRow encI (Go.Sort.ahead w n) blk 0 dk/\reverseLoop i jn dk=reverseLoop 0 (d.size-1) d)
 case atStart=>exact⟨0,d.size-1,(d.size:Int)-1,d,0,rfl,rfl,fun h=>⟨by omega,by omega⟩,fun h=>by omega,by omega,rfl,(putRow_self encI w blk 0 d hH).symm,rfl⟩
 case round =>
  obtain⟨i,jn,jz,dk,n,rfl,rfl,h1,h2,hk,FK,Ij,Eb⟩:=hrel;by_cases Ab:(i:Int)<jz
  ·obtain⟨rfl,Nf⟩:=h1 Ab;have FE:i<jn:=by omega
   have JO:Holds encI wr blk 0 dk:=by rw [Ij];exact holds_putRow encI _ blk 0 d dk (holds_ahead encI w n blk 0 d hH) FK
   obtain⟨ci,fi⟩:=JO i (by omega);obtain⟨cj,fj⟩:=JO jn (by omega);have A:Go.Aside (wr=putRow encI (Go.Sort.ahead w n) blk 0 dk):=Ij;have SW:Hid (((wr.setCell ⟨blk,i,none⟩ (.int .i64 dk[jn]!)).setCell ⟨blk,jn,none⟩ (.int .i64 dk[i]!)).drew=putRow encI (Go.Sort.ahead w (n+1)) blk 0 (swp dk i jn)):=by
    have:=swap_world encI (off:=0) (i:=i) (j:=jn) (by omega) (by omega) Ij rfl rfl;rw [J5e,J5e] at this;exact this
   clear Ij JO hH h1 h2;go_wp2_with fail;rw [J5e] at ci fi cj fj;unfold encI at ci cj;go_region
   all_goals
    go_wp2_with fail;go_roundg (jn-1-(i+1))
    case measure=>omega
    case rel =>
     rw [reverseLoop,if_pos FE] at Eb;exact⟨i+1,jn-1,(jn:Int)-1,swp dk i jn,n+1,by go_num,by go_num,fun h=>⟨by omega,by omega⟩,fun h=>by omega,J2y _,by rw [size_swp];exact FK,
      (by have JC:=SW.out;first|exact JC|(simp only [getElem!_pos dk jn (by omega)] at JC;exact JC)),Eb⟩
  ·have D6:=h2 Ab;go_wp2_with fail
   first|go_end0|skip
   refine⟨rfl,n,?_⟩;rw [reverseLoop,if_neg D6] at Eb;rw [<- Go.Lib.reverseLoop_reverse,<- Eb]
end Go.Proofs.YtfidemmgofcnmaaGreatDoor
namespace Go.Proofs.YtfidemmgofcnmaaGreatDoor
open Go.RowKit Go.Proofs.Tryz
theorem OutI.parts {w wr:World} {g n cap:Nat} {L:List Int} (h:OutI w wr (.slice (some ⟨g,0,none⟩) n cap) L):∃Aj,n=L.length/\w.heap.size<=g/\wr.heap[g]?=some (.cells Aj 3 (0,0))/\L.length<=cap/\cap<=maxLen/\Aj.size=cap/\Aj.toList.take L.length=(L.map encI):=by
 rcases h.1.2 with ⟨h',_⟩|⟨g',B9,Aj,h',a1,a2,a3,a4,a5,a6⟩
 ·simp at h'
 ·simp only [Value.slice.injEq,J2N,Addr.mk.injEq,and_true] at h';obtain⟨rfl,rfl,rfl⟩:=h';exact⟨Aj,rfl,a1,a2,a3,a4,by simpa using a5,by simpa using a6⟩
theorem OutI.cellAt {w wr:World} {g n cap:Nat} {L:List Int} (h:OutI w wr (.slice (some ⟨g,0,none⟩) n cap) L) {j:Nat} {x:Int} (hj:L[j]?=some x):wr.cell? ⟨g,j,none⟩=some (.int .i64 x)/\w.heap.size<=g/\g<wr.heap.size:=by
 obtain⟨Aj,_,a1,a2,_,_,_,a6⟩:=h.parts;refine⟨?_,a1,lt_of_block a2⟩;have hv:(L.map encI)[j]?=some (.int .i64 x):=by rw [J4l,hj];rfl
 rw [<- a6,J4D] at hv;split at hv
 ·simp only [World.cell?,a2,J5D,J6s,if_false];rw [<- J5a];exact hv
 ·cases hv
theorem OutI.cut {w wr:World} {g n cap:Nat} {x:Int} {L:List Int} (h:OutI w wr (.slice (some ⟨g,0,none⟩) n cap) (L++[x])):OutI w wr (.slice (some ⟨g,0,none⟩) L.length cap) L:=by
 obtain⟨Aj,_,a1,a2,a3,a4,a5,a6⟩:=h.parts;have hl:L.length+1<=cap:=by simpa using a3
 refine⟨⟨by simp [List.length_map],.inr ⟨g,cap,Aj,rfl,a1,a2,by omega,a4,by simpa using a5,?_⟩⟩,h.2⟩;have:=congrArg (List.take L.length) a6;rw [J4V,J3j,J6d,show min L.length (L.length+[x].length)=L.length by simp] at this;rw [J3G,this];have e:(L.map encI).length=L.length:=J4j _;rw [<- e,J4Y]
theorem Z3h {w wr:World} {g n cap:Nat} {L:List Int} (h:OutI w wr (.slice (some ⟨g,0,none⟩) n cap) L):Go.Sort.Holds encI wr g 0 L.toArray:=by
 obtain⟨Aj,_,a1,a2,_,_,_,a6⟩:=h.parts;intro j hj;have Bl:j<L.length:=by simpa using hj
 have hx:=J4R Bl;refine⟨?_,by simp [World.frozen?,a2]⟩;have:=(h.cellAt hx).1;rw [J5e,this,getElem!_pos _ j hj];simp [encI]
theorem Q6Q (Aj:Array Value) (F:Array Int) (h:F.size<=Aj.size):(Go.Sort.putCells encI 0 F Aj).toList.take F.size=F.toList.map encI:=by
 apply J4i
 intro j;by_cases hj:j<F.size
 ·rw [J6S hj,J5a];simp [Go.Sort.putCells,hj,show j<Aj.size by omega]
 ·rw [J6T (by omega),J4p (by simp;omega)]
theorem Z6q {w:World} {g n:Nat} {Aj:Array Value} {e:TypeId} (d:Array Int) (hb:w.heap[g]?=some (.cells Aj e (0,0))) :
  (Go.Sort.putRow encI (Go.Sort.ahead w n) g 0 d).heap[g]?=some (.cells (Go.Sort.putCells encI 0 d Aj) e (0,0)):=by
 have hg:g<w.heap.size:=(J6U.1 hb).1;simp [Go.Sort.putRow,Go.Sort.mapBlock,Go.Sort.ahead,Array.getElem?_modify,hb,Go.Sort.onCells]
theorem Z3i {w:World} {g n:Nat} (d:Array Int):w.grownBy (Go.Sort.putRow encI (Go.Sort.ahead w n) g 0 d) (some g):=by
 refine⟨rfl,rfl,rfl,by simp [Go.Sort.putRow,Go.Sort.mapBlock,Go.Sort.ahead],fun k hk Aa=>?_⟩;have:g≠k:=fun e=>Aa (by rw [e])
 simp [Go.Sort.putRow,Go.Sort.mapBlock,Go.Sort.ahead,Array.getElem?_modify,this]
theorem OutI.reversed {w wr:World} {g n cap k:Nat} {L:List Int} (h:OutI w wr (.slice (some ⟨g,0,none⟩) n cap) L):OutI w (Go.Sort.putRow encI (Go.Sort.ahead wr k) g 0 L.toArray.reverse) (.slice (some ⟨g,0,none⟩) n cap) L.reverse:=by
 obtain⟨Aj,rfl,a1,a2,a3,a4,a5,a6⟩:=h.parts;have CY:=Z3i (w:=wr) (g:=g) (n:=k) L.toArray.reverse;have Bj:L.toArray.reverse.size=L.length:=by simp
 refine⟨⟨by simp [List.length_map],.inr ⟨g,cap,_,by rw [J6V],a1,Z6q _ a2,by simpa using a3,a4,by simp [Go.Sort.putCells,a5],?_⟩⟩,h.2.trans ((Below.refl _ wr).mono h.2.size |>.grown CY h.2.size (fun b hb=>by cases hb;exact a1))⟩;have e:L.reverse.length*1=L.toArray.reverse.size:=by simp
 rw [e,Q6Q _ _ (by rw [Bj,a5];exact a3)];simp
theorem OutI.alloc {w wr:World} {v:Value} {L:List Int} (h:OutI w wr v L) (o:Obj):OutI w (wr.alloc o) v L:=⟨h.1.alloc _,h.2.alloc h.2.size _⟩
theorem OutI.app0 {w wr w1:World} {v v':Value} {L M:List Int} (h:OutI w wr v L) (Ah:w1.ownsRow w.heap.size 3 1 v' (L.length+M.length) (L.map encI++M.map encI)) (hg:wr.grownBy w1 v.ownBlock):OutI w w1 v' (L++M):=
 ⟨by rw [J3j,J6d];exact Ah,h.2.trans ((Below.refl _ wr).mono h.2.size |>.grown hg h.2.size (fun b hb=>(h.1.lt b hb).1))⟩
def TwoI (w wr:World) (v:Value) (L:List Int) (u:Value) (M:List Int):Prop:=OutI w wr v L/\OutI w wr u M/\∀b,v.ownBlock=some b->u.ownBlock≠some b
theorem TwoI.swap {w wr:World} {v u:Value} {L M:List Int} (h:TwoI w wr v L u M):TwoI w wr u M v L:=⟨h.2.1,h.1,fun b h1 h2=>h.2.2 b h2 h1⟩
theorem TwoI.below {w wr w1:World} {v u:Value} {L M:List Int} (h:TwoI w wr v L u M) (hb:Below wr.heap.size wr w1):TwoI w w1 v L u M:=⟨h.1.below hb,h.2.1.below hb,h.2.2⟩
theorem TwoI.alloc {w wr:World} {v u:Value} {L M:List Int} (h:TwoI w wr v L u M) (o:Obj):TwoI w (wr.alloc o) v L u M:=⟨h.1.alloc o,h.2.1.alloc o,h.2.2⟩
theorem TwoI.cut {w wr:World} {g n cap:Nat} {x:Int} {u:Value} {L M:List Int} (h:TwoI w wr (.slice (some ⟨g,0,none⟩) n cap) (L++[x]) u M):TwoI w wr (.slice (some ⟨g,0,none⟩) L.length cap) L u M:=⟨h.1.cut,h.2.1,h.2.2⟩
theorem TwoI.app {w wr w1:World} {v v' u:Value} {L M X:List Int} (h:TwoI w wr v L u M) (Ah:w1.ownsRow w.heap.size 3 1 v' (L.length+X.length) (L.map encI++X.map encI)) (hg:wr.grownBy w1 v.ownBlock) (AA:v'.ownBlock=v.ownBlock∨v'.ownBlock=some wr.heap.size):TwoI w w1 v' (L++X) u M:=by
 obtain⟨h1,h2,h3⟩:=h;have hb:Below w.heap.size w w1:=h1.2.trans ((Below.refl _ wr).mono h1.2.size |>.grown hg h1.2.size (fun b hb=>(h1.1.lt b hb).1));refine⟨h1.app0 Ah hg,⟨h2.1.kept hg ?_,hb⟩,fun b e1 e2=>?_⟩
 ·cases hv:v.ownBlock with
  | none=>cases hu:u.ownBlock with
   | none=>exact .inl rfl
   | some c=>exact .inr (by simp)
  | some b=>exact .inr (fun e=>h3 b hv e)
 ·rcases AA with e|e
  ·exact h3 b (e ▸ e1) e2
  ·rw [e] at e1;cases e1;exact absurd (h2.1.lt _ e2).2 (by omega)
theorem Z1Q {w:World} {B:Nat} {v:Value} {L M:List Int} {rv:RV} {ty:TypeId} (h:w.ownsRow B 3 1 v L.length (L.map encI)) (hM:∀g cap,rv=some (g,cap)->∀(j:Nat) (x:Int),M[j]?=some x->w.cell? ⟨g,j,none⟩=some (.int .i64 x)) (AO:rvOk rv M.length) (hn:L.length+M.length<=16777216) (hB:B<=w.heap.size) :
  ∃v' w',(Builtin.append_ #[38,38] ty #[v,lvOf rv M.length]).run prog w=.ok v' w'/\w'.ownsRow B 3 1 v' (L.length+M.length) (L.map encI++M.map encI)/\w.grownBy w' v.ownBlock/\(v'.ownBlock=v.ownBlock∨v'.ownBlock=some w.heap.size):=by
 obtain⟨i0,Dv,BH,Bi,Be⟩:=info_parts Z0x;cases rv with
 | none =>
  have Pp:M=[]:=J4Q AO;subst Pp;exact⟨v,w,run_append_owned_none w B 38 ty 3 i0 1 underlying38 Dv v _ _ h,by simpa using h,⟨rfl,rfl,rfl,J2y _,fun _ _ _=>rfl⟩,.inl rfl⟩
 | some p =>
  obtain⟨g,cap⟩:=p;obtain⟨v',w',e1,e2,e3,_,e5⟩:=run_append_own_at (P:=prog) w B 38 ty 3 i0 (.int .i64 0) 1 8 underlying38 Dv BH Bi Be rfl (by decide) v _ _ h ⟨g,0,none⟩ M.length cap (M.map encI) (by simp) (fun j u hj=>by
   rw [J4l] at hj;obtain⟨x,hx,rfl⟩:=J6x.1 hj;have:=hM g cap rfl j x hx;have e:(⟨g,0,none⟩:Addr).add j=⟨g,j,none⟩:=by unfold Addr.add;split <;> simp_all
   rw [e];exact this) (fun u hu=>by
    obtain⟨x,_,rfl⟩:=J2E.1 hu;rfl) (by unfold maxLen;omega) (by omega) hB
  exact⟨v',w',e1,e2,e3,e5⟩
theorem Z0G {w wr:World} {q:FO} (h:Sep w q.hl) (ok:q.Ok) {x:Int} {e:En Nd} (hf:find q.N x=some e) {g n cap:Nat} {u:Value} {ws M:List Int} (T:TwoI w wr (.slice (some ⟨g,0,none⟩) n cap) (ws++[x]) u M) (hws:ws.length<=65536) (hM:M.length<=65536) :
  ∃v1 w1 v2 w2,(Builtin.append_ #[38,38] 38 #[.slice (some ⟨g,0,none⟩) ws.length cap,lvOf (q.kr x) e.q.ks.length]).run prog wr.drew=.ok v1 w1 /\
   (Builtin.append_ #[38,38] 38 #[u,.slice (some ⟨w1.heap.size,0,none⟩) 1 1]).run prog (w1.alloc (.cells #[.int .i64 x] 3))=.ok v2 w2/\TwoI w w2 v1 (ws++e.q.ks) v2 (M++[x]):=by
 obtain⟨BU,EL⟩:=Q0b hf;have Cx:=ok.n.kids_few BU;have Gx:=ok.few;have AO:=ok.rv e BU;rw [EL] at AO;have T1:TwoI w wr.drew (.slice (some ⟨g,0,none⟩) ws.length cap) ws u M:=T.cut.below ((Below.refl _ _).drew);have hs:Sep wr.drew q.hl:=(h.grown T1.1.2).sep;obtain⟨R,p1,_⟩:=FO.split ok.n.ids hf;have Ax:Sep wr.drew (rowH (q.kr x) 3 1 (e.q.ks.map encI)):=(hs.perm p1).left.tail;obtain⟨v1,w1,r1,o1,g1,b1⟩:=Z1Q (rv:=q.kr x) (M:=e.q.ks) (ty:=38) T1.1.1 (fun g' B9 hr j y hj=>by
  rw [hr] at Ax;exact Q0Y Ax j _ (by rw [J4l,hj];rfl)) AO (by omega) T1.1.2.size
 have T2:=T1.app o1 g1 b1;have T3:=T2.swap.alloc (.cells #[.int .i64 x] 3);have cn:=Cells.new w1 3 [.int .i64 x];obtain⟨v2,w2,r2,o2,g2,b2⟩:=Z1Q (rv:=some (w1.heap.size,1)) (M:=[x]) (ty:=38) T3.1.1 (fun g' B9 hr j y hj=>by
  cases hr
  exact cn.cell j _ (by
   cases j with
   | zero=>simp at hj;subst hj;rfl
   | succ j=>simp at hj)) ⟨J2y _,by unfold maxLen;omega⟩ (by simp;omega) T3.1.2.size
 exact⟨v1,w1,v2,w2,r1,r2,(T3.app o2 g2 b2).swap⟩
theorem OutI.shape {w wr:World} {v:Value} {L:List Int} (h:OutI w wr v L):∃(a:Option Addr) (cap:Nat),v=.slice a L.length cap:=by
 rcases h.1.2 with ⟨rfl,h0⟩|⟨g,cap,Aj,rfl,_⟩
 ·exact⟨none,0,by rw [h0]⟩
 ·exact⟨_,cap,rfl⟩
theorem OutI.shape1 {w wr:World} {v:Value} {L:List Int} (h:OutI w wr v L) (hl:L≠[]):∃(g cap:Nat),v=.slice (some ⟨g,0,none⟩) L.length cap:=by
 rcases h.1.2 with ⟨rfl,h0⟩|⟨g,cap,Aj,rfl,_⟩
 ·exact absurd (J4Q h0) hl
 ·exact⟨g,cap,rfl⟩
theorem TwoI.startI (w:World) (x:Int):TwoI w (w.alloc (.cells #[.int .i64 x] 3)) (.slice (some ⟨w.heap.size,0,none⟩) 1 1) [x] (.slice none 0 0) []:=by
 have hb:Below w.heap.size w (w.alloc (.cells #[.int .i64 x] 3)):=(Below.refl _ _).alloc (J2y _) _;refine⟨⟨?_,hb⟩,(OutI.nil w).below hb,fun b _=>by simp [Value.ownBlock]⟩;refine⟨by simp,.inr ⟨w.heap.size,1,#[.int .i64 x],rfl,J2y _,Cells.new w 3 [.int .i64 x],J2y _,by unfold maxLen;omega,by simp,by simp⟩⟩
structure BelI (q:FO) (id:Int) (ws M:List Int):Prop where
 eq:M++Q8R (kdF q.N) (rkF q.next) ws=preT (kdF q.N) (rkF q.next) id
 nodes:∀y∈ws,∃e,find q.N y=some e
theorem Z3j {q:FO} (ok:q.Ok) {id y:Int} {e:En Nd} (hf:find q.N id=some e) (hy:y∈preT (kdF q.N) (rkF q.next) id):∃e',find q.N y=some e':=by
 have hd:=(Z1I ok.n.tree).1 hy;rcases hd.last with rfl|⟨z,_,hz⟩
 ·exact⟨e,hf⟩
 ·unfold kdF at hz;cases KH:find q.N z with
  | none=>rw [KH] at hz;cases hz
  | some p =>
   rw [KH] at hz;obtain⟨p1,_⟩:=Q0b KH;obtain⟨k,hk,_⟩:=ok.n.kids p p1 y hz;exact⟨k,hk⟩
theorem Z1R {q:FO} (ok:q.Ok) {id:Int} {e:En Nd} (hf:find q.N id=some e):(preT (kdF q.N) (rkF q.next) id).length<=65536:=by
 have AG:(preT (kdF q.N) (rkF q.next) id).Nodup:=(Q6d ok.n.tree id).imp fun h=>h.1
 have:=J6O AG (l₂:=q.N.map En.id) (fun y hy=>by
  obtain⟨k,hk⟩:=Z3j ok hf hy;obtain⟨k1,k2⟩:=Q0b hk;exact J2E.2 ⟨k,k1,k2⟩)
 rw [J4j] at this;have:=ok.few;omega
theorem BelI.start {q:FO} {id:Int} {e:En Nd} (hf:find q.N id=some e):BelI q id [id] []:=⟨by simp [Q8R],fun y hy=>by
 rw [J4H] at hy;subst hy;exact⟨e,hf⟩⟩
theorem BelI.step {q:FO} (ok:q.Ok) {id x:Int} {e:En Nd} {ws M:List Int} (b:BelI q id (ws++[x]) M) (hf:find q.N x=some e):BelI q id (ws++e.q.ks) (M++[x]):=by
 have hk:kdF q.N x=e.q.ks:=by unfold kdF;rw [hf]
 refine⟨?_,fun y hy=>?_⟩
 ·rw [<- b.eq,Z2I ok.n.tree,hk];simp
 ·rcases J3o.1 hy with hy|hy
  ·exact b.nodes y (by simp [hy])
  ·obtain⟨e1,_⟩:=Q0b hf;obtain⟨k,hk,_⟩:=ok.n.kids e e1 y hy;exact⟨k,hk⟩
theorem BelI.len {q:FO} (ok:q.Ok) {id:Int} {e:En Nd} (hf:find q.N id=some e) {ws M:List Int} (b:BelI q id ws M):ws.length<=65536/\M.length<=65536/\M.length<=(preT (kdF q.N) (rkF q.next) id).length:=by
 have h1:=Z1R ok hf;have h2:=Z5F (kdF q.N) (rkF q.next) ok.n.tree ws;rw [<- b.eq,J3j] at h1 ⊢;omega
theorem BelI.done {q:FO} (ok:q.Ok) {id:Int} {M:List Int} (b:BelI q id [] M):M.reverse=Q0H (kdF q.N) (rkF q.next) id++[id]:=by
 have h:=b.eq;have h0:Q8R (kdF q.N) (rkF q.next) []=[]:=rfl;rw [h0,J4G,Q3C ok.n.tree] at h;rw [h];simp
def slen:Value->Nat
 | .slice _ n _=>n
 | _=>0
theorem Q9x {w wr:World} {q:FO} (h:Sep w q.hl) (ok:q.Ok) {id x:Int} {e:En Nd} (hf:find q.N id=some e) {g n cap:Nat} {u:Value} {ws M:List Int} (T:TwoI w wr (.slice (some ⟨g,0,none⟩) n cap) (ws++[x]) u M) (B:BelI q id (ws++[x]) M) :
  n=ws.length+1/\ws.length+1<=cap/\ws.length+1<=65536/\cap<=maxLen/\wr.cell? ⟨g,ws.length,none⟩=some (.int .i64 x)/\∃(xb:Nat) (a0:Option Addr) (n0 c0:Nat),
   (wr.cell? ⟨q.f,0,none⟩=some (.map (some q.m))/\(Instr.lookup 280 (.map (some q.m)) (.int .i64 x) false).run prog wr=.ok (.pointer (some ⟨xb,0,none⟩)) wr/\wr.cell? ⟨xb,3,none⟩=some (.slice a0 n0 c0)) /\
   (wr.drew.cell? ⟨q.f,0,none⟩=some (.map (some q.m))/\(Instr.lookup 280 (.map (some q.m)) (.int .i64 x) false).run prog wr.drew=.ok (.pointer (some ⟨xb,0,none⟩)) wr.drew/\wr.drew.cell? ⟨xb,3,none⟩=some (.slice a0 n0 c0)) /\
   ∃(a1:Option Addr) (n1 c1:Nat) (w1:World) (v2:Value) (w2:World),(Builtin.append_ #[38,38] 38 #[.slice (some ⟨g,0,none⟩) ws.length cap,.slice a0 n0 c0]).run prog wr.drew=.ok (.slice a1 n1 c1) w1 /\
    (Builtin.append_ #[38,38] 38 #[u,.slice (some ⟨w1.heap.size,0,none⟩) 1 1]).run prog (w1.alloc (.cells #[.int .i64 x] 3))=.ok v2 w2 /\
    ∃ws',TwoI w w2 (.slice a1 n1 c1) ws' v2 (M++[x])/\BelI q id ws' (M++[x])/\slen v2=slen u+1/\slen u+1<=(preT (kdF q.N) (rkF q.next) id).length:=by
 obtain⟨Aj,hn,_,_,AE,Ii,_⟩:=T.1.parts;obtain⟨l1,l2,_⟩:=B.len ok hf;obtain⟨ex,FG⟩:=B.nodes x (by simp);rw [J3j,J6B] at hn AE l1;obtain⟨v1,w1,v2,w2,r1,r2,I5⟩:=Z0G h ok FG T (by omega) l2;have B2:=B.step ok FG;obtain⟨_,_,l3⟩:=B2.len ok hf;obtain⟨a1,c1,rfl⟩:=I5.1.shape;obtain⟨a2,c2,Ia⟩:=I5.2.1.shape;obtain⟨au,cu,hu⟩:=T.2.1.shape;have hs:Sep wr q.hl:=(h.grown T.1.2).sep;have k3:=(FO.nd0 hs FG).2.2.2;have Kh:=(FO.nd0 hs.drew FG).2.2.2;have Oe:=(Q0b FG).2;rw [Oe] at k3 Kh;obtain⟨a0,n0,c0,Ik⟩:∃a n c,lvOf (q.kr x) ex.q.ks.length=.slice a n c:=by
  cases q.kr x with
  | none=>exact⟨_,_,_,rfl⟩
  | some p=>exact⟨_,_,_,rfl⟩
 rw [Ik] at k3 Kh r1;refine⟨hn,AE,by omega,Ii,(T.1.cellAt (j:=ws.length) (x:=x) (by simp)).1,ex.b,a0,n0,c0,⟨FO.c0 hs,FO.look_some hs FG,k3⟩,⟨FO.c0 hs.drew,FO.look_some hs.drew FG,Kh⟩,a1,_,c1,w1,v2,w2,r1,r2,ws++ex.q.ks,I5,B2,?_,?_⟩
 ·rw [Ia,hu];simp [slen]
 ·rw [hu];rw [J3j,J6B] at l3;exact l3
theorem Z0H {w:World} {q:FO} (h:Sep w q.hl) (ok:q.Ok) {id:Int} {e:En Nd} (hf:find q.N id=some e) :
  Calls prog 157 #[.pointer (some ⟨q.f,0,none⟩),.int .i64 id] w (NewIs w (Q0H (kdF q.N) (rkF q.next) id)):=by
 have ka:=Q2P h hf;have HH:=Q0a h;have CC:=Q0a ok;have HF:=Q0a hf;obtain⟨-,-,-,-,GD,xb,a0,n0,c0,⟨f0,lk,k3⟩,⟨f0d,lkd,Kh⟩,a1,n1,c1,w1,v2,w2,r1,r2,ws',I5,K5,Ae,DY⟩:=Q9x (ws:=[]) h ok hf (TwoI.startI w id) (BelI.start hf);rw [J4Z] at GD r1;have Hb:=Q0a r1;have MV:IntKind.i64.wrap 0=0:=Go.IntWalk.i64_in _ (by omega);have J8:=Q0a I5;have Fe:=Q0a K5;clear h ok hf I5 K5 r1 Ae DY;go_enter func157,ntmps157;go_wp2_with fail;refine wp_scope_jumps 0 (fun a' w'=>∃(wv ov:Value) (ws M:List Int) (u7 u8 u9 u10 u11 u12 u13 u14 u15 u16 u17 u18 u19 u20 u21 u22 u23 u24 u25 u26 u27 u28 u29 u30 u31 u32 u33 u34 u35 u36 u37 u38 u39 u40 u41 u42 u43 u44 u45 u46 u47 u48:Value),a'={tmps:=#[.pointer (some ⟨q.f,0,none⟩),.int .i64 id,undef,undef,.slice none 0 0,ov,wv,u7,u8,u9,u10,u11,u12,u13,u14,u15,u16,u17,u18,u19,u20,u21,u22,u23,u24,u25,u26,u27,u28,u29,u30,u31,u32,u33,u34,u35,u36,u37,u38,u39,u40,u41,u42,u43,u44,u45,u46,u47,u48],defers:=[]}/\TwoI w w' wv ws ov M/\BelI q id ws M) (fun a' _=>(preT (kdF q.N) (rkF q.next) id).length-slen (a'.tmps.getD 5 undef)) rfl ?_ ?_
 ·go_wp2_with fail;refine ka.mono ?_;rintro r w' ⟨rfl,rfl⟩;go_wp2_with fail
  go_step3
  go_wp2_with fail
  go_region_law (refine Q0F rfl (.tmp 27) (.tmp 36) 38 38 rfl _ _ (by simp [Act.eval]) (by simp [Act.eval]) Hb.out ?_)
  all_goals
   go_wp2_with (at_builtin;refine Lib.wpList_append_run _ rfl _ _ _ _ rfl _ _ rfl rfl _ _ r2 ?_)
   go_step3
   refine⟨rfl,.slice a1 n1 c1,v2,ws',[]++[id],_,_,_,_,_,_,_,_,_,_,_,_,_,_,_,_,_,_,_,_,_,_,_,_,_,_,_,_,_,_,_,_,_,_,_,_,_,_,_,_,_,_,rfl,J8.out,Fe.out⟩
 ·rintro a' wr ⟨wv,ov,ws,M,u7,u8,u9,u10,u11,u12,u13,u14,u15,u16,u17,u18,u19,u20,u21,u22,u23,u24,u25,u26,u27,u28,u29,u30,u31,u32,u33,u34,u35,u36,u37,u38,u39,u40,u41,u42,u43,u44,u45,u46,u47,u48,rfl,hT,hB⟩;have A6:ws=[]∨∃(ws':List Int) (y:Int),ws=ws'++[y]:=by
   rcases J6W ws with h|⟨a,b,h⟩
   ·exact .inl h
   ·exact .inr ⟨a,b,by rw [h,J6X]⟩
  rcases A6 with rfl|⟨ws0,x,rfl⟩
  ·have Bw:=hB.done CC.out;have GQ:=(hB.len CC.out HF.out).2.1;have Aa:M≠[]:=fun e=>by rw [e] at Bw;simp at Bw
   obtain⟨aw,cw,rfl⟩:=hT.1.shape;obtain⟨g,co,rfl⟩:=hT.2.1.shape1 Aa;obtain⟨_,_,_,_,KW,_⟩:=hT.2.1.parts;have D4:=Q9w g co M.toArray wr (Z3h hT.2.1) (by simpa using GQ);have AK:∀n,NewIs w (Q0H (kdF q.N) (rkF q.next) id) (.returned (.slice (some ⟨g,0,none⟩) (Q0H (kdF q.N) (rkF q.next) id).length co)) (Go.Sort.putRow encI (Go.Sort.ahead wr n) g 0 M.toArray.reverse):=fun n=>by
    have h1:=hT.2.1.reversed (k:=n);rw [Bw] at h1;have h2:=h1.cut;exact⟨_,rfl,h2.1,h2.2⟩
   have Dq:M.length=(Q0H (kdF q.N) (rkF q.next) id).length+1:=by
    have:=congrArg List.length Bw
    simpa using this
   have AZ:=Q0a AK;rw [show M.toArray.size=M.length from rfl] at D4;rw [Dq] at D4 KW GQ ⊢;generalize hm:(Q0H (kdF q.N) (rkF q.next) id).length=m at *
   have Gl:((m:Nat):Int)<=(co:Int):=by omega
   have AE:m<=co:=by omega
   have VZ:(m:Int)<65536:=by omega
   have hw:IntKind.i64.wrap (m:Int)=(m:Int):=Go.IntWalk.i64_in _ (by omega);clear AK hT hB Bw Aa Dq hm GQ KW J8 Fe Hb r2 GD f0 lk k3 f0d lkd Kh ka;generalize NewIs w (Q0H (kdF q.N) (rkF q.next) id)=Q at *
   go_wp2_with fail;refine D4.mono ?_;rintro r w3 ⟨rfl,n,rfl⟩;have HQ:=Q0a (AZ.out n);clear D4 AZ;generalize Go.Sort.putRow encI (Go.Sort.ahead wr n) g 0 M.toArray.reverse=w3 at *
   go_wp2_with fail
   try simp only [Exit.jump]
   first|exact HQ.out|(go_ret;exact HQ.out)
  ·clear J8 Fe Hb r2 GD f0 lk k3 f0d lkd Kh ka MV;obtain⟨g,cap,rfl⟩:=hT.1.shape1 (by simp);obtain⟨hn,AE,Sc,_,GD,xb,a0,n0,c0,⟨f0,lk,k3⟩,⟨f0d,lkd,Kh⟩,a1,n1,c1,w1,v2,w2,r1,r2,ws',I5,K5,Ae,DY⟩:=Q9x HH.out CC.out HF.out hT hB;have Hb:=Q0a r1;have J8:=Q0a I5;have Fe:=Q0a K5;obtain⟨au,cu,rfl⟩:=hT.2.1.shape;have A5:(preT (kdF q.N) (rkF q.next) id).length-slen v2<(preT (kdF q.N) (rkF q.next) id).length-slen (.slice au M.length cu):=by omega
   have PD:=Q0a A5;rw [hn];generalize ws0.length=n at *
   have Gl:((n:Nat):Int)<=(cap:Int):=by omega
   have Q6:n<=cap:=by omega
   have VU:(n:Int)<65536:=by omega
   have hw:IntKind.i64.wrap (n:Int)=(n:Int):=Go.IntWalk.i64_in _ (by omega);have CQ:(0:Int)<=(n:Int):=by omega
   clear hT hB I5 K5 r1 A5 Ae DY hn AE Sc;go_wp2_with fail
   go_region_law (refine Q0F rfl (.tmp 27) (.tmp 36) 38 38 rfl _ _ (by simp [Act.eval]) (by simp [Act.eval]) Hb.out ?_)
   all_goals
    go_wp2_with (at_builtin;refine Lib.wpList_append_run _ rfl _ _ _ _ rfl _ _ rfl rfl _ _ r2 ?_)
    go_step3
    refine⟨rfl,⟨.slice a1 n1 c1,v2,ws',M++[x],_,_,_,_,_,_,_,_,_,_,_,_,_,_,_,_,_,_,_,_,_,_,_,_,_,_,_,_,_,_,_,_,_,_,_,_,_,_,_,_,_,_,rfl,J8.out,Fe.out⟩,PD.out⟩
theorem Q6v {w:World} {Z:SP} (hs:Sep w Z.hl) (ok:Z.F.Ok) {x z g f:Nat} (hx:x<4294967296) (hz:z<256) :
  Calls prog 156 #[.pointer (some ⟨Z.s,0,none⟩),.agg #[.pointer (some ⟨g,0,none⟩),.int .u32 x,.int .i64 f],.int .i64 z] w (Told w (.int .i64 (ownN Z.F.N (x:Int) (z:Int)))):=by
 have b1:Below w.heap.size w (w.alloc (.cells #[.pointer (some ⟨g,0,none⟩),.int .u32 x,.int .i64 f] 191)):=(Below.refl _ _).alloc (J2y _) _;have s1:=(hs.grown b1).sep;have c1:=SP.c1 s1;have PT:(w.alloc (.cells #[.pointer (some ⟨g,0,none⟩),.int .u32 x,.int .i64 f] 191)).drew.cell? ⟨Z.s,1,none⟩=some (.pointer (some ⟨Z.F.f,0,none⟩)):=c1;have hB:=Cells.new w 191 [.pointer (some ⟨g,0,none⟩),.int .u32 x,.int .i64 f];have q1:=hB.cell 1 _ rfl;have Sx:(w.alloc (.cells #[.pointer (some ⟨g,0,none⟩),.int .u32 x,.int .i64 f] 191)).drew.cell? ⟨w.heap.size,1,none⟩=some (.int .u32 x):=q1;have g1:(0:Int)<=(x:Int):=by omega
 have g2:(x:Int)<9223372036854775808:=by omega
 have g3:(0:Int)<=(z:Int):=by omega
 have g4:(z:Int)<9223372036854775808:=by omega
 have kf:=Q4M (SP.sF s1.drew) ok (sp:=(x:Int)) (sl:=(z:Int)) (Q3j (p:=((x:Int),(z:Int))) g1 g2 g3 g4);have HR:Hid (Below w.heap.size w (w.alloc (.cells #[.pointer (some ⟨g,0,none⟩),.int .u32 x,.int .i64 f] 191)).drew):=b1.drew;have Du:(x:Int)<4294967296:=by omega
 have LT:IntKind.i64.wrap (x:Int)=(x:Int):=Go.IntWalk.i64_in _ (by omega);generalize ownN Z.F.N (x:Int) (z:Int)=oid at *
 clear hs ok hx hz b1 s1 hB g2 g3 g4;go_enter func156,ntmps156;go_wp2_with fail
 go_region_held3 (fun w'=>w'.cell? ⟨Z.s,1,none⟩=some (.pointer (some ⟨Z.F.f,0,none⟩))/\w'.cell? ⟨w.heap.size,1,none⟩=some (.int .u32 x)) (first|exact⟨c1,q1⟩|exact⟨PT,Sx⟩)
  (first|(go_at_call 161;refine kf.mono ?_;rintro r w' ⟨rfl,rfl⟩))
 go_wp2_with fail
 first|exact⟨rfl,HR.out⟩|(go_ret;exact⟨rfl,HR.out⟩)
def revL (q:FO) (id:Int) (self:Bool):List Int:=Q0H (kdF q.N) (rkF q.next) id++if self=true then [id] else []
theorem Z1S {q:FO} (ok:q.Ok) {id:Int} {e:En Nd} (hf:find q.N id=some e) (self:Bool):(revL q id self).length<=65537:=by
 have h:=Z1R ok hf;rw [Q3C ok.n.tree,J3k,J6V] at h;unfold revL;rw [J3j];split <;> simp <;> omega
theorem Q7v {w:World} {Z:SP} (hs:Sep w Z.hl) (ok:Z.F.Ok) {id:Int} {e:En Nd} (hf:find Z.F.N id=some e) :
  Calls prog 157 #[.pointer (some ⟨Z.F.f,0,none⟩),.int .i64 id] w fun r w'=>Below w.heap.size w w'/\∃(a:Option Addr) (cap:Nat),r=.returned (.slice a (Q0H (kdF Z.F.N) (rkF Z.F.next) id).length cap)/\OutI w w' (.slice a (Q0H (kdF Z.F.N) (rkF Z.F.next) id).length cap) (Q0H (kdF Z.F.N) (rkF Z.F.next) id):=by
 refine (Z0H (SP.sF hs) ok hf).mono ?_;rintro r w' ⟨v,rfl,h1,h2⟩;obtain⟨a,cap,rfl⟩:=OutI.shape (w:=w) (wr:=w') ⟨h1,h2⟩;exact⟨h2,a,cap,rfl,h1,h2⟩
theorem OutI.aside {w w':World} {H:HL} {v:Value} {L:List Int} (h:OutI w w' v L) (hs:Sep w H):∃(a:Option Addr) (cap:Nat),v=.slice a L.length cap/\AsideV H (L.map encI) a w':=Q5d hs h.1
def RevR (Z:SP) (fr:List Nat) (N K:Nat) (M:Int) (x:Nat) (z mask:Int) (self:Bool) (w:World) (r:Ending) (w':World):Prop:=
 (∃e:Int,r=.returned (.tuple #[.int .i64 0,.int .i64 e])/\Below w.heap.size w w'/\((pget Z.S.l 1 x=none/\e=8)∨∃p,pget Z.S.l 1 x=some p/\((p.kind≠2/\e=10)∨(p.kind=2/\¬(0<=z/\z<256)/\e=2) ∨
  (p.kind=2/\(0<=z/\z<256)/\¬(0<mask/\mask<=15)/\e=1)∨(p.kind=2/\(0<=z/\z<256)/\(0<mask/\mask<=15)/\Q0f Z.S.l Z.tb x z.toNat=none/\e=6)))) ∨
 (∃(s m:Nat) (n:En Nd) (en:Ent),z=(s:Int)/\mask=(m:Int)/\s<256/\1<=m/\m<16/\Q0f Z.S.l Z.tb x s=some en/\n∈Z.F.N/\n.q.sp=(x:Int)/\n.q.sl=(s:Int) /\
  r=.returned (.tuple #[.int .i64 ((Q0N m Z.av (revL Z.F n.id self)).2:Nat),.int .i64 0])/\Q8g Z fr N K M m (revL Z.F n.id self) w w')
theorem Z3k {w:World} {Z:SP} {fr:List Nat} {N K:Nat} {M:Int} (hs:Sep w Z.hl) (ok:Z.Ok fr N K M) {x:Nat} (hx:x<4294967296) {p:Pl} (hp:pget Z.S.l 1 x=some p) (hk:p.kind=2) {s m:Nat} (A7:s<256) (Dm:1<=m) (hm:m<16) {en:Ent} (he:Q0f Z.S.l Z.tb x s=some en) (self:Bool) :
  Calls prog 81 #[.pointer (some ⟨Z.s,0,none⟩),.int .u32 x,.int .i64 s,.int .i64 m,.bool self] w (RevR Z fr N K M x (s:Int) (m:Int) self w):=by
 have ks:=Q0V hs ok.core hx hp hk;have hi:=(pget_some.1 hp).1;have Ao:=(pget_some.1 hp).2.2;obtain⟨n,hn,n1,n2,Ah,Fh⟩:=ok.fpi.own ok.fo.n he;have AA:(Z.tb (x%256)).at' (s:Int)=some en:=by
  unfold TB.at';rw [if_pos ⟨by omega,by omega⟩,J3F,<- Q0g hp hk A7];exact he
 have A5:=ok.fpi.low ok.core.inv.lok he;have HC:Hid (∀(w2:World) (g:Nat),Below w.heap.size w w2->TblZ Z p g w2->Calls prog 93 #[.agg #[.pointer (some ⟨g,0,none⟩),.int .u32 x,.int .i64 (p.fac:Int)],.int .i64 s] (w2.alloc (.cells #[.pointer (some ⟨g,0,none⟩),.int .u32 x,.int .i64 (p.fac:Int)] 191)) (fun r w4=>r=.returned (.tuple #[.agg #[.int .u32 (en.h:Int),.int .i64 (en.r:Int)],.bool true]) /\
   ∀o,Below w.heap.size w (w4.alloc o)/\Cells (w4.alloc o) w2.heap.size 191 [.pointer (some ⟨g,0,none⟩),.int .u32 x,.int .i64 (p.fac:Int)])):=fun w2 g Ag hg=>by
  have Ar:Below w2.heap.size w2 (w2.alloc (.cells #[.pointer (some ⟨g,0,none⟩),.int .u32 x,.int .i64 (p.fac:Int)] 191)):=(Below.refl _ _).alloc (J2y _) _;have BE:=Ag.alloc Ag.size (.cells #[.pointer (some ⟨g,0,none⟩),.int .u32 x,.int .i64 (p.fac:Int)] 191);have s2:=(hs.grown Ag).sep;have T:=(ok.tpi.x (p.fac:Int)).tt ok.core hi Ao hk (SP.sS (s2.grown Ar).sep) (hg.grown s2 Ar).c;refine (Q1t T (x:Int) (p.fac:Int) (s:Int) fun e AM=>by rw [AA] at AM;cases AM;exact A5).mono ?_;rw [AA];rintro r w4 ⟨rfl,AC⟩;have DK:Below w.heap.size w w4:=BE.trans (AC.mono BE.size);have hB:=(Cells.new w2 191 [.pointer (some ⟨g,0,none⟩),.int .u32 x,.int .i64 (p.fac:Int)]).same (AC.block w2.heap.size (by simp))
  exact⟨rfl,fun o=>⟨DK.alloc DK.size o,hB.alloc o⟩⟩
 have DD:=fun W=>Q2Q W (s:Int)
 rw [decide_eq_true (show 0<=(s:Int)/\(s:Int)<256 from ⟨by omega,by omega⟩)] at DD;have EH:=fun W=>Q3J W (m:Int)
 rw [decide_eq_true (show 0<(m:Int)/\(m:Int)<=15 from ⟨by omega,by omega⟩)] at EH;have AW:=Q0a DD;have Bf:=Q0a EH;have HN:Hid (∀W g,Below w.heap.size w W->Calls prog 156 #[.pointer (some ⟨Z.s,0,none⟩),.agg #[.pointer (some ⟨g,0,none⟩),.int .u32 x,.int .i64 (p.fac:Int)],.int .i64 s] W fun r w'=>r=.returned (.int .i64 n.id)/\Below w.heap.size w w'/\w'.cell? ⟨Z.s,1,none⟩=some (.pointer (some ⟨Z.F.f,0,none⟩)) /\
   Calls prog 157 #[.pointer (some ⟨Z.F.f,0,none⟩),.int .i64 n.id] w' fun r w5=>∃(a:Option Addr) (cap:Nat),r=.returned (.slice a (Q0H (kdF Z.F.N) (rkF Z.F.next) n.id).length cap) /\
    (self=false->Calls prog 158 #[.pointer (some ⟨Z.s,0,none⟩),.int .i64 m,.slice a (Q0H (kdF Z.F.N) (rkF Z.F.next) n.id).length cap] w5 fun r w6=>∃v:Int,r=.returned (.int .i64 v)/\RevR Z fr N K M x (s:Int) (m:Int) self w (.returned (.tuple #[.int .i64 v,.int .i64 0])) w6) /\
    (self=true->∃(a2:Option Addr) (n2 c2:Nat) (w6:World),(Builtin.append_ #[38,38] 38 #[.slice a (Q0H (kdF Z.F.N) (rkF Z.F.next) n.id).length cap,.slice (some ⟨w5.heap.size,0,none⟩) 1 1]).run prog (w5.alloc (.cells #[.int .i64 n.id] 3))=.ok (.slice a2 n2 c2) w6 /\
     Calls prog 158 #[.pointer (some ⟨Z.s,0,none⟩),.int .i64 m,.slice a2 n2 c2] w6 fun r w7=>∃v:Int,r=.returned (.int .i64 v)/\RevR Z fr N K M x (s:Int) (m:Int) self w (.returned (.tuple #[.int .i64 v,.int .i64 0])) w7)):=fun W g FH=>by
  have sW:=(hs.grown FH).sep;refine (Q6v sW ok.fo hx A7).mono ?_;rw [Ah];rintro r w' ⟨rfl,Ak⟩;have Fo:Below w.heap.size w w':=FH.trans (Ak.mono FH.size);have s':=(hs.grown Fo).sep;refine⟨rfl,Fo,SP.c1 s',(Q7v s' ok.fo Fh).mono ?_⟩;rintro r w5 ⟨AL,a,cap,rfl,Au⟩;have UD:Below w.heap.size w w5:=Fo.trans (AL.mono Fo.size);have Ae:=Z1S ok.fo Fh self;have fin:∀{w6:World} {v:Value} {L:List Int},L=revL Z.F n.id self->OutI w' w6 v L->∃(a:Option Addr) (cap:Nat),v=.slice a L.length cap/\Calls prog 158 #[.pointer (some ⟨Z.s,0,none⟩),.int .i64 m,.slice a L.length cap] w6 fun r w6=>∃v:Int,r=.returned (.int .i64 v)/\RevR Z fr N K M x (s:Int) (m:Int) self w (.returned (.tuple #[.int .i64 v,.int .i64 0])) w6:=fun {w6 v L} hL ho=>by
   obtain⟨a,cap,rfl,has⟩:=ho.aside s';have CV:Below w.heap.size w w6:=Fo.trans (ho.2.mono Fo.size);refine⟨a,cap,rfl,(Q2t (hs.grown CV).sep ok m Dm hm L a cap (by rw [hL];omega) has ?_).mono ?_⟩
   ·rw [hL];exact Q8U (a:=Z.av) ok.fo.n n.id self
   ·rintro r w7 ⟨rfl,Z',k1,k2,k3,k4⟩;rw [hL];rw [hL] at k2;exact⟨_,rfl,.inr ⟨s,m,n,en,rfl,rfl,A7,Dm,hm,he,hn,n1,n2,rfl,Z',k1,k2,k3,(hs.grown CV).trans k4⟩⟩
  refine⟨a,cap,rfl,fun Gv=>?_,fun Gv=>?_⟩
  ·obtain⟨a',B9,hv,hc⟩:=fin (by unfold revL;rw [Gv];simp) Au;cases hv;exact hc
  ·have CN:(Q0H (kdF Z.F.N) (rkF Z.F.next) n.id).length<=16777216:=by
    unfold revL at Ae;rw [J3j] at Ae;omega
   obtain⟨v',w6,Ba,DW⟩:=Au.app CN n.id 38;obtain⟨a',B9,rfl,hc⟩:=fin (by unfold revL;rw [Gv];simp) DW;exact⟨a',_,B9,w6,Ba,hc⟩
 generalize RevR Z fr N K M x (s:Int) (m:Int) self w=Q at *
 generalize (Q0H (kdF Z.F.N) (rkF Z.F.next) n.id).length=bl at *
 clear hs ok hx hp hk hi Ao he AA A5 hn n1 n2 Ah Fh DD EH Dm hm;go_enter func81,ntmps81;go_wp2_with fail;refine ks.mono ?_;rintro r w2 ⟨g,rfl,Ag,hg⟩;have kc:=HC.out w2 g Ag hg;clear Ag hg HC ks;go_wp2_with fail;refine kc.mono ?_;rintro r w4 ⟨rfl,hz⟩;obtain⟨AC,EM⟩:=hz (.cells #[.int .u32 (en.h:Int),.int .i64 (en.r:Int)] 72);have kh:=AW.out (w4.alloc (.cells #[.int .u32 (en.h:Int),.int .i64 (en.r:Int)] 72));have kr:=Bf.out (w4.alloc (.cells #[.int .u32 (en.h:Int),.int .i64 (en.r:Int)] 72));have kn:=HN.out (w4.alloc (.cells #[.int .u32 (en.h:Int),.int .i64 (en.r:Int)] 72)) g AC
 have b0:=EM.cell 0 _ rfl;have b1:=EM.cell 1 _ rfl;have b2:=EM.cell 2 _ rfl;have Qo:=Q0a kn;clear hz AC EM kc AW Bf HN kn;go_wp2_with fail;refine kh.mono ?_;rintro r w' ⟨rfl,rfl⟩;go_wp2_with fail;refine kr.mono ?_;rintro r w' ⟨rfl,rfl⟩;go_wp2_with fail;refine Qo.out.mono ?_;rintro r w5 ⟨rfl,AL,c5,kb⟩;have Sk:=Q0a kb;clear AL kb Qo kh kr;go_wp2_with fail;refine Sk.out.mono ?_;rintro r w6 ⟨a,cap,rfl,h1,h2⟩;have H1:=Q0a h1;have H2:=Q0a h2;clear h1 h2 Sk b0 b1 b2;cases self with
 | false =>
  have kw:=Q0a (H1.out rfl);clear H1 H2;go_wp2_with fail;refine kw.out.mono ?_;rintro r w7 ⟨v,rfl,hq⟩;have HQ:=Q0a hq;clear hq kw;go_wp2_with fail
  first|exact HQ.out|(go_ret2;exact HQ.out)
 | true =>
  obtain⟨a2,n2,c2,w7,Ba,RR⟩:=H2.out rfl;have kw:=Q0a RR;clear H1 H2 RR;go_wp2_with (at_builtin;refine Lib.wpList_append_run _ rfl _ _ _ _ rfl _ _ rfl rfl _ _ Ba ?_);refine kw.out.mono ?_;rintro r w8 ⟨v,rfl,hq⟩;have HQ:=Q0a hq;clear hq kw;go_wp2_with fail
  first|exact HQ.out|(go_ret2;exact HQ.out)
theorem Q3K (o:Option Ent):∃(a b:Int),capV o=.tuple #[.agg #[.int .u32 a,.int .i64 b],.bool o.isSome]:=by
 cases o with
 | none=>exact⟨0,0,rfl⟩
 | some e=>exact⟨_,_,rfl⟩
theorem Q5p {w:World} {Z:SP} {fr:List Nat} {N K:Nat} (hs:Sep w Z.hl) (ok:Z.S.Ok fr N K) {x:Nat} (hx:x<4294967296) (z mask:Int) (self:Bool) (e:Int) (he:e≠0) (hw:(pget Z.S.l 1 x=none/\e=8)∨∃p,pget Z.S.l 1 x=some p/\p.kind≠2/\e=10) :
  Calls prog 81 #[.pointer (some ⟨Z.s,0,none⟩),.int .u32 x,.int .i64 z,.int .i64 mask,.bool self] w (Told w (.tuple #[.int .i64 0,.int .i64 e])):=by
 have ks:=Q0I hs ok hx e hw;have FI:(e==0)=false:=by simpa using he
 have HC:Hid (∀w1,Below w.heap.size w w1->∀o,Below w.heap.size w (w1.alloc o)):=fun w1 hb o=>hb.alloc hb.size o
 clear hs ok hx hw;go_enter func81,ntmps81;go_wp2_with fail;refine ks.mono ?_;rintro r w1 ⟨rfl,Av⟩;have HQ:=Q0a (HC.out w1 Av);clear Av HC ks;go_wp2_with fail
 first|exact⟨rfl,HQ.out _⟩|(go_ret2;exact⟨rfl,HQ.out _⟩)
theorem Q4h {w:World} {Z:SP} {fr:List Nat} {N K:Nat} {M:Int} (hs:Sep w Z.hl) (ok:Z.Ok fr N K M) {x:Nat} (hx:x<4294967296) {p:Pl} (hp:pget Z.S.l 1 x=some p) (hk:p.kind=2) (z mask:Int) (self:Bool) (e:Int)
  (hw:(¬(0<=z/\z<256)/\e=2)∨((0<=z/\z<256)/\¬(0<mask/\mask<=15)/\e=1)∨((0<=z/\z<256)/\(0<mask/\mask<=15)/\Q0f Z.S.l Z.tb x z.toNat=none/\e=6)) :
  Calls prog 81 #[.pointer (some ⟨Z.s,0,none⟩),.int .u32 x,.int .i64 z,.int .i64 mask,.bool self] w (Told w (.tuple #[.int .i64 0,.int .i64 e])):=by
 have ks:=Q0V hs ok.core hx hp hk;have hi:=(pget_some.1 hp).1;have Ao:=(pget_some.1 hp).2.2;have AA:(Z.tb (x%256)).at' z=if 0<=z/\z<256 then Q0f Z.S.l Z.tb x z.toNat else none:=by
  unfold TB.at';split
  ·rename_i h;rw [Q0g hp hk (by omega)]
  ·rfl
 obtain⟨ca,cb,Ca⟩:=Q3K ((Z.tb (x%256)).at' z);have HC:Hid (∀(w2:World) (g:Nat),Below w.heap.size w w2->TblZ Z p g w2->Calls prog 93 #[.agg #[.pointer (some ⟨g,0,none⟩),.int .u32 x,.int .i64 (p.fac:Int)],.int .i64 z] (w2.alloc (.cells #[.pointer (some ⟨g,0,none⟩),.int .u32 x,.int .i64 (p.fac:Int)] 191)) (fun r w4=>r=.returned (.tuple #[.agg #[.int .u32 ca,.int .i64 cb],.bool ((Z.tb (x%256)).at' z).isSome])/\∀o,Below w.heap.size w (w4.alloc o))):=fun w2 g Ag hg=>by
  have Ar:Below w2.heap.size w2 (w2.alloc (.cells #[.pointer (some ⟨g,0,none⟩),.int .u32 x,.int .i64 (p.fac:Int)] 191)):=(Below.refl _ _).alloc (J2y _) _;have BE:=Ag.alloc Ag.size (.cells #[.pointer (some ⟨g,0,none⟩),.int .u32 x,.int .i64 (p.fac:Int)] 191);have s2:=(hs.grown Ag).sep;have T:=(ok.tpi.x (p.fac:Int)).tt ok.core hi Ao hk (SP.sS (s2.grown Ar).sep) (hg.grown s2 Ar).c;refine (Q1t T (x:Int) (p.fac:Int) z fun e AM=>?_).mono ?_
  ·rw [AA] at AM;split at AM
   ·exact ok.fpi.low ok.core.inv.lok AM
   ·cases AM
  ·rw [Ca];rintro r w4 ⟨rfl,AC⟩;have DK:Below w.heap.size w w4:=BE.trans (AC.mono BE.size);exact⟨rfl,fun o=>DK.alloc DK.size o⟩
 have As:(decide (0<=z/\z<256)=false/\e=2)∨(decide (0<=z/\z<256)=true/\decide (0<mask/\mask<=15)=false/\e=1)∨(decide (0<=z/\z<256)=true/\decide (0<mask/\mask<=15)=true/\((Z.tb (x%256)).at' z).isSome=false/\e=6):=by
  rcases hw with ⟨h1,h2⟩|⟨h1,h2,h3⟩|⟨h1,h2,h3,h4⟩
  ·exact .inl ⟨decide_eq_false h1,h2⟩
  ·exact .inr (.inl ⟨decide_eq_true h1,decide_eq_false h2,h3⟩)
  ·exact .inr (.inr ⟨decide_eq_true h1,decide_eq_true h2,by rw [AA,if_pos h1,h3];rfl,h4⟩)
 have AW:Hid (∀W,Calls prog 92 #[.int .i64 z] W fun r w'=>r=.returned (.bool (decide (0<=z/\z<256)))/\W=w'):=fun W=>Q2Q W z
 have Bf:Hid (∀W,Calls prog 106 #[.int .i64 mask] W fun r w'=>r=.returned (.bool (decide (0<mask/\mask<=15)))/\W=w'):=fun W=>Q3J W mask
 generalize ((Z.tb (x%256)).at' z).isSome=full at *
 generalize decide (0<=z/\z<256)=bh at *
 generalize decide (0<mask/\mask<=15)=br at *
 clear hs ok hx hp hk hw hi Ao AA Ca;rcases As with ⟨rfl,rfl⟩|⟨rfl,rfl,rfl⟩|⟨rfl,rfl,rfl,rfl⟩
 ·go_enter func81,ntmps81;go_wp2_with fail;refine ks.mono ?_;rintro r w2 ⟨g,rfl,Ag,hg⟩;have kc:=HC.out w2 g Ag hg;clear Ag hg HC ks;go_wp2_with fail;refine kc.mono ?_;rintro r w4 ⟨rfl,hz⟩;have HZ:=Q0a (hz (.cells #[.int .u32 ca,.int .i64 cb] 72));have kh:=AW.out (w4.alloc (.cells #[.int .u32 ca,.int .i64 cb] 72));clear hz kc AW Bf;go_wp2_with fail;refine kh.mono ?_;rintro r w' ⟨rfl,rfl⟩;go_wp2_with fail
  first|exact⟨rfl,HZ.out⟩|(go_ret2;exact⟨rfl,HZ.out⟩)
 ·go_enter func81,ntmps81;go_wp2_with fail;refine ks.mono ?_;rintro r w2 ⟨g,rfl,Ag,hg⟩;have kc:=HC.out w2 g Ag hg;clear Ag hg HC ks;go_wp2_with fail;refine kc.mono ?_;rintro r w4 ⟨rfl,hz⟩;have HZ:=Q0a (hz (.cells #[.int .u32 ca,.int .i64 cb] 72));have kh:=AW.out (w4.alloc (.cells #[.int .u32 ca,.int .i64 cb] 72));have kr:=Bf.out (w4.alloc (.cells #[.int .u32 ca,.int .i64 cb] 72));clear hz kc AW Bf;go_wp2_with fail;refine kh.mono ?_;rintro r w' ⟨rfl,rfl⟩;go_wp2_with fail;refine kr.mono ?_;rintro r w' ⟨rfl,rfl⟩;go_wp2_with fail
  first|exact⟨rfl,HZ.out⟩|(go_ret2;exact⟨rfl,HZ.out⟩)
 ·go_enter func81,ntmps81;go_wp2_with fail;refine ks.mono ?_;rintro r w2 ⟨g,rfl,Ag,hg⟩;have kc:=HC.out w2 g Ag hg;clear Ag hg HC ks;go_wp2_with fail;refine kc.mono ?_;rintro r w4 ⟨rfl,hz⟩;have HZ:=Q0a (hz (.cells #[.int .u32 ca,.int .i64 cb] 72));have kh:=AW.out (w4.alloc (.cells #[.int .u32 ca,.int .i64 cb] 72));have kr:=Bf.out (w4.alloc (.cells #[.int .u32 ca,.int .i64 cb] 72));clear hz kc AW Bf;go_wp2_with fail;refine kh.mono ?_;rintro r w' ⟨rfl,rfl⟩;go_wp2_with fail;refine kr.mono ?_;rintro r w' ⟨rfl,rfl⟩;go_wp2_with fail
  first|exact⟨rfl,HZ.out⟩|(go_ret2;exact⟨rfl,HZ.out⟩)
theorem Q6w {w:World} {Z:SP} {fr:List Nat} {N K:Nat} {M:Int} (hs:Sep w Z.hl) (ok:Z.Ok fr N K M) {x:Nat} (hx:x<4294967296) (z mask:Int) (self:Bool) :
  Calls prog 81 #[.pointer (some ⟨Z.s,0,none⟩),.int .u32 x,.int .i64 z,.int .i64 mask,.bool self] w (RevR Z fr N K M x z mask self w):=by
 cases hp:pget Z.S.l 1 x with
 | none =>
  refine (Q5p hs ok.core hx z mask self 8 (by decide) (.inl ⟨hp,rfl⟩)).mono ?_;rintro r w' ⟨rfl,hb⟩;exact .inl ⟨8,rfl,hb,.inl ⟨hp,rfl⟩⟩
 | some p =>
  by_cases hk:p.kind=2
  ·by_cases hz:0<=z/\z<256
   ·by_cases hm:0<mask/\mask<=15
    ·cases he:Q0f Z.S.l Z.tb x z.toNat with
     | none =>
      refine (Q4h hs ok hx hp hk z mask self 6 (.inr (.inr ⟨hz,hm,he,rfl⟩))).mono ?_;rintro r w' ⟨rfl,hb⟩;exact .inl ⟨6,rfl,hb,.inr ⟨p,hp,.inr (.inr (.inr ⟨hk,hz,hm,he,rfl⟩))⟩⟩
     | some en =>
      have Ol:((z.toNat:Nat):Int)=z:=by omega
      have Gc:((mask.toNat:Nat):Int)=mask:=by omega
      have:=Z3k (s:=z.toNat) (m:=mask.toNat) hs ok hx hp hk (by omega) (by omega) (by omega) he self;rw [Ol,Gc] at this;exact this
    ·refine (Q4h hs ok hx hp hk z mask self 1 (.inr (.inl ⟨hz,hm,rfl⟩))).mono ?_;rintro r w' ⟨rfl,hb⟩;exact .inl ⟨1,rfl,hb,.inr ⟨p,hp,.inr (.inr (.inl ⟨hk,hz,hm,rfl⟩))⟩⟩
   ·refine (Q4h hs ok hx hp hk z mask self 2 (.inl ⟨hz,rfl⟩)).mono ?_;rintro r w' ⟨rfl,hb⟩;exact .inl ⟨2,rfl,hb,.inr ⟨p,hp,.inr (.inl ⟨hk,hz,rfl⟩)⟩⟩
  ·refine (Q5p hs ok.core hx z mask self 10 (by decide) (.inr ⟨p,hp,hk,rfl⟩)).mono ?_;rintro r w' ⟨rfl,hb⟩;exact .inl ⟨10,rfl,hb,.inr ⟨p,hp,.inl ⟨hk,rfl⟩⟩⟩
def J0K (Z:SP) (fr:List Nat) (N K:Nat) (M:Int) (x s h r:Nat) (par:Int) (w w':World):Prop:=∃Z',Z'.Ok fr N K (M+1)/\SameN Z Z'/\Z'.av.en=setA Z.av.en x s (some (h,r))/\(∃b,Z'.av.N=addN Z.F.N par (Z.F.next+1) b (x:Int) (s:Int))/\Z'.F.next=Z.F.next+1/\Step Z.hl Z'.hl w w'
def J2p (Z:SP) (x:Nat) (z:Int) (h:Nat) (r:Int) (er:Int):Prop:=
 (pget Z.S.l 1 x=none/\er=8)∨∃p,pget Z.S.l 1 x=some p/\((p.kind≠2/\er=10)∨(p.kind=2/\((¬(0<=z/\z<256)/\er=2)∨((0<=z/\z<256)/\((pget Z.S.l 1 h=none/\er=8) ∨
  ∃q,pget Z.S.l 1 h=some q/\((¬((0<r/\r<=15)/\(q.kind=8↔128<=z))/\er=1)∨(((0<r/\r<=15)/\(q.kind=8↔128<=z))/\Q0f Z.S.l Z.tb x z.toNat≠none/\er=7)))))))
def RootR (Z:SP) (fr:List Nat) (N K:Nat) (M:Int) (x:Nat) (z:Int) (h:Nat) (r:Int) (w:World) (er:Int) (w':World):Prop:=
 (er≠0/\J2p Z x z h r er/\Below w.heap.size w w') ∨
 ∃(s rn:Nat) (p q:Pl),z=(s:Int)/\r=(rn:Int)/\s<256/\1<=rn/\rn<=15/\pget Z.S.l 1 x=some p/\p.kind=2/\pget Z.S.l 1 h=some q/\(q.kind=8↔128<=s)/\Q0f Z.S.l Z.tb x s=none /\
  ((er=0/\J0K Z fr N K M x s h rn 0 w w')∨((er=4∨er=5)/\WhyL Z fr p.fac (x%256) s er/\∃P',Tried Z.S.P fr Z.S.l P'/\Step Z.hl (Z.setS (Z.S.setP P') Z.tb).hl w w'))
theorem Z8H {w w5:World} {Z:SP} {fr:List Nat} {N K:Nat} {M:Int} (ok:Z.Ok fr N K M) (hM:M+1<1099511627776) {x s h r:Nat} {p:Pl} (hx:x<4294967296) (hp:pget Z.S.l 1 x=some p) (hk:p.kind=2) (A7:s<256) (h0:Q0f Z.S.l Z.tb x s=none) {nd:Nat} (hc:Q6O Z.S.l s ⟨h,r,nd⟩)
  {S':CO} {t':TB} (T:TurnP Z.S fr N K Z.tb (p.fac:Int) (x%256) s (some ⟨h,r,nd⟩) S' t') (st:Step Z.hl (Z.setS S' (updT Z.tb (x%256) t')).hl w w5) {par:Int} (Bg:par=0∨∃m em,find Z.F.N par=some m/\Q0M Z.S.l Z.tb m=some em/\h=em.h/\r&&&em.r=r) {w6:World} (CV:Below w5.heap.size w5 w6) :
  w6.cell? ⟨Z.s,1,none⟩=some (.pointer (some ⟨Z.F.f,0,none⟩))/\Calls prog 105 #[.pointer (some ⟨Z.F.f,0,none⟩),.int .i64 par,.int .i64 x,.int .i64 s] w6 fun rv w'=>rv=.returned (.tuple #[.int .i64 (Z.F.next+1),.int .i64 0])/\J0K Z fr N K M x s h r par w w':=by
 have st6:=st.trans (st.sep.grown CV);have Aq:=ok.fpi.free ok.fo.n h0;have Cx:=ok.fpi.few ok.fo.n hp A7 h0;have LR:par=0∨∃e,find Z.F.N par=some e:=Bg.imp id fun ⟨m,_,h,_⟩=>⟨m,h⟩
 have Bq:=ok.next;refine⟨SP.c1 (Z:=Z.setS S' (updT Z.tb (x%256) t')) st6.sep,(Q8d (SP.sF (Z:=Z.setS S' (updT Z.tb (x%256) t')) st6.sep) ok.fo (par:=par) (sp:=(x:Int)) (sl:=(s:Int)) LR (by omega) (by omega) (by omega) (by omega) Aq (by show Z.F.next+1<_;omega) Cx).mono ?_⟩;rintro rv w' ⟨rfl,F',A,stf⟩;obtain⟨a1,a2,a3,a4⟩:=ok.added hp hk A7 h0 hc T Bg A;exact⟨rfl,_,a1,a2,a3,a4,A.next,st6.trans (SP.stepF (Z:=Z.setS S' (updT Z.tb (x%256) t')) st6.sep F' A.f stf)⟩
end Go.Proofs.YtfidemmgofcnmaaGreatDoor

/- SpaceMoves returns true at every input. No condition. Part of a proof. -/
import Derived.Test.YtlakjlmaboioiaaGreatDoorVa30
import Derived.Carry
import Derived.Test.YtlakjlmaboioiaaGreatDoorProg
set_option maxHeartbeats 20000000
set_option maxRecDepth 100000
set_option linter.unusedVariables false
namespace Go.Proofs.YtlakjlmaboioiaaGreatDoor
open Go.RowKit Go.Proofs.Tryz
theorem Z9w:∀r,r<16->∀m,r&&&m<16:=fun r h m=>J3t Nat.and_le_left h
theorem Z4h {P:Program} {w:World} {t:TypeId} {Z:Array Value} (hz:((P.info? t).bind (·.zero)).map Value.cells=some Z):(Instr.alloc t true (.tuple #[])).run P w=.ok (.pointer (some ⟨w.heap.size,0,none⟩)) (w.alloc (.cells Z t)):=by
 cases hi:P.info? t with
 | none=>simp [hi] at hz
 | some i =>
  cases MJ:i.zero with
  | none=>simp [hi,MJ] at hz
  | some z =>
   simp only [hi,MJ,Option.bind_some,J3V,J2v] at hz;subst hz;simp [Instr.alloc,zeroValue,typeInfo,hi,MJ,newVar,newRow]
theorem Q8F {P:Program} {ops:Array Oper} {rest:List Oper} {o:Oper} {a:Act} {w:World} {Q:Exit->Act->World->Prop} (hg:o.guard=none) (t:TypeId) (ho:o.op=.alloc t) (dst:Option Tmp) (GJ:o.dst=dst) (N:Nat) (hN:w.heap.size=N) (Z:Array Value)
  (hz:((P.info? t).bind (·.zero)).map Value.cells=some Z)
  (h:wpList P ops Q rest (a.put dst (.pointer (some ⟨N,0,none⟩))) (w.alloc (.cells Z t))):wpList P ops Q (o::rest) a w:=by
 subst GJ hN;refine wpList_plain hg fun K hK=>?_
 unfold Oper.wp execOp;simp only [ho,Z4h hz,Sem.run_bind,Sem.run_pure,Result.andThen_ok];exact hK _ _ h
def cpV (o:Option (Nat×Nat)):Nat×Nat:=o.getD (0,0)
theorem J1c (Z:SP) (x:Nat) {n:Nat} (hn:n<256):∃e:Int,Q5m Z.S.l Z.tb x (n:Int)=.tuple #[.agg #[.int .u32 ((cpV (Z.av.en x n)).1:Int),.int .i64 ((cpV (Z.av.en x n)).2:Int)],.int .i64 e]:=by
 cases hp:pget Z.S.l 1 x with
 | none =>
  have h0:Z.av.en x n=none:=by
   show (Q0f Z.S.l Z.tb x n).map Ent.c=none;unfold Q0f;rw [hp];rfl
  refine⟨8,?_⟩;rw [h0];unfold Q5m;rw [hp];rfl
 | some p =>
  by_cases hk:p.kind=2
  ·have:=Z2p (Z:=Z) (x:=x) (z:=(n:Int)) hp hk (by omega);rw [J3m] at this;rw [this];cases Z.av.en x n with
   | none=>exact⟨6,rfl⟩
   | some c=>exact⟨0,rfl⟩
  ·have h0:Z.av.en x n=none:=by
    show (Q0f Z.S.l Z.tb x n).map Ent.c=none;unfold Q0f;rw [hp];simp only;rw [if_neg (fun h=>hk h.1)];rfl
   refine⟨10,?_⟩;rw [h0];unfold Q5m;rw [hp];simp only;rw [if_neg hk];rfl
theorem J1d {x:Nat} {a a':AV} {next:Int} (k1:AvOk a next) {s0:Int} (D1:0<=s0) (hw:weak1 15 a (ownN a.N (x:Int) s0)=(a',true)) (u s:Nat):a'.en u s=if u=x/\s=s0.toNat then none else a.en u s:=by
 by_cases h0:ownN a.N (x:Int) s0=0
 ·exfalso;unfold weak1 at hw;cases hf:find a.N (ownN a.N (x:Int) s0) with
  | none=>rw [hf] at hw;cases hw
  | some n =>
   have:=(k1.ok.rng n (Q0b hf).1).1;rw [(Q0b hf).2,h0] at this;omega
 ·obtain⟨n,hn,e1,e2,e3⟩:=Z2i k1.ok h0;have hf:find a.N (ownN a.N (x:Int) s0)=some n:=by rw [e3];exact Q0g k1.ok.ids hn
  have W:=Q6J (m:=15) k1.ok k1.is hf;obtain⟨z,rfl⟩:=J3L D1;have AP:=W.en u s;rw [hw] at AP;have KN:=Q4V k1.ok hn u s;rw [e1,e2] at KN;rw [e3] at AP;rw [AP,J3m];by_cases hu:u=x/\s=z
  ·rw [if_pos hu,if_pos (KN.2 ⟨by omega,by omega⟩)];exact Z6L fun c hc=>(k1.r u s c hc).2
  ·rw [if_neg hu,if_neg];intro e;have:=KN.1 e;exact hu ⟨by omega,by omega⟩
theorem J1e {y:Nat} {a:AV} {nx:Int} (kk:AvOk a nx) (hy:y<4294967296) {x:Nat} {m:Mv} (ft:FitM a.en x y m) {c:Nat×Nat} (CV:a.en x m.src.toNat=some c) (b:Nat) :
  AvOk ⟨setA a.en y m.dst.toNat (some (c.1,c.2&&&m.r.toNat)),addN a.N (ownN a.N (x:Int) m.src) (nx+1) b (y:Int) m.dst⟩ (nx+1):=by
 have GJ:=ft.free;obtain⟨c0,G9,h4,Xl⟩:=ft.full;have A6:c=c0:=by
  rw [G9] at CV;exact (J3e CV).symm
 subst A6;obtain⟨nd,AD,q1,q2⟩:=kk.has x _ c CV;have hs:((m.src.toNat:Nat):Int)=m.src:=by have:=ft.src;omega
 have hd:((m.dst.toNat:Nat):Int)=m.dst:=by have:=ft.dst;omega
 rw [hs] at q2;have hid:ownN a.N (x:Int) m.src=nd.id:=by rw [<- q1,<- q2];exact Q1k kk.ok AD
 have Ar:∀e∈a.N,(e.q.sp,e.q.sl)≠((y:Int),m.dst):=fun e he h=>by
  obtain⟨c',AT⟩:=kk.is e he;have h1:e.q.sp=(y:Int):=congrArg Prod.fst h;have h2:e.q.sl=m.dst:=congrArg Prod.snd h;rw [h1,h2,J3m,GJ] at AT;cases AT
 have Be:ownN a.N (x:Int) m.src=0∨∃p,find a.N (ownN a.N (x:Int) m.src)=some p:=.inr ⟨nd,by rw [hid];exact Q0g kk.ok.ids AD⟩;have okN:=kk.ok.add b Be Ar (by omega) (by omega) ft.dst.1 ft.dst.2;have upd:∀e∈a.N,∃e'∈addN a.N (ownN a.N (x:Int) m.src) (nx+1) b (y:Int) m.dst,e'.q.sp=e.q.sp/\e'.q.sl=e.q.sl:=fun e he=>by
  have hf:=Q3n (par:=ownN a.N (x:Int) m.src) (sp:=(y:Int)) (sl:=m.dst) (b:=b) kk.ok e.id;have Ug:=kk.ok.rng e he;rw [if_neg (by omega),Q0g kk.ok.ids he] at hf;have hm:=(Q0b hf).1;refine⟨_,hm,?_,?_⟩ <;> (dsimp only;split <;> rfl)
 refine⟨okN,fun e he=>?_,fun h s c' AT=>?_,fun h s c' AT=>?_⟩
 ·show ∃c',setA a.en y m.dst.toNat _ e.q.sp.toNat e.q.sl.toNat=some c';unfold setA;by_cases hh:e.q.sp.toNat=y/\e.q.sl.toNat=m.dst.toNat
  ·rw [if_pos hh];exact⟨_,rfl⟩
  ·rw [if_neg hh];rcases Z9f he with ⟨e0,Ea,rfl⟩|rfl
   ·obtain⟨c',AT⟩:=kk.is e0 Ea;refine⟨c',?_⟩;rw [<- AT];dsimp only;split <;> rfl
   ·exact absurd ⟨by dsimp only;omega,rfl⟩ hh
 ·rcases Q1s AT with ⟨_,_,e3⟩|⟨_,e3⟩
  ·have e3:=J3e e3;have hr:=kk.r x _ c CV;rw [<- e3];have h5:=Z9w c.2 hr.2 m.r.toNat;dsimp only;omega
  ·exact kk.r h s c' e3
 ·rcases Q1s AT with ⟨e1,e2,_⟩|⟨_,e3⟩
  ·rw [e1,e2];exact⟨⟨nx+1,b,⟨(y:Int),m.dst,ownN a.N (x:Int) m.src,[]⟩⟩,J3b _ (J4o.2 rfl),rfl,hd.symm⟩
  ·obtain⟨e,he,g1,g2⟩:=kk.has h s c' e3;obtain⟨e',AL,g3,g4⟩:=upd e he;exact⟨e',AL,g3.trans g1,g4.trans g2⟩
section
variable {Z:SP} {fr:List Nat} {N K:Nat} {M:Int} {w w':World}
theorem Z9x (ok:Z.Ok fr N K M) {x y:Nat} (hy:y<4294967296) {m:Mv} (ft:FitM Z.av.en x y m) (h:MovedZ Z fr N K M x y 1 (fun _=>m) w w'):∃(Z':SP) (c:Nat×Nat),Z.av.en x m.src.toNat=some c/\Z'.Ok fr N K (M+1)/\SameN Z Z'/\Step Z.hl Z'.hl w w' /\
  ∀u s:Nat,Z'.av.en u s=if m.g=true/\u=x/\s=m.src.toNat then none else setA Z.av.en y m.dst.toNat (some (c.1,c.2&&&m.r.toNat)) u s:=by
 cases hg:m.g with
 | false =>
  obtain⟨Z',c,b,h1,h2,h3,h4,_,h6⟩:=h.one hg;refine⟨Z',c,h1,h3,h4,h6,fun u s=>?_⟩;rw [if_neg (by simp),h2]
 | true =>
  obtain⟨Z',c,b,a,h1,_,rfl,h3,h4,h5,_,h7⟩:=h.grant hg;refine⟨Z',c,h1,h4,h5,h7,fun u s=>?_⟩;have k1:=J1e ok.avOk hy ft h1 b;rw [J1d k1 ft.src.1 h3 u s];simp
structure MvT (ok:Bool) (m:Mv) (x y:Nat) (E E':Nat->Nat->Option (Nat×Nat)):Prop where
 no:ok=false->∀u s,E' u s=E u s
 rng:ok=true->(0<=m.src/\m.src<256)/\(0<=m.dst/\m.dst<256)
 yes:ok=true->∃c,E x m.src.toNat=some c/\c.2&&&4≠0/\c.2<16/\0<=m.r/\m.r<16/\E y m.dst.toNat=none/\∀u s:Nat,E' u s=if m.g=true/\u=x/\s=m.src.toNat then none else setA E y m.dst.toNat (some (c.1,c.2&&&m.r.toNat)) u s
def vC (E:Nat->Nat->Option (Nat×Nat)) (m:Mv) (x:Nat):Nat×Nat:=((cpV (E x m.src.toNat)).1,(cpV (E x m.src.toNat)).2&&&m.r.toNat)
theorem MvT.round {ok:Bool} {m:Mv} {x y:Nat} {E E':Nat->Nat->Option (Nat×Nat)} (T:MvT ok m x y E E') (k:Nat) {P1 P2:Bool} (h1:P1=(ok&&decide ((k:Int)=m.src)&&m.g)) (h2:P2=(ok&&decide ((k:Int)=m.dst))) :
  (P1=true->P2=true->x≠y)/\cpV (E' x k)=(if P2=true/\x=y then vC E m x else if P1=true then (0,0) else cpV (E x k))/\cpV (E' y k)=(if P2=true then vC E m x else if P1=true/\x=y then (0,0) else cpV (E y k)):=by
 subst h1 h2;cases ok with
 | false=>simp [T.no rfl]
 | true =>
  obtain⟨⟨s1,s2⟩,d1,d2⟩:=T.rng rfl;obtain⟨c,hc,_,_,_,_,hd,hE⟩:=T.yes rfl;have ks:(k:Int)=m.src↔k=m.src.toNat:=by omega
  have kd:(k:Int)=m.dst↔k=m.dst.toNat:=by omega
  rw [hE,hE];unfold setA vC;rw [hc];simp only [ks,kd,J3x,J2C,decide_eq_true_eq];generalize m.src.toNat=s at *
  generalize m.dst.toNat=d at *
  clear ks kd hE T s1 s2 d1 d2;by_cases q3:x=y
  ·subst q3;by_cases q1:k=s
   ·subst q1;by_cases q2:k=d
    ·exfalso;rw [q2,hd] at hc;cases hc
    ·cases m.g <;> simp [q2,cpV,hc]
   ·by_cases q2:k=d
    ·subst q2;cases m.g <;> simp [q1,cpV]
    ·cases m.g <;> simp [q1,q2,cpV]
  ·have q4:¬y=x:=fun h=>q3 h.symm
   by_cases q1:k=s
   ·subst q1;by_cases q2:k=d
    ·subst q2;cases m.g <;> simp [q3,q4,cpV,hc]
    ·cases m.g <;> simp [q2,q3,q4,cpV,hc]
   ·by_cases q2:k=d
    ·subst q2;cases m.g <;> simp [q1,q3,q4,cpV]
    ·cases m.g <;> simp [q1,q2,q3,cpV]
theorem Z7m (ok:Z.Ok fr N K M) {x y:Nat} (hy:y<4294967296) {m:Mv} {er:Int} (R:MoveR Z fr N K M x y 1 (fun _=>m) w er w'):∃Z',Z'.Ok fr N K (M+1)/\SameN Z Z'/\Step Z.hl Z'.hl w w'/\MvT (er==0) m x y Z.av.en Z'.av.en:=by
 have back:∀own,er≠0->BackZ Z fr N K y own w w'->∃Z',Z'.Ok fr N K (M+1)/\SameN Z Z'/\Step Z.hl Z'.hl w w'/\MvT (er==0) m x y Z.av.en Z'.av.en:=fun own he hb=>by
  obtain⟨Z',k1,k2,k3,k4⟩:=hb.ok ok;refine⟨Z',k1.mono (J2h _) (J2h _) (by omega),k3.toSameN,k4,fun _ u s=>by rw [k2],fun h=>?_,fun h=>?_⟩
  ·rw [beq_iff_eq] at h;exact absurd h he
  ·rw [beq_iff_eq] at h;exact absurd h he
 rcases R with ⟨he,_,own,hb⟩|⟨p1,p2,Bh,A0,A8,A2,Am,⟨rfl,hm⟩|⟨he,_,hb⟩⟩
 ·exact back own he hb
 ·have ft:FitM Z.av.en x y m:=(Am 0 (by omega)).1;have hr:=ft.r;obtain⟨Z',c,h1,h2,h3,h4,h5⟩:=Z9x ok hy ft hm;refine⟨Z',h2,h3,h4,fun h=>by simp at h,fun _=>⟨ft.src,ft.dst⟩,fun _=>⟨c,h1,?_,(ok.avOk.r _ _ _ h1).2,Int.le_of_lt hr.1,Int.lt_of_le_of_lt hr.2 (by decide),ft.free,h5⟩⟩;obtain⟨c0,G9,q1,_⟩:=ft.full;rw [h1] at G9;cases G9;exact q1
 ·exact back _ (by omega) hb
end
def Q3W (f:Nat->Nat×Nat):List Value:=(List.range 1024).map fun i=>if i%2=0 then .int .u32 ((f (i/2)).1:Int) else .int .i64 ((f (i/2)).2:Int)
def updF (f:Nat->Nat×Nat) (k:Nat) (v:Nat×Nat):Nat->Nat×Nat:=fun j=>if j=k then v else f j
theorem Q6Z (f:Nat->Nat×Nat) {k:Nat} (h:k<512):(Q3W f)[k*2]?=some (.int .u32 ((f k).1:Int)):=by
 unfold Q3W;rw [J3S,J3U (by omega)];simp
theorem Q4s (f:Nat->Nat×Nat) {k:Nat} (h:k<512):(Q3W f)[k*2+1]?=some (.int .i64 ((f k).2:Int)):=by
 unfold Q3W;rw [J3S,J3U (by omega)];have h1:(k*2+1)%2=1:=by omega
 have h2:(k*2+1)/2=k:=by omega
 simp [h1,h2]
theorem Z7n (f:Nat->Nat×Nat) (k:Nat) (v:Nat×Nat):((Q3W f).set (k*2) (.int .u32 (v.1:Int))).set (k*2+1) (.int .i64 (v.2:Int))=Q3W (updF f k v):=by
 apply J3P
 intro i;unfold Q3W;rw [J3O,J3O];simp only [J3S,J3T,J3Q,J3R];by_cases hi:i<1024
 ·rw [J3U hi];unfold updF;by_cases h1:k*2+1=i
  ·have h2:i%2=1:=by omega
   have h3:i/2=k:=by omega
   simp [h1,hi,h2,h3]
  ·by_cases h2:k*2=i
   ·have h3:i%2=0:=by omega
    have h4:i/2=k:=by omega
    simp [h1,h2,hi,h3,h4]
   ·have h3:¬i/2=k:=by omega
    simp [h1,h2,h3]
 ·have h1:(List.range 1024)[i]?=none:=J3W (by simp;omega);rw [h1];have h2:k*2+1=i->¬i<1024:=fun _=>hi
  have h3:k*2=i->¬i<1024:=fun _=>hi
  by_cases q1:k*2+1=i <;> by_cases q2:k*2=i <;> simp [q1,q2,hi]
def wasF (E:Nat->Nat->Option (Nat×Nat)) (x y k:Nat):Nat->Nat×Nat:=fun j=>if j<256 then (if j<k then cpV (E x j) else (0,0)) else if j-256<k then cpV (E y (j-256)) else (0,0)
theorem Z7o (E:Nat->Nat->Option (Nat×Nat)) (x y k:Nat) (hk:k<256):updF (updF (wasF E x y k) k (cpV (E x k))) (256+k) (cpV (E y k))=wasF E x y (k+1):=by
 funext j;unfold updF wasF;by_cases h1:j=256+k
 ·have h2:¬j<256:=by omega
  have h3:j-256=k:=by omega
  rw [if_pos h1,if_neg h2,h3,if_pos (by omega)]
 ·rw [if_neg h1];by_cases h2:j=k
  ·rw [if_pos h2,if_pos (by omega),if_pos (by omega),h2]
  ·rw [if_neg h2];by_cases h3:j<256
   ·rw [if_pos h3,if_pos h3];by_cases h4:j<k
    ·rw [if_pos h4,if_pos (by omega)]
    ·rw [if_neg h4,if_neg (by omega)]
   ·rw [if_neg h3,if_neg h3];by_cases h4:j-256<k
    ·rw [if_pos h4,if_pos (by omega)]
    ·rw [if_neg h4,if_neg (by omega)]
theorem J1S (E:Nat->Nat->Option (Nat×Nat)) (x y:Nat):wasF E x y 0=fun _=>(0,0):=by
 funext j;unfold wasF;simp
theorem Z7p (E:Nat->Nat->Option (Nat×Nat)) (x y:Nat) {n:Nat} (h:n<256):wasF E x y 256 n=cpV (E x n):=by
 unfold wasF;rw [if_pos h,if_pos h]
theorem Z9F (E:Nat->Nat->Option (Nat×Nat)) (x y:Nat) {n:Nat} (h:n<256):wasF E x y 256 (256+n)=cpV (E y n):=by
 unfold wasF;rw [if_neg (by omega),if_pos (by omega),show 256+n-256=n by omega]
theorem Z7q:((prog.info? 76).bind (·.zero)).map Value.cells=some (Q3W fun _=>(0,0)).toArray:=by kernel_rfl
def WsQ (Z:SP) (B:Nat) (f:Nat->Nat×Nat) (w0 wr:World):Prop:=Step [] (Z.hl++[(B,isC 76 (Q3W f))]) w0 wr
section
variable {Z:SP} {B:Nat} {f:Nat->Nat×Nat} {w0 w w':World}
theorem WsQ.new (st:Step [] Z.hl w0 w):WsQ Z w.heap.size (fun _=>(0,0)) w0 (w.alloc (.cells (Q3W fun _=>(0,0)).toArray 76)):=by
 have h:=st.trans (st.sep.new 76 (Q3W fun _=>(0,0)));exact h.perm (J5A _) (J4U (l₁:=[_]))
theorem WsQ.sep (h:WsQ Z B f w0 w):Sep w Z.hl:=(Step.sep h).left
theorem WsQ.grown (h:WsQ Z B f w0 w) (hb:Below w.heap.size w w'):WsQ Z B f w0 w':=Step.trans h ((Step.sep h).grown hb)
theorem WsQ.cells (h:WsQ Z B f w0 w):Cells w B 76 (Q3W f):=(Step.sep h).cells (J3b _ (J4o.2 rfl))
theorem WsQ.below (h:WsQ Z B f w0 w):Below w0.heap.size w0 w:=Step.below h (J2h _) (fun b hb=>by simp at hb)
theorem WsQ.put (h:WsQ Z B f w0 w) (k:Nat) (v:Nat×Nat):WsQ Z B (updF f k v) w0 ((w.setCell ⟨B,k*2,none⟩ (.int .u32 (v.1:Int))).setCell ⟨B,k*2+1,none⟩ (.int .i64 (v.2:Int))):=by
 have h1:=Sep.set (A:=Z.hl) (B:=[]) (Step.sep h) (k*2) (.int .u32 (v.1:Int));have h2:=Sep.set (A:=Z.hl) (B:=[]) h1.sep (k*2+1) (.int .i64 (v.2:Int));have:=(Step.trans h h1).trans h2;rw [Z7n] at this;exact this
theorem WsQ.step {Z':SP} (h:WsQ Z B f w0 w) (st:Step Z.hl Z'.hl w w'):WsQ Z' B f w0 w':=by
 have:=Step.frame [] [(B,isC 76 (Q3W f))] (Step.sep h) st;exact Step.trans h this
end
section
variable {Z:SP} {fr:List Nat} {N K:Nat} {M:Int} {B:Nat} {f:Nat->Nat×Nat} {w0 w w':World}
theorem lkS (hs:Sep w Z.hl) (ok:Z.Ok fr N K M) {x:Nat} (hx:x<4294967296) {n:Nat} (hn:n<256):∃e:Int,Calls prog 21 #[.pointer (some ⟨Z.s,0,none⟩),.int .u32 x,.int .i64 n] w (Told w (.tuple #[.agg #[.int .u32 ((cpV (Z.av.en x n)).1:Int),.int .i64 ((cpV (Z.av.en x n)).2:Int)],.int .i64 e])):=by
 obtain⟨e,he⟩:=J1c Z x hn;have:=Q6F hs ok hx (n:Int);rw [he] at this;exact⟨e,this⟩
end
theorem Q5s (w:World) (T:TypeId) (c d:List Value):Below w.heap.size w ((w.alloc (.cells c.toArray T)).alloc (.cells d.toArray T)).drew/\Cells ((w.alloc (.cells c.toArray T)).alloc (.cells d.toArray T)).drew w.heap.size T c/\Cells ((w.alloc (.cells c.toArray T)).alloc (.cells d.toArray T)).drew (w.heap.size+1) T d:=by
 have h:(w.alloc (.cells c.toArray T)).heap.size=w.heap.size+1:=by simp
 have h2:=Cells.new (w.alloc (.cells c.toArray T)) T d;rw [h] at h2;have hb:Below w.heap.size w (w.alloc (.cells c.toArray T)):=(Below.refl _ _).alloc (J2h _) _;exact⟨(hb.alloc hb.size _).drew,((Cells.new w T c).alloc _).drew,h2.drew⟩
theorem bal_ {w W:World} (h:Below w.heap.size w W) (o:Obj):Below w.heap.size w (W.alloc o):=h.alloc h.size o
def BoxQ (w5:World) (Ba Bb b1 b2:Nat) (va vb p q:Nat×Nat) (wd:World):Prop:=Below w5.heap.size w5 wd/\Cells wd Ba 35 [.int .u32 (va.1:Int),.int .i64 (va.2:Int)]/\Cells wd Bb 35 [.int .u32 (vb.1:Int),.int .i64 (vb.2:Int)]/\Cells wd b1 35 [.int .u32 (p.1:Int),.int .i64 (p.2:Int)]/\Cells wd b2 35 [.int .u32 (q.1:Int),.int .i64 (q.2:Int)]
theorem BoxQ.drew {w5:World} {Ba Bb b1 b2:Nat} {va vb p q:Nat×Nat} {wd:World} (h:BoxQ w5 Ba Bb b1 b2 va vb p q wd):BoxQ w5 Ba Bb b1 b2 va vb p q wd.drew:=⟨h.1.drew,h.2.1.drew,h.2.2.1.drew,h.2.2.2.1.drew,h.2.2.2.2.drew⟩
theorem BoxQ.set1 {w5:World} {Ba Bb b1 b2:Nat} {va vb p q:Nat×Nat} {wd:World} (h:BoxQ w5 Ba Bb b1 b2 va vb p q wd) (s:b1≠b2/\Ba≠b1/\Bb≠b1/\Ba≠b2/\Bb≠b2/\w5.heap.size<=b1/\w5.heap.size<=b2) (n:Nat×Nat):BoxQ w5 Ba Bb b1 b2 va vb n q ((wd.setCell ⟨b1,0,none⟩ (.int .u32 (n.1:Int))).setCell ⟨b1,1,none⟩ (.int .i64 (n.2:Int))):=
 ⟨(h.1.setCell s.2.2.2.2.2.1 _).setCell s.2.2.2.2.2.1 _,(h.2.1.set_other ⟨b1,0,none⟩ _ s.2.1).set_other ⟨b1,1,none⟩ _ s.2.1,(h.2.2.1.set_other ⟨b1,0,none⟩ _ s.2.2.1).set_other ⟨b1,1,none⟩ _ s.2.2.1,
  (h.2.2.2.1.set 0 (.int .u32 (n.1:Int))).set 1 (.int .i64 (n.2:Int)),(h.2.2.2.2.set_other ⟨b1,0,none⟩ _ s.1.symm).set_other ⟨b1,1,none⟩ _ s.1.symm⟩
theorem BoxQ.set2 {w5:World} {Ba Bb b1 b2:Nat} {va vb p q:Nat×Nat} {wd:World} (h:BoxQ w5 Ba Bb b1 b2 va vb p q wd) (s:b1≠b2/\Ba≠b1/\Bb≠b1/\Ba≠b2/\Bb≠b2/\w5.heap.size<=b1/\w5.heap.size<=b2) (n:Nat×Nat):BoxQ w5 Ba Bb b1 b2 va vb p n ((wd.setCell ⟨b2,0,none⟩ (.int .u32 (n.1:Int))).setCell ⟨b2,1,none⟩ (.int .i64 (n.2:Int))):=
 ⟨(h.1.setCell s.2.2.2.2.2.2 _).setCell s.2.2.2.2.2.2 _,(h.2.1.set_other ⟨b2,0,none⟩ _ s.2.2.2.1).set_other ⟨b2,1,none⟩ _ s.2.2.2.1,(h.2.2.1.set_other ⟨b2,0,none⟩ _ s.2.2.2.2.1).set_other ⟨b2,1,none⟩ _ s.2.2.2.2.1,
  (h.2.2.2.1.set_other ⟨b2,0,none⟩ _ s.1).set_other ⟨b2,1,none⟩ _ s.1,(h.2.2.2.2.set 0 (.int .u32 (n.1:Int))).set 1 (.int .i64 (n.2:Int))⟩
theorem Q7f {w:World} (C3:Env w) (m:Nat) (hm:m<65536) (a0:Option Addr) (len cap:Nat) (A:Nat->A17) (hA:IsA17 w a0 len A) (tk:Nat) (AW:tk<256) (uk:Nat) (huk:uk<256) (mv:Mv) (BR:mv.Wf) :
  Calls prog 7 #[.int .u16 m,.slice a0 len cap,.int .u8 tk,.int .u8 uk,.agg #[.int .i64 mv.src,.int .i64 mv.dst,.int .i64 mv.r,.bool mv.g]] w (Told w (.bool true)):=by
 generalize hW1:w.alloc (.cells #[.int .i64 mv.src,.int .i64 mv.dst,.int .i64 mv.r,.bool mv.g] 39)=W1;have Bz:Below w.heap.size w W1:=by rw [<- hW1];exact (Below.refl w.heap.size w).alloc (J2h _) _
 have Cy:Hid (∀V,Below W1.heap.size W1 V->Cells V w.heap.size 39 mv.cells):=fun V hb=>by
  subst hW1;exact (Cells.new w 39 mv.cells).same (hb.block _ (by simp))
 have ka:=Q6T (C3.below Bz);obtain⟨G6,Ej,KD,Ki⟩:=Z0k (m:=m);generalize (64+m%65473:Nat)=lm at *
 have Hb:Hid (∀W,Below w.heap.size w W->Calls prog 26 #[.slice a0 len cap] W fun r w'=>r=.returned (.bool (fewV A len))/\W=w'):=fun W hb=>Z7d W a0 len cap A (hA.below hb)
 have Fc:Hid (fewV A len=true->∀W,Below w.heap.size w W->Calls prog 27 #[.int .i64 lm,.slice a0 len cap] W fun r w'=>∃s,r=.returned (.pointer (some ⟨s,0,none⟩))/\AtB s 61 60 15360 W w'):=fun hf W hb=>by
  unfold fewV at hf;have hf:=of_decide_eq_true hf;exact Z0j (C3.below hb) _ (by omega) (by omega) a0 len cap A hf.1 (hA.below hb) hf.2
 have Bg:=Q0a Bz;have KE:=Q0a G6;have Hq:=Q0a Ej;clear hA C3 G6 Ej KD Ki Bz;have F1:(0:Int)<=(m:Int):=by omega
 have D2:(m:Int)<65536:=by omega
 have TG:=Q0a BR;clear BR;obtain⟨src,dst,r,g⟩:=mv;dsimp only at *
 go_enter func7,ntmps7;go_wp2_with fail
 try rw [hW1]
 clear hW1;refine ka.mono ?_;rintro rv w0 ⟨rfl,JT⟩;have B5:=Q0a JT;have DX:Hid (Below w.heap.size w w0):=Bg.out.trans (JT.mono Bg.out.size);have kf:=Hb.out w0 DX.out;clear JT ka Hb;go_wp2_with fail;refine kf.mono ?_;rintro rv w0' ⟨rfl,rfl⟩;clear kf;generalize fewV A len=fv at *
 cases fv with
 | false =>
  clear Fc;go_wp2_with fail
  first|exact⟨rfl,DX.out⟩|(go_ret;exact⟨rfl,DX.out⟩)
 | true =>
  have kb:=Fc.out rfl w0 DX.out;clear Fc;go_wp2_with fail
  first|rw [Hq.out]|rw [KE.out]
  refine kb.mono ?_;rintro rv w1 ⟨s,rfl,Z,fr,rfl,ok,-,st⟩;have kx:=Q8D st.sep ok 2 (tk:Int) ⟨by omega,by omega⟩;have TC:Hid (∀V,Sep V Z.hl->Calls prog 31 #[.pointer (some ⟨Z.s,0,none⟩),.int .i64 2,.int .i64 uk] V (Told V (.int .u32 ((nthV Z.S.l 2 (uk:Int):Nat):Int)))):=fun V hs=>Q8D hs ok 2 (uk:Int) ⟨by omega,by omega⟩
  have C9:=Q8C ok.core.inv.lok 2 (tk:Int);have ND:=Q8C ok.core.inv.lok 2 (uk:Int);have Ct:=Q0a ok;have Bq:=Q0a st;have UQ:(0:Int)<=(tk:Int):=by omega
  have Wt:(tk:Int)<256:=by omega
  have Ub:(0:Int)<=(uk:Int):=by omega
  have UZ:(uk:Int)<256:=by omega
  clear st ok kb;go_wp2_with fail;refine kx.mono ?_;rintro rv w2 ⟨rfl,Af⟩;have CK:=Q0a (Bq.out.trans (Bq.out.sep.grown Af));have ky:=TC.out w2 CK.out.sep;clear kx Af Bq TC;go_wp2_with fail;refine ky.mono ?_;rintro rv w3 ⟨rfl,As⟩;have No:=Q0a (CK.out.trans (CK.out.sep.grown As));clear ky As CK;generalize nthV Z.S.l 2 (tk:Int)=x at *
  generalize nthV Z.S.l 2 (uk:Int)=y at *
  have Cj:(0:Int)<=(x:Int):=by omega
  have Dg:(x:Int)<4294967296:=by omega
  have Rj:(0:Int)<=(y:Int):=by omega
  have RC:(y:Int)<4294967296:=by omega
  have HQ:=Q0a (WsQ.new No.out);clear No;go_upto_region 9 with fail;have hz:=Z7q;generalize hZ:(Q3W fun _=>(0,0)).toArray=ZC at *
  iterate 12 (first|refine Q8F rfl 76 rfl _ rfl w3.heap.size rfl ZC hz ?_|go_step)
  generalize SB:w3.alloc (.cells ZC 76)=w4 at *
  generalize hB:w3.heap.size=B at *
  clear SB hB hz hZ;rw [<- J1S Z.av.en x y] at HQ;have Hu:=Q0a HQ.out;clear HQ;go_wp2_with fail
  go_loopg [15] 256 (fun gk iv wr=>∃k:Nat,iv=.int .i64 k/\k+gk=256/\WsQ Z B (wasF Z.av.en x y k) w0 wr)
  case atStart=>exact⟨0,rfl,by omega,Hu.out⟩
  case round =>
   clear Hu;obtain⟨k,rfl,A7,hq⟩:=hrel;have Bi:=Q0a A7;have By:(0:Int)<=(k:Int):=by omega
   by_cases Ab:k<256
   ·have A0:(k:Int)<256:=by omega
    obtain⟨e,kl⟩:=lkS hq.sep Ct.out C9 Ab;have HQ:=Q0a hq;clear A7 hq;generalize hvx:cpV (Z.av.en x k)=vx at *
    generalize hvy:cpV (Z.av.en y k)=vy at *
    go_wp2_with fail;refine kl.mono ?_;rintro rv w5 ⟨rfl,AH⟩;have Iz:=HQ.out.grown AH;have J3:=Iz.cells;have EF:=Q0a Iz;have z0:=J3.cell _ _ (Q6Z (wasF Z.av.en x y k) (k:=k) (by omega));have z1:=J3.cell _ _ (Q4s (wasF Z.av.en x y k) (k:=k) (by omega));have y0:=J3.free (k*2);have y1:=J3.free (k*2+1);clear kl AH Iz J3 HQ;go_upto_region 14 with fail;have T6:=EF.out.put k vx;have P0:=Q0a T6;clear z0 z1 y0 y1 T6 EF;generalize (w5.setCell ⟨B,k*2,none⟩ (.int .u32 (vx.1:Int))).setCell ⟨B,k*2+1,none⟩ (.int .i64 (vx.2:Int))=w6 at *
    obtain⟨e2,kl⟩:=lkS P0.out.sep Ct.out ND Ab;rw [hvy] at kl;go_wp2_with fail;refine kl.mono ?_;rintro rv w7 ⟨rfl,CT⟩;have NS:=P0.out.grown CT;have J8:=NS.cells;have UE:=Q0a NS;have ek:(256+k)*2=512+k*2:=by omega
    have z0:=J8.cell _ _ (Q6Z (updF (wasF Z.av.en x y k) k vx) (k:=256+k) (by omega));have z1:=J8.cell _ _ (Q4s (updF (wasF Z.av.en x y k) k vx) (k:=256+k) (by omega));have y0:=J8.free (512+k*2);have y1:=J8.free (512+k*2+1);rw [ek] at z0 z1;have hn:=Z7o Z.av.en x y k Ab;rw [hvx,hvy] at hn;have LK:=NS.put (256+k) vy;rw [hn,ek] at LK;have VQ:=Q0a LK;clear kl CT NS J8 P0 UE LK hn ek hvx hvy;go_wp2_with fail;go_roundg (256-(k+1))
    case measure=>have:=Bi.out;omega
    case rel=>exact⟨k+1,by go_num,by have:=Bi.out;omega,VQ.out⟩
   ·obtain rfl:k=256:=by omega
    have HQ:=Q0a hq;obtain⟨k0,k1,k2,k3⟩:=(fun hc:Cells wr w.heap.size 39 _=>And.intro (hc.cell 0 _ rfl) (And.intro (hc.cell 1 _ rfl) (And.intro (hc.cell 2 _ rfl) (hc.cell 3 _ rfl)))) (Cy.out wr (B5.out.trans (hq.below.mono B5.out.size)));clear A7 hq Bi;have RG:Hid (∀W,WsQ Z B (wasF Z.av.en x y 256) w0 W->Calls prog 19 #[.pointer (some ⟨Z.s,0,none⟩),.int .u32 x,.int .u32 y,.slice (some ⟨W.heap.size,0,none⟩) 1 1] (W.alloc (.cells #[.int .i64 src,.int .i64 dst,.int .i64 r,.bool g] 39)) fun rv w'=>∃er:Int,rv=.returned (.int .i64 er)/\∃Z' M',Z'.s=Z.s/\Z'.Ok fr 61 60 M'/\WsQ Z' B (wasF Z.av.en x y 256) w0 w'/\MvT (er==0) ⟨src,dst,r,g⟩ x y Z.av.en Z'.av.en):=fun W hW=>by
     have hb:Below W.heap.size W (W.alloc (.cells #[.int .i64 src,.int .i64 dst,.int .i64 r,.bool g] 39)):=(Below.refl _ _).alloc (J2h _) _;refine (Q2L (hW.grown hb).sep Ct.out (by omega) C9 ND (n:=1) (by omega) (J2h _) (Q5o hW.sep ⟨src,dst,r,g⟩ TG.out)).mono ?_;rintro rv w' ⟨er,rfl,R⟩;obtain⟨Z',k1,k2,k3,k4⟩:=Z7m Ct.out ND R;exact⟨er,rfl,Z',_,k2.s,k1,(hW.grown hb).step k3,k4⟩
    have km:=RG.out wr HQ.out;have VB:Hid (Below w0.heap.size w0 wr):=HQ.out.below;clear RG HQ Ct;go_wp2_with fail;refine km.mono ?_;rintro rv w5 ⟨er,rfl,Z',M',KH,ok',Iz,T⟩;have EF:=Q0a Iz;have Df:=Q0a ok';have HT:=Q0a T;have LV:=Q0a KH;have AG:Hid (∀V,Below w5.heap.size w5 V->V.cell? ⟨w.heap.size,0,none⟩=some (.int .i64 src)/\V.cell? ⟨w.heap.size,1,none⟩=some (.int .i64 dst)/\V.cell? ⟨w.heap.size,2,none⟩=some (.int .i64 r)/\V.cell? ⟨w.heap.size,3,none⟩=some (.bool g)):=fun V hb=>by
     have hc:=Cy.out V (B5.out.trans ((EF.out.grown hb).below.mono B5.out.size));exact⟨hc.cell 0 _ rfl,hc.cell 1 _ rfl,hc.cell 2 _ rfl,hc.cell 3 _ rfl⟩
    have Gh:Hid (∀V,Below w5.heap.size w5 V->Cells V B 76 (Q3W (wasF Z.av.en x y 256))):=fun V hb=>(EF.out.grown hb).cells
    clear km Iz ok' T KH k0 k1 k2 k3 Cy TG VB;go_upto_region 16 with fail;obtain⟨k0,k1,k2,k3⟩:=AG.out w5 (Below.refl _ _)
    go_cut [115] from 75 to 115 (fun bb wc=>bb=.bool false/\wc=w5)
    case first =>
     by_cases he:er=0
     ·subst he;obtain⟨⟨s0,s1⟩,d0,d1⟩:=HT.out.rng rfl;obtain⟨c,hc,h4,GM,r0,r1,hd,-⟩:=HT.out.yes rfl;dsimp only at s0 s1 d0 d1 hc hd r0 r1;obtain⟨sn,rfl⟩:=J3L s0;obtain⟨dn,rfl⟩:=J3L d0;rw [J3m] at hc hd;have hC:=Gh.out w5 (Below.refl _ _);have za:=hC.cell _ _ (Q4s _ (k:=sn) (by omega));have zb:=hC.cell _ _ (Q4s _ (k:=256+dn) (by omega));have ek:(256+dn)*2+1=512+dn*2+1:=by omega
      rw [Z7p _ _ _ (by omega),hc] at za;rw [Z9F _ _ _ (by omega),hd,ek] at zb;have ba:=Q7h c.2 4 (by omega) (by omega);obtain⟨q4,Lo⟩:∃q:Nat,q=c.2&&&4:=⟨_,rfl⟩
      have h5:q4≠0:=by rw [Lo];exact h4
      obtain⟨z4,QF⟩:∃z:Int,z=(q4:Int):=⟨_,rfl⟩
      have b4:bits .and .i64 (c.2:Int) 4=z4:=by rw [QF,Lo];exact ba
      have b5:(bits .and .i64 (c.2:Int) 4==0)=false:=by rw [b4];simp;omega
      have z1:w5.cell? ⟨B,sn*2+1,none⟩=some (.int .i64 (c.2:Int)):=za;have z2:w5.cell? ⟨B,512+dn*2+1,none⟩=some (.int .i64 0):=zb;clear HT EF Df hC hc hd h4 ek h5 Lo za zb ba QF b4;generalize c.2=cr at *
      have f1:decide ((sn:Int)<0)=false:=decide_eq_false (by omega);have f2:decide (255<(sn:Int))=false:=decide_eq_false (by omega);have f3:decide ((dn:Int)<0)=false:=decide_eq_false (by omega);have f4:decide (255<(dn:Int))=false:=decide_eq_false (by omega);go_wp2_with fail;go_meet;exact⟨rfl,rfl⟩
     ·have Ed:(er==0)=false:=by simp [he]
      clear HT EF Df;go_wp2_with fail;go_meet;exact⟨rfl,rfl⟩
    obtain⟨rfl,Rr⟩:=hcut;subst wc;clear k0 k1 k2 k3;go_wp2_with fail
    go_loopg [17] 256 (fun gk iv wr=>∃k:Nat,iv=.int .i64 k/\k+gk=256/\Below w5.heap.size w5 wr)
    case atStart=>exact⟨0,rfl,by omega,Below.refl _ _⟩
    case round =>
     obtain⟨k,rfl,A7,hb⟩:=hrel;have Bi:=Q0a A7;have HB:=Q0a hb;have By:(0:Int)<=(k:Int):=by omega
     by_cases Ab:k<256
     ·have A0:(k:Int)<256:=by omega
      obtain⟨e,kl⟩:=lkS (EF.out.grown hb).sep Df.out C9 Ab;have Ol:Hid (∀V,Below wr.heap.size wr V->∃e:Int,Calls prog 21 #[.pointer (some ⟨Z'.s,0,none⟩),.int .u32 y,.int .i64 k] V (Told V (.tuple #[.agg #[.int .u32 ((cpV (Z'.av.en y k)).1:Int),.int .i64 ((cpV (Z'.av.en y k)).2:Int)],.int .i64 e]))):=fun V hv=>lkS ((EF.out.grown HB.out).grown hv).sep Df.out ND Ab
      obtain⟨P1,Pc⟩:∃b,b=((er==0)&&decide ((k:Int)=src)&&g):=⟨_,rfl⟩
      obtain⟨P2,Qq⟩:∃b,b=((er==0)&&decide ((k:Int)=dst)):=⟨_,rfl⟩
      have HR:=Q0a (HT.out.round k Pc Qq);have K5:=Q0a Pc;have Iq:=Q0a Qq;rw [LV.out] at kl Ol;obtain⟨va,Q5⟩:∃v,v=cpV (Z'.av.en x k):=⟨_,rfl⟩
      obtain⟨vb,FX⟩:∃v,v=cpV (Z'.av.en y k):=⟨_,rfl⟩
      rw [<- Q5] at kl;rw [<- FX] at Ol;rw [<- Q5,<- FX] at HR;clear A7 hb Pc Qq Q5 FX;go_wp2_with fail;refine kl.mono ?_;rintro rv w6 ⟨rfl,CC⟩;have CT:=CC.alloc CC.size (.cells #[.int .u32 (va.1:Int),.int .i64 (va.2:Int)] 35);have F8:=Q0a CT;have HA:=Q0a (Cells.new w6 35 [.int .u32 (va.1:Int),.int .i64 (va.2:Int)]);obtain⟨e2,Rw⟩:=Ol.out _ CT;clear CC CT kl Ol;go_upto_region 22 with fail;generalize w6.alloc (.cells #[.int .u32 (va.1:Int),.int .i64 (va.2:Int)] 35)=w7 at *
      generalize w6.heap.size=Ba at *
      go_wp2_with fail;refine Rw.mono ?_;rintro rv w8 ⟨rfl,Fo⟩;have LF:=Fo.alloc Fo.size (.cells #[.int .u32 (vb.1:Int),.int .i64 (vb.2:Int)] 35);have Md:=Q0a (HA.out.same (LF.block Ba HA.out.lt));have Ic:=Q0a (Cells.new w8 35 [.int .u32 (vb.1:Int),.int .i64 (vb.2:Int)]);have G3:Hid (Below w5.heap.size w5 _):=HB.out.trans ((F8.out.trans (LF.mono F8.out.size)).mono HB.out.size);clear Fo LF Rw HA F8;go_upto_region 23 with fail;generalize w8.alloc (.cells #[.int .u32 (vb.1:Int),.int .i64 (vb.2:Int)] 35)=w9 at *
      generalize w8.heap.size=Bb at *
      have L7:=Gh.out w9 G3.out;have Ju:Hid (∀V,Below w9.heap.size w9 V->Cells V B 76 (Q3W (wasF Z.av.en x y 256))):=fun V hv=>Gh.out V (G3.out.trans (hv.mono G3.out.size))
      have z0:=L7.cell _ _ (Q6Z _ (k:=k) (by omega));have z1:=L7.cell _ _ (Q4s _ (k:=k) (by omega));have zc:=L7.cell _ _ (Q6Z _ (k:=256+k) (by omega));have zd:=L7.cell _ _ (Q4s _ (k:=256+k) (by omega));have ek:(256+k)*2=512+k*2:=by omega
      rw [Z7p _ _ _ Ab] at z0 z1;rw [Z9F _ _ _ Ab,ek] at zc zd;generalize Jr:cpV (Z.av.en x k)=pv at *
      generalize hqv:cpV (Z.av.en y k)=qv at *
      have Ru:Hid (∀V,Below w9.heap.size w9 V->V.cell? ⟨B,k*2,none⟩=some (.int .u32 (pv.1:Int))/\V.cell? ⟨B,k*2+1,none⟩=some (.int .i64 (pv.2:Int))/\V.cell? ⟨B,512+k*2,none⟩=some (.int .u32 (qv.1:Int))/\V.cell? ⟨B,512+k*2+1,none⟩=some (.int .i64 (qv.2:Int))):=fun V hv =>
       have he:=hv.block B L7.lt
       ⟨(World.cell?_of_block (w:=w9) he).trans z0,(World.cell?_of_block (w:=w9) he).trans z1,(World.cell?_of_block (w:=w9) he).trans zc,(World.cell?_of_block (w:=w9) he).trans zd⟩
      have LC:Hid (Below w9.heap.size w9 w9):=Below.refl _ _;clear L7 ek z0 z1 zc zd
      go_cut [22,23] from 134 to 141 (fun aa bb wd=>∃b1 b2:Nat,aa=.pointer (some ⟨b1,0,none⟩)/\bb=.pointer (some ⟨b2,0,none⟩)/\b1≠b2/\Below w9.heap.size w9 wd/\w9.heap.size<=b1/\w9.heap.size<=b2/\Cells wd b1 35 [.int .u32 (pv.1:Int),.int .i64 (pv.2:Int)]/\Cells wd b2 35 [.int .u32 (qv.1:Int),.int .i64 (qv.2:Int)])
      case first =>
       clear Md Ic G3 HR EF Df HT Gh Ju AG
       first
       | go_region_held3 (fun V=>V.cell? ⟨B,k*2,none⟩=some (.int .u32 (pv.1:Int))/\V.cell? ⟨B,k*2+1,none⟩=some (.int .i64 (pv.2:Int))/\V.cell? ⟨B,512+k*2,none⟩=some (.int .u32 (qv.1:Int))/\V.cell? ⟨B,512+k*2+1,none⟩=some (.int .i64 (qv.2:Int)))
        (first|(refine Ru.out _ ?_;repeat (first|exact LC.out|refine Below.drew ?_|refine bal_ ?_ _|refine Below.setCell ?_ (by simp) _)))
        (fail)
       | fail
       all_goals (go_wp2_with fail;go_meet;first|exact⟨_,_,rfl,rfl,by omega,(Q5s w9 _ [.int .u32 (pv.1:Int),.int .i64 (pv.2:Int)] [.int .u32 (qv.1:Int),.int .i64 (qv.2:Int)]).1,J2h _,by omega,(Q5s w9 _ [.int .u32 (pv.1:Int),.int .i64 (pv.2:Int)] [.int .u32 (qv.1:Int),.int .i64 (qv.2:Int)]).2.1,(Q5s w9 _ [.int .u32 (pv.1:Int),.int .i64 (pv.2:Int)] [.int .u32 (qv.1:Int),.int .i64 (qv.2:Int)]).2.2⟩|exact⟨_,_,rfl,rfl,by omega,(Q5s w9 _ [.int .u32 (qv.1:Int),.int .i64 (qv.2:Int)] [.int .u32 (pv.1:Int),.int .i64 (pv.2:Int)]).1,by omega,J2h _,(Q5s w9 _ [.int .u32 (qv.1:Int),.int .i64 (qv.2:Int)] [.int .u32 (pv.1:Int),.int .i64 (pv.2:Int)]).2.2,(Q5s w9 _ [.int .u32 (qv.1:Int),.int .i64 (qv.2:Int)] [.int .u32 (pv.1:Int),.int .i64 (pv.2:Int)]).2.1⟩)
      obtain⟨b1,b2,rfl,rfl,Aa,EM,Av,Af,Cf,B6⟩:=hcut;obtain⟨w10,Ql⟩:∃x,x=wc:=⟨_,rfl⟩
      subst Ql;have Oc:=Q0a (Md.out.same (EM.block Ba Md.out.lt));have NM:=Q0a (Ic.out.same (EM.block Bb Ic.out.lt));have DR:Hid (Ba<b1/\Ba<b2/\Bb<b1/\Bb<b2/\w5.heap.size<=b1/\w5.heap.size<=b2):=by
       have h1:=Md.out.lt;have h2:=Ic.out.lt;have h3:=G3.out.size;refine Q0a ?_;omega
      have Pv:=Q0a (G3.out.trans (EM.mono G3.out.size));have Jk:=Q0a Cf;have Eu:=Q0a B6;clear EM Av Af Cf B6 Md Ic G3 Ru LC Jr hqv Ju;have Ju:Hid True:=trivial;obtain⟨k0,k1,k2,k3⟩:=AG.out w10 Pv.out;go_upto_region 24 with fail
      go_cut [153] from 142 to 153 (fun bb wd=>bb=.bool P1/\wd=w10)
      case first =>
       clear HR EF Df HT Gh;by_cases he:er=0
       ·subst he;by_cases hd:(k:Int)=src
        ·obtain rfl:P1=g:=by have:=K5.out;simpa [hd] using this
         subst hd;go_wp2_with fail;go_meet;exact⟨rfl,rfl⟩
        ·obtain rfl:P1=false:=by have:=K5.out;simpa [hd] using this
         go_wp2_with fail;go_meet;exact⟨rfl,rfl⟩
       ·obtain rfl:P1=false:=by have:=K5.out;rw [beq_false_of_ne he] at this;simpa using this
        go_wp2_with fail;go_meet;exact⟨rfl,rfl⟩
      obtain⟨rfl,Rr⟩:=hcut;subst wc;clear k0 k1 k2 k3;have IB:Hid (b1≠b2/\Ba≠b1/\Bb≠b1/\Ba≠b2/\Bb≠b2/\w5.heap.size<=b1/\w5.heap.size<=b2):=by
       have h:=DR.out;refine Q0a ?_;omega
      have Hu:Hid (BoxQ w5 Ba Bb b1 b2 va vb pv qv w10):=⟨Pv.out,Oc.out,NM.out,Jk.out,Eu.out⟩
      clear Oc NM Jk Eu Pv DR Aa
      go_upto_if 153 with fail
      go_cut [] from 154 to 158 (fun wd=>BoxQ w5 Ba Bb b1 b2 va vb (if P1=true then (0,0) else pv) (if P1=true/\x=y then (0,0) else qv) wd)
      case first =>
       clear HR EF Df HT Gh Ju K5 Iq AG Bi;cases P1 with
       | false =>
        go_wp2_with fail;go_meet;exact Hu.out
       | true =>
        have p0:=Hu.out.2.2.2.1.cell 0 _ rfl;have p1:=Hu.out.2.2.2.1.cell 1 _ rfl;have y0:=Hu.out.2.2.2.1.free 0;have y1:=Hu.out.2.2.2.1.free 1;go_upto_region 26 with fail;have DS:BoxQ w5 Ba Bb b1 b2 va vb (0,0) qv ((w10.setCell ⟨b1,0,none⟩ (.int .u32 0)).setCell ⟨b1,1,none⟩ (.int .i64 0)):=Hu.out.set1 IB.out (0,0);have CU:=Q0a DS;clear p0 p1 y0 y1 Hu DS;generalize (w10.setCell ⟨b1,0,none⟩ (.int .u32 0)).setCell ⟨b1,1,none⟩ (.int .i64 0)=wa at *
        by_cases GE:x=y
        ·subst GE;have q0:=CU.out.2.2.2.2.cell 0 _ rfl;have q1:=CU.out.2.2.2.2.cell 1 _ rfl;have y0:=CU.out.2.2.2.2.free 0;have y1:=CU.out.2.2.2.2.free 1;have KL:BoxQ w5 Ba Bb b1 b2 va vb (0,0) (0,0) ((wa.setCell ⟨b2,0,none⟩ (.int .u32 0)).setCell ⟨b2,1,none⟩ (.int .i64 0)):=CU.out.set2 IB.out (0,0);have FS:=Q0a KL;clear KL;clear CU;go_wp2_with fail;go_meet
         first|exact FS.out|(simp only [if_true,true_and,and_self];exact FS.out)
        ·have Kj:¬(x:Int)=(y:Int):=by omega
         have PF:((x:Int)==(y:Int))=false:=beq_false_of_ne Kj;go_wp2_with fail;go_meet
         first|exact CU.out|(simp only [if_true,true_and,GE,if_false];exact CU.out)
      have CU:=Q0a hcut;clear hcut Hu;generalize hpw:(if P1=true then (0,0) else pv:Nat×Nat)=pw at *
      generalize hqw:(if P1=true/\x=y then (0,0) else qv:Nat×Nat)=qw at *
      obtain⟨w11,QJ⟩:∃u,u=wc:=⟨_,rfl⟩
      subst QJ;obtain⟨k0,k1,k2,k3⟩:=AG.out w11 CU.out.1;go_upto_region 28 with fail
      go_cut [166] from 159 to 166 (fun bb wd=>bb=.bool P2/\wd=w11)
      case first =>
       clear HR EF Df HT Gh Ju CU IB hpw hqw;by_cases he:er=0
       ·subst he;by_cases hd:(k:Int)=dst
        ·obtain rfl:P2=true:=by have:=Iq.out;simpa [hd] using this
         subst hd;go_wp2_with fail;go_meet;exact⟨rfl,rfl⟩
        ·obtain rfl:P2=false:=by have:=Iq.out;simpa [hd] using this
         have FH:((k:Int)==dst)=false:=beq_false_of_ne hd;go_wp2_with fail;go_meet
         first|exact⟨rfl,rfl⟩|exact⟨by rw [FH],rfl⟩
       ·obtain rfl:P2=false:=by have:=Iq.out;rw [beq_false_of_ne he] at this;simpa using this
        go_wp2_with fail;go_meet;exact⟨rfl,rfl⟩
      obtain⟨rfl,Rr⟩:=hcut;subst wc;clear k0 k1 k2 k3
      go_upto_if 166 with fail
      go_cut [] from 167 to 186 (fun wd=>BoxQ w5 Ba Bb b1 b2 va vb va vb wd)
      case first =>
       cases P2 with
       | false =>
        have e1:va=pw:=by have:=HR.out.2.1;rw [if_neg (fun h=>by cases h.1)] at this;exact this
        have e2:vb=qw:=by have:=HR.out.2.2;rw [if_neg (fun h=>by cases h)] at this;exact this
        have HE:Hid (BoxQ w5 Ba Bb b1 b2 va vb va vb w11):=by refine Q0a ?_;have:=CU.out;rw [<- e1,<- e2] at this;exact this
        clear HR EF Df HT Gh Ju AG CU IB hpw hqw e1 e2 K5 Iq Bi;go_wp2_with fail;go_meet;exact HE.out
       | true =>
        have he:er=0:=by have:=Iq.out;simp at this;exact this.1
        have Ed:(er==0)=true:=by simp [he]
        obtain⟨⟨s0,s1⟩,d0,d1⟩:=HT.out.rng Ed;obtain⟨c,hc,h4,GM,r0,r1,hd,-⟩:=HT.out.yes Ed;dsimp only at s0 s1 d0 d1 hc hd r0 r1;obtain⟨sn,rfl⟩:=J3L s0;rw [J3m] at hc;have hC:=Gh.out _ CU.out.1;have Ul:=hC.lt;have z0:=hC.cell _ _ (Q6Z _ (k:=sn) (by omega));have z1:=hC.cell _ _ (Q4s _ (k:=sn) (by omega));rw [Z7p _ _ _ (by omega),hc] at z0 z1;have NP:vC Z.av.en ⟨(sn:Int),dst,r,g⟩ x=(c.1,c.2&&&r.toNat):=by
         unfold vC;dsimp only;rw [J3m,hc];rfl
        obtain⟨rn,rfl⟩:=J3L r0;rw [J3m] at NP;have Bz:=Q4U c.2 rn GM (by omega);obtain⟨vv,Js⟩:∃v,v=vC Z.av.en ⟨(sn:Int),dst,(rn:Int),g⟩ x:=⟨_,rfl⟩
        have Gk:c.1=vv.1:=by rw [Js,NP]
        have Gc:((c.2&&&rn:Nat):Int)=(vv.2:Int):=by rw [Js,NP]
        rw [Gc] at Bz;have z0:w11.cell? ⟨B,sn*2,none⟩=some (.int .u32 (vv.1:Int)):=by rw [<- Gk];exact z0
        have z1:w11.cell? ⟨B,sn*2+1,none⟩=some (.int .i64 (c.2:Int)):=z1;have e2:vb=vv:=by have:=HR.out.2.2;rw [if_pos rfl,<- Js] at this;exact this
        have e1:va=if x=y then vv else pw:=by have:=HR.out.2.1;rw [<- Js] at this;rw [this];simp
        generalize c.2=cr at *
        have NE:Hid (∀V,Below w11.heap.size w11 V->V.cell? ⟨B,sn*2,none⟩=some (.int .u32 (vv.1:Int))/\V.cell? ⟨B,sn*2+1,none⟩=some (.int .i64 cr)/\V.cell? ⟨w.heap.size,0,none⟩=some (.int .i64 sn)/\V.cell? ⟨w.heap.size,2,none⟩=some (.int .i64 rn)):=fun V hv =>
         have hk:=AG.out V (CU.out.1.trans (hv.mono CU.out.1.size));have he:=hv.block B Ul
         ⟨(World.cell?_of_block (w:=w11) he).trans z0,(World.cell?_of_block (w:=w11) he).trans z1,hk.1,hk.2.2.1⟩
        have LC:Hid (Below w11.heap.size w11 w11):=Below.refl _ _;have q0:=CU.out.2.2.2.2.cell 0 _ rfl;have q1:=CU.out.2.2.2.2.cell 1 _ rfl;have f0:=CU.out.2.2.2.2.free 0;have f1:=CU.out.2.2.2.2.free 1;have Qz:=World.block_lt_of_cell? w5 ⟨w.heap.size,0,none⟩ (AG.out w5 (Below.refl _ _)).1;have UP:=(Gh.out w5 (Below.refl _ _)).lt;have nB:B≠b2:=by have:=IB.out.2.2.2.2.2.2;omega
        have nw:w.heap.size≠b2:=by have:=IB.out.2.2.2.2.2.2;dsimp only at Qz;omega
        have My:Hid ((fun V:World=>V.cell? ⟨B,sn*2,none⟩=some (.int .u32 (vv.1:Int))/\V.cell? ⟨B,sn*2+1,none⟩=some (.int .i64 cr)/\V.cell? ⟨w.heap.size,0,none⟩=some (.int .i64 sn)/\V.cell? ⟨w.heap.size,2,none⟩=some (.int .i64 rn)) ((w11.setCell ⟨b2,0,none⟩ (.int .u32 (vv.1:Int))).setCell ⟨b2,1,none⟩ (.int .i64 (vv.2:Int)))):=by
         have h1:((w11.setCell ⟨b2,0,none⟩ (.int .u32 (vv.1:Int))).setCell ⟨b2,1,none⟩ (.int .i64 (vv.2:Int))).heap[B]?=w11.heap[B]?:=by rw [Below.heap_setCell _ _ _ _ nB,Below.heap_setCell _ _ _ _ nB]
         have h2:((w11.setCell ⟨b2,0,none⟩ (.int .u32 (vv.1:Int))).setCell ⟨b2,1,none⟩ (.int .i64 (vv.2:Int))).heap[w.heap.size]?=w11.heap[w.heap.size]?:=by rw [Below.heap_setCell _ _ _ _ nw,Below.heap_setCell _ _ _ _ nw]
         have hk:=NE.out w11 (Below.refl _ _);exact⟨(World.cell?_of_block (w:=w11) h1).trans hk.1,(World.cell?_of_block (w:=w11) h1).trans hk.2.1,(World.cell?_of_block (w:=w11) h2).trans hk.2.2.1,(World.cell?_of_block (w:=w11) h2).trans hk.2.2.2⟩
        clear Qz UP nB nw;have Ou:=Q0a e1;have Of:=Q0a e2;clear hC hc NP Gk Gc Js h4 GM hd he Ed z0 z1 e1 e2 HR EF Df HT Gh Ju AG hpw hqw K5 Iq Bi;go_upto_region 29 with fail
        go_region_held3 (fun V=>V.cell? ⟨B,sn*2,none⟩=some (.int .u32 (vv.1:Int))/\V.cell? ⟨B,sn*2+1,none⟩=some (.int .i64 cr)/\V.cell? ⟨w.heap.size,0,none⟩=some (.int .i64 sn)/\V.cell? ⟨w.heap.size,2,none⟩=some (.int .i64 rn))
         (first|exact NE.out _ LC.out|exact NE.out _ (Below.drew LC.out)|exact My.out)
         (fail)
        have KL:BoxQ w5 Ba Bb b1 b2 va vb pw vv (((w11.setCell ⟨b2,0,none⟩ (.int .u32 (vv.1:Int))).setCell ⟨b2,1,none⟩ (.int .i64 (vv.2:Int))).drew):=(CU.out.set2 IB.out vv).drew;have FS:=Q0a KL;clear q0 q1 f0 f1 NE My LC Bz CU KL;generalize ((w11.setCell ⟨b2,0,none⟩ (.int .u32 (vv.1:Int))).setCell ⟨b2,1,none⟩ (.int .i64 (vv.2:Int))).drew=wb at *
        by_cases GE:x=y
        ·subst GE;have q0:=FS.out.2.2.2.2.cell 0 _ rfl;have q1:=FS.out.2.2.2.2.cell 1 _ rfl;have p0:=FS.out.2.2.2.1.cell 0 _ rfl;have p1:=FS.out.2.2.2.1.cell 1 _ rfl;have y0:=FS.out.2.2.2.1.free 0;have y1:=FS.out.2.2.2.1.free 1;have HE:Hid (BoxQ w5 Ba Bb b1 b2 va vb va vb ((wb.setCell ⟨b1,0,none⟩ (.int .u32 (vv.1:Int))).setCell ⟨b1,1,none⟩ (.int .i64 (vv.2:Int)))):=by
          refine Q0a ?_;have e1:va=vv:=by have:=Ou.out;rw [if_pos rfl] at this;exact this
          have h:=FS.out.set1 IB.out vv;rw [e1,Of.out] at h ⊢;exact h
         clear FS Ou Of;go_wp2_with fail;go_meet;exact HE.out
        ·have Kj:¬(x:Int)=(y:Int):=by omega
         have PF:((x:Int)==(y:Int))=false:=beq_false_of_ne Kj;have HE:Hid (BoxQ w5 Ba Bb b1 b2 va vb va vb wb):=by
          refine Q0a ?_;have e1:va=pw:=by have:=Ou.out;rw [if_neg GE] at this;exact this
          have h:=FS.out;rw [<- e1,<- Of.out] at h;exact h
         clear FS Ou Of;go_wp2_with fail;go_meet;exact HE.out
      have Wu:=Q0a hcut;have e0:=hcut.2.1.cell 0 _ rfl;have e1:=hcut.2.1.cell 1 _ rfl;have g0:=hcut.2.2.1.cell 0 _ rfl;have g1:=hcut.2.2.1.cell 1 _ rfl;have p0:=hcut.2.2.2.1.cell 0 _ rfl;have p1:=hcut.2.2.2.1.cell 1 _ rfl;have q0:=hcut.2.2.2.2.cell 0 _ rfl;have q1:=hcut.2.2.2.2.cell 1 _ rfl;clear hcut CU IB hpw hqw EF Df HT Gh Ju AG HR K5 Iq;go_upto_region 32 with fail;go_wp2_with fail;go_roundg (256-(k+1))
      case measure=>have:=Bi.out;omega
      case rel=>exact⟨k+1,by go_num,by have:=Bi.out;omega,Wu.out.1⟩
     ·obtain rfl:k=256:=by omega
      have HX:Hid (Below w.heap.size w wr):=DX.out.trans ((EF.out.grown hb).below.mono DX.out.size);clear A7 hb;go_wp2_with fail
      first|exact⟨rfl,HX.out⟩|(go_ret;exact⟨rfl,HX.out⟩)
end Go.Proofs.YtlakjlmaboioiaaGreatDoor
namespace Go.Proofs.YtlakjlmaboioiaaGreatDoor
open Go Go.RowKit Go.ChangeShapes Go.WideShapes Go.Proofs.Tryz
section
variable {H:Type} {enc:TypeId×Value->H} {P:Program} {w:World} {base:Nat} {spare:Nat->Bool} {held:Bool}
theorem Z0l {t t' t'' t3 t4:TypeId} {args:Array Value} {ds:List (DataW H)} {ps:List MemPlace} (h:DataW.TrodAll enc P w base spare held [t,t',t'',t3,t4] args.toList ds ps) :
  ∃v v' v'' v3 v4 d d' d'' d3 d4 p p' p'' p3 p4,args=#[v,v',v'',v3,v4]/\ds=[d,d',d'',d3,d4]/\ps=p++p'++p''++p3++p4/\DataW.Trod enc P w base spare held t v d p/\DataW.Trod enc P w base spare held t' v' d' p'/\DataW.Trod enc P w base spare held t'' v'' d'' p''/\DataW.Trod enc P w base spare held t3 v3 d3 p3/\DataW.Trod enc P w base spare held t4 v4 d4 p4:=by
 obtain⟨v,vs,d,ds',p,q,RQ,rfl,rfl,hd,Ev⟩:=trodAll_cons h;obtain⟨v',vs',d',ds'',p',q',rfl,rfl,rfl,DV,Lj⟩:=trodAll_cons Ev;obtain⟨v'',vs'',d'',ds''',p'',W9,rfl,rfl,rfl,ON,ID⟩:=trodAll_cons Lj;obtain⟨v3,vs3,d3,ds3,p3,q3,rfl,rfl,rfl,PM,KA⟩:=trodAll_cons ID;obtain⟨v4,vs4,d4,ds4,p4,q4,rfl,rfl,rfl,S7,Ky⟩:=trodAll_cons KA;obtain⟨rfl,rfl,rfl⟩:=trodAll_nil Ky;exact⟨v,v',v'',v3,v4,d,d',d'',d3,d4,p,p',p'',p3,p4,by cases args;simp_all,rfl,by simp,hd,DV,ON,PM,S7⟩
theorem Z1m {t t' t'' t3 t4:TypeId} {v v' v'' v3 v4:Value} {d d' d'' d3 d4:DataW H} {p p' p'' p3 p4:List MemPlace} (h:DataW.Trod enc P w base spare held t v d p) (h':DataW.Trod enc P w base spare held t' v' d' p')
  (Tl:DataW.Trod enc P w base spare held t'' v'' d'' p'') (h3:DataW.Trod enc P w base spare held t3 v3 d3 p3) (h4:DataW.Trod enc P w base spare held t4 v4 d4 p4):DataW.TrodAll enc P w base spare held [t,t',t'',t3,t4] [v,v',v'',v3,v4] [d,d',d'',d3,d4] (p++(p'++(p''++(p3++p4)))):=⟨p,p'++(p''++(p3++p4)),h,trodAll_mk4 h' Tl h3 h4,rfl⟩
end
end Go.Proofs.YtlakjlmaboioiaaGreatDoor

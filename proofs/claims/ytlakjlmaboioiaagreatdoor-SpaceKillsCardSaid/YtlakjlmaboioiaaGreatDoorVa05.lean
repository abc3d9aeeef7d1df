/- What the laws of spaces share is proved. No condition. Part of a proof. -/
import Derived.Test.YtlakjlmaboioiaaGreatDoorVa04
import Derived.Deep.RegionWith
set_option maxHeartbeats 4000000
set_option maxRecDepth 100000
set_option linter.unusedVariables false
namespace Go.Proofs.YtlakjlmaboioiaaGreatDoor
open Go.RowKit Go.Proofs.Tryz
structure BD where
 b:Nat
 mb:Nat
 top:Nat
 bms:List BM
 ps:List Nat
def BD.cells (d:BD):List Value:=.int .i64 d.top::(d.bms.map (fun m=>ptr m.b)++List.replicate (21-d.bms.length) (.pointer none)++[.map (some d.mb)])
def upk (ps:List Nat):List (Int×Value):=ps.map fun p=>(((1024*p:Nat):Int),.int .i64 0)
def BD.hl (d:BD):HL:=(d.b,isC 243 d.cells)::(d.mb,isMI (upk d.ps))::d.bms.flatMap BM.hl
structure BD.Is (d:BD) (G:Nat->Nat->Bool):Prop where
 len:d.bms.length=d.top+1
 top:d.top<=20
 bits:∀k m,d.bms[k]?=some m->m.bits=(List.range (2 ^ (d.top-k))).map (G k)
def uOf (ps:List Nat):Nat->Bool:=fun p=>decide (p∈ps)
structure BD.At (d:BD):Prop where
 is:d.Is (fre (uOf d.ps) d.top)
 nd:d.ps.Nodup
 lt:∀p∈d.ps,p<2 ^ d.top
def upG (G:Nat->Nat->Bool) (k i:Nat) (on:Bool):Nat->Nat->Bool:=fun l j=>if l=k/\j=i then on else G l j
theorem Z7Q (ps:List Nat) (p:Nat):look (upk ps) ((1024*p:Nat):Int)=if p∈ps then some (.int .i64 0) else none:=by
 induction ps with
 | nil=>rfl
 | cons x r ih =>
  have ih':look (r.map fun p=>(((1024*p:Nat):Int),Value.int .i64 0)) ((1024*p:Nat):Int)=_:=ih;by_cases h:p=x
  ·subst h;simp [upk,look]
  ·have h2:¬((1024*p:Nat):Int)=((1024*x:Nat):Int):=by omega
   simp only [upk,J2k,look,h2,if_false];rw [ih'];simp [h]
theorem Z9Z (ps:List Nat) (p:Nat) (h:p∉ps):put (upk ps) ((1024*p:Nat):Int) (.int .i64 0)=upk (ps++[p]):=by
 induction ps with
 | nil=>rfl
 | cons x r ih =>
  have h1:¬p=x:=fun e=>h (by simp [e])
  have h2:¬((1024*p:Nat):Int)=((1024*x:Nat):Int):=by omega
  have ih':=ih (fun hr=>h (by simp [hr]));simp only [upk,J2k,put,h2,if_false,J4s] at ih' ⊢;rw [ih']
theorem J0a (ps:List Nat) (p:Nat):del (upk ps) ((1024*p:Nat):Int)=upk (ps.erase p):=by
 induction ps with
 | nil=>rfl
 | cons x r ih =>
  by_cases h:p=x
  ·subst h;simp [upk,del]
  ·have h2:¬((1024*p:Nat):Int)=((1024*x:Nat):Int):=by omega
   have h3:(x==p)=false:=by simp;exact fun e=>h e.symm
   have e1:(x::r).erase p=x::r.erase p:=by rw [List.erase_cons,h3];rfl
   rw [e1];simp only [upk,J2k,del,h2,if_false] at ih ⊢;rw [ih]
theorem Z7R (ps:List Nat) (p:Nat):uOf (ps++[p])=setU (uOf ps) p true:=by
 funext x;unfold uOf setU;by_cases h:x=p <;> simp [h]
theorem Z4N {ps:List Nat} (h:ps.Nodup) (p:Nat):uOf (ps.erase p)=setU (uOf ps) p false:=by
 funext x;unfold uOf setU;simp only [h.mem_erase_iff];by_cases h:x=p <;> simp [h]
theorem Z4O (G:Nat->Bool) (n i:Nat) (on:Bool):((List.range n).map G).set i on=(List.range n).map fun j=>if j=i then on else G j:=by
 apply J3P
 intro j;rw [J3O,J3S,J3S,J3Q,J3R];by_cases h:i=j
 ·subst h;by_cases h2:i<n
  ·simp [h2]
  ·simp [h2]
 ·rw [if_neg h];by_cases h2:j<n
  ·simp [h2,show ¬j=i from fun e=>h e.symm]
  ·rw [J3W (by simp;omega)];rfl
section
variable {w:World} {d:BD} {G:Nat->Nat->Bool}
theorem BD.sepC (h:Sep w d.hl):Cells w d.b 243 d.cells:=h.cells (by simp [BD.hl])
theorem BD.c0 (h:Sep w d.hl):w.cell? ⟨d.b,0,none⟩=some (.int .i64 d.top):=(BD.sepC h).cell 0 _ rfl
theorem BD.cf (h:Sep w d.hl) (k:Nat) (m:BM) (hm:d.bms[k]?=some m):w.cell? ⟨d.b,1+k,none⟩=some (ptr m.b):=by
 have hk:k<d.bms.length:=(J2y.1 hm).1;refine (BD.sepC h).cell (1+k) _ ?_;unfold BD.cells;rw [J3q,J5t,J3h,J5u (by simpa using hk),J3S,hm];rfl
theorem BD.cm (h:Sep w d.hl) (hl:d.bms.length<=21):w.cell? ⟨d.b,22,none⟩=some (.map (some d.mb)):=by
 refine (BD.sepC h).cell 22 _ ?_;unfold BD.cells;have e:(d.bms.map (fun m=>ptr m.b)++List.replicate (21-d.bms.length) (Value.pointer none)).length=21:=by simp;omega
 rw [J5t,J5v (by omega),e];rfl
theorem BD.map (h:Sep w d.hl):Q0B w d.mb (upk d.ps):=h.map (by simp [BD.hl,isMI])
theorem BD.bm (h:Sep w d.hl) (k:Nat) (m:BM) (hm:d.bms[k]?=some m):Sep w m.hl:=by
 refine h.sub ?_;unfold BD.hl;rw [Q4v _ _ _ _ hm];refine List.Sublist.cons _ (List.Sublist.cons _ ?_);exact (J2X _ _).trans (J2W _ _)
theorem BD.setBm (h:Sep w d.hl) (k:Nat) (m m':BM) (hm:d.bms[k]?=some m) (hb:m'.b=m.b) {w':World} (hs:Step m.hl m'.hl w w'):Step d.hl ({d with bms:=d.bms.set k m'}:BD).hl w w':=by
 have hk:k<d.bms.length:=(J2y.1 hm).1;have hx:d.bms[k]=m:=(J2y.1 hm).2;have ec:({d with bms:=d.bms.set k m'}:BD).cells=d.cells:=by
  have:(d.bms.set k m').map (fun m=>ptr m.b)=d.bms.map fun m=>ptr m.b:=by
   apply J3P
   intro j;rw [J3S,J3S,J3O];by_cases hj:k=j
   ·subst hj;simp [hk,hb,hx]
   ·rw [if_neg hj]
  unfold BD.cells;simp only [this,J3T]
 have e1:d.hl=((d.b,isC 243 d.cells)::(d.mb,isMI (upk d.ps))::(d.bms.take k).flatMap BM.hl)++m.hl++(d.bms.drop (k+1)).flatMap BM.hl:=by
  unfold BD.hl;rw [Q4v _ _ _ _ hm];simp [List.append_assoc]
 have e2:({d with bms:=d.bms.set k m'}:BD).hl=((d.b,isC 243 d.cells)::(d.mb,isMI (upk d.ps))::(d.bms.take k).flatMap BM.hl)++m'.hl++(d.bms.drop (k+1)).flatMap BM.hl:=by
  unfold BD.hl;rw [ec,Z9y _ _ _ _ hk];simp [List.append_assoc]
 rw [e1] at h;rw [e1,e2];exact Step.frame _ _ h hs
end
theorem BD.Is.get {d:BD} {G:Nat->Nat->Bool} (h:d.Is G) (k:Nat) (hk:k<=d.top):∃m,d.bms[k]?=some m/\m.bits=(List.range (2 ^ (d.top-k))).map (G k):=by
 have:k<d.bms.length:=by rw [h.len];omega
 exact⟨_,J4y this,h.bits k _ (J4y this)⟩
theorem Q2n {t k:Nat} (h:t<=20):2 ^ (t-k)<=1048576:=J2i (J3v (by omega) (by omega:t-k<=20)) (by decide)
def fstG (G:Nat->Nat->Bool) (top k s:Nat):Option Nat:=Q1Z ((List.range (2 ^ (top-k))).map (G k)) true s
theorem Q8e {w:World} {d:BD} {G:Nat->Nat->Bool} (h:Sep w d.hl) (hi:d.Is G) (k:Nat) (hk:k<=d.top) (s:Nat) (hs:s<=1048576):∃b,w.cell? ⟨d.b,1+k,none⟩=some (.pointer (some ⟨b,0,none⟩)) /\
  Calls prog 132 #[.pointer (some ⟨b,0,none⟩),.bool true,.int .i64 s] w fun r w'=>r=.returned (.int .i64 (optI (fstG G d.top k s)))/\w=w':=by
 obtain⟨m,hm,hb⟩:=hi.get k hk;refine⟨m.b,BD.cf h k m hm,?_⟩;have:=Q4e (BD.bm h k m hm) true s hs (by rw [hb];simpa using Q2n hi.top);rw [hb] at this;exact this
theorem Q3d {α β:Type} (f:α->β) (L:List α) (k:Nat) (x y:α) (h:L[k]?=some x) (e:f y=f x):(L.set k y).map f=L.map f:=by
 apply J3P
 intro j;rw [J3S,J3S,J3O];by_cases hj:k=j
 ·subst hj;have hk:k<L.length:=(J2y.1 h).1;rw [if_pos rfl,if_pos hk,h];simp [e]
 ·rw [if_neg hj]
structure BD.To (d d':BD) (w w':World):Prop where
 b:d'.b=d.b
 mb:d'.mb=d.mb
 top:d'.top=d.top
 ps:d'.ps=d.ps
 step:Step d.hl d'.hl w w'
 ptrs:d'.bms.map BM.b=d.bms.map BM.b
theorem BD.To.refl {d:BD} {w:World} (h:Sep w d.hl):d.To d w w:=⟨rfl,rfl,rfl,rfl,Step.refl h,rfl⟩
theorem BD.To.trans {d d1 d2:BD} {w w1 w2:World} (h:d.To d1 w w1) (k:d1.To d2 w1 w2):d.To d2 w w2:=⟨k.b.trans h.b,k.mb.trans h.mb,k.top.trans h.top,k.ps.trans h.ps,h.step.trans k.step,k.ptrs.trans h.ptrs⟩
def SetG (d:BD) (w:World) (n:Int) (G:Nat->Nat->Bool) (r:Ending) (w':World):Prop:=r=.returned (.int .i64 n)/\∃d',d.To d' w w'/\d'.Is G
theorem Q8R {w:World} {d:BD} {G:Nat->Nat->Bool} (h:Sep w d.hl) (hi:d.Is G) (k i:Nat) (on:Bool) (hk:k<=d.top) (D6:i<2 ^ (d.top-k)) (Aa:G k i≠on):∃b,w.cell? ⟨d.b,1+k,none⟩=some (.pointer (some ⟨b,0,none⟩)) /\
  Calls prog 223 #[.pointer (some ⟨b,0,none⟩),.bool on,.slice (some ⟨w.heap.size,0,none⟩) 1 1] (w.alloc (.cells #[.int .i64 i] 3)) (SetG d w 1 (upG G k i on)):=by
 obtain⟨m,hm,hb⟩:=hi.get k hk;refine⟨m.b,BD.cf h k m hm,?_⟩;have Ac:m.bits.length=2 ^ (d.top-k):=by rw [hb];simp
 have B0:m.bits[i]?.getD false=G k i:=by rw [hb];simp [D6]
 have hs:=BD.bm h k m hm;refine (Q2y (hs.alloc (.cells #[.int .i64 i] 3)) on i (by rw [Ac];exact D6) (by rw [Ac];exact Q2n hi.top) (by rw [B0];exact Aa) w.heap.size ((Cells.new w 3 [.int .i64 i]).cell 0 _ rfl) (fun hb=>by have:=hs.lt hb;omega)).mono ?_;rintro r w' ⟨rfl,Ap⟩;refine⟨rfl,{d with bms:=d.bms.set k {m with bits:=m.bits.set i on}},⟨rfl,rfl,rfl,rfl,BD.setBm h k m {m with bits:=m.bits.set i on} hm rfl Ap.from_alloc,Q3d BM.b _ _ _ _ hm rfl⟩,⟨by simpa using hi.len,hi.top,?_⟩⟩;intro l m' Cd;rw [J3O] at Cd;by_cases hl:k=l
 ·subst hl;have Fz:k<d.bms.length:=by rw [hi.len];omega
  simp only [if_true,Fz] at Cd;cases Cd;show m.bits.set i on=_;rw [hb,Z4O]
  apply J4q
  intro j _;unfold upG;simp
 ·rw [if_neg hl] at Cd;rw [hi.bits l m' Cd]
  apply J4q
  intro j _;unfold upG;rw [if_neg];rintro⟨e,_⟩;exact hl e.symm
theorem BD.To.ptr {d d':BD} {w w':World} (h:d.To d' w w') {k:Nat} {b:Nat} (hm:(d.bms.map BM.b)[k]?=some b):w'.cell? ⟨d.b,1+k,none⟩=some (.pointer (some ⟨b,0,none⟩)):=by
 rw [<- h.ptrs,J3S] at hm;cases hx:d'.bms[k]? with
 | none=>rw [hx] at hm;cases hm
 | some m =>
  rw [hx] at hm;have:m.b=b:=J3e hm;have hc:=BD.cf h.step.sep k m hx;rw [h.b,this] at hc;exact hc
theorem J0b {w:World} {d:BD} {G:Nat->Nat->Bool} (h:Sep w d.hl) (hi:d.Is G) (k i:Nat) (on:Bool) (hk:k<=d.top) (D6:i<2 ^ (d.top-k)) (Aa:G k i=on):∃b,w.cell? ⟨d.b,1+k,none⟩=some (.pointer (some ⟨b,0,none⟩)) /\
  Calls prog 223 #[.pointer (some ⟨b,0,none⟩),.bool on,.slice (some ⟨w.heap.size,0,none⟩) 1 1] (w.alloc (.cells #[.int .i64 i] 3)) (SetG d w 0 G):=by
 obtain⟨m,hm,hb⟩:=hi.get k hk;refine⟨m.b,BD.cf h k m hm,?_⟩;have Ac:m.bits.length=2 ^ (d.top-k):=by rw [hb];simp
 have B0:m.bits[i]?.getD false=G k i:=by rw [hb];simp [D6]
 refine (Z2v ((BD.bm h k m hm).alloc (.cells #[.int .i64 i] 3)) on i (by rw [Ac];exact D6) (by rw [Ac];exact Q2n hi.top) (by rw [B0];exact Aa) w.heap.size ((Cells.new w 3 [.int .i64 i]).cell 0 _ rfl)).mono ?_;rintro r w' ⟨rfl,rfl⟩;exact⟨rfl,d,⟨rfl,rfl,rfl,rfl,(Step.refl (h.alloc _)).from_alloc,rfl⟩,hi⟩
theorem Q7n {w:World} {d:BD} {G:Nat->Nat->Bool} (h:Sep w d.hl) (hi:d.Is G) (hn:∀k,k<=d.top->fstG G d.top k 0=none) :
  Calls prog 154 #[.pointer (some ⟨d.b,0,none⟩),.int .i64 0] w fun r w'=>r=.returned (.tuple #[.int .i64 0,.int .i64 4])/\w=w':=by
 have c0:=BD.c0 h;have HF:=Q0a (show ∀k,k<=d.top->∃b,w.cell? ⟨d.b,1+k,none⟩=some (.pointer (some ⟨b,0,none⟩))/\Calls prog 132 #[.pointer (some ⟨b,0,none⟩),.bool true,.int .i64 0] w fun r w'=>r=.returned (.int .i64 (-1))/\w=w' from fun k hk=>by
  obtain⟨b,h1,h2⟩:=Q8e h hi k hk 0 (by omega);rw [hn k hk] at h2;exact⟨b,h1,h2⟩)
 have ht:=hi.top;clear h hi hn;generalize d.top=top at *
 go_enter func154,ntmps154;go_wp2_with fail
 go_loop [6,7] (fun kv iv=>∃k:Nat,kv=.int .i64 k/\iv=.int .i64 (-1)/\k<=top+1) (fun kv _=>top+1-(intOf kv).toNat)
 case atStart=>exact⟨0,rfl,rfl,by omega⟩
 case round =>
  obtain⟨k,rfl,rfl,hk⟩:=hrel;by_cases Ab:k<=top
  ·obtain⟨b,hc,Bl⟩:=HF.out k Ab;go_wp2_with (go_at_call 132;refine Bl.mono ?_;rintro e w' ⟨rfl,rfl⟩)
   go_round
   case rel=>exact⟨k+1,by go_num,rfl,by omega⟩
   case measure=>simp [intOf];omega
  ·go_wp2_with fail;go_ret2;exact⟨rfl,rfl⟩
def spl (G:Nat->Nat->Bool) (k0 i0 j:Nat):Nat->Nat->Bool:=fun l x=>if l<j then G l x else if l<k0 then (G l x||(x==i0*2 ^ (k0-l)+1)) else if l=k0 then (G l x&&!(x==i0)) else G l x
theorem J0c (G:Nat->Nat->Bool) (k0 i0:Nat):upG G k0 i0 false=spl G k0 i0 k0:=by
 funext l x;unfold upG spl;by_cases h:l=k0
 ·subst h;by_cases h2:x=i0 <;> simp [h2]
 ·by_cases h2:l<k0
  ·simp [h,h2]
  ·simp [h,h2]
theorem Z7S (G:Nat->Nat->Bool) (k0 i0 j:Nat) (hj:j<k0):upG (spl G k0 i0 (j+1)) j (i0*2 ^ (k0-j)+1) true=spl G k0 i0 j:=by
 funext l x;unfold upG spl;by_cases h:l=j
 ·subst h;have h1:¬l<l:=by omega
  have h2:l<l+1:=by omega
  by_cases hx:x=i0*2 ^ (k0-l)+1
  ·simp [hj,h1,hx]
  ·have e:(x==i0*2 ^ (k0-l)+1)=false:=by simpa using hx
   simp [hj,h1,h2,hx,e]
 ·have e:(l<j+1)=(l<j):=by apply propext;omega
  simp [h,e]
theorem J0d (ps:List Nat) (top k0 i0:Nat) (hk:k0<=top) (hf:fre (uOf ps) top k0 i0=true) (l x:Nat) (hl:l<=top):spl (fre (uOf ps) top) k0 i0 0 l x=fre (uOf (ps++[i0*2 ^ k0])) top l x:=by
 have hp:i0*2 ^ k0/2 ^ k0=i0:=J5g _ (J3w k0);rw [Z7R,Z1x _ top k0 (i0*2 ^ k0) hk (by rw [hp];exact hf) l x hl,hp];unfold spl;rw [if_neg (by omega)];by_cases h1:l<k0
 ·rw [if_pos h1,if_pos h1];have e:i0*2 ^ k0/2 ^ l=i0*2 ^ (k0-l):=by
   rw [show (2:Nat) ^ k0=2 ^ (k0-l)*2 ^ l from by rw [<- J3I];congr 1;omega,<- J5w];exact J5g _ (J3w l)
  have e2:sib (i0*2 ^ (k0-l))=i0*2 ^ (k0-l)+1:=by
   unfold sib;rw [if_pos];rw [show k0-l=(k0-l-1)+1 from by omega,J3p,<- J5w];omega
  rw [e,e2]
 ·rw [if_neg h1,if_neg h1]
theorem Z4P {ps:List Nat} {top k0 i0:Nat} (hk:k0<=top) (hf:fre (uOf ps) top k0 i0=true) (j:Nat) (hj:j<k0):fre (uOf ps) top j (i0*2 ^ (k0-j)+1)=false:=by
 cases h:fre (uOf ps) top j (i0*2 ^ (k0-j)+1) with
 | false=>rfl
 | true =>
  have e1:(i0*2 ^ (k0-j)+1)*2 ^ j/2 ^ j=i0*2 ^ (k0-j)+1:=J5g _ (J3w j);have e2:(i0*2 ^ (k0-j)+1)*2 ^ j/2 ^ k0=i0:=by
   rw [show (2:Nat) ^ k0=2 ^ j*2 ^ (k0-j) from by rw [<- J3I];congr 1;omega,<- J3J,e1,J3q,J5o _ _ (J3w _),Nat.div_eq_of_lt (Nat.one_lt_two_pow (by omega)),J4L]
  have:=Q8Q (by omega) hk h hf e1 e2;omega
def J1m (d:BD) (p:Nat) (w:World) (r:Ending) (w':World):Prop:=r=.returned (.tuple #[.int .i64 ((1024*p:Nat):Int),.int .i64 0]) /\
 ∃d':BD,d'.b=d.b/\d'.top=d.top/\d'.ps=d.ps++[p]/\d'.At/\Step d.hl d'.hl w w'
theorem BD.putMap {w w':World} {d:BD} (h:Sep w d.hl) (ps':List Nat) (hm:Q0B w' d.mb (upk ps')) (hg:w.grownBy w' (some d.mb)):Step d.hl ({d with ps:=ps'}:BD).hl w w':=by
 obtain⟨es,Ai,ho,hr⟩:=hm;exact Sep.turn (A:=[(d.b,isC 243 d.cells)]) (B:=d.bms.flatMap BM.hl) h hg ⟨_,ho,es,Ai,rfl,hr⟩
theorem Q7o {w:World} {d:BD} (h:Sep w d.hl) (ha:d.At) (k0 i0:Nat) (By:k0<=d.top) (hf:fstG (fre (uOf d.ps) d.top) d.top k0 0=some i0) (hp:∀k,k<k0->fstG (fre (uOf d.ps) d.top) d.top k 0=none) :
  Calls prog 154 #[.pointer (some ⟨d.b,0,none⟩),.int .i64 0] w (J1m d (i0*2 ^ k0) w):=by
 obtain⟨s1,s2,s3,s4⟩:=Q2Q hf;have BJ:i0<2 ^ (d.top-k0):=by simpa using s1
 have Ax:fre (uOf d.ps) d.top k0 i0=true:=by simpa [BJ] using s3
 have ht:=ha.is.top;have Gr:i0*2 ^ k0<2 ^ d.top:=by
  have:i0*2 ^ k0<2 ^ (d.top-k0)*2 ^ k0:=J5x BJ (J3w _)
  rwa [<- J3I,show d.top-k0+k0=d.top from by omega] at this
 have FI:i0*2 ^ k0∉d.ps:=by
  have:=Q8P Ax (p:=i0*2 ^ k0) (J5g _ (J3w k0))
  simpa [uOf] using this
 have Ka:∀j,j<=k0->i0*2 ^ (k0-j)+1<=1048576/\i0*2 ^ (k0-j)<2 ^ (d.top-j):=by
  intro j hj;have h1:i0*2 ^ (k0-j)<2 ^ (d.top-k0)*2 ^ (k0-j):=J5x BJ (J3w _);rw [<- J3I,show d.top-k0+(k0-j)=d.top-j from by omega] at h1;have:=Q2n (k:=j) ht;omega
 have c0:=BD.c0 h;have hi:=ha.is;have HF:=Q0a (show ∀k,k<k0->∃b,w.cell? ⟨d.b,1+k,none⟩=some (.pointer (some ⟨b,0,none⟩))/\Calls prog 132 #[.pointer (some ⟨b,0,none⟩),.bool true,.int .i64 0] w fun r w'=>r=.returned (.int .i64 (-1))/\w=w' from fun k hk=>by
  obtain⟨b,h1,h2⟩:=Q8e h hi k (by omega) 0 (by omega);rw [hp k hk] at h2;exact⟨b,h1,h2⟩)
 have U5:Hid (∃b,w.cell? ⟨d.b,1+k0,none⟩=some (.pointer (some ⟨b,0,none⟩))/\(Calls prog 132 #[.pointer (some ⟨b,0,none⟩),.bool true,.int .i64 0] w fun r w'=>r=.returned (.int .i64 i0)/\w=w') /\
   Calls prog 223 #[.pointer (some ⟨b,0,none⟩),.bool false,.slice (some ⟨w.heap.size,0,none⟩) 1 1] (w.alloc (.cells #[.int .i64 i0] 3)) (SetG d w 1 (spl (fre (uOf d.ps) d.top) k0 i0 k0))):=by
  obtain⟨b,h1,h2⟩:=Q8e h hi k0 By 0 (by omega);rw [hf] at h2;obtain⟨b',h3,h4⟩:=Q8R h hi k0 i0 false By BJ (by rw [Ax];decide);rw [h1] at h3;cases h3;rw [J0c] at h4;exact⟨b,h1,h2,h4⟩
 have AJ:=Q0a (show ∀j wr d1,j<k0->d.To d1 w wr->d1.Is (spl (fre (uOf d.ps) d.top) k0 i0 (j+1))->∃b,wr.cell? ⟨d.b,1+j,none⟩=some (.pointer (some ⟨b,0,none⟩)) /\
   Calls prog 223 #[.pointer (some ⟨b,0,none⟩),.bool true,.slice (some ⟨wr.heap.size,0,none⟩) 1 1] (wr.alloc (.cells #[.int .i64 ((i0*2 ^ (k0-j)+1:Nat):Int)] 3)) fun r w'=>r=.returned (.int .i64 1)/\∃d2,d.To d2 w w'/\d2.Is (spl (fre (uOf d.ps) d.top) k0 i0 j) from fun j wr d1 hj AI Au=>by
  obtain⟨b1,b2⟩:=Ka j (by omega);have Qo:i0*2 ^ (k0-j)+1<2 ^ (d.top-j):=by
   have e1:i0*2 ^ (k0-j)=2*(i0*2 ^ (k0-j-1)):=by
    rw [show k0-j=(k0-j-1)+1 from by omega,J3p,Nat.add_sub_cancel];simp only [J5h,Nat.mul_left_comm]
   have e2:2 ^ (d.top-j)=2*2 ^ (d.top-j-1):=by
    rw [<- J5s];congr 1;omega
   omega
  have Aa:spl (fre (uOf d.ps) d.top) k0 i0 (j+1) j (i0*2 ^ (k0-j)+1)≠true:=by
   unfold spl;rw [if_pos (by omega),Z4P By Ax j hj];decide
  obtain⟨b,h3,h4⟩:=Q8R AI.step.sep Au j (i0*2 ^ (k0-j)+1) true (by rw [AI.top];omega) (by rw [AI.top];exact Qo) Aa;rw [AI.b] at h3;refine⟨b,h3,h4.mono ?_⟩;rintro r w' ⟨rfl,d2,CM,BX⟩;rw [Z7S _ _ _ _ hj] at BX;exact⟨rfl,d2,AI.trans CM,BX⟩)
 have Du:=Q0a (show ∀wr d1,d.To d1 w wr->d1.Is (spl (fre (uOf d.ps) d.top) k0 i0 0)->wr.cell? ⟨d.b,22,none⟩=some (.map (some d.mb))/\Q0B wr d.mb (upk d.ps)/\∀w2,Q0B w2 d.mb (put (upk d.ps) ((1024*(i0*2 ^ k0):Nat):Int) (.int .i64 0))->wr.grownBy w2 (some d.mb)->J1m d (i0*2 ^ k0) w (.returned (.tuple #[.int .i64 ((1024*(i0*2 ^ k0):Nat):Int),.int .i64 0])) w2 from fun wr d1 AI Au=>by
  have hs:=AI.step.sep;have hc:=BD.cm hs (by rw [Au.len,AI.top];omega);have KM:=BD.map hs;rw [AI.b,AI.mb] at hc;rw [AI.mb,AI.ps] at KM;refine⟨hc,KM,fun w2 De B8=>⟨rfl,{d1 with ps:=d.ps++[i0*2 ^ k0]},AI.b,AI.top,rfl,⟨⟨Au.len,Au.top,?_⟩,?_,?_⟩,?_⟩⟩
  ·intro k m hm;rw [Au.bits k m hm];have Es:k<=d1.top:=by
    have h1:k<d1.bms.length:=(J2y.1 hm).1;have h2:d1.bms.length=d1.top+1:=Au.len;omega
   apply J4q
   intro x _;show spl (fre (uOf d.ps) d.top) k0 i0 0 k x=fre (uOf (d.ps++[i0*2 ^ k0])) d1.top k x;rw [AI.top];exact J0d _ _ _ _ By Ax k x (by rw [<- AI.top];exact Es)
  ·rw [J3a];refine⟨ha.nd,by simp,?_⟩;intro a Gu b hb e;simp at hb;subst hb;subst e;exact FI Gu
  ·intro p BI;show p<2 ^ d1.top;rw [AI.top];rcases J2V.1 BI with h1|h1
   ·exact ha.lt p h1
   ·simp at h1;subst h1;exact Gr
  ·rw [Z9Z _ _ FI] at De;have S8:Q0B w2 d1.mb (upk (d.ps++[i0*2 ^ k0])):=by rw [AI.mb];exact De
   rw [<- AI.mb] at B8;exact AI.step.trans (BD.putMap hs _ S8 B8))
 have Kk:=Q0a (show ∀wr d1,d.To d1 w wr->wr.cell? ⟨d.b,0,none⟩=some (.int .i64 d.top) from fun wr d1 AI=>by
  have:=BD.c0 AI.step.sep;rw [AI.b,AI.top] at this;exact this)
 have Pq:=Q0a Ka;clear h ha hi hf hp s1 s2 s3 s4 Ax FI Ka;generalize hG:spl (fre (uOf d.ps) d.top) k0 i0=S at *
 clear hG;generalize d.top=top at *
 go_enter func154,ntmps154;go_wp2_with fail
 go_loop [6,7] (fun kv iv=>∃k:Nat,kv=.int .i64 k/\iv=.int .i64 (-1)/\k<=k0) (fun kv _=>k0+1-(intOf kv).toNat)
 case atStart=>exact⟨0,rfl,rfl,by omega⟩
 case round =>
  obtain⟨k,rfl,rfl,hk⟩:=hrel;have Es:k<=top:=by omega
  by_cases Ab:k<k0
  ·obtain⟨b,hc,Bl⟩:=HF.out k Ab;go_wp2_with (go_at_call 132;refine Bl.mono ?_;rintro e w' ⟨rfl,rfl⟩)
   go_round
   case rel=>exact⟨k+1,by go_num,rfl,by omega⟩
   case measure=>simp [intOf];omega
  ·obtain rfl:k=k0:=by omega
   obtain⟨b,hc,Bl,AX⟩:=U5.out;obtain⟨Av,Af⟩:=Pq.out k (J2h _);rw [J5y,Nat.pow_zero,J3n] at Av;clear Af;go_wp2_with fail;refine Bl.mono ?_;rintro e w' ⟨rfl,rfl⟩;go_wp2_with fail;refine AX.mono ?_;rintro e w1 ⟨rfl,d1,AI,Au⟩;have Wk:=Q0a AI;have VR:=Q0a Au;clear AI Au AX Bl hc;go_wp2_with fail
   go_loopw [6,7] (fun jv iv wr=>∃(j:Nat) (d2:BD),jv=.int .i64 j/\iv=.int .i64 ((i0*2 ^ (k-j):Nat):Int)/\j<=k/\d.To d2 w wr/\d2.Is (S j)) (fun jv _ _=>(intOf jv).toNat)
   case atStart=>exact⟨k,d1,rfl,by simp,J2h _,Wk.out,VR.out⟩
   case round =>
    obtain⟨j,d2,rfl,rfl,hj,AI,Au⟩:=hrel;have Ob:=Kk.out _ _ AI;by_cases G0:j=0
    ·subst G0;obtain⟨Dx,KM,Bj⟩:=Du.out _ _ AI Au;have Bm:=Q0a Bj;clear Bj;have hv:((1024*(i0*2 ^ k):Nat):Int)=((i0*2 ^ (k-0):Nat):Int)*1024:=by rw [Nat.sub_zero];omega
     have hb:i0*2 ^ (k-0)<1048576:=by
      have:=(Pq.out 0 (by omega)).1;omega
     rw [hv] at Bm;generalize i0*2 ^ (k-0)=p at *
     clear hv;go_wp2_with (refine Q1Q _ rfl _ _ _ 241 3 3 rfl underlying241 underlying3 d.mb (upk d.ps) KM _ _ rfl rfl rfl ?_;intro w2 De B8);go_ret2;exact Bm.out _ De B8
    ·obtain⟨l,rfl⟩:∃l,j=l+1:=⟨j-1,by omega⟩
     obtain⟨b2,B6,CG⟩:=AJ.out l wr d2 (by omega) AI Au;have hI:i0*2 ^ (k-l)=i0*2 ^ (k-(l+1))*2:=by
      rw [show k-l=k-(l+1)+1 from by omega,J3p,J5w]
     have hb:=(Pq.out l (by omega)).1;have Rn:((i0*2 ^ (k-l)+1:Nat):Int)=((i0*2 ^ (k-(l+1)):Nat):Int)*2+1:=by rw [hI];omega
     have QW:=Q0a (show ((i0*2 ^ (k-l):Nat):Int)=((i0*2 ^ (k-(l+1)):Nat):Int)*2 from by rw [hI];omega);rw [Rn] at CG;rw [hI] at hb;clear Rn hI AI Au;generalize i0*2 ^ (k-(l+1))=p at *
     have DD:((l+1:Nat):Int)=(l:Int)+1:=by omega
     go_wp2_with fail;refine CG.mono ?_;rintro e w2 ⟨rfl,d3,FY,Qu⟩;go_wp2_with fail;go_roundw
     case rel=>exact⟨l,d3,by go_num,by rw [QW.out],by omega,FY,Qu⟩
     case measure=>simp [intOf]
def Z7T (c:CA) (d:BD) (p:Nat) (w:World) (r:Ending) (w':World):Prop:=r=.returned (.tuple #[.int .i64 ((addr c.size p 0:Nat):Int),.int .i64 0]) /\
 ∃(d':BD) (m:BM) (rv':RV),d'.b=d.b/\d'.top=d.top/\d'.ps=d.ps++[p]/\d'.At/\m.bits=(List.replicate (960/c.size) false).set 0 true/\(c.insert rv' (m,p)).Ok/\Step (c.hl++d.hl) ((c.insert rv' (m,p)).hl++d'.hl) w w'
theorem Z7U {w w5:World} {c:CA} {d d':BD} {m:BM} (p g:Nat) (ok:c.Ok) (hn:∀x∈c.pg,x.2≠p) (hp:p<1048576) (CS:c.pg.length<1048576) (hm:m.bits=(List.replicate (960/c.size) false).set 0 true) (b1:d'.b=d.b) (b2:d'.top=d.top) (b3:d'.ps=d.ps++[p]) (b4:d'.At)
  (Ap:Step (c.hl++d.hl) (c.hl++(m.hl++d'.hl)) w w5) (hg:g<w5.heap.size) (EX:g∉keys (c.hl++(m.hl++d'.hl))) :
  Calls prog 228 #[lvOf c.rv c.pg.length,.int .i64 (Q0r c.pg p),.slice (some ⟨w5.heap.size,0,none⟩) 1 1] (w5.drew.alloc (.cells #[ptr m.b,.int .i64 ((1024*p:Nat):Int)] 343)) fun r w6=>∃(g6 CL:Nat) (v6:Value),v6=.slice (some ⟨g6,0,none⟩) (c.pg.length+1) CL/\r=.returned v6 /\
   w6.heap[g]?=w5.heap[g]?/\w6.cell? ⟨c.c,2,none⟩=some (lvOf c.rv c.pg.length)/\w6.frozen? ⟨c.c,2,none⟩=false /\
   Calls prog 225 #[.pointer (some ⟨c.c,0,none⟩),.agg #[ptr m.b,.int .i64 ((1024*p:Nat):Int)],.int .i64 0] (w6.setCell ⟨c.c,2,none⟩ v6) fun r w7=>r=.returned (.int .i64 ((addr c.size p 0:Nat):Int))/\Z7T c d p w (.returned (.tuple #[.int .i64 ((addr c.size p 0:Nat):Int),.int .i64 0])) w7:=by
 have s5:=Ap.sep;have s6:=(s5.drew.alloc (.cells #[ptr m.b,.int .i64 ((1024*p:Nat):Int)] 343))
 have C9:(Q0j c.pg).length=c.pg.length*2:=Q7j _;have ox:∀v∈Q0j c.pg,v.oneCell'=true:=by
  intro v hv;unfold Q0j at hv;obtain⟨y,_,hy⟩:=J2H.1 hv;simp at hy;rcases hy with rfl|rfl <;> rfl
 have e0:c.hl++(m.hl++d'.hl)=[(c.c,isC 341 [ptr c.bb,.int .i64 c.size,lvOf c.rv c.pg.length])]++rowH c.rv 343 2 (Q0j c.pg)++(pgH c.pg++(m.hl++d'.hl)):=by unfold CA.hl;simp
 have s6':=s6;rw [e0] at s6';have hv:Cells (w5.drew.alloc (.cells #[ptr m.b,.int .i64 ((1024*p:Nat):Int)] 343)) w5.heap.size 343 [ptr m.b,.int .i64 ((1024*p:Nat):Int)]:=Cells.new w5.drew 343 [ptr m.b,.int .i64 ((1024*p:Nat):Int)];have FX:w5.heap.size∉keys (c.hl++(m.hl++d'.hl)):=fun hm=>by have:=s5.lt hm;omega
 refine (Z9U s6' ok.rv C9 (Q8a c.pg p) (by omega) hv (by rw [<- e0];exact FX) ox rfl rfl).mono ?_;rintro r w6 ⟨rv',rfl,Ds,K7⟩;have AE:w6.heap[g]?=w5.heap[g]?:=by
  have h1:=K7.chg.block g (by simp;omega) (by rw [<- e0];exact EX);rw [h1];exact heap_alloc_old w5.drew _ hg
 have BB:=(K7.sep).cells (b:=c.c) (T:=341) (cs:=[ptr c.bb,.int .i64 c.size,lvOf c.rv c.pg.length]) (by simp);have QM:Step (c.hl++(m.hl++d'.hl)) ((c.insert rv' (m,p)).hl++d'.hl) w5 (w6.setCell ⟨c.c,2,none⟩ (lvOf rv' (c.pg.length+1))):=
  (CA.insStep (c:=c) (K:=d'.hl) (m,p) rv' s6 K7).from_alloc.from_drew
 have okN:=CA.ok_ins ok rv' (m,p) hn Ds CS hp (by rw [hm];simp);have AU:=Ap.trans QM;obtain⟨g6,CL,e6⟩:∃g6 CL:Nat,rv'=some (g6,CL):=by
  cases rv' with
  | none=>have:c.pg.length+1=0:=Ds;omega
  | some p=>exact⟨p.1,p.2,rfl⟩
 refine⟨g6,CL,_,by rw [e6];rfl,rfl,AE,BB.cell 2 _ rfl,BB.free 2,?_⟩;have Hj:=Q8L AU.sep.left okN m.b p 0 hp (by omega);refine Hj.mono ?_;rintro r w7 ⟨rfl,CT⟩;exact⟨rfl,rfl,d',m,rv',b1,b2,b3,b4,hm,okN,AU.trans (AU.sep.grown CT)⟩
theorem Z2E (a b:Nat) (ha:a<2 ^ 63) (hb:b<2 ^ 63):bits BinOp.xor IntKind.i64 (a:Int) (b:Int)=((a ^^^ b:Nat):Int):=by
 have h:(a ^^^ b)<2 ^ 63:=J3y ha hb;have e:((BitVec.ofInt 64 (a:Int)) ^^^ (BitVec.ofInt 64 (b:Int))).toNat=a ^^^ b:=by
  rw [BitVec.ofInt_natCast,BitVec.ofInt_natCast,BitVec.toNat_xor,BitVec.toNat_ofNat,BitVec.toNat_ofNat,J3C (by omega),J3C (by omega)]
 unfold bits;show IntKind.i64.wrap (((BitVec.ofInt 64 (a:Int)) ^^^ (BitVec.ofInt 64 (b:Int))).toNat:Int)=_;rw [e,IntKind.wrap_i64];omega
theorem J0e (i:Nat):i ^^^ 1=sib i:=by
 have h:(i ^^^ 1)/2=i/2:=by
  have:=Nat.xor_div_two_pow (a:=i) (b:=1) (n:=1)
  simpa using this
 have h2:(i ^^^ 1)%2=(i+1)%2:=by
  have:=J3A i 1 0;rw [J3E,J3E,J3E] at this;have h3:i%2=0∨i%2=1:=by omega
  have h4:(i ^^^ 1)%2=0∨(i ^^^ 1)%2=1:=by omega
  rcases h3 with h3|h3 <;> rcases h4 with h4|h4 <;> simp [h3,h4] at this <;> omega
 unfold sib;split <;> omega
theorem J0f (u:Nat->Bool) (top p:Nat):∃k,k<=top/\(k<top->clr u k (sib (p/2 ^ k))=false)/\∀j,j<k->clr u j (sib (p/2 ^ j))=true:=by
 rcases J1i (fun k=>decide (k=top)||!clr u k (sib (p/2 ^ k))) (top+1) with h|⟨k,h1,h2,h3⟩
 ·have:=h top (by omega);simp at this
 ·refine⟨k,by omega,fun hk=>?_,fun j hj=>?_⟩
  ·simp only [Bool.or_eq_true,decide_eq_true_eq,J5q] at h2;rcases h2 with h2|h2
   ·omega
   ·exact h2
  ·have:=h3 j hj;simp only [Bool.or_eq_false_iff,Bool.not_eq_false'] at this;exact this.2
theorem Z7V (u:Nat->Bool) (p k:Nat) (hs:∀j,j<k->clr u j (sib (p/2 ^ j))=true):clr (setU u p false) k (p/2 ^ k)=true:=by
 induction k with
 | zero=>rw [Nat.pow_zero,Nat.div_one,Z1w];simp [setU]
 | succ k ih =>
  obtain⟨s1,s2⟩:=Q4A (p/2 ^ k);have h1:=ih (fun j hj=>hs j (by omega));have h2:=hs k (by omega);rw [<- Q4z u p k (sib (p/2 ^ k)) (fun e=>s2 e.symm)] at h2;rw [div_succ,clr_half,J2C];have:(p/2 ^ k=2*(p/2 ^ k/2)/\sib (p/2 ^ k)=2*(p/2 ^ k/2)+1)∨(sib (p/2 ^ k)=2*(p/2 ^ k/2)/\p/2 ^ k=2*(p/2 ^ k/2)+1):=by omega
  rcases this with ⟨e1,e2⟩|⟨e1,e2⟩
  ·exact⟨by rw [e1] at h1;exact h1,by rw [e2] at h2;exact h2⟩
  ·exact⟨by rw [e1] at h2;exact h2,by rw [e2] at h1;exact h1⟩
theorem Q4a {u:Nat->Bool} {p:Nat} (hu:u p=true) (k:Nat):clr u k (p/2 ^ k)=false:=by
 cases h:clr u k (p/2 ^ k) with
 | false=>rfl
 | true=>rw [clr_iff] at h;rw [h p rfl] at hu;cases hu
theorem Z1y {u:Nat->Bool} {top p k:Nat} (hu:u p=true) (hk:k<top):fre u top k (sib (p/2 ^ k))=clr u k (sib (p/2 ^ k)):=by
 unfold fre;rw [(Q4A (p/2 ^ k)).1,<- div_succ,Q4a hu];simp
def mrg (G:Nat->Nat->Bool) (p k:Nat):Nat->Nat->Bool:=fun l x=>if l<k then (G l x&&!(x==sib (p/2 ^ l))) else G l x
theorem Z7W (G:Nat->Nat->Bool) (p:Nat):mrg G p 0=G:=by funext l x;simp [mrg]
theorem Z7X (G:Nat->Nat->Bool) (p k:Nat):upG (mrg G p k) k (sib (p/2 ^ k)) false=mrg G p (k+1):=by
 funext l x;unfold upG mrg;by_cases h:l=k
 ·subst h;by_cases hx:x=sib (p/2 ^ l)
  ·simp [hx]
  ·have e:(x==sib (p/2 ^ l))=false:=by simpa using hx
   simp [hx,e]
 ·have e:(l<k+1)=(l<k):=by apply propext;omega
  simp [h,e]
theorem J0g (u:Nat->Bool) (top p k:Nat) (hk:k<=top) (hu:u p=true) (hn:k<top->clr u k (sib (p/2 ^ k))=false) (hs:∀j,j<k->clr u j (sib (p/2 ^ j))=true) (l x:Nat) (hl:l<=top) :
  upG (mrg (fre u top) p k) k (p/2 ^ k) true l x=fre (setU u p false) top l x:=by
 rw [Z7O u top p k hk hu (Z7V u p k hs) hn l x hl];unfold upG mrg;by_cases h:l=k
 ·subst h;by_cases hx:x=p/2 ^ l
  ·simp [hx]
  ·have e:(x==p/2 ^ l)=false:=by simpa using hx
   simp [hx,e]
 ·simp [h]
theorem Z0u {top p k:Nat} (hp:p<2 ^ top) (hk:k<=top):p/2 ^ k<2 ^ (top-k):=by
 rw [J5z (J3w k),<- J3I,show top-k+k=top from by omega];exact hp
theorem Z9A {n i:Nat} (hi:i<2 ^ (n+1)):sib i<2 ^ (n+1):=by
 rw [J3p] at *
 unfold sib;split <;> omega
def J1n (d:BD) (p:Nat) (w:World) (r:Ending) (w':World):Prop:=r=.returned (.int .i64 0) /\
 ∃d':BD,d'.b=d.b/\d'.top=d.top/\d'.ps=d.ps.erase p/\d'.At/\Step d.hl d'.hl w w'
theorem Z1z (w:World):(zeroValue 3).run prog w=.ok (.int .i64 0) w:=by kernel_rfl
theorem Z1A {w:World} {d:BD} (h:Sep w d.hl) (ha:d.At) (p:Nat) (hp:p∈d.ps) :
  Calls prog 160 #[.pointer (some ⟨d.b,0,none⟩),.int .i64 (1024*(p:Int))] w (J1n d p w):=by
 have hx:((1024*p:Nat):Int)=1024*(p:Int):=by omega
 have hu:uOf d.ps p=true:=by simpa [uOf] using hp
 obtain⟨k1,A0,hn,hs⟩:=J0f (uOf d.ps) d.top p;have Gr:=ha.lt p hp;have ht:=ha.is.top;have EL:=Q1j (P:=prog) (BD.map h) ((1024*p:Nat):Int) true (.int .i64 0) underlying241 underlying3 (Z1z w);rw [Z7Q,if_pos hp,hx] at EL;simp only [if_true,J4Z,Option.isSome_some] at EL;have KM:=BD.map h;have V8:=BD.cm h (by rw [ha.is.len];omega);have Hg:=Q0a (show ∀w2,Q0B w2 d.mb (del (upk d.ps) (1024*(p:Int)))->w.grownBy w2 (some d.mb)->({d with ps:=d.ps.erase p}:BD).To {d with ps:=d.ps.erase p} w2 w2/\Step d.hl ({d with ps:=d.ps.erase p}:BD).hl w w2 from fun w2 De B8=>by
  rw [<- hx,J0a] at De;have:=BD.putMap h _ De B8;exact⟨BD.To.refl this.sep,this⟩)
 have PT:Hid (({d with ps:=d.ps.erase p}:BD).Is (mrg (fre (uOf d.ps) d.top) p 0)):=by
  show BD.Is _ _;rw [Z7W];exact⟨ha.is.len,ha.is.top,ha.is.bits⟩
 have Kk:=Q0a (show ∀w2 wr d1,({d with ps:=d.ps.erase p}:BD).To d1 w2 wr->wr.cell? ⟨d.b,0,none⟩=some (.int .i64 d.top) from fun w2 wr d1 AI=>by
  have:=BD.c0 AI.step.sep;rw [AI.b,AI.top] at this;exact this)
 have Fr:=Q0a (show ∀k w2 wr d1,k<k1->({d with ps:=d.ps.erase p}:BD).To d1 w2 wr->d1.Is (mrg (fre (uOf d.ps) d.top) p k)->∃b,wr.cell? ⟨d.b,1+k,none⟩=some (.pointer (some ⟨b,0,none⟩)) /\
   Calls prog 223 #[.pointer (some ⟨b,0,none⟩),.bool false,.slice (some ⟨wr.heap.size,0,none⟩) 1 1] (wr.alloc (.cells #[.int .i64 ((sib (p/2 ^ k):Nat):Int)] 3)) fun r w'=>r=.returned (.int .i64 1)/\∃d2,({d with ps:=d.ps.erase p}:BD).To d2 w2 w'/\d2.Is (mrg (fre (uOf d.ps) d.top) p (k+1)) from fun k w2 wr d1 hk AI Au=>by
  have Es:k<d.top:=by omega
  have e0:d.top-k=(d.top-k-1)+1:=by omega
  have Ab:sib (p/2 ^ k)<2 ^ (d.top-k):=by
   have:=Z0u Gr (show k<=d.top by omega);rw [e0] at this ⊢;exact Z9A this
  have Aa:mrg (fre (uOf d.ps) d.top) p k k (sib (p/2 ^ k))≠false:=by
   unfold mrg;rw [if_neg (by omega),Z1y hu Es,hs k hk];decide
  have et:d1.top=d.top:=AI.top;obtain⟨b,h3,h4⟩:=Q8R AI.step.sep Au k (sib (p/2 ^ k)) false (by omega) (by rw [et];exact Ab) Aa;rw [AI.b] at h3;refine⟨b,h3,h4.mono ?_⟩;rintro r w' ⟨rfl,d2,CM,BX⟩;rw [Z7X] at BX;exact⟨rfl,d2,AI.trans CM,BX⟩)
 have MQ:=Q0a (show ∀w2 wr d1,k1<d.top->({d with ps:=d.ps.erase p}:BD).To d1 w2 wr->d1.Is (mrg (fre (uOf d.ps) d.top) p k1)->∃b,wr.cell? ⟨d.b,1+k1,none⟩=some (.pointer (some ⟨b,0,none⟩)) /\
   Calls prog 223 #[.pointer (some ⟨b,0,none⟩),.bool false,.slice (some ⟨wr.heap.size,0,none⟩) 1 1] (wr.alloc (.cells #[.int .i64 ((sib (p/2 ^ k1):Nat):Int)] 3)) fun r w'=>r=.returned (.int .i64 0)/\∃d2,({d with ps:=d.ps.erase p}:BD).To d2 w2 w'/\d2.Is (mrg (fre (uOf d.ps) d.top) p k1) from fun w2 wr d1 Es AI Au=>by
  have e0:d.top-k1=(d.top-k1-1)+1:=by omega
  have Ab:sib (p/2 ^ k1)<2 ^ (d.top-k1):=by
   have:=Z0u Gr (show k1<=d.top by omega);rw [e0] at this ⊢;exact Z9A this
  have Aa:mrg (fre (uOf d.ps) d.top) p k1 k1 (sib (p/2 ^ k1))=false:=by
   unfold mrg;rw [if_neg (by omega),Z1y hu Es,hn Es]
  have et:d1.top=d.top:=AI.top;obtain⟨b,h3,h4⟩:=J0b AI.step.sep Au k1 (sib (p/2 ^ k1)) false (by omega) (by rw [et];exact Ab) Aa;rw [AI.b] at h3;refine⟨b,h3,h4.mono ?_⟩;rintro r w' ⟨rfl,d2,CM,BX⟩;exact⟨rfl,d2,AI.trans CM,BX⟩)
 have Bm:=Q0a (show ∀w2 wr d1,Step d.hl ({d with ps:=d.ps.erase p}:BD).hl w w2->({d with ps:=d.ps.erase p}:BD).To d1 w2 wr->d1.Is (mrg (fre (uOf d.ps) d.top) p k1)->∃b,wr.cell? ⟨d.b,1+k1,none⟩=some (.pointer (some ⟨b,0,none⟩)) /\
   Calls prog 223 #[.pointer (some ⟨b,0,none⟩),.bool true,.slice (some ⟨wr.heap.size,0,none⟩) 1 1] (wr.alloc (.cells #[.int .i64 ((p/2 ^ k1:Nat):Int)] 3)) fun r w'=>r=.returned (.int .i64 1)/\J1n d p w (.returned (.int .i64 0)) w' from fun w2 wr d1 Ap AI Au=>by
  have Aa:mrg (fre (uOf d.ps) d.top) p k1 k1 (p/2 ^ k1)≠true:=by
   unfold mrg;rw [if_neg (by omega)];unfold fre;rw [Q4a hu];simp
  have et:d1.top=d.top:=AI.top;obtain⟨b,h3,h4⟩:=Q8R AI.step.sep Au k1 (p/2 ^ k1) true (by omega) (by rw [et];exact Z0u Gr A0) Aa;rw [AI.b] at h3;refine⟨b,h3,h4.mono ?_⟩;rintro r w' ⟨rfl,d2,CM,BX⟩;have FY:=AI.trans CM;have et2:d2.top=d.top:=FY.top;have ep2:d2.ps=d.ps.erase p:=FY.ps;refine⟨rfl,rfl,d2,FY.b,et2,ep2,⟨⟨BX.len,BX.top,?_⟩,?_,?_⟩,Ap.trans FY.step⟩
  ·intro k m hm;rw [BX.bits k m hm];have Es:k<=d2.top:=by
    have h1:k<d2.bms.length:=(J2y.1 hm).1;have h2:d2.bms.length=d2.top+1:=BX.len;omega
   apply J4q
   intro x _;rw [ep2,Z4N ha.nd,et2];exact J0g _ _ _ _ A0 hu hn hs k x (by omega)
  ·rw [ep2];exact ha.nd.erase p
  ·intro x hx;rw [ep2] at hx;rw [et2];exact ha.lt x (J2L hx))
 have Qh:p<1048576:=J2j Gr (by have:=Q2n (k:=0) ht;simpa using this);clear h ha hu hn hs;generalize mrg (fre (uOf d.ps) d.top) p=M at *
 generalize Qx:({d with ps:=d.ps.erase p}:BD)=d0 at *
 clear Qx;generalize d.top=top at *
 go_enter func160,ntmps160;go_wp2_with (refine Q2w _ rfl _ _ 241 3 3 3 rfl underlying241 underlying3 d.mb (upk d.ps) KM _ rfl rfl ?_;intro w2 De B8);obtain⟨Mb,M5⟩:=Hg.out w2 De B8;clear De B8 KM V8 EL Hg;go_wp2_with fail
 go_loopw [5,7] (fun kv iv wr=>∃(k:Nat) (d1:BD),kv=.int .i64 k/\iv=.int .i64 ((p/2 ^ k:Nat):Int)/\k<=k1/\d0.To d1 w2 wr/\d1.Is (M k)) (fun kv _ _=>k1-(intOf kv).toNat)
 case atStart=>exact⟨0,d0,rfl,by simp,J4j _,Mb,PT.out⟩
 case round =>
  clear Mb;obtain⟨k,d1,rfl,rfl,hk,AI,Au⟩:=hrel;have Ob:=Kk.out _ _ _ AI;have V0:p/2 ^ k<1048576:=J3t (J3N _ _) Qh;have IC:bits BinOp.xor IntKind.i64 ((p/2 ^ k:Nat):Int) 1=((sib (p/2 ^ k):Nat):Int):=by
   rw [show (1:Int)=((1:Nat):Int) from rfl,Z2E _ _ (by omega) (by omega),J0e]
  have Lk:=Q0a (show ((p/2 ^ (k+1):Nat):Int)=((p/2 ^ k:Nat):Int)/2 from by rw [div_succ];omega);by_cases Ab:k<k1
  ·obtain⟨b,hc,AX⟩:=Fr.out k w2 wr d1 Ab AI Au;have Es:k<top:=by omega
   clear AI Au;generalize p/2 ^ k=i at *
   generalize sib i=s at *
   go_wp2_with fail;refine AX.mono ?_;rintro e w3 ⟨rfl,d2,CM,BX⟩;clear AX hc IC;go_wp2_with fail;go_roundw
   case rel=>exact⟨k+1,d2,by go_num,by rw [Lk.out],by omega,CM,BX⟩
   case measure=>simp [intOf];omega
  ·obtain rfl:k=k1:=by omega
   by_cases Es:k<top
   ·obtain⟨b,hc,AX⟩:=MQ.out w2 wr d1 Es AI Au;have Mg:=Q0a (show ∀w3 d2,d0.To d2 w2 w3->d2.Is (M k)->_ from fun w3 d2 h1 h2=>Bm.out w2 w3 d2 M5 h1 h2);clear AI Au Lk;generalize p/2 ^ k=i at *
    generalize sib i=s at *
    go_wp2_with fail;refine AX.mono ?_;rintro e w3 ⟨rfl,d2,CM,BX⟩;obtain⟨b2,B6,CG⟩:=Mg.out w3 d2 CM BX;clear AX hc IC CM BX;go_wp2_with fail;refine CG.mono ?_;rintro e w4 ⟨rfl,Bj⟩;have P4:=Q0a Bj;clear Bj CG;go_wp2_with fail;go_ret;exact P4.out
   ·obtain⟨b2,B6,CG⟩:=Bm.out w2 wr d1 M5 AI Au;clear AI Au Lk IC;have QY:¬((k:Int)<top):=by omega
    have Wq:decide ((k:Int)<top)=false:=by simpa using QY
    generalize p/2 ^ k=i at *
    go_wp2_with fail;refine CG.mono ?_;rintro e w4 ⟨rfl,Bj⟩;have P4:=Q0a Bj;clear Bj CG;go_wp2_with fail;go_ret;exact P4.out
def Z7Y (c:CA) (d:BD) (k p:Nat) (w:World) (r:Ending) (w':World):Prop:=r=.returned (.int .i64 0) /\
 ∃d':BD,d'.b=d.b/\d'.top=d.top/\d'.ps=d.ps.erase p/\d'.At/\Step (c.hl++d.hl) ((c.dropPg k).hl++d'.hl) w w'
theorem Q0S {w w':World} {b:Nat} (h:w'.heap[b]?=w.heap[b]?) (j:Nat):w'.cell? ⟨b,j,none⟩=w.cell? ⟨b,j,none⟩:=by simp only [World.cell?,h]
theorem Z4Q {w:World} {c:CA} {d:BD} {w4:World} {rb cap n:Nat} (k:Nat) (x:BM×Nat) (m':BM) (hx:c.pg[k]?=some x) (hb:m'.b=x.1.b) (AQ:c.rv=some (rb,cap)) (hn:c.pg.length=n+1) (ok:c.Ok) (ha:d.At) (hp:x.2∈d.ps) (g:Nat) (EX:g∉keys d.hl) (Ij:g<w4.heap.size)
  (Ap:Step (c.hl++d.hl) ((c.pageTo k x m').hl++d.hl) w w4) :
  Calls prog 160 #[ptr d.b,.int .i64 ((1024*x.2:Nat):Int)] w4.drew fun r w5=>r=.returned (.int .i64 0)/\(w5.cell? ⟨c.c,0,none⟩=some (ptr c.bb)/\w5.cell? ⟨g,1,none⟩=w4.cell? ⟨g,1,none⟩) /\
   w5.cell? ⟨c.c,2,none⟩=some (.slice (some ⟨rb,0,none⟩) (n+1) cap) /\
   Calls prog 266 #[.slice (some ⟨rb,0,none⟩) (n+1) cap,.int .i64 k,.int .i64 ((k:Int)+1)] w5 fun r w6=>r=.returned (.slice (some ⟨rb,0,none⟩) n cap) /\
    (∃v,w6.cell? ⟨c.c,2,none⟩=some v)/\w6.frozen? ⟨c.c,2,none⟩=false/\Z7Y c d k x.2 w (.returned (.int .i64 0)) (w6.setCell ⟨c.c,2,none⟩ (.slice (some ⟨rb,0,none⟩) n cap)):=by
 have hk:=(J2y.1 hx).1;have s4:=Ap.sep.drew;have Jr:((1024*x.2:Nat):Int)=1024*(x.2:Int):=by omega
 rw [Jr];refine (Z1A s4.right ha x.2 hp).mono ?_;rintro r w5 ⟨rfl,d',b1,b2,b3,b4,b5⟩;have f5:Step ((c.pageTo k x m').hl++d.hl) ((c.pageTo k x m').hl++d'.hl) w4 w5:=by
  have:=Step.frame (c.pageTo k x m').hl [] (by simpa using s4) b5
  simpa using this.from_drew
 have s5:=f5.sep;have ec:Q0j (c.pageTo k x m').pg=Q0j c.pg:=Q7k _ _ _ _ hx hb;have el:(c.pageTo k x m').pg.length=n+1:=by simp [CA.pageTo,hn]
 have ed:(c.pageTo k x m').dropPg k=c.dropPg k:=by simp [CA.pageTo,CA.dropPg,List.eraseIdx_set_eq]
 have hC:=CA.sepC s5.left;have A6:(c.pageTo k x m').c=c.c:=rfl;have hR:=CA.sepR s5.left;have C7:(c.pageTo k x m').rv=some (rb,cap):=AQ;rw [C7,ec] at hR;obtain⟨o,ho,Ag,rfl,BB,AW⟩:=hR.get (b:=rb) (q:=isR 343 (cap*2) (Q0j c.pg)) (by simp [rowH]);have AY:=ok.rv;rw [AQ,hn] at AY;have CS:=ok.len;have C9:(Q0j c.pg).length=(n+1)*2:=by rw [Q7j,hn]
 have ox:∀v∈Q0j c.pg,v.oneCell'=true:=by
  intro v hv;unfold Q0j at hv;obtain⟨y,_,hy⟩:=J2H.1 hv;simp at hy;rcases hy with rfl|rfl <;> rfl
 refine⟨rfl,⟨hC.cell 0 _ rfl,?_⟩,?_,?_⟩
 ·exact Q0S ((b5.chg.block g Ij EX)) 1
 ·have:=hC.cell 2 _ rfl;rw [C7,el] at this;exact this
 ·refine (Z9V ho BB AW C9 (by omega) (by omega) AY.1 AY.2 ox).mono ?_;rintro r w6 ⟨rfl,q1,q2⟩;have Aa:c.c≠rb:=fun e=>by
   have AD:=s5.left.nd;unfold CA.hl at AD;rw [C7] at AD;simp [rowH] at AD;exact AD.1.1 (by simpa [CA.pageTo] using e)
  have AE:=q2.block c.c (s5.lt (by simp [CA.hl,CA.pageTo])) (fun e=>Aa (J3e e));refine⟨rfl,⟨_,(Q0S AE 2).trans (hC.cell 2 _ rfl)⟩,?_,rfl,d',b1,b2,b3,b4,?_⟩
  ·have:=hC.free 2;rw [A6] at this
   simpa only [World.frozen?,AE] using this
  ·have hd:=CA.dropStep s5.left C7 k n (by rw [el];omega) el (by rw [ec];exact⟨rfl,q1,q2⟩);rw [ed,A6] at hd;have:=Step.frame [] d'.hl (by simpa using s5) hd;exact (Ap.trans f5).trans (by simpa using this)
theorem Z4R {w:World} {c:CA} {d:BD} (h:Sep w (c.hl++d.hl)) (ok:c.Ok) (hd:d.At) (D0:c.bb=d.b) (a:Nat) (ha:a<4611686018427387904) (k i:Nat) (x:BM×Nat) (hs:Q5B c a=some (k,i)) (hx:c.pg[k]?=some x) (hi:x.1.bits[i]?.getD false=true) (Cb:cntB (x.1.bits.set i false)=0) (hp:x.2∈d.ps) :
  Calls prog 232 #[.pointer (some ⟨c.c,0,none⟩),.int .i64 a] w (Z7Y c d k x.2 w):=by
 have k1:=Q8b h.left ok a ha;rw [hs] at k1;have hk:=(J2y.1 hx).1;have C1:i<x.1.bits.length:=by
  rcases J4P i x.1.bits.length with e|e
  ·exact e
  ·rw [J3W e] at hi;cases hi
 have Kc:=ok.many x (J4v hx);have Ie:x.1.bits.length<=1048576:=by rw [Kc];have:=J3N 960 c.size;omega
 have CS:=ok.len;obtain⟨rb,cap,AQ⟩:∃rb cap,c.rv=some (rb,cap):=by
  cases e:c.rv with
  | none=>have:=ok.rv;rw [e] at this;have:c.pg.length=0:=this;omega
  | some p=>exact⟨p.1,p.2,rfl⟩
 obtain⟨n,hn⟩:∃n,c.pg.length=n+1:=⟨c.pg.length-1,by omega⟩
 have Er:Hid (∀w1,Below w.heap.size w w1->w1.cell? ⟨c.c,2,none⟩=some (.slice (some ⟨rb,0,none⟩) (n+1) cap)/\w1.cell? ⟨rb,k*2,none⟩=some (.pointer (some ⟨x.1.b,0,none⟩))/\w1.cell? ⟨rb,k*2+1,none⟩=some (.int .i64 ((1024*x.2:Nat):Int)) /\
   Calls prog 223 #[.pointer (some ⟨x.1.b,0,none⟩),.bool false,.slice (some ⟨w1.heap.size+1,0,none⟩) 1 1] ((w1.alloc (.cells #[.pointer (some ⟨x.1.b,0,none⟩),.int .i64 ((1024*x.2:Nat):Int)] 343)).alloc (.cells #[.int .i64 i] 3)) fun r w4=>r=.returned (.int .i64 1) /\
    w4.cell? ⟨w1.heap.size,0,none⟩=some (.pointer (some ⟨x.1.b,0,none⟩))/\w4.cell? ⟨w1.heap.size,1,none⟩=some (.int .i64 ((1024*x.2:Nat):Int))/\w4.cell? ⟨c.c,0,none⟩=some (.pointer (some ⟨d.b,0,none⟩)) /\
    Calls prog 265 #[.pointer (some ⟨x.1.b,0,none⟩)] w4 (fun r w5=>r=.returned (.int .i64 0)/\w4=w5) /\
    Calls prog 160 #[.pointer (some ⟨d.b,0,none⟩),.int .i64 ((1024*x.2:Nat):Int)] w4.drew fun r w5=>r=.returned (.int .i64 0)/\(w5.cell? ⟨c.c,0,none⟩=some (.pointer (some ⟨d.b,0,none⟩))/\w5.cell? ⟨w1.heap.size,1,none⟩=some (.int .i64 ((1024*x.2:Nat):Int))) /\
     w5.cell? ⟨c.c,2,none⟩=some (.slice (some ⟨rb,0,none⟩) (n+1) cap) /\
     Calls prog 266 #[.slice (some ⟨rb,0,none⟩) (n+1) cap,.int .i64 k,.int .i64 ((k:Int)+1)] w5 fun r w6=>r=.returned (.slice (some ⟨rb,0,none⟩) n cap) /\
      (∃v,w6.cell? ⟨c.c,2,none⟩=some v)/\w6.frozen? ⟨c.c,2,none⟩=false/\Z7Y c d k x.2 w (.returned (.int .i64 0)) (w6.setCell ⟨c.c,2,none⟩ (.slice (some ⟨rb,0,none⟩) n cap))):=fun w1 hb=>by
  have s1:=(h.grown hb).sep;have Cc:=CA.sepR s1.left;rw [AQ] at Cc;obtain⟨e1,e2⟩:=Q1V _ _ _ hx;have B6:=(CA.sepC s1.left).cell 2 _ rfl;rw [AQ,hn] at B6;refine⟨B6,Q0Y Cc _ _ e1,Q0Y Cc _ _ e2,?_⟩;have s3:=(s1.alloc (.cells #[.pointer (some ⟨x.1.b,0,none⟩),.int .i64 ((1024*x.2:Nat):Int)] 343)).alloc (.cells #[.int .i64 i] 3);have sb:=CA.sepB s3.left k x hx;have Ab:∀b∈keys x.1.hl,b<w1.heap.size:=fun b AE=>(CA.sepB s1.left k x hx).lt AE
  have hz:((w1.alloc (.cells #[.pointer (some ⟨x.1.b,0,none⟩),.int .i64 ((1024*x.2:Nat):Int)] 343))).heap.size=w1.heap.size+1:=by simp
  have AX:=Q2y sb false i C1 Ie (by rw [hi];simp) (w1.heap.size+1) (by
   have:=(Cells.new (w1.alloc (.cells #[.pointer (some ⟨x.1.b,0,none⟩),.int .i64 ((1024*x.2:Nat):Int)] 343)) 3 [.int .i64 i]).cell 0 _ rfl;rw [hz] at this;exact this) (fun hm=>by have:=Ab _ hm;omega)
  refine AX.mono ?_;rintro r w4 ⟨rfl,Ap⟩;have AT:=CA.turnB s3.left k x hx {x.1 with bits:=x.1.bits.set i false} rfl Ap;have AU:Step (c.hl++d.hl) ((c.pageTo k x {x.1 with bits:=x.1.bits.set i false}).hl++d.hl) w w4:=by
   have:=Step.frame [] d.hl (by simpa using s3) AT;exact (h.grown hb).trans (Step.from_alloc (Step.from_alloc (by simpa using this)))
  have El:w1.heap.size∉keys x.1.hl:=fun hm=>by have:=Ab _ hm;omega
  have AE:=Ap.chg.block w1.heap.size (by simp;omega) El;have Bf:=((Cells.new w1 343 [.pointer (some ⟨x.1.b,0,none⟩),.int .i64 ((1024*x.2:Nat):Int)]).alloc (.cells #[.int .i64 i] 3))
  have g4:w1.heap.size<w4.heap.size:=by
   have:=Ap.chg.size;simp at this;omega
  have Lp:w1.heap.size∉keys d.hl:=fun hm=>by have:=s1.right.lt hm;omega
  have d1:=(Q0S AE 1).trans (Bf.cell 1 _ rfl);have d0:=(CA.sepC AU.sep.left).cell 0 _ rfl;have d0':w4.cell? ⟨c.c,0,none⟩=some (.pointer (some ⟨d.b,0,none⟩)):=by rw [<- D0];exact d0
  refine⟨rfl,(Q0S AE 0).trans (Bf.cell 0 _ rfl),d1,d0',?_,?_⟩
  ·have:=Q5Z Ap.sep (by simpa using Ie);rw [Cb] at this;exact this
  ·have ht:=Z4Q k x {x.1 with bits:=x.1.bits.set i false} hx rfl AQ hn ok hd hp w1.heap.size Lp g4 AU;rw [d1,D0] at ht;exact ht
 have HQ:Hid (∀r w',Told w (Q5b (some (k,i))) r w'->r=.returned (.tuple #[.int .i64 k,.int .i64 i,.bool true])/\Below w.heap.size w w'):=fun r w' ⟨e,hb⟩=>⟨e,hb⟩
 have By:(0:Int)<=k:=by omega
 have Do:(k:Int)<(n:Int)+1:=by omega
 have FP:(k:Int)<1048576:=by omega
 have BJ:(0:Int)<=i:=by omega
 have Ka:(i:Int)<1048576:=by omega
 have hw:IntKind.i64.wrap ((k:Int)+1)=(k:Int)+1:=Go.IntWalk.i64_in _ (by omega);clear h ok hs hx hi C1 Kc Ie AQ Cb hd D0 hp hk CS;obtain⟨GL,MY⟩:∃GL:Ending->World->Prop,GL=Z7Y c d k x.2 w:=⟨_,rfl⟩
 rw [<- MY] at Er ⊢;clear MY hn;generalize 1024*x.2=pv at *
 generalize x.1.b=b at *
 generalize c.c=cc at *
 generalize d.b=db at *
 go_enter func232,ntmps232;go_wp2_with fail;refine k1.mono ?_;rintro r w1 hf;obtain⟨rfl,hb⟩:=HQ.out _ _ hf;obtain⟨c1,c2,c3,AX⟩:=Er.out _ hb;have CP:=Q0a AX;clear AX hf hb;go_wp2_with fail;refine CP.out.mono ?_;rintro r w4 ⟨rfl,d1,d2,d3,d4,d5⟩;have HG:=Q0a d5;have HC:=Q0a d4;clear d4 d5;go_wp2_with fail;refine HC.out.mono ?_;rintro r w5 ⟨rfl,rfl⟩;have d2':w4.drew.cell? ⟨w1.heap.size,1,none⟩=some (.int .i64 pv):=d2;have d3':w4.drew.cell? ⟨cc,0,none⟩=some (.pointer (some ⟨db,0,none⟩)):=d3;go_wp2_with fail
 go_region_held3 (fun w'=>w'.cell? ⟨cc,0,none⟩=some (.pointer (some ⟨db,0,none⟩))/\w'.cell? ⟨w1.heap.size,1,none⟩=some (.int .i64 pv))
  (first|exact⟨d3,d2⟩|exact⟨d3',d2'⟩|exact⟨e0,e1⟩)
  (first|(go_at_call 160;refine HG.out.mono ?_;rintro r w6 ⟨rfl,⟨e0,e1⟩,e2,e3⟩;have HD:=Q0a e3;clear e3))
 go_wp2_with fail;refine HD.out.mono ?_;rintro r w7 ⟨rfl,⟨v,f1⟩,f2,f3⟩;have HF:=Q0a f3;clear f3;go_wp2_with fail;exact HF.out
end Go.Proofs.YtlakjlmaboioiaaGreatDoor

/- SpaceRevokes returns true at every input. No condition. Part of its proof. -/
import Derived.Test.YtlakjlmaboioiaaGreatDoorSv04
import Derived.Deep.RegionWith
set_option maxHeartbeats 4000000
set_option maxRecDepth 100000
set_option linter.unusedVariables false
namespace Go.Proofs.YtlakjlmaboioiaaGreatDoor
open Go.RowKit Go.Proofs.Tryz
structure BD where
 b:Nat
 mb:Nat
 top:Nat
 bms:List BM
 ps:List Nat
def BD.cells (d:BD):List Value:=.int .i64 d.top::(d.bms.map (fun m=>ptr m.b)++List.replicate (21-d.bms.length) (.pointer none)++[.map (some d.mb)])
def upk (ps:List Nat):List (Int×Value):=ps.map fun p=>(((1024*p:Nat):Int),.int .i64 0)
def BD.hl (d:BD):HL:=(d.b,isC 243 d.cells)::(d.mb,isMI (upk d.ps))::d.bms.flatMap BM.hl
structure BD.Is (d:BD) (G:Nat->Nat->Bool):Prop where
 len:d.bms.length=d.top+1
 top:d.top<=20
 bits:∀k m,d.bms[k]?=some m->m.bits=(List.range (2 ^ (d.top-k))).map (G k)
def uOf (ps:List Nat):Nat->Bool:=fun p=>decide (p∈ps)
structure BD.At (d:BD):Prop where
 is:d.Is (fre (uOf d.ps) d.top)
 nd:d.ps.Nodup
 lt:∀p∈d.ps,p<2 ^ d.top
def upG (G:Nat->Nat->Bool) (k i:Nat) (on:Bool):Nat->Nat->Bool:=fun l j=>if l=k/\j=i then on else G l j
theorem Z7u (ps:List Nat) (p:Nat):look (upk ps) ((1024*p:Nat):Int)=if p∈ps then some (.int .i64 0) else none:=by
 induction ps with
 | nil=>rfl
 | cons x r ih =>
  have ih':look (r.map fun p=>(((1024*p:Nat):Int),Value.int .i64 0)) ((1024*p:Nat):Int)=_:=ih;by_cases h:p=x
  ·subst h;simp [upk,look]
  ·have h2:¬((1024*p:Nat):Int)=((1024*x:Nat):Int):=by omega
   simp only [upk,J1O,look,h2,if_false];rw [ih'];simp [h]
theorem Z9B (ps:List Nat) (p:Nat) (h:p∉ps):put (upk ps) ((1024*p:Nat):Int) (.int .i64 0)=upk (ps++[p]):=by
 induction ps with
 | nil=>rfl
 | cons x r ih =>
  have h1:¬p=x:=fun e=>h (by simp [e])
  have h2:¬((1024*p:Nat):Int)=((1024*x:Nat):Int):=by omega
  have ih':=ih (fun hr=>h (by simp [hr]));simp only [upk,J1O,put,h2,if_false,J3X] at ih' ⊢;rw [ih']
theorem Z9C (ps:List Nat) (p:Nat):del (upk ps) ((1024*p:Nat):Int)=upk (ps.erase p):=by
 induction ps with
 | nil=>rfl
 | cons x r ih =>
  by_cases h:p=x
  ·subst h;simp [upk,del]
  ·have h2:¬((1024*p:Nat):Int)=((1024*x:Nat):Int):=by omega
   have h3:(x==p)=false:=by simp;exact fun e=>h e.symm
   have e1:(x::r).erase p=x::r.erase p:=by rw [List.erase_cons,h3];rfl
   rw [e1];simp only [upk,J1O,del,h2,if_false] at ih ⊢;rw [ih]
theorem Z7v (ps:List Nat) (p:Nat):uOf (ps++[p])=setU (uOf ps) p true:=by
 funext x;unfold uOf setU;by_cases h:x=p <;> simp [h]
theorem Z4A {ps:List Nat} (h:ps.Nodup) (p:Nat):uOf (ps.erase p)=setU (uOf ps) p false:=by
 funext x;unfold uOf setU;simp only [h.mem_erase_iff];by_cases h:x=p <;> simp [h]
theorem Z4B (G:Nat->Bool) (n i:Nat) (on:Bool):((List.range n).map G).set i on=(List.range n).map fun j=>if j=i then on else G j:=by
 apply J3u
 intro j;rw [J3t,J3x,J3x,J3v,J3w];by_cases h:i=j
 ·subst h;by_cases h2:i<n
  ·simp [h2]
  ·simp [h2]
 ·rw [if_neg h];by_cases h2:j<n
  ·simp [h2,show ¬j=i from fun e=>h e.symm]
  ·rw [J3B (by simp;omega)];rfl
section
variable {w:World} {d:BD} {G:Nat->Nat->Bool}
theorem BD.sepC (h:Sep w d.hl):Cells w d.b 243 d.cells:=h.cells (by simp [BD.hl])
theorem BD.c0 (h:Sep w d.hl):w.cell? ⟨d.b,0,none⟩=some (.int .i64 d.top):=(BD.sepC h).cell 0 _ rfl
theorem BD.cf (h:Sep w d.hl) (k:Nat) (m:BM) (hm:d.bms[k]?=some m):w.cell? ⟨d.b,1+k,none⟩=some (ptr m.b):=by
 have hk:k<d.bms.length:=(J2c.1 hm).1;refine (BD.sepC h).cell (1+k) _ ?_;unfold BD.cells;rw [J2V,J4Y,J2M,J4Z (by simpa using hk),J3x,hm];rfl
theorem BD.cm (h:Sep w d.hl) (hl:d.bms.length<=21):w.cell? ⟨d.b,22,none⟩=some (.map (some d.mb)):=by
 refine (BD.sepC h).cell 22 _ ?_;unfold BD.cells;have e:(d.bms.map (fun m=>ptr m.b)++List.replicate (21-d.bms.length) (Value.pointer none)).length=21:=by simp;omega
 rw [J4Y,J5a (by omega),e];rfl
theorem BD.map (h:Sep w d.hl):Q0E w d.mb (upk d.ps):=h.map (by simp [BD.hl,isMI])
theorem BD.bm (h:Sep w d.hl) (k:Nat) (m:BM) (hm:d.bms[k]?=some m):Sep w m.hl:=by
 refine h.sub ?_;unfold BD.hl;rw [Q4m _ _ _ _ hm];refine List.Sublist.cons _ (List.Sublist.cons _ ?_);exact (J2C _ _).trans (J2B _ _)
theorem BD.setBm (h:Sep w d.hl) (k:Nat) (m m':BM) (hm:d.bms[k]?=some m) (hb:m'.b=m.b) {w':World} (hs:Step m.hl m'.hl w w'):Step d.hl ({d with bms:=d.bms.set k m'}:BD).hl w w':=by
 have hk:k<d.bms.length:=(J2c.1 hm).1;have hx:d.bms[k]=m:=(J2c.1 hm).2;have ec:({d with bms:=d.bms.set k m'}:BD).cells=d.cells:=by
  have:(d.bms.set k m').map (fun m=>ptr m.b)=d.bms.map fun m=>ptr m.b:=by
   apply J3u
   intro j;rw [J3x,J3x,J3t];by_cases hj:k=j
   ·subst hj;simp [hk,hb,hx]
   ·rw [if_neg hj]
  unfold BD.cells;simp only [this,J3y]
 have e1:d.hl=((d.b,isC 243 d.cells)::(d.mb,isMI (upk d.ps))::(d.bms.take k).flatMap BM.hl)++m.hl++(d.bms.drop (k+1)).flatMap BM.hl:=by
  unfold BD.hl;rw [Q4m _ _ _ _ hm];simp [List.append_assoc]
 have e2:({d with bms:=d.bms.set k m'}:BD).hl=((d.b,isC 243 d.cells)::(d.mb,isMI (upk d.ps))::(d.bms.take k).flatMap BM.hl)++m'.hl++(d.bms.drop (k+1)).flatMap BM.hl:=by
  unfold BD.hl;rw [ec,Z9b _ _ _ _ hk];simp [List.append_assoc]
 rw [e1] at h;rw [e1,e2];exact Step.frame _ _ h hs
end
theorem BD.Is.get {d:BD} {G:Nat->Nat->Bool} (h:d.Is G) (k:Nat) (hk:k<=d.top):∃m,d.bms[k]?=some m/\m.bits=(List.range (2 ^ (d.top-k))).map (G k):=by
 have:k<d.bms.length:=by rw [h.len];omega
 exact⟨_,J4d this,h.bits k _ (J4d this)⟩
theorem Q2n {t k:Nat} (h:t<=20):2 ^ (t-k)<=1048576:=J1M (J3a (by omega) (by omega:t-k<=20)) (by decide)
def fstG (G:Nat->Nat->Bool) (top k s:Nat):Option Nat:=Q1Y ((List.range (2 ^ (top-k))).map (G k)) true s
theorem Q7L {w:World} {d:BD} {G:Nat->Nat->Bool} (h:Sep w d.hl) (hi:d.Is G) (k:Nat) (hk:k<=d.top) (s:Nat) (hs:s<=1048576):∃b,w.cell? ⟨d.b,1+k,none⟩=some (.pointer (some ⟨b,0,none⟩)) /\
  Calls prog 132 #[.pointer (some ⟨b,0,none⟩),.bool true,.int .i64 s] w fun r w'=>r=.returned (.int .i64 (optI (fstG G d.top k s)))/\w=w':=by
 obtain⟨m,hm,hb⟩:=hi.get k hk;refine⟨m.b,BD.cf h k m hm,?_⟩;have:=Q3Y (BD.bm h k m hm) true s hs (by rw [hb];simpa using Q2n hi.top);rw [hb] at this;exact this
theorem Q3d {α β:Type} (f:α->β) (L:List α) (k:Nat) (x y:α) (h:L[k]?=some x) (e:f y=f x):(L.set k y).map f=L.map f:=by
 apply J3u
 intro j;rw [J3x,J3x,J3t];by_cases hj:k=j
 ·subst hj;have hk:k<L.length:=(J2c.1 h).1;rw [if_pos rfl,if_pos hk,h];simp [e]
 ·rw [if_neg hj]
structure BD.To (d d':BD) (w w':World):Prop where
 b:d'.b=d.b
 mb:d'.mb=d.mb
 top:d'.top=d.top
 ps:d'.ps=d.ps
 step:Step d.hl d'.hl w w'
 ptrs:d'.bms.map BM.b=d.bms.map BM.b
theorem BD.To.refl {d:BD} {w:World} (h:Sep w d.hl):d.To d w w:=⟨rfl,rfl,rfl,rfl,Step.refl h,rfl⟩
theorem BD.To.trans {d d1 d2:BD} {w w1 w2:World} (h:d.To d1 w w1) (k:d1.To d2 w1 w2):d.To d2 w w2:=⟨k.b.trans h.b,k.mb.trans h.mb,k.top.trans h.top,k.ps.trans h.ps,h.step.trans k.step,k.ptrs.trans h.ptrs⟩
def SetG (d:BD) (w:World) (n:Int) (G:Nat->Nat->Bool) (r:Ending) (w':World):Prop:=r=.returned (.int .i64 n)/\∃d',d.To d' w w'/\d'.Is G
theorem Q8w {w:World} {d:BD} {G:Nat->Nat->Bool} (h:Sep w d.hl) (hi:d.Is G) (k i:Nat) (on:Bool) (hk:k<=d.top) (EX:i<2 ^ (d.top-k)) (Aa:G k i≠on):∃b,w.cell? ⟨d.b,1+k,none⟩=some (.pointer (some ⟨b,0,none⟩)) /\
  Calls prog 223 #[.pointer (some ⟨b,0,none⟩),.bool on,.slice (some ⟨w.heap.size,0,none⟩) 1 1] (w.alloc (.cells #[.int .i64 i] 3)) (SetG d w 1 (upG G k i on)):=by
 obtain⟨m,hm,hb⟩:=hi.get k hk;refine⟨m.b,BD.cf h k m hm,?_⟩;have Ac:m.bits.length=2 ^ (d.top-k):=by rw [hb];simp
 have Bp:m.bits[i]?.getD false=G k i:=by rw [hb];simp [EX]
 have hs:=BD.bm h k m hm;refine (Q2A (hs.alloc (.cells #[.int .i64 i] 3)) on i (by rw [Ac];exact EX) (by rw [Ac];exact Q2n hi.top) (by rw [Bp];exact Aa) w.heap.size ((Cells.new w 3 [.int .i64 i]).cell 0 _ rfl) (fun hb=>by have:=hs.lt hb;omega)).mono ?_;rintro r w' ⟨rfl,Ao⟩;refine⟨rfl,{d with bms:=d.bms.set k {m with bits:=m.bits.set i on}},⟨rfl,rfl,rfl,rfl,BD.setBm h k m {m with bits:=m.bits.set i on} hm rfl Ao.from_alloc,Q3d BM.b _ _ _ _ hm rfl⟩,⟨by simpa using hi.len,hi.top,?_⟩⟩;intro l m' BL;rw [J3t] at BL;by_cases hl:k=l
 ·subst hl;have Fs:k<d.bms.length:=by rw [hi.len];omega
  simp only [if_true,Fs] at BL;cases BL;show m.bits.set i on=_;rw [hb,Z4B]
  apply J3V
  intro j _;unfold upG;simp
 ·rw [if_neg hl] at BL;rw [hi.bits l m' BL]
  apply J3V
  intro j _;unfold upG;rw [if_neg];rintro⟨e,_⟩;exact hl e.symm
theorem BD.To.ptr {d d':BD} {w w':World} (h:d.To d' w w') {k:Nat} {b:Nat} (hm:(d.bms.map BM.b)[k]?=some b):w'.cell? ⟨d.b,1+k,none⟩=some (.pointer (some ⟨b,0,none⟩)):=by
 rw [<- h.ptrs,J3x] at hm;cases hx:d'.bms[k]? with
 | none=>rw [hx] at hm;cases hm
 | some m =>
  rw [hx] at hm;have:m.b=b:=J2J hm;have hc:=BD.cf h.step.sep k m hx;rw [h.b,this] at hc;exact hc
theorem Z9D {w:World} {d:BD} {G:Nat->Nat->Bool} (h:Sep w d.hl) (hi:d.Is G) (k i:Nat) (on:Bool) (hk:k<=d.top) (EX:i<2 ^ (d.top-k)) (Aa:G k i=on):∃b,w.cell? ⟨d.b,1+k,none⟩=some (.pointer (some ⟨b,0,none⟩)) /\
  Calls prog 223 #[.pointer (some ⟨b,0,none⟩),.bool on,.slice (some ⟨w.heap.size,0,none⟩) 1 1] (w.alloc (.cells #[.int .i64 i] 3)) (SetG d w 0 G):=by
 obtain⟨m,hm,hb⟩:=hi.get k hk;refine⟨m.b,BD.cf h k m hm,?_⟩;have Ac:m.bits.length=2 ^ (d.top-k):=by rw [hb];simp
 have Bp:m.bits[i]?.getD false=G k i:=by rw [hb];simp [EX]
 refine (Z2j ((BD.bm h k m hm).alloc (.cells #[.int .i64 i] 3)) on i (by rw [Ac];exact EX) (by rw [Ac];exact Q2n hi.top) (by rw [Bp];exact Aa) w.heap.size ((Cells.new w 3 [.int .i64 i]).cell 0 _ rfl)).mono ?_;rintro r w' ⟨rfl,rfl⟩;exact⟨rfl,d,⟨rfl,rfl,rfl,rfl,(Step.refl (h.alloc _)).from_alloc,rfl⟩,hi⟩
theorem Q6U {w:World} {d:BD} {G:Nat->Nat->Bool} (h:Sep w d.hl) (hi:d.Is G) (hn:∀k,k<=d.top->fstG G d.top k 0=none) :
  Calls prog 154 #[.pointer (some ⟨d.b,0,none⟩),.int .i64 0] w fun r w'=>r=.returned (.tuple #[.int .i64 0,.int .i64 4])/\w=w':=by
 have c0:=BD.c0 h;have HF:=Q0a (show ∀k,k<=d.top->∃b,w.cell? ⟨d.b,1+k,none⟩=some (.pointer (some ⟨b,0,none⟩))/\Calls prog 132 #[.pointer (some ⟨b,0,none⟩),.bool true,.int .i64 0] w fun r w'=>r=.returned (.int .i64 (-1))/\w=w' from fun k hk=>by
  obtain⟨b,h1,h2⟩:=Q7L h hi k hk 0 (by omega);rw [hn k hk] at h2;exact⟨b,h1,h2⟩)
 have ht:=hi.top;clear h hi hn;generalize d.top=top at *
 go_enter func154,ntmps154;go_wp2_with fail
 go_loop [6,7] (fun kv iv=>∃k:Nat,kv=.int .i64 k/\iv=.int .i64 (-1)/\k<=top+1) (fun kv _=>top+1-(intOf kv).toNat)
 case atStart=>exact⟨0,rfl,rfl,by omega⟩
 case round =>
  obtain⟨k,rfl,rfl,hk⟩:=hrel;by_cases Ab:k<=top
  ·obtain⟨b,hc,Bd⟩:=HF.out k Ab;go_wp2_with (go_at_call 132;refine Bd.mono ?_;rintro e w' ⟨rfl,rfl⟩)
   go_round
   case rel=>exact⟨k+1,by go_num,rfl,by omega⟩
   case measure=>simp [intOf];omega
  ·go_wp2_with fail;go_ret2;exact⟨rfl,rfl⟩
def spl (G:Nat->Nat->Bool) (k0 i0 j:Nat):Nat->Nat->Bool:=fun l x=>if l<j then G l x else if l<k0 then (G l x||(x==i0*2 ^ (k0-l)+1)) else if l=k0 then (G l x&&!(x==i0)) else G l x
theorem Z9E (G:Nat->Nat->Bool) (k0 i0:Nat):upG G k0 i0 false=spl G k0 i0 k0:=by
 funext l x;unfold upG spl;by_cases h:l=k0
 ·subst h;by_cases h2:x=i0 <;> simp [h2]
 ·by_cases h2:l<k0
  ·simp [h,h2]
  ·simp [h,h2]
theorem Z7w (G:Nat->Nat->Bool) (k0 i0 j:Nat) (hj:j<k0):upG (spl G k0 i0 (j+1)) j (i0*2 ^ (k0-j)+1) true=spl G k0 i0 j:=by
 funext l x;unfold upG spl;by_cases h:l=j
 ·subst h;have h1:¬l<l:=by omega
  have h2:l<l+1:=by omega
  by_cases hx:x=i0*2 ^ (k0-l)+1
  ·simp [hj,h1,hx]
  ·have e:(x==i0*2 ^ (k0-l)+1)=false:=by simpa using hx
   simp [hj,h1,h2,hx,e]
 ·have e:(l<j+1)=(l<j):=by apply propext;omega
  simp [h,e]
theorem Z9F (ps:List Nat) (top k0 i0:Nat) (hk:k0<=top) (hf:fre (uOf ps) top k0 i0=true) (l x:Nat) (hl:l<=top):spl (fre (uOf ps) top) k0 i0 0 l x=fre (uOf (ps++[i0*2 ^ k0])) top l x:=by
 have hp:i0*2 ^ k0/2 ^ k0=i0:=J4L _ (J3b k0);rw [Z7v,Z1j _ top k0 (i0*2 ^ k0) hk (by rw [hp];exact hf) l x hl,hp];unfold spl;rw [if_neg (by omega)];by_cases h1:l<k0
 ·rw [if_pos h1,if_pos h1];have e:i0*2 ^ k0/2 ^ l=i0*2 ^ (k0-l):=by
   rw [show (2:Nat) ^ k0=2 ^ (k0-l)*2 ^ l from by rw [<- J3n];congr 1;omega,<- J5b];exact J4L _ (J3b l)
  have e2:sib (i0*2 ^ (k0-l))=i0*2 ^ (k0-l)+1:=by
   unfold sib;rw [if_pos];rw [show k0-l=(k0-l-1)+1 from by omega,J2U,<- J5b];omega
  rw [e,e2]
 ·rw [if_neg h1,if_neg h1]
theorem Z4C {ps:List Nat} {top k0 i0:Nat} (hk:k0<=top) (hf:fre (uOf ps) top k0 i0=true) (j:Nat) (hj:j<k0):fre (uOf ps) top j (i0*2 ^ (k0-j)+1)=false:=by
 cases h:fre (uOf ps) top j (i0*2 ^ (k0-j)+1) with
 | false=>rfl
 | true =>
  have e1:(i0*2 ^ (k0-j)+1)*2 ^ j/2 ^ j=i0*2 ^ (k0-j)+1:=J4L _ (J3b j);have e2:(i0*2 ^ (k0-j)+1)*2 ^ j/2 ^ k0=i0:=by
   rw [show (2:Nat) ^ k0=2 ^ j*2 ^ (k0-j) from by rw [<- J3n];congr 1;omega,<- J3o,e1,J2V,J4T _ _ (J3b _),Nat.div_eq_of_lt (Nat.one_lt_two_pow (by omega)),J4q]
  have:=Q8v (by omega) hk h hf e1 e2;omega
def J0P (d:BD) (p:Nat) (w:World) (r:Ending) (w':World):Prop:=r=.returned (.tuple #[.int .i64 ((1024*p:Nat):Int),.int .i64 0]) /\
 ∃d':BD,d'.b=d.b/\d'.top=d.top/\d'.ps=d.ps++[p]/\d'.At/\Step d.hl d'.hl w w'
theorem BD.putMap {w w':World} {d:BD} (h:Sep w d.hl) (ps':List Nat) (hm:Q0E w' d.mb (upk ps')) (hg:w.grownBy w' (some d.mb)):Step d.hl ({d with ps:=ps'}:BD).hl w w':=by
 obtain⟨es,Ai,ho,hr⟩:=hm;exact Sep.turn (A:=[(d.b,isC 243 d.cells)]) (B:=d.bms.flatMap BM.hl) h hg ⟨_,ho,es,Ai,rfl,hr⟩
theorem Q6V {w:World} {d:BD} (h:Sep w d.hl) (ha:d.At) (k0 i0:Nat) (Bx:k0<=d.top) (hf:fstG (fre (uOf d.ps) d.top) d.top k0 0=some i0) (hp:∀k,k<k0->fstG (fre (uOf d.ps) d.top) d.top k 0=none) :
  Calls prog 154 #[.pointer (some ⟨d.b,0,none⟩),.int .i64 0] w (J0P d (i0*2 ^ k0) w):=by
 obtain⟨s1,s2,s3,s4⟩:=Q2O hf;have BI:i0<2 ^ (d.top-k0):=by simpa using s1
 have Av:fre (uOf d.ps) d.top k0 i0=true:=by simpa [BI] using s3
 have ht:=ha.is.top;have FI:i0*2 ^ k0<2 ^ d.top:=by
  have:i0*2 ^ k0<2 ^ (d.top-k0)*2 ^ k0:=J5c BI (J3b _)
  rwa [<- J3n,show d.top-k0+k0=d.top from by omega] at this
 have Fz:i0*2 ^ k0∉d.ps:=by
  have:=Q8u Av (p:=i0*2 ^ k0) (J4L _ (J3b k0))
  simpa [uOf] using this
 have J4:∀j,j<=k0->i0*2 ^ (k0-j)+1<=1048576/\i0*2 ^ (k0-j)<2 ^ (d.top-j):=by
  intro j hj;have h1:i0*2 ^ (k0-j)<2 ^ (d.top-k0)*2 ^ (k0-j):=J5c BI (J3b _);rw [<- J3n,show d.top-k0+(k0-j)=d.top-j from by omega] at h1;have:=Q2n (k:=j) ht;omega
 have c0:=BD.c0 h;have hi:=ha.is;have HF:=Q0a (show ∀k,k<k0->∃b,w.cell? ⟨d.b,1+k,none⟩=some (.pointer (some ⟨b,0,none⟩))/\Calls prog 132 #[.pointer (some ⟨b,0,none⟩),.bool true,.int .i64 0] w fun r w'=>r=.returned (.int .i64 (-1))/\w=w' from fun k hk=>by
  obtain⟨b,h1,h2⟩:=Q7L h hi k (by omega) 0 (by omega);rw [hp k hk] at h2;exact⟨b,h1,h2⟩)
 have TS:Hid (∃b,w.cell? ⟨d.b,1+k0,none⟩=some (.pointer (some ⟨b,0,none⟩))/\(Calls prog 132 #[.pointer (some ⟨b,0,none⟩),.bool true,.int .i64 0] w fun r w'=>r=.returned (.int .i64 i0)/\w=w') /\
   Calls prog 223 #[.pointer (some ⟨b,0,none⟩),.bool false,.slice (some ⟨w.heap.size,0,none⟩) 1 1] (w.alloc (.cells #[.int .i64 i0] 3)) (SetG d w 1 (spl (fre (uOf d.ps) d.top) k0 i0 k0))):=by
  obtain⟨b,h1,h2⟩:=Q7L h hi k0 Bx 0 (by omega);rw [hf] at h2;obtain⟨b',h3,h4⟩:=Q8w h hi k0 i0 false Bx BI (by rw [Av];decide);rw [h1] at h3;cases h3;rw [Z9E] at h4;exact⟨b,h1,h2,h4⟩
 have Bm:=Q0a (show ∀j wr d1,j<k0->d.To d1 w wr->d1.Is (spl (fre (uOf d.ps) d.top) k0 i0 (j+1))->∃b,wr.cell? ⟨d.b,1+j,none⟩=some (.pointer (some ⟨b,0,none⟩)) /\
   Calls prog 223 #[.pointer (some ⟨b,0,none⟩),.bool true,.slice (some ⟨wr.heap.size,0,none⟩) 1 1] (wr.alloc (.cells #[.int .i64 ((i0*2 ^ (k0-j)+1:Nat):Int)] 3)) fun r w'=>r=.returned (.int .i64 1)/\∃d2,d.To d2 w w'/\d2.Is (spl (fre (uOf d.ps) d.top) k0 i0 j) from fun j wr d1 hj AE As=>by
  obtain⟨b1,b2⟩:=J4 j (by omega);have Oh:i0*2 ^ (k0-j)+1<2 ^ (d.top-j):=by
   have e1:i0*2 ^ (k0-j)=2*(i0*2 ^ (k0-j-1)):=by
    rw [show k0-j=(k0-j-1)+1 from by omega,J2U,Nat.add_sub_cancel];simp only [J4M,Nat.mul_left_comm]
   have e2:2 ^ (d.top-j)=2*2 ^ (d.top-j-1):=by
    rw [<- J4X];congr 1;omega
   omega
  have Aa:spl (fre (uOf d.ps) d.top) k0 i0 (j+1) j (i0*2 ^ (k0-j)+1)≠true:=by
   unfold spl;rw [if_pos (by omega),Z4C Bx Av j hj];decide
  obtain⟨b,h3,h4⟩:=Q8w AE.step.sep As j (i0*2 ^ (k0-j)+1) true (by rw [AE.top];omega) (by rw [AE.top];exact Oh) Aa;rw [AE.b] at h3;refine⟨b,h3,h4.mono ?_⟩;rintro r w' ⟨rfl,d2,CB,BU⟩;rw [Z7w _ _ _ _ hj] at BU;exact⟨rfl,d2,AE.trans CB,BU⟩)
 have Fd:=Q0a (show ∀wr d1,d.To d1 w wr->d1.Is (spl (fre (uOf d.ps) d.top) k0 i0 0)->wr.cell? ⟨d.b,22,none⟩=some (.map (some d.mb))/\Q0E wr d.mb (upk d.ps)/\∀w2,Q0E w2 d.mb (put (upk d.ps) ((1024*(i0*2 ^ k0):Nat):Int) (.int .i64 0))->wr.grownBy w2 (some d.mb)->J0P d (i0*2 ^ k0) w (.returned (.tuple #[.int .i64 ((1024*(i0*2 ^ k0):Nat):Int),.int .i64 0])) w2 from fun wr d1 AE As=>by
  have hs:=AE.step.sep;have hc:=BD.cm hs (by rw [As.len,AE.top];omega);have JA:=BD.map hs;rw [AE.b,AE.mb] at hc;rw [AE.mb,AE.ps] at JA;refine⟨hc,JA,fun w2 C6 B9=>⟨rfl,{d1 with ps:=d.ps++[i0*2 ^ k0]},AE.b,AE.top,rfl,⟨⟨As.len,As.top,?_⟩,?_,?_⟩,?_⟩⟩
  ·intro k m hm;rw [As.bits k m hm];have Ev:k<=d1.top:=by
    have h1:k<d1.bms.length:=(J2c.1 hm).1;have h2:d1.bms.length=d1.top+1:=As.len;omega
   apply J3V
   intro x _;show spl (fre (uOf d.ps) d.top) k0 i0 0 k x=fre (uOf (d.ps++[i0*2 ^ k0])) d1.top k x;rw [AE.top];exact Z9F _ _ _ _ Bx Av k x (by rw [<- AE.top];exact Ev)
  ·rw [J2F];refine⟨ha.nd,by simp,?_⟩;intro a FP b hb e;simp at hb;subst hb;subst e;exact Fz FP
  ·intro p By;show p<2 ^ d1.top;rw [AE.top];rcases J2A.1 By with h1|h1
   ·exact ha.lt p h1
   ·simp at h1;subst h1;exact FI
  ·rw [Z9B _ _ Fz] at C6;have QO:Q0E w2 d1.mb (upk (d.ps++[i0*2 ^ k0])):=by rw [AE.mb];exact C6
   rw [<- AE.mb] at B9;exact AE.step.trans (BD.putMap hs _ QO B9))
 have Kq:=Q0a (show ∀wr d1,d.To d1 w wr->wr.cell? ⟨d.b,0,none⟩=some (.int .i64 d.top) from fun wr d1 AE=>by
  have:=BD.c0 AE.step.sep;rw [AE.b,AE.top] at this;exact this)
 have OR:=Q0a J4;clear h ha hi hf hp s1 s2 s3 s4 Av Fz J4;generalize hG:spl (fre (uOf d.ps) d.top) k0 i0=S at *
 clear hG;generalize d.top=top at *
 go_enter func154,ntmps154;go_wp2_with fail
 go_loop [6,7] (fun kv iv=>∃k:Nat,kv=.int .i64 k/\iv=.int .i64 (-1)/\k<=k0) (fun kv _=>k0+1-(intOf kv).toNat)
 case atStart=>exact⟨0,rfl,rfl,by omega⟩
 case round =>
  obtain⟨k,rfl,rfl,hk⟩:=hrel;have Ev:k<=top:=by omega
  by_cases Ab:k<k0
  ·obtain⟨b,hc,Bd⟩:=HF.out k Ab;go_wp2_with (go_at_call 132;refine Bd.mono ?_;rintro e w' ⟨rfl,rfl⟩)
   go_round
   case rel=>exact⟨k+1,by go_num,rfl,by omega⟩
   case measure=>simp [intOf];omega
  ·obtain rfl:k=k0:=by omega
   obtain⟨b,hc,Bd,AQ⟩:=TS.out;obtain⟨Ax,Af⟩:=OR.out k (J1L _);rw [J5d,Nat.pow_zero,J2S] at Ax;clear Af;go_wp2_with fail;refine Bd.mono ?_;rintro e w' ⟨rfl,rfl⟩;go_wp2_with fail;refine AQ.mono ?_;rintro e w1 ⟨rfl,d1,AE,As⟩;have Tp:=Q0a AE;have SA:=Q0a As;clear AE As AQ Bd hc;go_wp2_with fail
   go_loopw [6,7] (fun jv iv wr=>∃(j:Nat) (d2:BD),jv=.int .i64 j/\iv=.int .i64 ((i0*2 ^ (k-j):Nat):Int)/\j<=k/\d.To d2 w wr/\d2.Is (S j)) (fun jv _ _=>(intOf jv).toNat)
   case atStart=>exact⟨k,d1,rfl,by simp,J1L _,Tp.out,SA.out⟩
   case round =>
    obtain⟨j,d2,rfl,rfl,hj,AE,As⟩:=hrel;have Nw:=Kq.out _ _ AE;by_cases Fq:j=0
    ·subst Fq;obtain⟨Dm,JA,Bb⟩:=Fd.out _ _ AE As;have AZ:=Q0a Bb;clear Bb;have hv:((1024*(i0*2 ^ k):Nat):Int)=((i0*2 ^ (k-0):Nat):Int)*1024:=by rw [Nat.sub_zero];omega
     have hb:i0*2 ^ (k-0)<1048576:=by
      have:=(OR.out 0 (by omega)).1;omega
     rw [hv] at AZ;generalize i0*2 ^ (k-0)=p at *
     clear hv;go_wp2_with (refine Q1O _ rfl _ _ _ 241 3 3 rfl underlying241 underlying3 d.mb (upk d.ps) JA _ _ rfl rfl rfl ?_;intro w2 C6 B9);go_ret2;exact AZ.out _ C6 B9
    ·obtain⟨l,rfl⟩:∃l,j=l+1:=⟨j-1,by omega⟩
     obtain⟨b2,Bo,C3⟩:=Bm.out l wr d2 (by omega) AE As;have hI:i0*2 ^ (k-l)=i0*2 ^ (k-(l+1))*2:=by
      rw [show k-l=k-(l+1)+1 from by omega,J2U,J5b]
     have hb:=(OR.out l (by omega)).1;have QW:((i0*2 ^ (k-l)+1:Nat):Int)=((i0*2 ^ (k-(l+1)):Nat):Int)*2+1:=by rw [hI];omega
     have NO:=Q0a (show ((i0*2 ^ (k-l):Nat):Int)=((i0*2 ^ (k-(l+1)):Nat):Int)*2 from by rw [hI];omega);rw [QW] at C3;rw [hI] at hb;clear QW hI AE As;generalize i0*2 ^ (k-(l+1))=p at *
     have CJ:((l+1:Nat):Int)=(l:Int)+1:=by omega
     go_wp2_with fail;refine C3.mono ?_;rintro e w2 ⟨rfl,d3,Fv,OX⟩;go_wp2_with fail;go_roundw
     case rel=>exact⟨l,d3,by go_num,by rw [NO.out],by omega,Fv,OX⟩
     case measure=>simp [intOf]
def Z7x (c:CA) (d:BD) (p:Nat) (w:World) (r:Ending) (w':World):Prop:=r=.returned (.tuple #[.int .i64 ((addr c.size p 0:Nat):Int),.int .i64 0]) /\
 ∃(d':BD) (m:BM) (rv':RV),d'.b=d.b/\d'.top=d.top/\d'.ps=d.ps++[p]/\d'.At/\m.bits=(List.replicate (960/c.size) false).set 0 true/\(c.insert rv' (m,p)).Ok/\Step (c.hl++d.hl) ((c.insert rv' (m,p)).hl++d'.hl) w w'
theorem Z7y {w w5:World} {c:CA} {d d':BD} {m:BM} (p g:Nat) (ok:c.Ok) (hn:∀x∈c.pg,x.2≠p) (hp:p<1048576) (CC:c.pg.length<1048576) (hm:m.bits=(List.replicate (960/c.size) false).set 0 true) (b1:d'.b=d.b) (b2:d'.top=d.top) (b3:d'.ps=d.ps++[p]) (b4:d'.At)
  (Ao:Step (c.hl++d.hl) (c.hl++(m.hl++d'.hl)) w w5) (hg:g<w5.heap.size) (E6:g∉keys (c.hl++(m.hl++d'.hl))) :
  Calls prog 228 #[lvOf c.rv c.pg.length,.int .i64 (Q0r c.pg p),.slice (some ⟨w5.heap.size,0,none⟩) 1 1] (w5.drew.alloc (.cells #[ptr m.b,.int .i64 ((1024*p:Nat):Int)] 343)) fun r w6=>∃(g6 C9:Nat) (v6:Value),v6=.slice (some ⟨g6,0,none⟩) (c.pg.length+1) C9/\r=.returned v6 /\
   w6.heap[g]?=w5.heap[g]?/\w6.cell? ⟨c.c,2,none⟩=some (lvOf c.rv c.pg.length)/\w6.frozen? ⟨c.c,2,none⟩=false /\
   Calls prog 225 #[.pointer (some ⟨c.c,0,none⟩),.agg #[ptr m.b,.int .i64 ((1024*p:Nat):Int)],.int .i64 0] (w6.setCell ⟨c.c,2,none⟩ v6) fun r w7=>r=.returned (.int .i64 ((addr c.size p 0:Nat):Int))/\Z7x c d p w (.returned (.tuple #[.int .i64 ((addr c.size p 0:Nat):Int),.int .i64 0])) w7:=by
 have s5:=Ao.sep;have s6:=(s5.drew.alloc (.cells #[ptr m.b,.int .i64 ((1024*p:Nat):Int)] 343))
 have CD:(Q0j c.pg).length=c.pg.length*2:=Q6Q _;have ox:∀v∈Q0j c.pg,v.oneCell'=true:=by
  intro v hv;unfold Q0j at hv;obtain⟨y,_,hy⟩:=J2l.1 hv;simp at hy;rcases hy with rfl|rfl <;> rfl
 have e0:c.hl++(m.hl++d'.hl)=[(c.c,isC 341 [ptr c.bb,.int .i64 c.size,lvOf c.rv c.pg.length])]++rowH c.rv 343 2 (Q0j c.pg)++(pgH c.pg++(m.hl++d'.hl)):=by unfold CA.hl;simp
 have s6':=s6;rw [e0] at s6';have hv:Cells (w5.drew.alloc (.cells #[ptr m.b,.int .i64 ((1024*p:Nat):Int)] 343)) w5.heap.size 343 [ptr m.b,.int .i64 ((1024*p:Nat):Int)]:=Cells.new w5.drew 343 [ptr m.b,.int .i64 ((1024*p:Nat):Int)];have Ho:w5.heap.size∉keys (c.hl++(m.hl++d'.hl)):=fun hm=>by have:=s5.lt hm;omega
 refine (Z9w s6' ok.rv CD (Q7H c.pg p) (by omega) hv (by rw [<- e0];exact Ho) ox rfl rfl).mono ?_;rintro r w6 ⟨rv',rfl,Df,JK⟩;have AC:w6.heap[g]?=w5.heap[g]?:=by
  have h1:=JK.chg.block g (by simp;omega) (by rw [<- e0];exact E6);rw [h1];exact heap_alloc_old w5.drew _ hg
 have Bu:=(JK.sep).cells (b:=c.c) (T:=341) (cs:=[ptr c.bb,.int .i64 c.size,lvOf c.rv c.pg.length]) (by simp);have NH:Step (c.hl++(m.hl++d'.hl)) ((c.insert rv' (m,p)).hl++d'.hl) w5 (w6.setCell ⟨c.c,2,none⟩ (lvOf rv' (c.pg.length+1))):=
  (CA.insStep (c:=c) (K:=d'.hl) (m,p) rv' s6 JK).from_alloc.from_drew
 have okN:=CA.ok_ins ok rv' (m,p) hn Df CC hp (by rw [hm];simp);have AP:=Ao.trans NH;obtain⟨g6,C9,e6⟩:∃g6 C9:Nat,rv'=some (g6,C9):=by
  cases rv' with
  | none=>have:c.pg.length+1=0:=Df;omega
  | some p=>exact⟨p.1,p.2,rfl⟩
 refine⟨g6,C9,_,by rw [e6];rfl,rfl,AC,Bu.cell 2 _ rfl,Bu.free 2,?_⟩;have Gh:=Q8q AP.sep.left okN m.b p 0 hp (by omega);refine Gh.mono ?_;rintro r w7 ⟨rfl,DH⟩;exact⟨rfl,rfl,d',m,rv',b1,b2,b3,b4,hm,okN,AP.trans (AP.sep.grown DH)⟩
theorem Z2s (a b:Nat) (ha:a<2 ^ 63) (hb:b<2 ^ 63):bits BinOp.xor IntKind.i64 (a:Int) (b:Int)=((a ^^^ b:Nat):Int):=by
 have h:(a ^^^ b)<2 ^ 63:=J3d ha hb;have e:((BitVec.ofInt 64 (a:Int)) ^^^ (BitVec.ofInt 64 (b:Int))).toNat=a ^^^ b:=by
  rw [BitVec.ofInt_natCast,BitVec.ofInt_natCast,BitVec.toNat_xor,BitVec.toNat_ofNat,BitVec.toNat_ofNat,J3h (by omega),J3h (by omega)]
 unfold bits;show IntKind.i64.wrap (((BitVec.ofInt 64 (a:Int)) ^^^ (BitVec.ofInt 64 (b:Int))).toNat:Int)=_;rw [e,IntKind.wrap_i64];omega
theorem Z9G (i:Nat):i ^^^ 1=sib i:=by
 have h:(i ^^^ 1)/2=i/2:=by
  have:=Nat.xor_div_two_pow (a:=i) (b:=1) (n:=1)
  simpa using this
 have h2:(i ^^^ 1)%2=(i+1)%2:=by
  have:=J3f i 1 0;rw [J3j,J3j,J3j] at this;have h3:i%2=0∨i%2=1:=by omega
  have h4:(i ^^^ 1)%2=0∨(i ^^^ 1)%2=1:=by omega
  rcases h3 with h3|h3 <;> rcases h4 with h4|h4 <;> simp [h3,h4] at this <;> omega
 unfold sib;split <;> omega
theorem Z9H (u:Nat->Bool) (top p:Nat):∃k,k<=top/\(k<top->clr u k (sib (p/2 ^ k))=false)/\∀j,j<k->clr u j (sib (p/2 ^ j))=true:=by
 rcases J0L (fun k=>decide (k=top)||!clr u k (sib (p/2 ^ k))) (top+1) with h|⟨k,h1,h2,h3⟩
 ·have:=h top (by omega);simp at this
 ·refine⟨k,by omega,fun hk=>?_,fun j hj=>?_⟩
  ·simp only [Bool.or_eq_true,decide_eq_true_eq,J4V] at h2;rcases h2 with h2|h2
   ·omega
   ·exact h2
  ·have:=h3 j hj;simp only [Bool.or_eq_false_iff,Bool.not_eq_false'] at this;exact this.2
theorem Z7z (u:Nat->Bool) (p k:Nat) (hs:∀j,j<k->clr u j (sib (p/2 ^ j))=true):clr (setU u p false) k (p/2 ^ k)=true:=by
 induction k with
 | zero=>rw [Nat.pow_zero,Nat.div_one,Z1i];simp [setU]
 | succ k ih =>
  obtain⟨s1,s2⟩:=Q4r (p/2 ^ k);have h1:=ih (fun j hj=>hs j (by omega));have h2:=hs k (by omega);rw [<- Q4q u p k (sib (p/2 ^ k)) (fun e=>s2 e.symm)] at h2;rw [div_succ,clr_half,J2g];have:(p/2 ^ k=2*(p/2 ^ k/2)/\sib (p/2 ^ k)=2*(p/2 ^ k/2)+1)∨(sib (p/2 ^ k)=2*(p/2 ^ k/2)/\p/2 ^ k=2*(p/2 ^ k/2)+1):=by omega
  rcases this with ⟨e1,e2⟩|⟨e1,e2⟩
  ·exact⟨by rw [e1] at h1;exact h1,by rw [e2] at h2;exact h2⟩
  ·exact⟨by rw [e1] at h2;exact h2,by rw [e2] at h1;exact h1⟩
theorem Q3T {u:Nat->Bool} {p:Nat} (hu:u p=true) (k:Nat):clr u k (p/2 ^ k)=false:=by
 cases h:clr u k (p/2 ^ k) with
 | false=>rfl
 | true=>rw [clr_iff] at h;rw [h p rfl] at hu;cases hu
theorem Z1k {u:Nat->Bool} {top p k:Nat} (hu:u p=true) (hk:k<top):fre u top k (sib (p/2 ^ k))=clr u k (sib (p/2 ^ k)):=by
 unfold fre;rw [(Q4r (p/2 ^ k)).1,<- div_succ,Q3T hu];simp
def mrg (G:Nat->Nat->Bool) (p k:Nat):Nat->Nat->Bool:=fun l x=>if l<k then (G l x&&!(x==sib (p/2 ^ l))) else G l x
theorem Z7A (G:Nat->Nat->Bool) (p:Nat):mrg G p 0=G:=by funext l x;simp [mrg]
theorem Z7B (G:Nat->Nat->Bool) (p k:Nat):upG (mrg G p k) k (sib (p/2 ^ k)) false=mrg G p (k+1):=by
 funext l x;unfold upG mrg;by_cases h:l=k
 ·subst h;by_cases hx:x=sib (p/2 ^ l)
  ·simp [hx]
  ·have e:(x==sib (p/2 ^ l))=false:=by simpa using hx
   simp [hx,e]
 ·have e:(l<k+1)=(l<k):=by apply propext;omega
  simp [h,e]
theorem Z9I (u:Nat->Bool) (top p k:Nat) (hk:k<=top) (hu:u p=true) (hn:k<top->clr u k (sib (p/2 ^ k))=false) (hs:∀j,j<k->clr u j (sib (p/2 ^ j))=true) (l x:Nat) (hl:l<=top) :
  upG (mrg (fre u top) p k) k (p/2 ^ k) true l x=fre (setU u p false) top l x:=by
 rw [Z7s u top p k hk hu (Z7z u p k hs) hn l x hl];unfold upG mrg;by_cases h:l=k
 ·subst h;by_cases hx:x=p/2 ^ l
  ·simp [hx]
  ·have e:(x==p/2 ^ l)=false:=by simpa using hx
   simp [hx,e]
 ·simp [h]
theorem Q9Z {top p k:Nat} (hp:p<2 ^ top) (hk:k<=top):p/2 ^ k<2 ^ (top-k):=by
 rw [J5e (J3b k),<- J3n,show top-k+k=top from by omega];exact hp
theorem Z9d {n i:Nat} (hi:i<2 ^ (n+1)):sib i<2 ^ (n+1):=by
 rw [J2U] at *
 unfold sib;split <;> omega
def J0Q (d:BD) (p:Nat) (w:World) (r:Ending) (w':World):Prop:=r=.returned (.int .i64 0) /\
 ∃d':BD,d'.b=d.b/\d'.top=d.top/\d'.ps=d.ps.erase p/\d'.At/\Step d.hl d'.hl w w'
theorem Z1l (w:World):(zeroValue 3).run prog w=.ok (.int .i64 0) w:=by kernel_rfl
theorem Z1m {w:World} {d:BD} (h:Sep w d.hl) (ha:d.At) (p:Nat) (hp:p∈d.ps) :
  Calls prog 160 #[.pointer (some ⟨d.b,0,none⟩),.int .i64 (1024*(p:Int))] w (J0Q d p w):=by
 have hx:((1024*p:Nat):Int)=1024*(p:Int):=by omega
 have hu:uOf d.ps p=true:=by simpa [uOf] using hp
 obtain⟨k1,A2,hn,hs⟩:=Z9H (uOf d.ps) d.top p;have FI:=ha.lt p hp;have ht:=ha.is.top;have Ei:=Q1i (P:=prog) (BD.map h) ((1024*p:Nat):Int) true (.int .i64 0) underlying241 underlying3 (Z1l w);rw [Z7u,if_pos hp,hx] at Ei;simp only [if_true,J4E,Option.isSome_some] at Ei;have JA:=BD.map h;have TK:=BD.cm h (by rw [ha.is.len];omega);have G6:=Q0a (show ∀w2,Q0E w2 d.mb (del (upk d.ps) (1024*(p:Int)))->w.grownBy w2 (some d.mb)->({d with ps:=d.ps.erase p}:BD).To {d with ps:=d.ps.erase p} w2 w2/\Step d.hl ({d with ps:=d.ps.erase p}:BD).hl w w2 from fun w2 C6 B9=>by
  rw [<- hx,Z9C] at C6;have:=BD.putMap h _ C6 B9;exact⟨BD.To.refl this.sep,this⟩)
 have Om:Hid (({d with ps:=d.ps.erase p}:BD).Is (mrg (fre (uOf d.ps) d.top) p 0)):=by
  show BD.Is _ _;rw [Z7A];exact⟨ha.is.len,ha.is.top,ha.is.bits⟩
 have Kq:=Q0a (show ∀w2 wr d1,({d with ps:=d.ps.erase p}:BD).To d1 w2 wr->wr.cell? ⟨d.b,0,none⟩=some (.int .i64 d.top) from fun w2 wr d1 AE=>by
  have:=BD.c0 AE.step.sep;rw [AE.b,AE.top] at this;exact this)
 have ES:=Q0a (show ∀k w2 wr d1,k<k1->({d with ps:=d.ps.erase p}:BD).To d1 w2 wr->d1.Is (mrg (fre (uOf d.ps) d.top) p k)->∃b,wr.cell? ⟨d.b,1+k,none⟩=some (.pointer (some ⟨b,0,none⟩)) /\
   Calls prog 223 #[.pointer (some ⟨b,0,none⟩),.bool false,.slice (some ⟨wr.heap.size,0,none⟩) 1 1] (wr.alloc (.cells #[.int .i64 ((sib (p/2 ^ k):Nat):Int)] 3)) fun r w'=>r=.returned (.int .i64 1)/\∃d2,({d with ps:=d.ps.erase p}:BD).To d2 w2 w'/\d2.Is (mrg (fre (uOf d.ps) d.top) p (k+1)) from fun k w2 wr d1 hk AE As=>by
  have Ev:k<d.top:=by omega
  have e0:d.top-k=(d.top-k-1)+1:=by omega
  have Ab:sib (p/2 ^ k)<2 ^ (d.top-k):=by
   have:=Q9Z FI (show k<=d.top by omega);rw [e0] at this ⊢;exact Z9d this
  have Aa:mrg (fre (uOf d.ps) d.top) p k k (sib (p/2 ^ k))≠false:=by
   unfold mrg;rw [if_neg (by omega),Z1k hu Ev,hs k hk];decide
  have et:d1.top=d.top:=AE.top;obtain⟨b,h3,h4⟩:=Q8w AE.step.sep As k (sib (p/2 ^ k)) false (by omega) (by rw [et];exact Ab) Aa;rw [AE.b] at h3;refine⟨b,h3,h4.mono ?_⟩;rintro r w' ⟨rfl,d2,CB,BU⟩;rw [Z7B] at BU;exact⟨rfl,d2,AE.trans CB,BU⟩)
 have M1:=Q0a (show ∀w2 wr d1,k1<d.top->({d with ps:=d.ps.erase p}:BD).To d1 w2 wr->d1.Is (mrg (fre (uOf d.ps) d.top) p k1)->∃b,wr.cell? ⟨d.b,1+k1,none⟩=some (.pointer (some ⟨b,0,none⟩)) /\
   Calls prog 223 #[.pointer (some ⟨b,0,none⟩),.bool false,.slice (some ⟨wr.heap.size,0,none⟩) 1 1] (wr.alloc (.cells #[.int .i64 ((sib (p/2 ^ k1):Nat):Int)] 3)) fun r w'=>r=.returned (.int .i64 0)/\∃d2,({d with ps:=d.ps.erase p}:BD).To d2 w2 w'/\d2.Is (mrg (fre (uOf d.ps) d.top) p k1) from fun w2 wr d1 Ev AE As=>by
  have e0:d.top-k1=(d.top-k1-1)+1:=by omega
  have Ab:sib (p/2 ^ k1)<2 ^ (d.top-k1):=by
   have:=Q9Z FI (show k1<=d.top by omega);rw [e0] at this ⊢;exact Z9d this
  have Aa:mrg (fre (uOf d.ps) d.top) p k1 k1 (sib (p/2 ^ k1))=false:=by
   unfold mrg;rw [if_neg (by omega),Z1k hu Ev,hn Ev]
  have et:d1.top=d.top:=AE.top;obtain⟨b,h3,h4⟩:=Z9D AE.step.sep As k1 (sib (p/2 ^ k1)) false (by omega) (by rw [et];exact Ab) Aa;rw [AE.b] at h3;refine⟨b,h3,h4.mono ?_⟩;rintro r w' ⟨rfl,d2,CB,BU⟩;exact⟨rfl,d2,AE.trans CB,BU⟩)
 have AZ:=Q0a (show ∀w2 wr d1,Step d.hl ({d with ps:=d.ps.erase p}:BD).hl w w2->({d with ps:=d.ps.erase p}:BD).To d1 w2 wr->d1.Is (mrg (fre (uOf d.ps) d.top) p k1)->∃b,wr.cell? ⟨d.b,1+k1,none⟩=some (.pointer (some ⟨b,0,none⟩)) /\
   Calls prog 223 #[.pointer (some ⟨b,0,none⟩),.bool true,.slice (some ⟨wr.heap.size,0,none⟩) 1 1] (wr.alloc (.cells #[.int .i64 ((p/2 ^ k1:Nat):Int)] 3)) fun r w'=>r=.returned (.int .i64 1)/\J0Q d p w (.returned (.int .i64 0)) w' from fun w2 wr d1 Ao AE As=>by
  have Aa:mrg (fre (uOf d.ps) d.top) p k1 k1 (p/2 ^ k1)≠true:=by
   unfold mrg;rw [if_neg (by omega)];unfold fre;rw [Q3T hu];simp
  have et:d1.top=d.top:=AE.top;obtain⟨b,h3,h4⟩:=Q8w AE.step.sep As k1 (p/2 ^ k1) true (by omega) (by rw [et];exact Q9Z FI A2) Aa;rw [AE.b] at h3;refine⟨b,h3,h4.mono ?_⟩;rintro r w' ⟨rfl,d2,CB,BU⟩;have Fv:=AE.trans CB;have et2:d2.top=d.top:=Fv.top;have ep2:d2.ps=d.ps.erase p:=Fv.ps;refine⟨rfl,rfl,d2,Fv.b,et2,ep2,⟨⟨BU.len,BU.top,?_⟩,?_,?_⟩,Ao.trans Fv.step⟩
  ·intro k m hm;rw [BU.bits k m hm];have Ev:k<=d2.top:=by
    have h1:k<d2.bms.length:=(J2c.1 hm).1;have h2:d2.bms.length=d2.top+1:=BU.len;omega
   apply J3V
   intro x _;rw [ep2,Z4A ha.nd,et2];exact Z9I _ _ _ _ A2 hu hn hs k x (by omega)
  ·rw [ep2];exact ha.nd.erase p
  ·intro x hx;rw [ep2] at hx;rw [et2];exact ha.lt x (J2p hx))
 have O5:p<1048576:=J1N FI (by have:=Q2n (k:=0) ht;simpa using this);clear h ha hu hn hs;generalize mrg (fre (uOf d.ps) d.top) p=M at *
 generalize OP:({d with ps:=d.ps.erase p}:BD)=d0 at *
 clear OP;generalize d.top=top at *
 go_enter func160,ntmps160;go_wp2_with (refine Q2x _ rfl _ _ 241 3 3 3 rfl underlying241 underlying3 d.mb (upk d.ps) JA _ rfl rfl ?_;intro w2 C6 B9);obtain⟨LC,LP⟩:=G6.out w2 C6 B9;clear C6 B9 JA TK Ei G6;go_wp2_with fail
 go_loopw [5,7] (fun kv iv wr=>∃(k:Nat) (d1:BD),kv=.int .i64 k/\iv=.int .i64 ((p/2 ^ k:Nat):Int)/\k<=k1/\d0.To d1 w2 wr/\d1.Is (M k)) (fun kv _ _=>k1-(intOf kv).toNat)
 case atStart=>exact⟨0,d0,rfl,by simp,J3O _,LC,Om.out⟩
 case round =>
  clear LC;obtain⟨k,d1,rfl,rfl,hk,AE,As⟩:=hrel;have Nw:=Kq.out _ _ _ AE;have Tn:p/2 ^ k<1048576:=J2Y (J3s _ _) O5;have Ib:bits BinOp.xor IntKind.i64 ((p/2 ^ k:Nat):Int) 1=((sib (p/2 ^ k):Nat):Int):=by
   rw [show (1:Int)=((1:Nat):Int) from rfl,Z2s _ _ (by omega) (by omega),Z9G]
  have JX:=Q0a (show ((p/2 ^ (k+1):Nat):Int)=((p/2 ^ k:Nat):Int)/2 from by rw [div_succ];omega);by_cases Ab:k<k1
  ·obtain⟨b,hc,AQ⟩:=ES.out k w2 wr d1 Ab AE As;have Ev:k<top:=by omega
   clear AE As;generalize p/2 ^ k=i at *
   generalize sib i=s at *
   go_wp2_with fail;refine AQ.mono ?_;rintro e w3 ⟨rfl,d2,CB,BU⟩;clear AQ hc Ib;go_wp2_with fail;go_roundw
   case rel=>exact⟨k+1,d2,by go_num,by rw [JX.out],by omega,CB,BU⟩
   case measure=>simp [intOf];omega
  ·obtain rfl:k=k1:=by omega
   by_cases Ev:k<top
   ·obtain⟨b,hc,AQ⟩:=M1.out w2 wr d1 Ev AE As;have Ly:=Q0a (show ∀w3 d2,d0.To d2 w2 w3->d2.Is (M k)->_ from fun w3 d2 h1 h2=>AZ.out w2 w3 d2 LP h1 h2);clear AE As JX;generalize p/2 ^ k=i at *
    generalize sib i=s at *
    go_wp2_with fail;refine AQ.mono ?_;rintro e w3 ⟨rfl,d2,CB,BU⟩;obtain⟨b2,Bo,C3⟩:=Ly.out w3 d2 CB BU;clear AQ hc Ib CB BU;go_wp2_with fail;refine C3.mono ?_;rintro e w4 ⟨rfl,Bb⟩;have Oc:=Q0a Bb;clear Bb C3;go_wp2_with fail;go_ret;exact Oc.out
   ·obtain⟨b2,Bo,C3⟩:=AZ.out w2 wr d1 LP AE As;clear AE As JX Ib;have Pu:¬((k:Int)<top):=by omega
    have SU:decide ((k:Int)<top)=false:=by simpa using Pu
    generalize p/2 ^ k=i at *
    go_wp2_with fail;refine C3.mono ?_;rintro e w4 ⟨rfl,Bb⟩;have Oc:=Q0a Bb;clear Bb C3;go_wp2_with fail;go_ret;exact Oc.out
def Z7C (c:CA) (d:BD) (k p:Nat) (w:World) (r:Ending) (w':World):Prop:=r=.returned (.int .i64 0) /\
 ∃d':BD,d'.b=d.b/\d'.top=d.top/\d'.ps=d.ps.erase p/\d'.At/\Step (c.hl++d.hl) ((c.dropPg k).hl++d'.hl) w w'
theorem Q0S {w w':World} {b:Nat} (h:w'.heap[b]?=w.heap[b]?) (j:Nat):w'.cell? ⟨b,j,none⟩=w.cell? ⟨b,j,none⟩:=by simp only [World.cell?,h]
theorem Z4D {w:World} {c:CA} {d:BD} {w4:World} {rb cap n:Nat} (k:Nat) (x:BM×Nat) (m':BM) (hx:c.pg[k]?=some x) (hb:m'.b=x.1.b) (AO:c.rv=some (rb,cap)) (hn:c.pg.length=n+1) (ok:c.Ok) (ha:d.At) (hp:x.2∈d.ps) (g:Nat) (E6:g∉keys d.hl) (GV:g<w4.heap.size)
  (Ao:Step (c.hl++d.hl) ((c.pageTo k x m').hl++d.hl) w w4) :
  Calls prog 160 #[ptr d.b,.int .i64 ((1024*x.2:Nat):Int)] w4.drew fun r w5=>r=.returned (.int .i64 0)/\(w5.cell? ⟨c.c,0,none⟩=some (ptr c.bb)/\w5.cell? ⟨g,1,none⟩=w4.cell? ⟨g,1,none⟩) /\
   w5.cell? ⟨c.c,2,none⟩=some (.slice (some ⟨rb,0,none⟩) (n+1) cap) /\
   Calls prog 266 #[.slice (some ⟨rb,0,none⟩) (n+1) cap,.int .i64 k,.int .i64 ((k:Int)+1)] w5 fun r w6=>r=.returned (.slice (some ⟨rb,0,none⟩) n cap) /\
    (∃v,w6.cell? ⟨c.c,2,none⟩=some v)/\w6.frozen? ⟨c.c,2,none⟩=false/\Z7C c d k x.2 w (.returned (.int .i64 0)) (w6.setCell ⟨c.c,2,none⟩ (.slice (some ⟨rb,0,none⟩) n cap)):=by
 have hk:=(J2c.1 hx).1;have s4:=Ao.sep.drew;have Kz:((1024*x.2:Nat):Int)=1024*(x.2:Int):=by omega
 rw [Kz];refine (Z1m s4.right ha x.2 hp).mono ?_;rintro r w5 ⟨rfl,d',b1,b2,b3,b4,b5⟩;have f5:Step ((c.pageTo k x m').hl++d.hl) ((c.pageTo k x m').hl++d'.hl) w4 w5:=by
  have:=Step.frame (c.pageTo k x m').hl [] (by simpa using s4) b5
  simpa using this.from_drew
 have s5:=f5.sep;have ec:Q0j (c.pageTo k x m').pg=Q0j c.pg:=Q6R _ _ _ _ hx hb;have el:(c.pageTo k x m').pg.length=n+1:=by simp [CA.pageTo,hn]
 have ed:(c.pageTo k x m').dropPg k=c.dropPg k:=by simp [CA.pageTo,CA.dropPg,List.eraseIdx_set_eq]
 have hC:=CA.sepC s5.left;have A8:(c.pageTo k x m').c=c.c:=rfl;have hR:=CA.sepR s5.left;have Cw:(c.pageTo k x m').rv=some (rb,cap):=AO;rw [Cw,ec] at hR;obtain⟨o,ho,Ah,rfl,Bu,AR⟩:=hR.get (b:=rb) (q:=isR 343 (cap*2) (Q0j c.pg)) (by simp [rowH]);have Bi:=ok.rv;rw [AO,hn] at Bi;have CC:=ok.len;have CD:(Q0j c.pg).length=(n+1)*2:=by rw [Q6Q,hn]
 have ox:∀v∈Q0j c.pg,v.oneCell'=true:=by
  intro v hv;unfold Q0j at hv;obtain⟨y,_,hy⟩:=J2l.1 hv;simp at hy;rcases hy with rfl|rfl <;> rfl
 refine⟨rfl,⟨hC.cell 0 _ rfl,?_⟩,?_,?_⟩
 ·exact Q0S ((b5.chg.block g GV E6)) 1
 ·have:=hC.cell 2 _ rfl;rw [Cw,el] at this;exact this
 ·refine (Z9x ho Bu AR CD (by omega) (by omega) Bi.1 Bi.2 ox).mono ?_;rintro r w6 ⟨rfl,q1,q2⟩;have Aa:c.c≠rb:=fun e=>by
   have AG:=s5.left.nd;unfold CA.hl at AG;rw [Cw] at AG;simp [rowH] at AG;exact AG.1.1 (by simpa [CA.pageTo] using e)
  have AC:=q2.block c.c (s5.lt (by simp [CA.hl,CA.pageTo])) (fun e=>Aa (J2J e));refine⟨rfl,⟨_,(Q0S AC 2).trans (hC.cell 2 _ rfl)⟩,?_,rfl,d',b1,b2,b3,b4,?_⟩
  ·have:=hC.free 2;rw [A8] at this
   simpa only [World.frozen?,AC] using this
  ·have hd:=CA.dropStep s5.left Cw k n (by rw [el];omega) el (by rw [ec];exact⟨rfl,q1,q2⟩);rw [ed,A8] at hd;have:=Step.frame [] d'.hl (by simpa using s5) hd;exact (Ao.trans f5).trans (by simpa using this)
theorem Z4E {w:World} {c:CA} {d:BD} (h:Sep w (c.hl++d.hl)) (ok:c.Ok) (hd:d.At) (DN:c.bb=d.b) (a:Nat) (ha:a<4611686018427387904) (k i:Nat) (x:BM×Nat) (hs:Q5v c a=some (k,i)) (hx:c.pg[k]?=some x) (hi:x.1.bits[i]?.getD false=true) (BB:cntB (x.1.bits.set i false)=0) (hp:x.2∈d.ps) :
  Calls prog 232 #[.pointer (some ⟨c.c,0,none⟩),.int .i64 a] w (Z7C c d k x.2 w):=by
 have k1:=Q7I h.left ok a ha;rw [hs] at k1;have hk:=(J2c.1 hx).1;have CG:i<x.1.bits.length:=by
  rcases J4u i x.1.bits.length with e|e
  ·exact e
  ·rw [J3B e] at hi;cases hi
 have Ke:=ok.many x (J4a hx);have Gv:x.1.bits.length<=1048576:=by rw [Ke];have:=J3s 960 c.size;omega
 have CC:=ok.len;obtain⟨rb,cap,AO⟩:∃rb cap,c.rv=some (rb,cap):=by
  cases e:c.rv with
  | none=>have:=ok.rv;rw [e] at this;have:c.pg.length=0:=this;omega
  | some p=>exact⟨p.1,p.2,rfl⟩
 obtain⟨n,hn⟩:∃n,c.pg.length=n+1:=⟨c.pg.length-1,by omega⟩
 have Eq:Hid (∀w1,Below w.heap.size w w1->w1.cell? ⟨c.c,2,none⟩=some (.slice (some ⟨rb,0,none⟩) (n+1) cap)/\w1.cell? ⟨rb,k*2,none⟩=some (.pointer (some ⟨x.1.b,0,none⟩))/\w1.cell? ⟨rb,k*2+1,none⟩=some (.int .i64 ((1024*x.2:Nat):Int)) /\
   Calls prog 223 #[.pointer (some ⟨x.1.b,0,none⟩),.bool false,.slice (some ⟨w1.heap.size+1,0,none⟩) 1 1] ((w1.alloc (.cells #[.pointer (some ⟨x.1.b,0,none⟩),.int .i64 ((1024*x.2:Nat):Int)] 343)).alloc (.cells #[.int .i64 i] 3)) fun r w4=>r=.returned (.int .i64 1) /\
    w4.cell? ⟨w1.heap.size,0,none⟩=some (.pointer (some ⟨x.1.b,0,none⟩))/\w4.cell? ⟨w1.heap.size,1,none⟩=some (.int .i64 ((1024*x.2:Nat):Int))/\w4.cell? ⟨c.c,0,none⟩=some (.pointer (some ⟨d.b,0,none⟩)) /\
    Calls prog 265 #[.pointer (some ⟨x.1.b,0,none⟩)] w4 (fun r w5=>r=.returned (.int .i64 0)/\w4=w5) /\
    Calls prog 160 #[.pointer (some ⟨d.b,0,none⟩),.int .i64 ((1024*x.2:Nat):Int)] w4.drew fun r w5=>r=.returned (.int .i64 0)/\(w5.cell? ⟨c.c,0,none⟩=some (.pointer (some ⟨d.b,0,none⟩))/\w5.cell? ⟨w1.heap.size,1,none⟩=some (.int .i64 ((1024*x.2:Nat):Int))) /\
     w5.cell? ⟨c.c,2,none⟩=some (.slice (some ⟨rb,0,none⟩) (n+1) cap) /\
     Calls prog 266 #[.slice (some ⟨rb,0,none⟩) (n+1) cap,.int .i64 k,.int .i64 ((k:Int)+1)] w5 fun r w6=>r=.returned (.slice (some ⟨rb,0,none⟩) n cap) /\
      (∃v,w6.cell? ⟨c.c,2,none⟩=some v)/\w6.frozen? ⟨c.c,2,none⟩=false/\Z7C c d k x.2 w (.returned (.int .i64 0)) (w6.setCell ⟨c.c,2,none⟩ (.slice (some ⟨rb,0,none⟩) n cap))):=fun w1 hb=>by
  have s1:=(h.grown hb).sep;have BZ:=CA.sepR s1.left;rw [AO] at BZ;obtain⟨e1,e2⟩:=Q1S _ _ _ hx;have Bo:=(CA.sepC s1.left).cell 2 _ rfl;rw [AO,hn] at Bo;refine⟨Bo,Q0Y BZ _ _ e1,Q0Y BZ _ _ e2,?_⟩;have s3:=(s1.alloc (.cells #[.pointer (some ⟨x.1.b,0,none⟩),.int .i64 ((1024*x.2:Nat):Int)] 343)).alloc (.cells #[.int .i64 i] 3);have sb:=CA.sepB s3.left k x hx;have Ab:∀b∈keys x.1.hl,b<w1.heap.size:=fun b AC=>(CA.sepB s1.left k x hx).lt AC
  have hz:((w1.alloc (.cells #[.pointer (some ⟨x.1.b,0,none⟩),.int .i64 ((1024*x.2:Nat):Int)] 343))).heap.size=w1.heap.size+1:=by simp
  have AQ:=Q2A sb false i CG Gv (by rw [hi];simp) (w1.heap.size+1) (by
   have:=(Cells.new (w1.alloc (.cells #[.pointer (some ⟨x.1.b,0,none⟩),.int .i64 ((1024*x.2:Nat):Int)] 343)) 3 [.int .i64 i]).cell 0 _ rfl;rw [hz] at this;exact this) (fun hm=>by have:=Ab _ hm;omega)
  refine AQ.mono ?_;rintro r w4 ⟨rfl,Ao⟩;have Be:=CA.turnB s3.left k x hx {x.1 with bits:=x.1.bits.set i false} rfl Ao;have AP:Step (c.hl++d.hl) ((c.pageTo k x {x.1 with bits:=x.1.bits.set i false}).hl++d.hl) w w4:=by
   have:=Step.frame [] d.hl (by simpa using s3) Be;exact (h.grown hb).trans (Step.from_alloc (Step.from_alloc (by simpa using this)))
  have DS:w1.heap.size∉keys x.1.hl:=fun hm=>by have:=Ab _ hm;omega
  have AC:=Ao.chg.block w1.heap.size (by simp;omega) DS;have AX:=((Cells.new w1 343 [.pointer (some ⟨x.1.b,0,none⟩),.int .i64 ((1024*x.2:Nat):Int)]).alloc (.cells #[.int .i64 i] 3))
  have g4:w1.heap.size<w4.heap.size:=by
   have:=Ao.chg.size;simp at this;omega
  have KM:w1.heap.size∉keys d.hl:=fun hm=>by have:=s1.right.lt hm;omega
  have d1:=(Q0S AC 1).trans (AX.cell 1 _ rfl);have d0:=(CA.sepC AP.sep.left).cell 0 _ rfl;have d0':w4.cell? ⟨c.c,0,none⟩=some (.pointer (some ⟨d.b,0,none⟩)):=by rw [<- DN];exact d0
  refine⟨rfl,(Q0S AC 0).trans (AX.cell 0 _ rfl),d1,d0',?_,?_⟩
  ·have:=Q5Q Ao.sep (by simpa using Gv);rw [BB] at this;exact this
  ·have ht:=Z4D k x {x.1 with bits:=x.1.bits.set i false} hx rfl AO hn ok hd hp w1.heap.size KM g4 AP;rw [d1,DN] at ht;exact ht
 have HQ:Hid (∀r w',Told w (Q4W (some (k,i))) r w'->r=.returned (.tuple #[.int .i64 k,.int .i64 i,.bool true])/\Below w.heap.size w w'):=fun r w' ⟨e,hb⟩=>⟨e,hb⟩
 have Bx:(0:Int)<=k:=by omega
 have CZ:(k:Int)<(n:Int)+1:=by omega
 have FW:(k:Int)<1048576:=by omega
 have BI:(0:Int)<=i:=by omega
 have J4:(i:Int)<1048576:=by omega
 have hw:IntKind.i64.wrap ((k:Int)+1)=(k:Int)+1:=Go.IntWalk.i64_in _ (by omega);clear h ok hs hx hi CG Ke Gv AO BB hd DN hp hk CC;obtain⟨GL,LA⟩:∃GL:Ending->World->Prop,GL=Z7C c d k x.2 w:=⟨_,rfl⟩
 rw [<- LA] at Eq ⊢;clear LA hn;generalize 1024*x.2=pv at *
 generalize x.1.b=b at *
 generalize c.c=cc at *
 generalize d.b=db at *
 go_enter func232,ntmps232;go_wp2_with fail;refine k1.mono ?_;rintro r w1 hf;obtain⟨rfl,hb⟩:=HQ.out _ _ hf;obtain⟨c1,c2,c3,AQ⟩:=Eq.out _ hb;have C8:=Q0a AQ;clear AQ hf hb;go_wp2_with fail;refine C8.out.mono ?_;rintro r w4 ⟨rfl,d1,d2,d3,d4,d5⟩;have HG:=Q0a d5;have HC:=Q0a d4;clear d4 d5;go_wp2_with fail;refine HC.out.mono ?_;rintro r w5 ⟨rfl,rfl⟩;have d2':w4.drew.cell? ⟨w1.heap.size,1,none⟩=some (.int .i64 pv):=d2;have d3':w4.drew.cell? ⟨cc,0,none⟩=some (.pointer (some ⟨db,0,none⟩)):=d3;go_wp2_with fail
 go_region_held3 (fun w'=>w'.cell? ⟨cc,0,none⟩=some (.pointer (some ⟨db,0,none⟩))/\w'.cell? ⟨w1.heap.size,1,none⟩=some (.int .i64 pv))
  (first|exact⟨d3,d2⟩|exact⟨d3',d2'⟩|exact⟨e0,e1⟩)
  (first|(go_at_call 160;refine HG.out.mono ?_;rintro r w6 ⟨rfl,⟨e0,e1⟩,e2,e3⟩;have HD:=Q0a e3;clear e3))
 go_wp2_with fail;refine HD.out.mono ?_;rintro r w7 ⟨rfl,⟨v,f1⟩,f2,f3⟩;have HF:=Q0a f3;clear f3;go_wp2_with fail;exact HF.out
end Go.Proofs.YtlakjlmaboioiaaGreatDoor

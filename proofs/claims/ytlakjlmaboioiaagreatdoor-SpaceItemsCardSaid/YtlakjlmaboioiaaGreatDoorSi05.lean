/- SpaceItems returns true at every input. No condition. Part of its proof. -/
import Derived.Test.YtlakjlmaboioiaaGreatDoorSi01
import Derived.Test.YtlakjlmaboioiaaGreatDoorSi02
import Derived.Test.YtlakjlmaboioiaaGreatDoorSi04
import Derived.Test.YtlakjlmaboioiaaGreatDoorSi03
import Derived.Deep.RegionHeld3
import Derived.Deep.RegionWith
set_option maxHeartbeats 4000000
set_option maxRecDepth 100000
set_option linter.unusedVariables false
namespace Go.Proofs.YtlakjlmaboioiaaGreatDoor
open Go.RowKit Go.Proofs.Tryz
structure BD where
 b:Nat
 mb:Nat
 top:Nat
 bms:List BM
 ps:List Nat
def BD.cells (d:BD):List Value:=.int .i64 d.top::(d.bms.map (fun m=>ptr m.b)++List.replicate (21-d.bms.length) (.pointer none)++[.map (some d.mb)])
def upk (ps:List Nat):List (Int×Value):=ps.map fun p=>(((1024*p:Nat):Int),.int .i64 0)
def BD.hl (d:BD):HL:=(d.b,isC 243 d.cells)::(d.mb,isMI (upk d.ps))::d.bms.flatMap BM.hl
structure BD.Is (d:BD) (G:Nat->Nat->Bool):Prop where
 len:d.bms.length=d.top+1
 top:d.top<=20
 bits:∀k m,d.bms[k]?=some m->m.bits=(List.range (2 ^ (d.top-k))).map (G k)
def uOf (ps:List Nat):Nat->Bool:=fun p=>decide (p∈ps)
structure BD.At (d:BD):Prop where
 is:d.Is (fre (uOf d.ps) d.top)
 nd:d.ps.Nodup
 lt:∀p∈d.ps,p<2 ^ d.top
def upG (G:Nat->Nat->Bool) (k i:Nat) (on:Bool):Nat->Nat->Bool:=fun l j=>if l=k/\j=i then on else G l j
theorem Z6b (ps:List Nat) (p:Nat):look (upk ps) ((1024*p:Nat):Int)=if p∈ps then some (.int .i64 0) else none:=by
 induction ps with
 | nil=>rfl
 | cons x r ih =>
  have ih':look (r.map fun p=>(((1024*p:Nat):Int),Value.int .i64 0)) ((1024*p:Nat):Int)=_:=ih;by_cases h:p=x
  ·subst h;simp [upk,look]
  ·have h2:¬((1024*p:Nat):Int)=((1024*x:Nat):Int):=by omega
   simp only [upk,J0w,look,h2,if_false];rw [ih'];simp [h]
theorem Z8s (ps:List Nat) (p:Nat) (h:p∉ps):put (upk ps) ((1024*p:Nat):Int) (.int .i64 0)=upk (ps++[p]):=by
 induction ps with
 | nil=>rfl
 | cons x r ih =>
  have h1:¬p=x:=fun e=>h (by simp [e])
  have h2:¬((1024*p:Nat):Int)=((1024*x:Nat):Int):=by omega
  have ih':=ih (fun hr=>h (by simp [hr]));simp only [upk,J0w,put,h2,if_false,J2D] at ih' ⊢;rw [ih']
theorem Z8t (ps:List Nat) (p:Nat):del (upk ps) ((1024*p:Nat):Int)=upk (ps.erase p):=by
 induction ps with
 | nil=>rfl
 | cons x r ih =>
  by_cases h:p=x
  ·subst h;simp [upk,del]
  ·have h2:¬((1024*p:Nat):Int)=((1024*x:Nat):Int):=by omega
   have h3:(x==p)=false:=by simp;exact fun e=>h e.symm
   have e1:(x::r).erase p=x::r.erase p:=by rw [List.erase_cons,h3];rfl
   rw [e1];simp only [upk,J0w,del,h2,if_false] at ih ⊢;rw [ih]
theorem Z6c (ps:List Nat) (p:Nat):uOf (ps++[p])=setU (uOf ps) p true:=by
 funext x;unfold uOf setU;by_cases h:x=p <;> simp [h]
theorem Z3p {ps:List Nat} (h:ps.Nodup) (p:Nat):uOf (ps.erase p)=setU (uOf ps) p false:=by
 funext x;unfold uOf setU;simp only [h.mem_erase_iff];by_cases h:x=p <;> simp [h]
theorem Z3q (G:Nat->Bool) (n i:Nat) (on:Bool):((List.range n).map G).set i on=(List.range n).map fun j=>if j=i then on else G j:=by
 apply J2a
 intro j;rw [J1Z,J2d,J2d,J2b,J2c];by_cases h:i=j
 ·subst h;by_cases h2:i<n
  ·simp [h2]
  ·simp [h2]
 ·rw [if_neg h];by_cases h2:j<n
  ·simp [h2,show ¬j=i from fun e=>h e.symm]
  ·rw [J2h (by simp;omega)];rfl
section
variable {w:World} {d:BD} {G:Nat->Nat->Bool}
theorem BD.sepC (h:Sep w d.hl):Cells w d.b 243 d.cells:=h.cells (by simp [BD.hl])
theorem BD.c0 (h:Sep w d.hl):w.cell? ⟨d.b,0,none⟩=some (.int .i64 d.top):=(BD.sepC h).cell 0 _ rfl
theorem BD.cf (h:Sep w d.hl) (k:Nat) (m:BM) (hm:d.bms[k]?=some m):w.cell? ⟨d.b,1+k,none⟩=some (ptr m.b):=by
 have hk:k<d.bms.length:=(J0K.1 hm).1;refine (BD.sepC h).cell (1+k) _ ?_;unfold BD.cells;rw [J1B,J3D,J1s,J3E (by simpa using hk),J2d,hm];rfl
theorem BD.cm (h:Sep w d.hl) (hl:d.bms.length<=21):w.cell? ⟨d.b,22,none⟩=some (.map (some d.mb)):=by
 refine (BD.sepC h).cell 22 _ ?_;unfold BD.cells;have e:(d.bms.map (fun m=>ptr m.b)++List.replicate (21-d.bms.length) (Value.pointer none)).length=21:=by simp;omega
 rw [J3D,J3F (by omega),e];rfl
theorem BD.map (h:Sep w d.hl):Q0G w d.mb (upk d.ps):=h.map (by simp [BD.hl,isMI])
theorem BD.bm (h:Sep w d.hl) (k:Nat) (m:BM) (hm:d.bms[k]?=some m):Sep w m.hl:=by
 refine h.sub ?_;unfold BD.hl;rw [Q3O _ _ _ _ hm];refine List.Sublist.cons _ (List.Sublist.cons _ ?_);exact (J1j _ _).trans (J1i _ _)
theorem BD.setBm (h:Sep w d.hl) (k:Nat) (m m':BM) (hm:d.bms[k]?=some m) (hb:m'.b=m.b) {w':World} (hs:Step m.hl m'.hl w w'):Step d.hl ({d with bms:=d.bms.set k m'}:BD).hl w w':=by
 have hk:k<d.bms.length:=(J0K.1 hm).1;have hx:d.bms[k]=m:=(J0K.1 hm).2;have ec:({d with bms:=d.bms.set k m'}:BD).cells=d.cells:=by
  have:(d.bms.set k m').map (fun m=>ptr m.b)=d.bms.map fun m=>ptr m.b:=by
   apply J2a
   intro j;rw [J2d,J2d,J1Z];by_cases hj:k=j
   ·subst hj;simp [hk,hb,hx]
   ·rw [if_neg hj]
  unfold BD.cells;simp only [this,J2e]
 have e1:d.hl=((d.b,isC 243 d.cells)::(d.mb,isMI (upk d.ps))::(d.bms.take k).flatMap BM.hl)++m.hl++(d.bms.drop (k+1)).flatMap BM.hl:=by
  unfold BD.hl;rw [Q3O _ _ _ _ hm];simp [List.append_assoc]
 have e2:({d with bms:=d.bms.set k m'}:BD).hl=((d.b,isC 243 d.cells)::(d.mb,isMI (upk d.ps))::(d.bms.take k).flatMap BM.hl)++m'.hl++(d.bms.drop (k+1)).flatMap BM.hl:=by
  unfold BD.hl;rw [ec,Z7K _ _ _ _ hk];simp [List.append_assoc]
 rw [e1] at h;rw [e1,e2];exact Step.frame _ _ h hs
end
theorem BD.Is.get {d:BD} {G:Nat->Nat->Bool} (h:d.Is G) (k:Nat) (hk:k<=d.top):∃m,d.bms[k]?=some m/\m.bits=(List.range (2 ^ (d.top-k))).map (G k):=by
 have:k<d.bms.length:=by rw [h.len];omega
 exact⟨_,J2J this,h.bits k _ (J2J this)⟩
theorem Q1Q {t k:Nat} (h:t<=20):2 ^ (t-k)<=1048576:=J0u (J1G (by omega) (by omega:t-k<=20)) (by decide)
def fstG (G:Nat->Nat->Bool) (top k s:Nat):Option Nat:=Q1F ((List.range (2 ^ (top-k))).map (G k)) true s
theorem Q7g {w:World} {d:BD} {G:Nat->Nat->Bool} (h:Sep w d.hl) (hi:d.Is G) (k:Nat) (hk:k<=d.top) (s:Nat) (hs:s<=1048576):∃b,w.cell? ⟨d.b,1+k,none⟩=some (.pointer (some ⟨b,0,none⟩)) /\
  Calls prog 132 #[.pointer (some ⟨b,0,none⟩),.bool true,.int .i64 s] w fun r w'=>r=.returned (.int .i64 (optI (fstG G d.top k s)))/\w=w':=by
 obtain⟨m,hm,hb⟩:=hi.get k hk;refine⟨m.b,BD.cf h k m hm,?_⟩;have:=Q3A (BD.bm h k m hm) true s hs (by rw [hb];simpa using Q1Q hi.top);rw [hb] at this;exact this
theorem Q2E {α β:Type} (f:α->β) (L:List α) (k:Nat) (x y:α) (h:L[k]?=some x) (e:f y=f x):(L.set k y).map f=L.map f:=by
 apply J2a
 intro j;rw [J2d,J2d,J1Z];by_cases hj:k=j
 ·subst hj;have hk:k<L.length:=(J0K.1 h).1;rw [if_pos rfl,if_pos hk,h];simp [e]
 ·rw [if_neg hj]
structure BD.To (d d':BD) (w w':World):Prop where
 b:d'.b=d.b
 mb:d'.mb=d.mb
 top:d'.top=d.top
 ps:d'.ps=d.ps
 step:Step d.hl d'.hl w w'
 ptrs:d'.bms.map BM.b=d.bms.map BM.b
theorem BD.To.refl {d:BD} {w:World} (h:Sep w d.hl):d.To d w w:=⟨rfl,rfl,rfl,rfl,Step.refl h,rfl⟩
theorem BD.To.trans {d d1 d2:BD} {w w1 w2:World} (h:d.To d1 w w1) (k:d1.To d2 w1 w2):d.To d2 w w2:=⟨k.b.trans h.b,k.mb.trans h.mb,k.top.trans h.top,k.ps.trans h.ps,h.step.trans k.step,k.ptrs.trans h.ptrs⟩
def SetG (d:BD) (w:World) (n:Int) (G:Nat->Nat->Bool) (r:Ending) (w':World):Prop:=r=.returned (.int .i64 n)/\∃d',d.To d' w w'/\d'.Is G
theorem Q7M {w:World} {d:BD} {G:Nat->Nat->Bool} (h:Sep w d.hl) (hi:d.Is G) (k i:Nat) (on:Bool) (hk:k<=d.top) (hik:i<2 ^ (d.top-k)) (hne:G k i≠on):∃b,w.cell? ⟨d.b,1+k,none⟩=some (.pointer (some ⟨b,0,none⟩)) /\
  Calls prog 223 #[.pointer (some ⟨b,0,none⟩),.bool on,.slice (some ⟨w.heap.size,0,none⟩) 1 1] (w.alloc (.cells #[.int .i64 i] 3)) (SetG d w 1 (upG G k i on)):=by
 obtain⟨m,hm,hb⟩:=hi.get k hk;refine⟨m.b,BD.cf h k m hm,?_⟩;have hlen:m.bits.length=2 ^ (d.top-k):=by rw [hb];simp
 have hget:m.bits[i]?.getD false=G k i:=by rw [hb];simp [hik]
 have hs:=BD.bm h k m hm;refine (Q1Z (hs.alloc (.cells #[.int .i64 i] 3)) on i (by rw [hlen];exact hik) (by rw [hlen];exact Q1Q hi.top) (by rw [hget];exact hne) w.heap.size ((Cells.new w 3 [.int .i64 i]).cell 0 _ rfl) (fun hb=>by have:=hs.lt hb;omega)).mono ?_;rintro r w' ⟨rfl,hst⟩;refine⟨rfl,{d with bms:=d.bms.set k {m with bits:=m.bits.set i on}},⟨rfl,rfl,rfl,rfl,BD.setBm h k m {m with bits:=m.bits.set i on} hm rfl hst.from_alloc,Q2E BM.b _ _ _ _ hm rfl⟩,⟨by simpa using hi.len,hi.top,?_⟩⟩;intro l m' hm';rw [J1Z] at hm';by_cases hl:k=l
 ·subst hl;have hkl:k<d.bms.length:=by rw [hi.len];omega
  simp only [if_true,hkl] at hm';cases hm';show m.bits.set i on=_;rw [hb,Z3q]
  apply J2B
  intro j _;unfold upG;simp
 ·rw [if_neg hl] at hm';rw [hi.bits l m' hm']
  apply J2B
  intro j _;unfold upG;rw [if_neg];rintro⟨e,_⟩;exact hl e.symm
theorem BD.To.ptr {d d':BD} {w w':World} (h:d.To d' w w') {k:Nat} {b:Nat} (hm:(d.bms.map BM.b)[k]?=some b):w'.cell? ⟨d.b,1+k,none⟩=some (.pointer (some ⟨b,0,none⟩)):=by
 rw [<- h.ptrs,J2d] at hm;cases hx:d'.bms[k]? with
 | none=>rw [hx] at hm;cases hm
 | some m =>
  rw [hx] at hm;have:m.b=b:=J1p hm;have hc:=BD.cf h.step.sep k m hx;rw [h.b,this] at hc;exact hc
theorem Z8u {w:World} {d:BD} {G:Nat->Nat->Bool} (h:Sep w d.hl) (hi:d.Is G) (k i:Nat) (on:Bool) (hk:k<=d.top) (hik:i<2 ^ (d.top-k)) (hne:G k i=on):∃b,w.cell? ⟨d.b,1+k,none⟩=some (.pointer (some ⟨b,0,none⟩)) /\
  Calls prog 223 #[.pointer (some ⟨b,0,none⟩),.bool on,.slice (some ⟨w.heap.size,0,none⟩) 1 1] (w.alloc (.cells #[.int .i64 i] 3)) (SetG d w 0 G):=by
 obtain⟨m,hm,hb⟩:=hi.get k hk;refine⟨m.b,BD.cf h k m hm,?_⟩;have hlen:m.bits.length=2 ^ (d.top-k):=by rw [hb];simp
 have hget:m.bits[i]?.getD false=G k i:=by rw [hb];simp [hik]
 refine (Z1h ((BD.bm h k m hm).alloc (.cells #[.int .i64 i] 3)) on i (by rw [hlen];exact hik) (by rw [hlen];exact Q1Q hi.top) (by rw [hget];exact hne) w.heap.size ((Cells.new w 3 [.int .i64 i]).cell 0 _ rfl)).mono ?_;rintro r w' ⟨rfl,rfl⟩;exact⟨rfl,d,⟨rfl,rfl,rfl,rfl,(Step.refl (h.alloc _)).from_alloc,rfl⟩,hi⟩
theorem Q6t {w:World} {d:BD} {G:Nat->Nat->Bool} (h:Sep w d.hl) (hi:d.Is G) (hn:∀k,k<=d.top->fstG G d.top k 0=none) :
  Calls prog 154 #[.pointer (some ⟨d.b,0,none⟩),.int .i64 0] w fun r w'=>r=.returned (.tuple #[.int .i64 0,.int .i64 4])/\w=w':=by
 have c0:=BD.c0 h;have HF:=Q0a (show ∀k,k<=d.top->∃b,w.cell? ⟨d.b,1+k,none⟩=some (.pointer (some ⟨b,0,none⟩))/\Calls prog 132 #[.pointer (some ⟨b,0,none⟩),.bool true,.int .i64 0] w fun r w'=>r=.returned (.int .i64 (-1))/\w=w' from fun k hk=>by
  obtain⟨b,h1,h2⟩:=Q7g h hi k hk 0 (by omega);rw [hn k hk] at h2;exact⟨b,h1,h2⟩)
 have ht:=hi.top;clear h hi hn;generalize d.top=top at *
 go_enter func154,ntmps154;go_wp2_with fail
 go_loop [6,7] (fun kv iv=>∃k:Nat,kv=.int .i64 k/\iv=.int .i64 (-1)/\k<=top+1) (fun kv _=>top+1-(intOf kv).toNat)
 case atStart=>exact⟨0,rfl,rfl,by omega⟩
 case round =>
  obtain⟨k,rfl,rfl,hk⟩:=hrel;by_cases hlt:k<=top
  ·obtain⟨b,hc,hcall⟩:=HF.out k hlt;go_wp2_with (go_at_call 132;refine hcall.mono ?_;rintro e w' ⟨rfl,rfl⟩)
   go_round
   case rel=>exact⟨k+1,by go_num,rfl,by omega⟩
   case measure=>simp [intOf];omega
  ·go_wp2_with fail;go_ret2;exact⟨rfl,rfl⟩
def spl (G:Nat->Nat->Bool) (k0 i0 j:Nat):Nat->Nat->Bool:=fun l x=>if l<j then G l x else if l<k0 then (G l x||(x==i0*2 ^ (k0-l)+1)) else if l=k0 then (G l x&&!(x==i0)) else G l x
theorem Z8v (G:Nat->Nat->Bool) (k0 i0:Nat):upG G k0 i0 false=spl G k0 i0 k0:=by
 funext l x;unfold upG spl;by_cases h:l=k0
 ·subst h;by_cases h2:x=i0 <;> simp [h2]
 ·by_cases h2:l<k0
  ·simp [h,h2]
  ·simp [h,h2]
theorem Z6d (G:Nat->Nat->Bool) (k0 i0 j:Nat) (hj:j<k0):upG (spl G k0 i0 (j+1)) j (i0*2 ^ (k0-j)+1) true=spl G k0 i0 j:=by
 funext l x;unfold upG spl;by_cases h:l=j
 ·subst h;have h1:¬l<l:=by omega
  have h2:l<l+1:=by omega
  by_cases hx:x=i0*2 ^ (k0-l)+1
  ·simp [hj,h1,hx]
  ·have e:(x==i0*2 ^ (k0-l)+1)=false:=by simpa using hx
   simp [hj,h1,h2,hx,e]
 ·have e:(l<j+1)=(l<j):=by apply propext;omega
  simp [h,e]
theorem Z8w (ps:List Nat) (top k0 i0:Nat) (hk:k0<=top) (hf:fre (uOf ps) top k0 i0=true) (l x:Nat) (hl:l<=top):spl (fre (uOf ps) top) k0 i0 0 l x=fre (uOf (ps++[i0*2 ^ k0])) top l x:=by
 have hp:i0*2 ^ k0/2 ^ k0=i0:=J3q _ (J1H k0);rw [Z6c,Z0j _ top k0 (i0*2 ^ k0) hk (by rw [hp];exact hf) l x hl,hp];unfold spl;rw [if_neg (by omega)];by_cases h1:l<k0
 ·rw [if_pos h1,if_pos h1];have e:i0*2 ^ k0/2 ^ l=i0*2 ^ (k0-l):=by
   rw [show (2:Nat) ^ k0=2 ^ (k0-l)*2 ^ l from by rw [<- J1T];congr 1;omega,<- J3G];exact J3q _ (J1H l)
  have e2:sib (i0*2 ^ (k0-l))=i0*2 ^ (k0-l)+1:=by
   unfold sib;rw [if_pos];rw [show k0-l=(k0-l-1)+1 from by omega,J1A,<- J3G];omega
  rw [e,e2]
 ·rw [if_neg h1,if_neg h1]
theorem Z3r {ps:List Nat} {top k0 i0:Nat} (hk:k0<=top) (hf:fre (uOf ps) top k0 i0=true) (j:Nat) (hj:j<k0):fre (uOf ps) top j (i0*2 ^ (k0-j)+1)=false:=by
 cases h:fre (uOf ps) top j (i0*2 ^ (k0-j)+1) with
 | false=>rfl
 | true =>
  have e1:(i0*2 ^ (k0-j)+1)*2 ^ j/2 ^ j=i0*2 ^ (k0-j)+1:=J3q _ (J1H j);have e2:(i0*2 ^ (k0-j)+1)*2 ^ j/2 ^ k0=i0:=by
   rw [show (2:Nat) ^ k0=2 ^ j*2 ^ (k0-j) from by rw [<- J1T];congr 1;omega,<- J1U,e1,J1B,J3y _ _ (J1H _),Nat.div_eq_of_lt (Nat.one_lt_two_pow (by omega)),J2W]
  have:=Q7L (by omega) hk h hf e1 e2;omega
def Z9B (d:BD) (p:Nat) (w:World) (r:Ending) (w':World):Prop:=r=.returned (.tuple #[.int .i64 ((1024*p:Nat):Int),.int .i64 0]) /\
 ∃d':BD,d'.b=d.b/\d'.top=d.top/\d'.ps=d.ps++[p]/\d'.At/\Step d.hl d'.hl w w'
theorem BD.putMap {w w':World} {d:BD} (h:Sep w d.hl) (ps':List Nat) (hm:Q0G w' d.mb (upk ps')) (hg:w.grownBy w' (some d.mb)):Step d.hl ({d with ps:=ps'}:BD).hl w w':=by
 obtain⟨es,clock,ho,hr⟩:=hm;exact Sep.turn (A:=[(d.b,isC 243 d.cells)]) (B:=d.bms.flatMap BM.hl) h hg ⟨_,ho,es,clock,rfl,hr⟩
theorem Q6u {w:World} {d:BD} (h:Sep w d.hl) (ha:d.At) (k0 i0:Nat) (hk0:k0<=d.top) (hf:fstG (fre (uOf d.ps) d.top) d.top k0 0=some i0) (hp:∀k,k<k0->fstG (fre (uOf d.ps) d.top) d.top k 0=none) :
  Calls prog 154 #[.pointer (some ⟨d.b,0,none⟩),.int .i64 0] w (Z9B d (i0*2 ^ k0) w):=by
 obtain⟨s1,s2,s3,s4⟩:=Q2m hf;have hi0:i0<2 ^ (d.top-k0):=by simpa using s1
 have hfree:fre (uOf d.ps) d.top k0 i0=true:=by simpa [hi0] using s3
 have ht:=ha.is.top;have hpt:i0*2 ^ k0<2 ^ d.top:=by
  have:i0*2 ^ k0<2 ^ (d.top-k0)*2 ^ k0:=J3H hi0 (J1H _)
  rwa [<- J1T,show d.top-k0+k0=d.top from by omega] at this
 have hpn:i0*2 ^ k0∉d.ps:=by
  have:=Q7K hfree (p:=i0*2 ^ k0) (J3q _ (J1H k0))
  simpa [uOf] using this
 have hib:∀j,j<=k0->i0*2 ^ (k0-j)+1<=1048576/\i0*2 ^ (k0-j)<2 ^ (d.top-j):=by
  intro j hj;have h1:i0*2 ^ (k0-j)<2 ^ (d.top-k0)*2 ^ (k0-j):=J3H hi0 (J1H _);rw [<- J1T,show d.top-k0+(k0-j)=d.top-j from by omega] at h1;have:=Q1Q (k:=j) ht;omega
 have c0:=BD.c0 h;have hi:=ha.is;have HF:=Q0a (show ∀k,k<k0->∃b,w.cell? ⟨d.b,1+k,none⟩=some (.pointer (some ⟨b,0,none⟩))/\Calls prog 132 #[.pointer (some ⟨b,0,none⟩),.bool true,.int .i64 0] w fun r w'=>r=.returned (.int .i64 (-1))/\w=w' from fun k hk=>by
  obtain⟨b,h1,h2⟩:=Q7g h hi k (by omega) 0 (by omega);rw [hp k hk] at h2;exact⟨b,h1,h2⟩)
 have HF0:Hid (∃b,w.cell? ⟨d.b,1+k0,none⟩=some (.pointer (some ⟨b,0,none⟩))/\(Calls prog 132 #[.pointer (some ⟨b,0,none⟩),.bool true,.int .i64 0] w fun r w'=>r=.returned (.int .i64 i0)/\w=w') /\
   Calls prog 223 #[.pointer (some ⟨b,0,none⟩),.bool false,.slice (some ⟨w.heap.size,0,none⟩) 1 1] (w.alloc (.cells #[.int .i64 i0] 3)) (SetG d w 1 (spl (fre (uOf d.ps) d.top) k0 i0 k0))):=by
  obtain⟨b,h1,h2⟩:=Q7g h hi k0 hk0 0 (by omega);rw [hf] at h2;obtain⟨b',h3,h4⟩:=Q7M h hi k0 i0 false hk0 hi0 (by rw [hfree];decide);rw [h1] at h3;cases h3;rw [Z8v] at h4;exact⟨b,h1,h2,h4⟩
 have HStep:=Q0a (show ∀j wr d1,j<k0->d.To d1 w wr->d1.Is (spl (fre (uOf d.ps) d.top) k0 i0 (j+1))->∃b,wr.cell? ⟨d.b,1+j,none⟩=some (.pointer (some ⟨b,0,none⟩)) /\
   Calls prog 223 #[.pointer (some ⟨b,0,none⟩),.bool true,.slice (some ⟨wr.heap.size,0,none⟩) 1 1] (wr.alloc (.cells #[.int .i64 ((i0*2 ^ (k0-j)+1:Nat):Int)] 3)) fun r w'=>r=.returned (.int .i64 1)/\∃d2,d.To d2 w w'/\d2.Is (spl (fre (uOf d.ps) d.top) k0 i0 j) from fun j wr d1 hj hto his=>by
  obtain⟨b1,b2⟩:=hib j (by omega);have hodd:i0*2 ^ (k0-j)+1<2 ^ (d.top-j):=by
   have e1:i0*2 ^ (k0-j)=2*(i0*2 ^ (k0-j-1)):=by
    rw [show k0-j=(k0-j-1)+1 from by omega,J1A,Nat.add_sub_cancel];simp only [J3r,Nat.mul_left_comm]
   have e2:2 ^ (d.top-j)=2*2 ^ (d.top-j-1):=by
    rw [<- J3C];congr 1;omega
   omega
  have hne:spl (fre (uOf d.ps) d.top) k0 i0 (j+1) j (i0*2 ^ (k0-j)+1)≠true:=by
   unfold spl;rw [if_pos (by omega),Z3r hk0 hfree j hj];decide
  obtain⟨b,h3,h4⟩:=Q7M hto.step.sep his j (i0*2 ^ (k0-j)+1) true (by rw [hto.top];omega) (by rw [hto.top];exact hodd) hne;rw [hto.b] at h3;refine⟨b,h3,h4.mono ?_⟩;rintro r w' ⟨rfl,d2,hto2,his2⟩;rw [Z6d _ _ _ _ hj] at his2;exact⟨rfl,d2,hto.trans hto2,his2⟩)
 have HEnd:=Q0a (show ∀wr d1,d.To d1 w wr->d1.Is (spl (fre (uOf d.ps) d.top) k0 i0 0)->wr.cell? ⟨d.b,22,none⟩=some (.map (some d.mb))/\Q0G wr d.mb (upk d.ps)/\∀w2,Q0G w2 d.mb (put (upk d.ps) ((1024*(i0*2 ^ k0):Nat):Int) (.int .i64 0))->wr.grownBy w2 (some d.mb)->Z9B d (i0*2 ^ k0) w (.returned (.tuple #[.int .i64 ((1024*(i0*2 ^ k0):Nat):Int),.int .i64 0])) w2 from fun wr d1 hto his=>by
  have hs:=hto.step.sep;have hc:=BD.cm hs (by rw [his.len,hto.top];omega);have hmp:=BD.map hs;rw [hto.b,hto.mb] at hc;rw [hto.mb,hto.ps] at hmp;refine⟨hc,hmp,fun w2 hm2 hg2=>⟨rfl,{d1 with ps:=d.ps++[i0*2 ^ k0]},hto.b,hto.top,rfl,⟨⟨his.len,his.top,?_⟩,?_,?_⟩,?_⟩⟩
  ·intro k m hm;rw [his.bits k m hm];have hkt:k<=d1.top:=by
    have h1:k<d1.bms.length:=(J0K.1 hm).1;have h2:d1.bms.length=d1.top+1:=his.len;omega
   apply J2B
   intro x _;show spl (fre (uOf d.ps) d.top) k0 i0 0 k x=fre (uOf (d.ps++[i0*2 ^ k0])) d1.top k x;rw [hto.top];exact Z8w _ _ _ _ hk0 hfree k x (by rw [<- hto.top];exact hkt)
  ·rw [J1l];refine⟨ha.nd,by simp,?_⟩;intro a ha' b hb e;simp at hb;subst hb;subst e;exact hpn ha'
  ·intro p hp';show p<2 ^ d1.top;rw [hto.top];rcases J1h.1 hp' with h1|h1
   ·exact ha.lt p h1
   ·simp at h1;subst h1;exact hpt
  ·rw [Z8s _ _ hpn] at hm2;have hm3:Q0G w2 d1.mb (upk (d.ps++[i0*2 ^ k0])):=by rw [hto.mb];exact hm2
   rw [<- hto.mb] at hg2;exact hto.step.trans (BD.putMap hs _ hm3 hg2))
 have HTop:=Q0a (show ∀wr d1,d.To d1 w wr->wr.cell? ⟨d.b,0,none⟩=some (.int .i64 d.top) from fun wr d1 hto=>by
  have:=BD.c0 hto.step.sep;rw [hto.b,hto.top] at this;exact this)
 have HIB:=Q0a hib;clear h ha hi hf hp s1 s2 s3 s4 hfree hpn hib;generalize hG:spl (fre (uOf d.ps) d.top) k0 i0=S at *
 clear hG;generalize d.top=top at *
 go_enter func154,ntmps154;go_wp2_with fail
 go_loop [6,7] (fun kv iv=>∃k:Nat,kv=.int .i64 k/\iv=.int .i64 (-1)/\k<=k0) (fun kv _=>k0+1-(intOf kv).toNat)
 case atStart=>exact⟨0,rfl,rfl,by omega⟩
 case round =>
  obtain⟨k,rfl,rfl,hk⟩:=hrel;have hkt:k<=top:=by omega
  by_cases hlt:k<k0
  ·obtain⟨b,hc,hcall⟩:=HF.out k hlt;go_wp2_with (go_at_call 132;refine hcall.mono ?_;rintro e w' ⟨rfl,rfl⟩)
   go_round
   case rel=>exact⟨k+1,by go_num,rfl,by omega⟩
   case measure=>simp [intOf];omega
  ·obtain rfl:k=k0:=by omega
   obtain⟨b,hc,hcall,hset⟩:=HF0.out;obtain⟨hb1,hb2⟩:=HIB.out k (J0t _);rw [J3I,Nat.pow_zero,J1y] at hb1;clear hb2;go_wp2_with fail;refine hcall.mono ?_;rintro e w' ⟨rfl,rfl⟩;go_wp2_with fail;refine hset.mono ?_;rintro e w1 ⟨rfl,d1,hto,his⟩;have HTo:=Q0a hto;have HIs:=Q0a his;clear hto his hset hcall hc;go_wp2_with fail
   go_loopw [6,7] (fun jv iv wr=>∃(j:Nat) (d2:BD),jv=.int .i64 j/\iv=.int .i64 ((i0*2 ^ (k-j):Nat):Int)/\j<=k/\d.To d2 w wr/\d2.Is (S j)) (fun jv _ _=>(intOf jv).toNat)
   case atStart=>exact⟨k,d1,rfl,by simp,J0t _,HTo.out,HIs.out⟩
   case round =>
    obtain⟨j,d2,rfl,rfl,hj,hto,his⟩:=hrel;have hct:=HTop.out _ _ hto;by_cases hj0:j=0
    ·subst hj0;obtain⟨hcm,hmp,hfin⟩:=HEnd.out _ _ hto his;have HFin:=Q0a hfin;clear hfin;have hv:((1024*(i0*2 ^ k):Nat):Int)=((i0*2 ^ (k-0):Nat):Int)*1024:=by rw [Nat.sub_zero];omega
     have hb:i0*2 ^ (k-0)<1048576:=by
      have:=(HIB.out 0 (by omega)).1;omega
     rw [hv] at HFin;generalize i0*2 ^ (k-0)=p at *
     clear hv;go_wp2_with (refine Q1z _ rfl _ _ _ 241 3 3 rfl underlying241 underlying3 d.mb (upk d.ps) hmp _ _ rfl rfl rfl ?_;intro w2 hm2 hg2);go_ret2;exact HFin.out _ hm2 hg2
    ·obtain⟨l,rfl⟩:∃l,j=l+1:=⟨j-1,by omega⟩
     obtain⟨b2,hc2,hset2⟩:=HStep.out l wr d2 (by omega) hto his;have hI:i0*2 ^ (k-l)=i0*2 ^ (k-(l+1))*2:=by
      rw [show k-l=k-(l+1)+1 from by omega,J1A,J3G]
     have hb:=(HIB.out l (by omega)).1;have hrw:((i0*2 ^ (k-l)+1:Nat):Int)=((i0*2 ^ (k-(l+1)):Nat):Int)*2+1:=by rw [hI];omega
     have hrw2:=Q0a (show ((i0*2 ^ (k-l):Nat):Int)=((i0*2 ^ (k-(l+1)):Nat):Int)*2 from by rw [hI];omega);rw [hrw] at hset2;rw [hI] at hb;clear hrw hI hto his;generalize i0*2 ^ (k-(l+1))=p at *
     have hl1:((l+1:Nat):Int)=(l:Int)+1:=by omega
     go_wp2_with fail;refine hset2.mono ?_;rintro e w2 ⟨rfl,d3,hto3,his3⟩;go_wp2_with fail;go_roundw
     case rel=>exact⟨l,d3,by go_num,by rw [hrw2.out],by omega,hto3,his3⟩
     case measure=>simp [intOf]
def Z6e (c:CA) (d:BD) (p:Nat) (w:World) (r:Ending) (w':World):Prop:=r=.returned (.tuple #[.int .i64 ((addr c.size p 0:Nat):Int),.int .i64 0]) /\
 ∃(d':BD) (m:BM) (rv':RV),d'.b=d.b/\d'.top=d.top/\d'.ps=d.ps++[p]/\d'.At/\m.bits=(List.replicate (960/c.size) false).set 0 true/\(c.insert rv' (m,p)).Ok/\Step (c.hl++d.hl) ((c.insert rv' (m,p)).hl++d'.hl) w w'
theorem Z6f {w w5:World} {c:CA} {d d':BD} {m:BM} (p g:Nat) (ok:c.Ok) (hn:∀x∈c.pg,x.2≠p) (hp:p<1048576) (hln:c.pg.length<1048576) (hm:m.bits=(List.replicate (960/c.size) false).set 0 true) (b1:d'.b=d.b) (b2:d'.top=d.top) (b3:d'.ps=d.ps++[p]) (b4:d'.At)
  (hst:Step (c.hl++d.hl) (c.hl++(m.hl++d'.hl)) w w5) (hg:g<w5.heap.size) (hgk:g∉keys (c.hl++(m.hl++d'.hl))) :
  Calls prog 228 #[lvOf c.rv c.pg.length,.int .i64 (Q0p c.pg p),.slice (some ⟨w5.heap.size,0,none⟩) 1 1] (w5.drew.alloc (.cells #[ptr m.b,.int .i64 ((1024*p:Nat):Int)] 343)) fun r w6=>∃(g6 cap6:Nat) (v6:Value),v6=.slice (some ⟨g6,0,none⟩) (c.pg.length+1) cap6/\r=.returned v6 /\
   w6.heap[g]?=w5.heap[g]?/\w6.cell? ⟨c.c,2,none⟩=some (lvOf c.rv c.pg.length)/\w6.frozen? ⟨c.c,2,none⟩=false /\
   Calls prog 225 #[.pointer (some ⟨c.c,0,none⟩),.agg #[ptr m.b,.int .i64 ((1024*p:Nat):Int)],.int .i64 0] (w6.setCell ⟨c.c,2,none⟩ v6) fun r w7=>r=.returned (.int .i64 ((addr c.size p 0:Nat):Int))/\Z6e c d p w (.returned (.tuple #[.int .i64 ((addr c.size p 0:Nat):Int),.int .i64 0])) w7:=by
 have s5:=hst.sep;have s6:=(s5.drew.alloc (.cells #[ptr m.b,.int .i64 ((1024*p:Nat):Int)] 343))
 have hxl:(Q0h c.pg).length=c.pg.length*2:=Q6p _;have ox:∀v∈Q0h c.pg,v.oneCell'=true:=by
  intro v hv;unfold Q0h at hv;obtain⟨y,_,hy⟩:=J0T.1 hv;simp at hy;rcases hy with rfl|rfl <;> rfl
 have e0:c.hl++(m.hl++d'.hl)=[(c.c,isC 341 [ptr c.bb,.int .i64 c.size,lvOf c.rv c.pg.length])]++rowH c.rv 343 2 (Q0h c.pg)++(pgH c.pg++(m.hl++d'.hl)):=by unfold CA.hl;simp
 have s6':=s6;rw [e0] at s6';have hv:Cells (w5.drew.alloc (.cells #[ptr m.b,.int .i64 ((1024*p:Nat):Int)] 343)) w5.heap.size 343 [ptr m.b,.int .i64 ((1024*p:Nat):Int)]:=Cells.new w5.drew 343 [ptr m.b,.int .i64 ((1024*p:Nat):Int)];have hvb:w5.heap.size∉keys (c.hl++(m.hl++d'.hl)):=fun hm=>by have:=s5.lt hm;omega
 refine (Z8n s6' ok.rv hxl (Q7c c.pg p) (by omega) hv (by rw [<- e0];exact hvb) ox rfl rfl).mono ?_;rintro r w6 ⟨rv',rfl,hok',hst6⟩;have hbk:w6.heap[g]?=w5.heap[g]?:=by
  have h1:=hst6.chg.block g (by simp;omega) (by rw [<- e0];exact hgk);rw [h1];exact heap_alloc_old w5.drew _ hg
 have hcs:=(hst6.sep).cells (b:=c.c) (T:=341) (cs:=[ptr c.bb,.int .i64 c.size,lvOf c.rv c.pg.length]) (by simp);have hins:Step (c.hl++(m.hl++d'.hl)) ((c.insert rv' (m,p)).hl++d'.hl) w5 (w6.setCell ⟨c.c,2,none⟩ (lvOf rv' (c.pg.length+1))):=
  (CA.insStep (c:=c) (K:=d'.hl) (m,p) rv' s6 hst6).from_alloc.from_drew
 have okN:=CA.ok_ins ok rv' (m,p) hn hok' hln hp (by rw [hm];simp);have hall:=hst.trans hins;obtain⟨g6,cap6,e6⟩:∃g6 cap6:Nat,rv'=some (g6,cap6):=by
  cases rv' with
  | none=>have:c.pg.length+1=0:=hok';omega
  | some p=>exact⟨p.1,p.2,rfl⟩
 refine⟨g6,cap6,_,by rw [e6];rfl,rfl,hbk,hcs.cell 2 _ rfl,hcs.free 2,?_⟩;have hpl:=Q7G hall.sep.left okN m.b p 0 hp (by omega);refine hpl.mono ?_;rintro r w7 ⟨rfl,hb7⟩;exact⟨rfl,rfl,d',m,rv',b1,b2,b3,b4,hm,okN,hall.trans (hall.sep.grown hb7)⟩
theorem Z1q (a b:Nat) (ha:a<2 ^ 63) (hb:b<2 ^ 63):bits BinOp.xor IntKind.i64 (a:Int) (b:Int)=((a ^^^ b:Nat):Int):=by
 have h:(a ^^^ b)<2 ^ 63:=J1J ha hb;have e:((BitVec.ofInt 64 (a:Int)) ^^^ (BitVec.ofInt 64 (b:Int))).toNat=a ^^^ b:=by
  rw [BitVec.ofInt_natCast,BitVec.ofInt_natCast,BitVec.toNat_xor,BitVec.toNat_ofNat,BitVec.toNat_ofNat,J1N (by omega),J1N (by omega)]
 unfold bits;show IntKind.i64.wrap (((BitVec.ofInt 64 (a:Int)) ^^^ (BitVec.ofInt 64 (b:Int))).toNat:Int)=_;rw [e,IntKind.wrap_i64];omega
theorem Z8x (i:Nat):i ^^^ 1=sib i:=by
 have h:(i ^^^ 1)/2=i/2:=by
  have:=Nat.xor_div_two_pow (a:=i) (b:=1) (n:=1)
  simpa using this
 have h2:(i ^^^ 1)%2=(i+1)%2:=by
  have:=J1L i 1 0;rw [J1P,J1P,J1P] at this;have h3:i%2=0∨i%2=1:=by omega
  have h4:(i ^^^ 1)%2=0∨(i ^^^ 1)%2=1:=by omega
  rcases h3 with h3|h3 <;> rcases h4 with h4|h4 <;> simp [h3,h4] at this <;> omega
 unfold sib;split <;> omega
theorem Z8y (u:Nat->Bool) (top p:Nat):∃k,k<=top/\(k<top->clr u k (sib (p/2 ^ k))=false)/\∀j,j<k->clr u j (sib (p/2 ^ j))=true:=by
 rcases Z9x (fun k=>decide (k=top)||!clr u k (sib (p/2 ^ k))) (top+1) with h|⟨k,h1,h2,h3⟩
 ·have:=h top (by omega);simp at this
 ·refine⟨k,by omega,fun hk=>?_,fun j hj=>?_⟩
  ·simp only [Bool.or_eq_true,decide_eq_true_eq,J3A] at h2;rcases h2 with h2|h2
   ·omega
   ·exact h2
  ·have:=h3 j hj;simp only [Bool.or_eq_false_iff,Bool.not_eq_false'] at this;exact this.2
theorem Z6g (u:Nat->Bool) (p k:Nat) (hs:∀j,j<k->clr u j (sib (p/2 ^ j))=true):clr (setU u p false) k (p/2 ^ k)=true:=by
 induction k with
 | zero=>rw [Nat.pow_zero,Nat.div_one,Z0i];simp [setU]
 | succ k ih =>
  obtain⟨s1,s2⟩:=Q3T (p/2 ^ k);have h1:=ih (fun j hj=>hs j (by omega));have h2:=hs k (by omega);rw [<- Q3S u p k (sib (p/2 ^ k)) (fun e=>s2 e.symm)] at h2;rw [div_succ,clr_half,J0O];have:(p/2 ^ k=2*(p/2 ^ k/2)/\sib (p/2 ^ k)=2*(p/2 ^ k/2)+1)∨(sib (p/2 ^ k)=2*(p/2 ^ k/2)/\p/2 ^ k=2*(p/2 ^ k/2)+1):=by omega
  rcases this with ⟨e1,e2⟩|⟨e1,e2⟩
  ·exact⟨by rw [e1] at h1;exact h1,by rw [e2] at h2;exact h2⟩
  ·exact⟨by rw [e1] at h2;exact h2,by rw [e2] at h1;exact h1⟩
theorem Q3v {u:Nat->Bool} {p:Nat} (hu:u p=true) (k:Nat):clr u k (p/2 ^ k)=false:=by
 cases h:clr u k (p/2 ^ k) with
 | false=>rfl
 | true=>rw [clr_iff] at h;rw [h p rfl] at hu;cases hu
theorem Z0k {u:Nat->Bool} {top p k:Nat} (hu:u p=true) (hk:k<top):fre u top k (sib (p/2 ^ k))=clr u k (sib (p/2 ^ k)):=by
 unfold fre;rw [(Q3T (p/2 ^ k)).1,<- div_succ,Q3v hu];simp
def mrg (G:Nat->Nat->Bool) (p k:Nat):Nat->Nat->Bool:=fun l x=>if l<k then (G l x&&!(x==sib (p/2 ^ l))) else G l x
theorem Z6h (G:Nat->Nat->Bool) (p:Nat):mrg G p 0=G:=by funext l x;simp [mrg]
theorem Z6i (G:Nat->Nat->Bool) (p k:Nat):upG (mrg G p k) k (sib (p/2 ^ k)) false=mrg G p (k+1):=by
 funext l x;unfold upG mrg;by_cases h:l=k
 ·subst h;by_cases hx:x=sib (p/2 ^ l)
  ·simp [hx]
  ·have e:(x==sib (p/2 ^ l))=false:=by simpa using hx
   simp [hx,e]
 ·have e:(l<k+1)=(l<k):=by apply propext;omega
  simp [h,e]
theorem Z8z (u:Nat->Bool) (top p k:Nat) (hk:k<=top) (hu:u p=true) (hn:k<top->clr u k (sib (p/2 ^ k))=false) (hs:∀j,j<k->clr u j (sib (p/2 ^ j))=true) (l x:Nat) (hl:l<=top) :
  upG (mrg (fre u top) p k) k (p/2 ^ k) true l x=fre (setU u p false) top l x:=by
 rw [Z5Z u top p k hk hu (Z6g u p k hs) hn l x hl];unfold upG mrg;by_cases h:l=k
 ·subst h;by_cases hx:x=p/2 ^ l
  ·simp [hx]
  ·have e:(x==p/2 ^ l)=false:=by simpa using hx
   simp [hx,e]
 ·simp [h]
theorem Q9a {top p k:Nat} (hp:p<2 ^ top) (hk:k<=top):p/2 ^ k<2 ^ (top-k):=by
 rw [J3J (J1H k),<- J1T,show top-k+k=top from by omega];exact hp
theorem Z7M {n i:Nat} (hi:i<2 ^ (n+1)):sib i<2 ^ (n+1):=by
 rw [J1A] at *
 unfold sib;split <;> omega
def Z9C (d:BD) (p:Nat) (w:World) (r:Ending) (w':World):Prop:=r=.returned (.int .i64 0) /\
 ∃d':BD,d'.b=d.b/\d'.top=d.top/\d'.ps=d.ps.erase p/\d'.At/\Step d.hl d'.hl w w'
theorem Z0l (w:World):(zeroValue 3).run prog w=.ok (.int .i64 0) w:=by kernel_rfl
theorem Z0m {w:World} {d:BD} (h:Sep w d.hl) (ha:d.At) (p:Nat) (hp:p∈d.ps) :
  Calls prog 160 #[.pointer (some ⟨d.b,0,none⟩),.int .i64 (1024*(p:Int))] w (Z9C d p w):=by
 have hx:((1024*p:Nat):Int)=1024*(p:Int):=by omega
 have hu:uOf d.ps p=true:=by simpa [uOf] using hp
 obtain⟨k1,hk1,hn,hs⟩:=Z8y (uOf d.ps) d.top p;have hpt:=ha.lt p hp;have ht:=ha.is.top;have hlook:=Q0Z (P:=prog) (BD.map h) ((1024*p:Nat):Int) true (.int .i64 0) underlying241 underlying3 (Z0l w);rw [Z6b,if_pos hp,hx] at hlook;simp only [if_true,Option.getD_some,Option.isSome_some] at hlook;have hmp:=BD.map h;have c22:=BD.cm h (by rw [ha.is.len];omega);have HDel:=Q0a (show ∀w2,Q0G w2 d.mb (del (upk d.ps) (1024*(p:Int)))->w.grownBy w2 (some d.mb)->({d with ps:=d.ps.erase p}:BD).To {d with ps:=d.ps.erase p} w2 w2/\Step d.hl ({d with ps:=d.ps.erase p}:BD).hl w w2 from fun w2 hm2 hg2=>by
  rw [<- hx,Z8t] at hm2;have:=BD.putMap h _ hm2 hg2;exact⟨BD.To.refl this.sep,this⟩)
 have HIs0:Hid (({d with ps:=d.ps.erase p}:BD).Is (mrg (fre (uOf d.ps) d.top) p 0)):=by
  show BD.Is _ _;rw [Z6h];exact⟨ha.is.len,ha.is.top,ha.is.bits⟩
 have HTop:=Q0a (show ∀w2 wr d1,({d with ps:=d.ps.erase p}:BD).To d1 w2 wr->wr.cell? ⟨d.b,0,none⟩=some (.int .i64 d.top) from fun w2 wr d1 hto=>by
  have:=BD.c0 hto.step.sep;rw [hto.b,hto.top] at this;exact this)
 have HGo:=Q0a (show ∀k w2 wr d1,k<k1->({d with ps:=d.ps.erase p}:BD).To d1 w2 wr->d1.Is (mrg (fre (uOf d.ps) d.top) p k)->∃b,wr.cell? ⟨d.b,1+k,none⟩=some (.pointer (some ⟨b,0,none⟩)) /\
   Calls prog 223 #[.pointer (some ⟨b,0,none⟩),.bool false,.slice (some ⟨wr.heap.size,0,none⟩) 1 1] (wr.alloc (.cells #[.int .i64 ((sib (p/2 ^ k):Nat):Int)] 3)) fun r w'=>r=.returned (.int .i64 1)/\∃d2,({d with ps:=d.ps.erase p}:BD).To d2 w2 w'/\d2.Is (mrg (fre (uOf d.ps) d.top) p (k+1)) from fun k w2 wr d1 hk hto his=>by
  have hkt:k<d.top:=by omega
  have e0:d.top-k=(d.top-k-1)+1:=by omega
  have hlt:sib (p/2 ^ k)<2 ^ (d.top-k):=by
   have:=Q9a hpt (show k<=d.top by omega);rw [e0] at this ⊢;exact Z7M this
  have hne:mrg (fre (uOf d.ps) d.top) p k k (sib (p/2 ^ k))≠false:=by
   unfold mrg;rw [if_neg (by omega),Z0k hu hkt,hs k hk];decide
  have et:d1.top=d.top:=hto.top;obtain⟨b,h3,h4⟩:=Q7M hto.step.sep his k (sib (p/2 ^ k)) false (by omega) (by rw [et];exact hlt) hne;rw [hto.b] at h3;refine⟨b,h3,h4.mono ?_⟩;rintro r w' ⟨rfl,d2,hto2,his2⟩;rw [Z6i] at his2;exact⟨rfl,d2,hto.trans hto2,his2⟩)
 have HStop:=Q0a (show ∀w2 wr d1,k1<d.top->({d with ps:=d.ps.erase p}:BD).To d1 w2 wr->d1.Is (mrg (fre (uOf d.ps) d.top) p k1)->∃b,wr.cell? ⟨d.b,1+k1,none⟩=some (.pointer (some ⟨b,0,none⟩)) /\
   Calls prog 223 #[.pointer (some ⟨b,0,none⟩),.bool false,.slice (some ⟨wr.heap.size,0,none⟩) 1 1] (wr.alloc (.cells #[.int .i64 ((sib (p/2 ^ k1):Nat):Int)] 3)) fun r w'=>r=.returned (.int .i64 0)/\∃d2,({d with ps:=d.ps.erase p}:BD).To d2 w2 w'/\d2.Is (mrg (fre (uOf d.ps) d.top) p k1) from fun w2 wr d1 hkt hto his=>by
  have e0:d.top-k1=(d.top-k1-1)+1:=by omega
  have hlt:sib (p/2 ^ k1)<2 ^ (d.top-k1):=by
   have:=Q9a hpt (show k1<=d.top by omega);rw [e0] at this ⊢;exact Z7M this
  have hne:mrg (fre (uOf d.ps) d.top) p k1 k1 (sib (p/2 ^ k1))=false:=by
   unfold mrg;rw [if_neg (by omega),Z0k hu hkt,hn hkt]
  have et:d1.top=d.top:=hto.top;obtain⟨b,h3,h4⟩:=Z8u hto.step.sep his k1 (sib (p/2 ^ k1)) false (by omega) (by rw [et];exact hlt) hne;rw [hto.b] at h3;refine⟨b,h3,h4.mono ?_⟩;rintro r w' ⟨rfl,d2,hto2,his2⟩;exact⟨rfl,d2,hto.trans hto2,his2⟩)
 have HFin:=Q0a (show ∀w2 wr d1,Step d.hl ({d with ps:=d.ps.erase p}:BD).hl w w2->({d with ps:=d.ps.erase p}:BD).To d1 w2 wr->d1.Is (mrg (fre (uOf d.ps) d.top) p k1)->∃b,wr.cell? ⟨d.b,1+k1,none⟩=some (.pointer (some ⟨b,0,none⟩)) /\
   Calls prog 223 #[.pointer (some ⟨b,0,none⟩),.bool true,.slice (some ⟨wr.heap.size,0,none⟩) 1 1] (wr.alloc (.cells #[.int .i64 ((p/2 ^ k1:Nat):Int)] 3)) fun r w'=>r=.returned (.int .i64 1)/\Z9C d p w (.returned (.int .i64 0)) w' from fun w2 wr d1 hst hto his=>by
  have hne:mrg (fre (uOf d.ps) d.top) p k1 k1 (p/2 ^ k1)≠true:=by
   unfold mrg;rw [if_neg (by omega)];unfold fre;rw [Q3v hu];simp
  have et:d1.top=d.top:=hto.top;obtain⟨b,h3,h4⟩:=Q7M hto.step.sep his k1 (p/2 ^ k1) true (by omega) (by rw [et];exact Q9a hpt hk1) hne;rw [hto.b] at h3;refine⟨b,h3,h4.mono ?_⟩;rintro r w' ⟨rfl,d2,hto2,his2⟩;have hto3:=hto.trans hto2;have et2:d2.top=d.top:=hto3.top;have ep2:d2.ps=d.ps.erase p:=hto3.ps;refine⟨rfl,rfl,d2,hto3.b,et2,ep2,⟨⟨his2.len,his2.top,?_⟩,?_,?_⟩,hst.trans hto3.step⟩
  ·intro k m hm;rw [his2.bits k m hm];have hkt:k<=d2.top:=by
    have h1:k<d2.bms.length:=(J0K.1 hm).1;have h2:d2.bms.length=d2.top+1:=his2.len;omega
   apply J2B
   intro x _;rw [ep2,Z3p ha.nd,et2];exact Z8z _ _ _ _ hk1 hu hn hs k x (by omega)
  ·rw [ep2];exact ha.nd.erase p
  ·intro x hx;rw [ep2] at hx;rw [et2];exact ha.lt x (J0X hx))
 have hp20:p<1048576:=J0v hpt (by have:=Q1Q (k:=0) ht;simpa using this);clear h ha hu hn hs;generalize mrg (fre (uOf d.ps) d.top) p=M at *
 generalize hd0:({d with ps:=d.ps.erase p}:BD)=d0 at *
 clear hd0;generalize d.top=top at *
 go_enter func160,ntmps160;go_wp2_with (refine Q4t _ rfl _ _ 241 3 3 3 rfl underlying241 underlying3 d.mb (upk d.ps) hmp _ rfl rfl ?_;intro w2 hm2 hg2);obtain⟨hto0,hst0⟩:=HDel.out w2 hm2 hg2;clear hm2 hg2 hmp c22 hlook HDel;go_wp2_with fail
 go_loopw [5,7] (fun kv iv wr=>∃(k:Nat) (d1:BD),kv=.int .i64 k/\iv=.int .i64 ((p/2 ^ k:Nat):Int)/\k<=k1/\d0.To d1 w2 wr/\d1.Is (M k)) (fun kv _ _=>k1-(intOf kv).toNat)
 case atStart=>exact⟨0,d0,rfl,by simp,J2u _,hto0,HIs0.out⟩
 case round =>
  clear hto0;obtain⟨k,d1,rfl,rfl,hk,hto,his⟩:=hrel;have hct:=HTop.out _ _ _ hto;have hi20:p/2 ^ k<1048576:=J1E (J1Y _ _) hp20;have hxor:bits BinOp.xor IntKind.i64 ((p/2 ^ k:Nat):Int) 1=((sib (p/2 ^ k):Nat):Int):=by
   rw [show (1:Int)=((1:Nat):Int) from rfl,Z1q _ _ (by omega) (by omega),Z8x]
  have hdv:=Q0a (show ((p/2 ^ (k+1):Nat):Int)=((p/2 ^ k:Nat):Int)/2 from by rw [div_succ];omega);by_cases hlt:k<k1
  ·obtain⟨b,hc,hset⟩:=HGo.out k w2 wr d1 hlt hto his;have hkt:k<top:=by omega
   clear hto his;generalize p/2 ^ k=i at *
   generalize sib i=s at *
   go_wp2_with fail;refine hset.mono ?_;rintro e w3 ⟨rfl,d2,hto2,his2⟩;clear hset hc hxor;go_wp2_with fail;go_roundw
   case rel=>exact⟨k+1,d2,by go_num,by rw [hdv.out],by omega,hto2,his2⟩
   case measure=>simp [intOf];omega
  ·obtain rfl:k=k1:=by omega
   by_cases hkt:k<top
   ·obtain⟨b,hc,hset⟩:=HStop.out w2 wr d1 hkt hto his;have HF2:=Q0a (show ∀w3 d2,d0.To d2 w2 w3->d2.Is (M k)->_ from fun w3 d2 h1 h2=>HFin.out w2 w3 d2 hst0 h1 h2);clear hto his hdv;generalize p/2 ^ k=i at *
    generalize sib i=s at *
    go_wp2_with fail;refine hset.mono ?_;rintro e w3 ⟨rfl,d2,hto2,his2⟩;obtain⟨b2,hc2,hset2⟩:=HF2.out w3 d2 hto2 his2;clear hset hc hxor hto2 his2;go_wp2_with fail;refine hset2.mono ?_;rintro e w4 ⟨rfl,hfin⟩;have HFn:=Q0a hfin;clear hfin hset2;go_wp2_with fail;go_ret;exact HFn.out
   ·obtain⟨b2,hc2,hset2⟩:=HFin.out w2 wr d1 hst0 hto his;clear hto his hdv hxor;have hkt2:¬((k:Int)<top):=by omega
    have hkt3:decide ((k:Int)<top)=false:=by simpa using hkt2
    generalize p/2 ^ k=i at *
    go_wp2_with fail;refine hset2.mono ?_;rintro e w4 ⟨rfl,hfin⟩;have HFn:=Q0a hfin;clear hfin hset2;go_wp2_with fail;go_ret;exact HFn.out
def Z6j (c:CA) (d:BD) (k p:Nat) (w:World) (r:Ending) (w':World):Prop:=r=.returned (.int .i64 0) /\
 ∃d':BD,d'.b=d.b/\d'.top=d.top/\d'.ps=d.ps.erase p/\d'.At/\Step (c.hl++d.hl) ((c.dropPg k).hl++d'.hl) w w'
theorem Q0M {w w':World} {b:Nat} (h:w'.heap[b]?=w.heap[b]?) (j:Nat):w'.cell? ⟨b,j,none⟩=w.cell? ⟨b,j,none⟩:=by simp only [World.cell?,h]
theorem Z3s {w:World} {c:CA} {d:BD} {w4:World} {rb cap n:Nat} (k:Nat) (x:BM×Nat) (m':BM) (hx:c.pg[k]?=some x) (hb:m'.b=x.1.b) (hrv:c.rv=some (rb,cap)) (hn:c.pg.length=n+1) (ok:c.Ok) (ha:d.At) (hp:x.2∈d.ps) (g:Nat) (hgk:g∉keys d.hl) (hg4:g<w4.heap.size)
  (hst:Step (c.hl++d.hl) ((c.pageTo k x m').hl++d.hl) w w4) :
  Calls prog 160 #[ptr d.b,.int .i64 ((1024*x.2:Nat):Int)] w4.drew fun r w5=>r=.returned (.int .i64 0)/\(w5.cell? ⟨c.c,0,none⟩=some (ptr c.bb)/\w5.cell? ⟨g,1,none⟩=w4.cell? ⟨g,1,none⟩) /\
   w5.cell? ⟨c.c,2,none⟩=some (.slice (some ⟨rb,0,none⟩) (n+1) cap) /\
   Calls prog 266 #[.slice (some ⟨rb,0,none⟩) (n+1) cap,.int .i64 k,.int .i64 ((k:Int)+1)] w5 fun r w6=>r=.returned (.slice (some ⟨rb,0,none⟩) n cap) /\
    (∃v,w6.cell? ⟨c.c,2,none⟩=some v)/\w6.frozen? ⟨c.c,2,none⟩=false/\Z6j c d k x.2 w (.returned (.int .i64 0)) (w6.setCell ⟨c.c,2,none⟩ (.slice (some ⟨rb,0,none⟩) n cap)):=by
 have hk:=(J0K.1 hx).1;have s4:=hst.sep.drew;have hpv:((1024*x.2:Nat):Int)=1024*(x.2:Int):=by omega
 rw [hpv];refine (Z0m s4.right ha x.2 hp).mono ?_;rintro r w5 ⟨rfl,d',b1,b2,b3,b4,b5⟩;have f5:Step ((c.pageTo k x m').hl++d.hl) ((c.pageTo k x m').hl++d'.hl) w4 w5:=by
  have:=Step.frame (c.pageTo k x m').hl [] (by simpa using s4) b5
  simpa using this.from_drew
 have s5:=f5.sep;have ec:Q0h (c.pageTo k x m').pg=Q0h c.pg:=Q6q _ _ _ _ hx hb;have el:(c.pageTo k x m').pg.length=n+1:=by simp [CA.pageTo,hn]
 have ed:(c.pageTo k x m').dropPg k=c.dropPg k:=by simp [CA.pageTo,CA.dropPg,List.eraseIdx_set_eq]
 have hC:=CA.sepC s5.left;have hcc:(c.pageTo k x m').c=c.c:=rfl;have hR:=CA.sepR s5.left;have hrv':(c.pageTo k x m').rv=some (rb,cap):=hrv;rw [hrv',ec] at hR;obtain⟨o,ho,cur,rfl,hcs,htk⟩:=hR.get (b:=rb) (q:=isR 343 (cap*2) (Q0h c.pg)) (by simp [rowH]);have hok:=ok.rv;rw [hrv,hn] at hok;have hln:=ok.len;have hxl:(Q0h c.pg).length=(n+1)*2:=by rw [Q6p,hn]
 have ox:∀v∈Q0h c.pg,v.oneCell'=true:=by
  intro v hv;unfold Q0h at hv;obtain⟨y,_,hy⟩:=J0T.1 hv;simp at hy;rcases hy with rfl|rfl <;> rfl
 refine⟨rfl,⟨hC.cell 0 _ rfl,?_⟩,?_,?_⟩
 ·exact Q0M ((b5.chg.block g hg4 hgk)) 1
 ·have:=hC.cell 2 _ rfl;rw [hrv',el] at this;exact this
 ·refine (Z8o ho hcs htk hxl (by omega) (by omega) hok.1 hok.2 ox).mono ?_;rintro r w6 ⟨rfl,q1,q2⟩;have hne:c.c≠rb:=fun e=>by
   have hnd:=s5.left.nd;unfold CA.hl at hnd;rw [hrv'] at hnd;simp [rowH] at hnd;exact hnd.1.1 (by simpa [CA.pageTo] using e)
  have hbk:=q2.block c.c (s5.lt (by simp [CA.hl,CA.pageTo])) (fun e=>hne (J1p e));refine⟨rfl,⟨_,(Q0M hbk 2).trans (hC.cell 2 _ rfl)⟩,?_,rfl,d',b1,b2,b3,b4,?_⟩
  ·have:=hC.free 2;rw [hcc] at this
   simpa only [World.frozen?,hbk] using this
  ·have hd:=CA.dropStep s5.left hrv' k n (by rw [el];omega) el (by rw [ec];exact⟨rfl,q1,q2⟩);rw [ed,hcc] at hd;have:=Step.frame [] d'.hl (by simpa using s5) hd;exact (hst.trans f5).trans (by simpa using this)
theorem Z3t {w:World} {c:CA} {d:BD} (h:Sep w (c.hl++d.hl)) (ok:c.Ok) (hd:d.At) (hbb:c.bb=d.b) (a:Nat) (ha:a<4611686018427387904) (k i:Nat) (x:BM×Nat) (hs:Q4T c a=some (k,i)) (hx:c.pg[k]?=some x) (hi:x.1.bits[i]?.getD false=true) (hcnt:cntB (x.1.bits.set i false)=0) (hp:x.2∈d.ps) :
  Calls prog 232 #[.pointer (some ⟨c.c,0,none⟩),.int .i64 a] w (Z6j c d k x.2 w):=by
 have k1:=Q7d h.left ok a ha;rw [hs] at k1;have hk:=(J0K.1 hx).1;have hil:i<x.1.bits.length:=by
  rcases J3a i x.1.bits.length with e|e
  ·exact e
  ·rw [J2h e] at hi;cases hi
 have hml:=ok.many x (J2G hx);have hmn:x.1.bits.length<=1048576:=by rw [hml];have:=J1Y 960 c.size;omega
 have hln:=ok.len;obtain⟨rb,cap,hrv⟩:∃rb cap,c.rv=some (rb,cap):=by
  cases e:c.rv with
  | none=>have:=ok.rv;rw [e] at this;have:c.pg.length=0:=this;omega
  | some p=>exact⟨p.1,p.2,rfl⟩
 obtain⟨n,hn⟩:∃n,c.pg.length=n+1:=⟨c.pg.length-1,by omega⟩
 have HCont:Hid (∀w1,Below w.heap.size w w1->w1.cell? ⟨c.c,2,none⟩=some (.slice (some ⟨rb,0,none⟩) (n+1) cap)/\w1.cell? ⟨rb,k*2,none⟩=some (.pointer (some ⟨x.1.b,0,none⟩))/\w1.cell? ⟨rb,k*2+1,none⟩=some (.int .i64 ((1024*x.2:Nat):Int)) /\
   Calls prog 223 #[.pointer (some ⟨x.1.b,0,none⟩),.bool false,.slice (some ⟨w1.heap.size+1,0,none⟩) 1 1] ((w1.alloc (.cells #[.pointer (some ⟨x.1.b,0,none⟩),.int .i64 ((1024*x.2:Nat):Int)] 343)).alloc (.cells #[.int .i64 i] 3)) fun r w4=>r=.returned (.int .i64 1) /\
    w4.cell? ⟨w1.heap.size,0,none⟩=some (.pointer (some ⟨x.1.b,0,none⟩))/\w4.cell? ⟨w1.heap.size,1,none⟩=some (.int .i64 ((1024*x.2:Nat):Int))/\w4.cell? ⟨c.c,0,none⟩=some (.pointer (some ⟨d.b,0,none⟩)) /\
    Calls prog 265 #[.pointer (some ⟨x.1.b,0,none⟩)] w4 (fun r w5=>r=.returned (.int .i64 0)/\w4=w5) /\
    Calls prog 160 #[.pointer (some ⟨d.b,0,none⟩),.int .i64 ((1024*x.2:Nat):Int)] w4.drew fun r w5=>r=.returned (.int .i64 0)/\(w5.cell? ⟨c.c,0,none⟩=some (.pointer (some ⟨d.b,0,none⟩))/\w5.cell? ⟨w1.heap.size,1,none⟩=some (.int .i64 ((1024*x.2:Nat):Int))) /\
     w5.cell? ⟨c.c,2,none⟩=some (.slice (some ⟨rb,0,none⟩) (n+1) cap) /\
     Calls prog 266 #[.slice (some ⟨rb,0,none⟩) (n+1) cap,.int .i64 k,.int .i64 ((k:Int)+1)] w5 fun r w6=>r=.returned (.slice (some ⟨rb,0,none⟩) n cap) /\
      (∃v,w6.cell? ⟨c.c,2,none⟩=some v)/\w6.frozen? ⟨c.c,2,none⟩=false/\Z6j c d k x.2 w (.returned (.int .i64 0)) (w6.setCell ⟨c.c,2,none⟩ (.slice (some ⟨rb,0,none⟩) n cap))):=fun w1 hb=>by
  have s1:=(h.grown hb).sep;have hsr:=CA.sepR s1.left;rw [hrv] at hsr;obtain⟨e1,e2⟩:=Q1D _ _ _ hx;have hc2:=(CA.sepC s1.left).cell 2 _ rfl;rw [hrv,hn] at hc2;refine⟨hc2,Q0U hsr _ _ e1,Q0U hsr _ _ e2,?_⟩;have s3:=(s1.alloc (.cells #[.pointer (some ⟨x.1.b,0,none⟩),.int .i64 ((1024*x.2:Nat):Int)] 343)).alloc (.cells #[.int .i64 i] 3);have sb:=CA.sepB s3.left k x hx;have hlt:∀b∈keys x.1.hl,b<w1.heap.size:=fun b hbk=>(CA.sepB s1.left k x hx).lt hbk
  have hz:((w1.alloc (.cells #[.pointer (some ⟨x.1.b,0,none⟩),.int .i64 ((1024*x.2:Nat):Int)] 343))).heap.size=w1.heap.size+1:=by simp
  have hset:=Q1Z sb false i hil hmn (by rw [hi];simp) (w1.heap.size+1) (by
   have:=(Cells.new (w1.alloc (.cells #[.pointer (some ⟨x.1.b,0,none⟩),.int .i64 ((1024*x.2:Nat):Int)] 343)) 3 [.int .i64 i]).cell 0 _ rfl;rw [hz] at this;exact this) (fun hm=>by have:=hlt _ hm;omega)
  refine hset.mono ?_;rintro r w4 ⟨rfl,hst⟩;have hc':=CA.turnB s3.left k x hx {x.1 with bits:=x.1.bits.set i false} rfl hst;have hall:Step (c.hl++d.hl) ((c.pageTo k x {x.1 with bits:=x.1.bits.set i false}).hl++d.hl) w w4:=by
   have:=Step.frame [] d.hl (by simpa using s3) hc';exact (h.grown hb).trans (Step.from_alloc (Step.from_alloc (by simpa using this)))
  have hnn:w1.heap.size∉keys x.1.hl:=fun hm=>by have:=hlt _ hm;omega
  have hbk:=hst.chg.block w1.heap.size (by simp;omega) hnn;have hcells:=((Cells.new w1 343 [.pointer (some ⟨x.1.b,0,none⟩),.int .i64 ((1024*x.2:Nat):Int)]).alloc (.cells #[.int .i64 i] 3))
  have g4:w1.heap.size<w4.heap.size:=by
   have:=hst.chg.size;simp at this;omega
  have hgd:w1.heap.size∉keys d.hl:=fun hm=>by have:=s1.right.lt hm;omega
  have d1:=(Q0M hbk 1).trans (hcells.cell 1 _ rfl);have d0:=(CA.sepC hall.sep.left).cell 0 _ rfl;have d0':w4.cell? ⟨c.c,0,none⟩=some (.pointer (some ⟨d.b,0,none⟩)):=by rw [<- hbb];exact d0
  refine⟨rfl,(Q0M hbk 0).trans (hcells.cell 0 _ rfl),d1,d0',?_,?_⟩
  ·have:=Q5m hst.sep (by simpa using hmn);rw [hcnt] at this;exact this
  ·have ht:=Z3s k x {x.1 with bits:=x.1.bits.set i false} hx rfl hrv hn ok hd hp w1.heap.size hgd g4 hall;rw [d1,hbb] at ht;exact ht
 have HQ:Hid (∀r w',Told w (Q4y (some (k,i))) r w'->r=.returned (.tuple #[.int .i64 k,.int .i64 i,.bool true])/\Below w.heap.size w w'):=fun r w' ⟨e,hb⟩=>⟨e,hb⟩
 have hk0:(0:Int)<=k:=by omega
 have hkn:(k:Int)<(n:Int)+1:=by omega
 have hkb:(k:Int)<1048576:=by omega
 have hi0:(0:Int)<=i:=by omega
 have hib:(i:Int)<1048576:=by omega
 have hw:IntKind.i64.wrap ((k:Int)+1)=(k:Int)+1:=Go.IntWalk.i64_in _ (by omega);clear h ok hs hx hi hil hml hmn hrv hcnt hd hbb hp hk hln;obtain⟨GL,hGL⟩:∃GL:Ending->World->Prop,GL=Z6j c d k x.2 w:=⟨_,rfl⟩
 rw [<- hGL] at HCont ⊢;clear hGL hn;generalize 1024*x.2=pv at *
 generalize x.1.b=b at *
 generalize c.c=cc at *
 generalize d.b=db at *
 go_enter func232,ntmps232;go_wp2_with fail;refine k1.mono ?_;rintro r w1 hf;obtain⟨rfl,hb⟩:=HQ.out _ _ hf;obtain⟨c1,c2,c3,hset⟩:=HCont.out _ hb;have HSet:=Q0a hset;clear hset hf hb;go_wp2_with fail;refine HSet.out.mono ?_;rintro r w4 ⟨rfl,d1,d2,d3,d4,d5⟩;have HG:=Q0a d5;have HC:=Q0a d4;clear d4 d5;go_wp2_with fail;refine HC.out.mono ?_;rintro r w5 ⟨rfl,rfl⟩;have d2':w4.drew.cell? ⟨w1.heap.size,1,none⟩=some (.int .i64 pv):=d2;have d3':w4.drew.cell? ⟨cc,0,none⟩=some (.pointer (some ⟨db,0,none⟩)):=d3;go_wp2_with fail
 go_region_held3 (fun w'=>w'.cell? ⟨cc,0,none⟩=some (.pointer (some ⟨db,0,none⟩))/\w'.cell? ⟨w1.heap.size,1,none⟩=some (.int .i64 pv))
  (first|exact⟨d3,d2⟩|exact⟨d3',d2'⟩|exact⟨e0,e1⟩)
  (first|(go_at_call 160;refine HG.out.mono ?_;rintro r w6 ⟨rfl,⟨e0,e1⟩,e2,e3⟩;have HD:=Q0a e3;clear e3))
 go_wp2_with fail;refine HD.out.mono ?_;rintro r w7 ⟨rfl,⟨v,f1⟩,f2,f3⟩;have HF:=Q0a f3;clear f3;go_wp2_with fail;exact HF.out
end Go.Proofs.YtlakjlmaboioiaaGreatDoor

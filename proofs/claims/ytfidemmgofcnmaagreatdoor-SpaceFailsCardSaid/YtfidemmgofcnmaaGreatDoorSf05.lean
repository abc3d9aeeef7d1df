/- SpaceFails returns true at every input. No condition. Part of its proof. -/
import Derived.Test.YtfidemmgofcnmaaGreatDoorSf04
import Derived.Deep.RegionWith
set_option maxHeartbeats 4000000
set_option maxRecDepth 100000
set_option linter.unusedVariables false
namespace Go.Proofs.YtfidemmgofcnmaaGreatDoor
open Go.RowKit Go.Proofs.Tryz
structure BD where
 b:Nat
 mb:Nat
 top:Nat
 bms:List BM
 ps:List Nat
def BD.cells(d:BD):List Value:=.int .i64 d.top::(d.bms.map (fun m=>ptr m.b)++List.replicate (21-d.bms.length) (.pointer none)++[.map (some d.mb)])
def upk(ps:List Nat):List (Int×Value):=ps.map fun p=>(((1024*p:Nat):Int),.int .i64 0)
def BD.hl(d:BD):HL:=(d.b,isC 158 d.cells)::(d.mb,isMI (upk d.ps))::d.bms.flatMap BM.hl
structure BD.Is(d:BD)(G:Nat->Nat->Bool):Prop where
 len:d.bms.length=d.top+1
 top:d.top<=20
 bits:∀k m,d.bms[k]?=some m->m.bits=(List.range (2 ^ (d.top-k))).map (G k)
def uOf(ps:List Nat):Nat->Bool:=fun p=>decide (p∈ps)
structure BD.At(d:BD):Prop where
 is:d.Is (fre (uOf d.ps) d.top)
 nd:d.ps.Nodup
 lt:∀p∈d.ps,p<2 ^ d.top
def upG(G:Nat->Nat->Bool)(k i:Nat)(on:Bool):Nat->Nat->Bool:=fun l j=>if l=k/\j=i then on else G l j
theorem Z8n(ps:List Nat)(p:Nat):look (upk ps) ((1024*p:Nat):Int)=if p∈ps then some (.int .i64 0) else none:=by
 induction ps with
 | nil=>rfl
 | cons x r ih =>
  have ih':look (r.map fun p=>(((1024*p:Nat):Int),Value.int .i64 0)) ((1024*p:Nat):Int)=_:=ih;by_cases h:p=x
  ·subst h;simp[upk,look]
  ·have h2:¬((1024*p:Nat):Int)=((1024*x:Nat):Int):=by omega
   simp only[upk,J3e,look,h2,if_false];rw[ih'];simp[h]
theorem J0E(ps:List Nat)(p:Nat)(h:p∉ps):put (upk ps) ((1024*p:Nat):Int) (.int .i64 0)=upk (ps++[p]):=by
 induction ps with
 | nil=>rfl
 | cons x r ih =>
  have h1:¬p=x:=fun e=>h (by simp[e])
  have h2:¬((1024*p:Nat):Int)=((1024*x:Nat):Int):=by omega
  have ih':=ih (fun hr=>h (by simp[hr]));simp only[upk,J3e,put,h2,if_false,J5n] at ih' ⊢;rw[ih']
theorem J0F(ps:List Nat)(p:Nat):del (upk ps) ((1024*p:Nat):Int)=upk (ps.erase p):=by
 induction ps with
 | nil=>rfl
 | cons x r ih =>
  by_cases h:p=x
  ·subst h;simp[upk,del]
  ·have h2:¬((1024*p:Nat):Int)=((1024*x:Nat):Int):=by omega
   have h3:(x==p)=false:=by simp;exact fun e=>h e.symm
   have e1:(x::r).erase p=x::r.erase p:=by rw[List.erase_cons,h3];rfl
   rw[e1];simp only[upk,J3e,del,h2,if_false] at ih ⊢;rw[ih]
theorem Z8o(ps:List Nat)(p:Nat):uOf (ps++[p])=setU (uOf ps) p true:=by
 funext x;unfold uOf setU;by_cases h:x=p <;> simp[h]
theorem Z5e{ps:List Nat}(h:ps.Nodup)(p:Nat):uOf (ps.erase p)=setU (uOf ps) p false:=by
 funext x;unfold uOf setU;simp only[h.mem_erase_iff];by_cases h:x=p <;> simp[h]
theorem Z5f(G:Nat->Bool)(n i:Nat)(on:Bool):((List.range n).map G).set i on=(List.range n).map fun j=>if j=i then on else G j:=by
 apply J4K
 intro j;rw[J4J,J4N,J4N,J4L,J4M];by_cases h:i=j
 ·subst h;by_cases h2:i<n
  ·simp[h2]
  ·simp[h2]
 ·rw[if_neg h];by_cases h2:j<n
  ·simp[h2,show ¬j=i from fun e=>h e.symm]
  ·rw[J4R (by simp;omega)];rfl
section
variable {w:World} {d:BD} {G:Nat->Nat->Bool}
theorem BD.sepC(h:Sep w d.hl):Cells w d.b 158 d.cells:=h.cells (by simp[BD.hl])
theorem BD.c0(h:Sep w d.hl):w.cell? ⟨d.b,0,none⟩=some (.int .i64 d.top):=(BD.sepC h).cell 0 _ rfl
theorem BD.cf(h:Sep w d.hl)(k:Nat)(m:BM)(hm:d.bms[k]?=some m):w.cell? ⟨d.b,1+k,none⟩=some (ptr m.b):=by
 have hk:k<d.bms.length:=(J3t.1 hm).1;refine(BD.sepC h).cell (1+k) _ ?_;unfold BD.cells;rw[J4l,J6p,J4c,J6q (by simpa using hk),J4N,hm];rfl
theorem BD.cm(h:Sep w d.hl)(hl:d.bms.length<=21):w.cell? ⟨d.b,22,none⟩=some (.map (some d.mb)):=by
 refine(BD.sepC h).cell 22 _ ?_;unfold BD.cells;have e:(d.bms.map (fun m=>ptr m.b)++List.replicate (21-d.bms.length) (Value.pointer none)).length=21:=by simp;omega
 rw[J6p,J6r (by omega),e];rfl
theorem BD.map(h:Sep w d.hl):Q0x w d.mb (upk d.ps):=h.map (by simp[BD.hl,isMI])
theorem BD.bm(h:Sep w d.hl)(k:Nat)(m:BM)(hm:d.bms[k]?=some m):Sep w m.hl:=by
 refine h.sub ?_;unfold BD.hl;rw[Q4r _ _ _ _ hm];refine List.Sublist.cons _ (List.Sublist.cons _ ?_);exact(J3S _ _).trans (J3R _ _)
theorem BD.setBm(h:Sep w d.hl)(k:Nat)(m m':BM)(hm:d.bms[k]?=some m)(hb:m'.b=m.b){w':World}(hs:Step m.hl m'.hl w w'):Step d.hl ({d with bms:=d.bms.set k m'}:BD).hl w w':=by
 have hk:k<d.bms.length:=(J3t.1 hm).1;have hx:d.bms[k]=m:=(J3t.1 hm).2;have ec:({d with bms:=d.bms.set k m'}:BD).cells=d.cells:=by
  have:(d.bms.set k m').map (fun m=>ptr m.b)=d.bms.map fun m=>ptr m.b:=by
   apply J4K
   intro j;rw[J4N,J4N,J4J];by_cases hj:k=j
   ·subst hj;simp[hk,hb,hx]
   ·rw[if_neg hj]
  unfold BD.cells;simp only[this,J4O]
 have e1:d.hl=((d.b,isC 158 d.cells)::(d.mb,isMI (upk d.ps))::(d.bms.take k).flatMap BM.hl)++m.hl++(d.bms.drop (k+1)).flatMap BM.hl:=by
  unfold BD.hl;rw[Q4r _ _ _ _ hm];simp[List.append_assoc]
 have e2:({d with bms:=d.bms.set k m'}:BD).hl=((d.b,isC 158 d.cells)::(d.mb,isMI (upk d.ps))::(d.bms.take k).flatMap BM.hl)++m'.hl++(d.bms.drop (k+1)).flatMap BM.hl:=by
  unfold BD.hl;rw[ec,J0c _ _ _ _ hk];simp[List.append_assoc]
 rw[e1] at h;rw[e1,e2];exact Step.frame _ _ h hs
end
theorem BD.Is.get{d:BD}{G:Nat->Nat->Bool}(h:d.Is G)(k:Nat)(hk:k<=d.top):∃m,d.bms[k]?=some m/\m.bits=(List.range (2 ^ (d.top-k))).map (G k):=by
 have:k<d.bms.length:=by rw[h.len];omega
 exact⟨_,J5t this,h.bits k _ (J5t this)⟩
theorem Q1H{t k:Nat}(h:t<=20):2 ^ (t-k)<=1048576:=J3c (J4q (by omega) (by omega:t-k<=20)) (by decide)
def fstG(G:Nat->Nat->Bool)(top k s:Nat):Option Nat:=Q2f ((List.range (2 ^ (top-k))).map (G k)) true s
theorem Q5E{w:World}{d:BD}{G:Nat->Nat->Bool}(h:Sep w d.hl)(hi:d.Is G)(k:Nat)(hk:k<=d.top)(s:Nat)(hs:s<=1048576):∃b,w.cell? ⟨d.b,1+k,none⟩=some (.pointer (some ⟨b,0,none⟩)) /\
  Calls prog 72 #[.pointer (some ⟨b,0,none⟩),.bool true,.int .i64 s] w fun r w'=>r=.returned (.int .i64 (optI (fstG G d.top k s)))/\w=w':=by
 obtain⟨m,hm,hb⟩:=hi.get k hk;refine⟨m.b,BD.cf h k m hm,?_⟩;have:=Q4f (BD.bm h k m hm) true s hs (by rw[hb];simpa using Q1H hi.top);rw[hb] at this;exact this
theorem Q3k{α β:Type}(f:α->β)(L:List α)(k:Nat)(x y:α)(h:L[k]?=some x)(e:f y=f x):(L.set k y).map f=L.map f:=by
 apply J4K
 intro j;rw[J4N,J4N,J4J];by_cases hj:k=j
 ·subst hj;have hk:k<L.length:=(J3t.1 h).1;rw[if_pos rfl,if_pos hk,h];simp[e]
 ·rw[if_neg hj]
structure BD.To(d d':BD)(w w':World):Prop where
 b:d'.b=d.b
 mb:d'.mb=d.mb
 top:d'.top=d.top
 ps:d'.ps=d.ps
 step:Step d.hl d'.hl w w'
 ptrs:d'.bms.map BM.b=d.bms.map BM.b
theorem BD.To.refl{d:BD}{w:World}(h:Sep w d.hl):d.To d w w:=⟨rfl,rfl,rfl,rfl,Step.refl h,rfl⟩
theorem BD.To.trans{d d1 d2:BD}{w w1 w2:World}(h:d.To d1 w w1)(k:d1.To d2 w1 w2):d.To d2 w w2:=⟨k.b.trans h.b,k.mb.trans h.mb,k.top.trans h.top,k.ps.trans h.ps,h.step.trans k.step,k.ptrs.trans h.ptrs⟩
def SetG(d:BD)(w:World)(n:Int)(G:Nat->Nat->Bool)(r:Ending)(w':World):Prop:=r=.returned (.int .i64 n)/\∃d',d.To d' w w'/\d'.Is G
theorem Q8R{w:World}{d:BD}{G:Nat->Nat->Bool}(h:Sep w d.hl)(hi:d.Is G)(k i:Nat)(on:Bool)(hk:k<=d.top)(Dy:i<2 ^ (d.top-k))(Aa:G k i≠on):∃b,w.cell? ⟨d.b,1+k,none⟩=some (.pointer (some ⟨b,0,none⟩)) /\
  Calls prog 127 #[.pointer (some ⟨b,0,none⟩),.bool on,.slice (some ⟨w.heap.size,0,none⟩) 1 1] (w.alloc (.cells #[.int .i64 i] 3)) (SetG d w 1 (upG G k i on)):=by
 obtain⟨m,hm,hb⟩:=hi.get k hk;refine⟨m.b,BD.cf h k m hm,?_⟩;have Ac:m.bits.length=2 ^ (d.top-k):=by rw[hb];simp
 have Bv:m.bits[i]?.getD false=G k i:=by rw[hb];simp[Dy]
 have hs:=BD.bm h k m hm;refine(Q2C (hs.alloc (.cells #[.int .i64 i] 3)) on i (by rw[Ac];exact Dy) (by rw[Ac];exact Q1H hi.top) (by rw[Bv];exact Aa) w.heap.size ((Cells.new w 3 [.int .i64 i]).cell 0 _ rfl) (fun hb=>by have:=hs.lt hb;omega)).mono ?_;rintro r w'⟨rfl,Ap⟩;refine⟨rfl,{d with bms:=d.bms.set k {m with bits:=m.bits.set i on}},⟨rfl,rfl,rfl,rfl,BD.setBm h k m {m with bits:=m.bits.set i on} hm rfl Ap.from_alloc,Q3k BM.b _ _ _ _ hm rfl⟩,⟨by simpa using hi.len,hi.top,?_⟩⟩;intro l m' Cf;rw[J4J] at Cf;by_cases hl:k=l
 ·subst hl;have DX:k<d.bms.length:=by rw[hi.len];omega
  simp only[if_true,DX] at Cf;cases Cf;show m.bits.set i on=_;rw[hb,Z5f]
  apply J5l
  intro j _;unfold upG;simp
 ·rw[if_neg hl] at Cf;rw[hi.bits l m' Cf]
  apply J5l
  intro j _;unfold upG;rw[if_neg];rintro⟨e,_⟩;exact hl e.symm
theorem BD.To.ptr{d d':BD}{w w':World}(h:d.To d' w w'){k:Nat}{b:Nat}(hm:(d.bms.map BM.b)[k]?=some b):w'.cell? ⟨d.b,1+k,none⟩=some (.pointer (some ⟨b,0,none⟩)):=by
 rw[<- h.ptrs,J4N] at hm;cases hx:d'.bms[k]? with
 | none=>rw[hx] at hm;cases hm
 | some m =>
  rw[hx] at hm;have:m.b=b:=J3Z hm;have hc:=BD.cf h.step.sep k m hx;rw[h.b,this] at hc;exact hc
theorem J0G{w:World}{d:BD}{G:Nat->Nat->Bool}(h:Sep w d.hl)(hi:d.Is G)(k i:Nat)(on:Bool)(hk:k<=d.top)(Dy:i<2 ^ (d.top-k))(Aa:G k i=on):∃b,w.cell? ⟨d.b,1+k,none⟩=some (.pointer (some ⟨b,0,none⟩)) /\
  Calls prog 127 #[.pointer (some ⟨b,0,none⟩),.bool on,.slice (some ⟨w.heap.size,0,none⟩) 1 1] (w.alloc (.cells #[.int .i64 i] 3)) (SetG d w 0 G):=by
 obtain⟨m,hm,hb⟩:=hi.get k hk;refine⟨m.b,BD.cf h k m hm,?_⟩;have Ac:m.bits.length=2 ^ (d.top-k):=by rw[hb];simp
 have Bv:m.bits[i]?.getD false=G k i:=by rw[hb];simp[Dy]
 refine(Z2L ((BD.bm h k m hm).alloc (.cells #[.int .i64 i] 3)) on i (by rw[Ac];exact Dy) (by rw[Ac];exact Q1H hi.top) (by rw[Bv];exact Aa) w.heap.size ((Cells.new w 3 [.int .i64 i]).cell 0 _ rfl)).mono ?_;rintro r w'⟨rfl,rfl⟩;exact⟨rfl,d,⟨rfl,rfl,rfl,rfl,(Step.refl (h.alloc _)).from_alloc,rfl⟩,hi⟩
theorem Q7o{w:World}{d:BD}{G:Nat->Nat->Bool}(h:Sep w d.hl)(hi:d.Is G)(hn:∀k,k<=d.top->fstG G d.top k 0=none) :
  Calls prog 129 #[.pointer (some ⟨d.b,0,none⟩),.int .i64 0] w fun r w'=>r=.returned (.tuple #[.int .i64 0,.int .i64 4])/\w=w':=by
 have c0:=BD.c0 h;have HF:=Q0a (show ∀k,k<=d.top->∃b,w.cell? ⟨d.b,1+k,none⟩=some (.pointer (some ⟨b,0,none⟩))/\Calls prog 72 #[.pointer (some ⟨b,0,none⟩),.bool true,.int .i64 0] w fun r w'=>r=.returned (.int .i64 (-1))/\w=w' from fun k hk=>by
  obtain⟨b,h1,h2⟩:=Q5E h hi k hk 0 (by omega);rw[hn k hk] at h2;exact⟨b,h1,h2⟩)
 have ht:=hi.top;clear h hi hn;generalize d.top=top at *
 go_enter func129,ntmps129;go_wp2_with fail
 go_loop [6,7] (fun kv iv=>∃k:Nat,kv=.int .i64 k/\iv=.int .i64 (-1)/\k<=top+1) (fun kv _=>top+1-(intOf kv).toNat)
 case atStart=>exact⟨0,rfl,rfl,by omega⟩
 case round =>
  obtain⟨k,rfl,rfl,hk⟩:=hrel;by_cases Ab:k<=top
  ·obtain⟨b,hc,AR⟩:=HF.out k Ab;go_wp2_with (go_at_call 72;refine AR.mono ?_;rintro e w'⟨rfl,rfl⟩)
   go_round
   case rel=>exact⟨k+1,by go_num,rfl,by omega⟩
   case measure=>simp[intOf];omega
  ·go_wp2_with fail;go_ret2;exact⟨rfl,rfl⟩
def spl(G:Nat->Nat->Bool)(k0 i0 j:Nat):Nat->Nat->Bool:=fun l x=>if l<j then G l x else if l<k0 then(G l x||(x==i0*2 ^ (k0-l)+1)) else if l=k0 then(G l x&&!(x==i0)) else G l x
theorem J0H(G:Nat->Nat->Bool)(k0 i0:Nat):upG G k0 i0 false=spl G k0 i0 k0:=by
 funext l x;unfold upG spl;by_cases h:l=k0
 ·subst h;by_cases h2:x=i0 <;> simp[h2]
 ·by_cases h2:l<k0
  ·simp[h,h2]
  ·simp[h,h2]
theorem Z8p(G:Nat->Nat->Bool)(k0 i0 j:Nat)(hj:j<k0):upG (spl G k0 i0 (j+1)) j (i0*2 ^ (k0-j)+1) true=spl G k0 i0 j:=by
 funext l x;unfold upG spl;by_cases h:l=j
 ·subst h;have h1:¬l<l:=by omega
  have h2:l<l+1:=by omega
  by_cases hx:x=i0*2 ^ (k0-l)+1
  ·simp[hj,h1,hx]
  ·have e:(x==i0*2 ^ (k0-l)+1)=false:=by simpa using hx
   simp[hj,h1,h2,hx,e]
 ·have e:(l<j+1)=(l<j):=by apply propext;omega
  simp[h,e]
theorem J0I(ps:List Nat)(top k0 i0:Nat)(hk:k0<=top)(hf:fre (uOf ps) top k0 i0=true)(l x:Nat)(hl:l<=top):spl (fre (uOf ps) top) k0 i0 0 l x=fre (uOf (ps++[i0*2 ^ k0])) top l x:=by
 have hp:i0*2 ^ k0/2 ^ k0=i0:=J6b _ (J4r k0);rw[Z8o,Z1K _ top k0 (i0*2 ^ k0) hk (by rw[hp];exact hf) l x hl,hp];unfold spl;rw[if_neg (by omega)];by_cases h1:l<k0
 ·rw[if_pos h1,if_pos h1];have e:i0*2 ^ k0/2 ^ l=i0*2 ^ (k0-l):=by
   rw[show(2:Nat) ^ k0=2 ^ (k0-l)*2 ^ l from by rw[<- J4D];congr 1;omega,<- J6s];exact J6b _ (J4r l)
  have e2:sib (i0*2 ^ (k0-l))=i0*2 ^ (k0-l)+1:=by
   unfold sib;rw[if_pos];rw[show k0-l=(k0-l-1)+1 from by omega,J4k,<- J6s];omega
  rw[e,e2]
 ·rw[if_neg h1,if_neg h1]
theorem Z5g{ps:List Nat}{top k0 i0:Nat}(hk:k0<=top)(hf:fre (uOf ps) top k0 i0=true)(j:Nat)(hj:j<k0):fre (uOf ps) top j (i0*2 ^ (k0-j)+1)=false:=by
 cases h:fre (uOf ps) top j (i0*2 ^ (k0-j)+1) with
 | false=>rfl
 | true =>
  have e1:(i0*2 ^ (k0-j)+1)*2 ^ j/2 ^ j=i0*2 ^ (k0-j)+1:=J6b _ (J4r j);have e2:(i0*2 ^ (k0-j)+1)*2 ^ j/2 ^ k0=i0:=by
   rw[show(2:Nat) ^ k0=2 ^ j*2 ^ (k0-j) from by rw[<- J4D];congr 1;omega,<- J4E,e1,J4l,J6j _ _ (J4r _),Nat.div_eq_of_lt (Nat.one_lt_two_pow (by omega)),J5G]
  have:=Q8Q (by omega) hk h hf e1 e2;omega
def J1Y(d:BD)(p:Nat)(w:World)(r:Ending)(w':World):Prop:=r=.returned (.tuple #[.int .i64 ((1024*p:Nat):Int),.int .i64 0]) /\
 ∃d':BD,d'.b=d.b/\d'.top=d.top/\d'.ps=d.ps++[p]/\d'.At/\Step d.hl d'.hl w w'
theorem BD.putMap{w w':World}{d:BD}(h:Sep w d.hl)(ps':List Nat)(hm:Q0x w' d.mb (upk ps'))(hg:w.grownBy w' (some d.mb)):Step d.hl ({d with ps:=ps'}:BD).hl w w':=by
 obtain⟨es,Ah,ho,hr⟩:=hm;exact Sep.turn (A:=[(d.b,isC 158 d.cells)]) (B:=d.bms.flatMap BM.hl) h hg ⟨_,ho,es,Ah,rfl,hr⟩
theorem Q7p{w:World}{d:BD}(h:Sep w d.hl)(ha:d.At)(k0 i0:Nat)(Bz:k0<=d.top)(hf:fstG (fre (uOf d.ps) d.top) d.top k0 0=some i0)(hp:∀k,k<k0->fstG (fre (uOf d.ps) d.top) d.top k 0=none) :
  Calls prog 129 #[.pointer (some ⟨d.b,0,none⟩),.int .i64 0] w (J1Y d (i0*2 ^ k0) w):=by
 obtain⟨s1,s2,s3,s4⟩:=Q1F hf;have BJ:i0<2 ^ (d.top-k0):=by simpa using s1
 have Ax:fre (uOf d.ps) d.top k0 i0=true:=by simpa[BJ] using s3
 have ht:=ha.is.top;have FK:i0*2 ^ k0<2 ^ d.top:=by
  have:i0*2 ^ k0<2 ^ (d.top-k0)*2 ^ k0:=J6t BJ (J4r _)
  rwa [<- J4D,show d.top-k0+k0=d.top from by omega] at this
 have FI:i0*2 ^ k0∉d.ps:=by
  have:=Q8P Ax (p:=i0*2 ^ k0) (J6b _ (J4r k0))
  simpa[uOf] using this
 have J3:∀j,j<=k0->i0*2 ^ (k0-j)+1<=1048576/\i0*2 ^ (k0-j)<2 ^ (d.top-j):=by
  intro j hj;have h1:i0*2 ^ (k0-j)<2 ^ (d.top-k0)*2 ^ (k0-j):=J6t BJ (J4r _);rw[<- J4D,show d.top-k0+(k0-j)=d.top-j from by omega] at h1;have:=Q1H (k:=j) ht;omega
 have c0:=BD.c0 h;have hi:=ha.is;have HF:=Q0a (show ∀k,k<k0->∃b,w.cell? ⟨d.b,1+k,none⟩=some (.pointer (some ⟨b,0,none⟩))/\Calls prog 72 #[.pointer (some ⟨b,0,none⟩),.bool true,.int .i64 0] w fun r w'=>r=.returned (.int .i64 (-1))/\w=w' from fun k hk=>by
  obtain⟨b,h1,h2⟩:=Q5E h hi k (by omega) 0 (by omega);rw[hp k hk] at h2;exact⟨b,h1,h2⟩)
 have Vk:Hid (∃b,w.cell? ⟨d.b,1+k0,none⟩=some (.pointer (some ⟨b,0,none⟩))/\(Calls prog 72 #[.pointer (some ⟨b,0,none⟩),.bool true,.int .i64 0] w fun r w'=>r=.returned (.int .i64 i0)/\w=w') /\
   Calls prog 127 #[.pointer (some ⟨b,0,none⟩),.bool false,.slice (some ⟨w.heap.size,0,none⟩) 1 1] (w.alloc (.cells #[.int .i64 i0] 3)) (SetG d w 1 (spl (fre (uOf d.ps) d.top) k0 i0 k0))):=by
  obtain⟨b,h1,h2⟩:=Q5E h hi k0 Bz 0 (by omega);rw[hf] at h2;obtain⟨b',h3,h4⟩:=Q8R h hi k0 i0 false Bz BJ (by rw[Ax];decide);rw[h1] at h3;cases h3;rw[J0H] at h4;exact⟨b,h1,h2,h4⟩
 have AL:=Q0a (show ∀j wr d1,j<k0->d.To d1 w wr->d1.Is (spl (fre (uOf d.ps) d.top) k0 i0 (j+1))->∃b,wr.cell? ⟨d.b,1+j,none⟩=some (.pointer (some ⟨b,0,none⟩)) /\
   Calls prog 127 #[.pointer (some ⟨b,0,none⟩),.bool true,.slice (some ⟨wr.heap.size,0,none⟩) 1 1] (wr.alloc (.cells #[.int .i64 ((i0*2 ^ (k0-j)+1:Nat):Int)] 3)) fun r w'=>r=.returned (.int .i64 1)/\∃d2,d.To d2 w w'/\d2.Is (spl (fre (uOf d.ps) d.top) k0 i0 j) from fun j wr d1 hj AI As=>by
  obtain⟨b1,b2⟩:=J3 j (by omega);have PB:i0*2 ^ (k0-j)+1<2 ^ (d.top-j):=by
   have e1:i0*2 ^ (k0-j)=2*(i0*2 ^ (k0-j-1)):=by
    rw[show k0-j=(k0-j-1)+1 from by omega,J4k,Nat.add_sub_cancel];simp only[J6c,Nat.mul_left_comm]
   have e2:2 ^ (d.top-j)=2*2 ^ (d.top-j-1):=by
    rw[<- J6n];congr 1;omega
   omega
  have Aa:spl (fre (uOf d.ps) d.top) k0 i0 (j+1) j (i0*2 ^ (k0-j)+1)≠true:=by
   unfold spl;rw[if_pos (by omega),Z5g Bz Ax j hj];decide
  obtain⟨b,h3,h4⟩:=Q8R AI.step.sep As j (i0*2 ^ (k0-j)+1) true (by rw[AI.top];omega) (by rw[AI.top];exact PB) Aa;rw[AI.b] at h3;refine⟨b,h3,h4.mono ?_⟩;rintro r w'⟨rfl,d2,CK,BZ⟩;rw[Z8p _ _ _ _ hj] at BZ;exact⟨rfl,d2,AI.trans CK,BZ⟩)
 have Ff:=Q0a (show ∀wr d1,d.To d1 w wr->d1.Is (spl (fre (uOf d.ps) d.top) k0 i0 0)->wr.cell? ⟨d.b,22,none⟩=some (.map (some d.mb))/\Q0x wr d.mb (upk d.ps)/\∀w2,Q0x w2 d.mb (put (upk d.ps) ((1024*(i0*2 ^ k0):Nat):Int) (.int .i64 0))->wr.grownBy w2 (some d.mb)->J1Y d (i0*2 ^ k0) w (.returned (.tuple #[.int .i64 ((1024*(i0*2 ^ k0):Nat):Int),.int .i64 0])) w2 from fun wr d1 AI As=>by
  have hs:=AI.step.sep;have hc:=BD.cm hs (by rw[As.len,AI.top];omega);have K3:=BD.map hs;rw[AI.b,AI.mb] at hc;rw[AI.mb,AI.ps] at K3;refine⟨hc,K3,fun w2 CN Bu=>⟨rfl,{d1 with ps:=d.ps++[i0*2 ^ k0]},AI.b,AI.top,rfl,⟨⟨As.len,As.top,?_⟩,?_,?_⟩,?_⟩⟩
  ·intro k m hm;rw[As.bits k m hm];have Ew:k<=d1.top:=by
    have h1:k<d1.bms.length:=(J3t.1 hm).1;have h2:d1.bms.length=d1.top+1:=As.len;omega
   apply J5l
   intro x _;show spl (fre (uOf d.ps) d.top) k0 i0 0 k x=fre (uOf (d.ps++[i0*2 ^ k0])) d1.top k x;rw[AI.top];exact J0I _ _ _ _ Bz Ax k x (by rw[<- AI.top];exact Ew)
  ·rw[J3V];refine⟨ha.nd,by simp,?_⟩;intro a FT b hb e;simp at hb;subst hb;subst e;exact FI FT
  ·intro p BH;show p<2 ^ d1.top;rw[AI.top];rcases J3Q.1 BH with h1|h1
   ·exact ha.lt p h1
   ·simp at h1;subst h1;exact FK
  ·rw[J0E _ _ FI] at CN;have RW:Q0x w2 d1.mb (upk (d.ps++[i0*2 ^ k0])):=by rw[AI.mb];exact CN
   rw[<- AI.mb] at Bu;exact AI.step.trans (BD.putMap hs _ RW Bu))
 have JH:=Q0a (show ∀wr d1,d.To d1 w wr->wr.cell? ⟨d.b,0,none⟩=some (.int .i64 d.top) from fun wr d1 AI=>by
  have:=BD.c0 AI.step.sep;rw[AI.b,AI.top] at this;exact this)
 have OB:=Q0a J3;clear h ha hi hf hp s1 s2 s3 s4 Ax FI J3;generalize hG:spl (fre (uOf d.ps) d.top) k0 i0=S at *
 clear hG;generalize d.top=top at *
 go_enter func129,ntmps129;go_wp2_with fail
 go_loop [6,7] (fun kv iv=>∃k:Nat,kv=.int .i64 k/\iv=.int .i64 (-1)/\k<=k0) (fun kv _=>k0+1-(intOf kv).toNat)
 case atStart=>exact⟨0,rfl,rfl,by omega⟩
 case round =>
  obtain⟨k,rfl,rfl,hk⟩:=hrel;have Ew:k<=top:=by omega
  by_cases Ab:k<k0
  ·obtain⟨b,hc,AR⟩:=HF.out k Ab;go_wp2_with (go_at_call 72;refine AR.mono ?_;rintro e w'⟨rfl,rfl⟩)
   go_round
   case rel=>exact⟨k+1,by go_num,rfl,by omega⟩
   case measure=>simp[intOf];omega
  ·obtain rfl:k=k0:=by omega
   obtain⟨b,hc,AR,Ba⟩:=Vk.out;obtain⟨Aw,Ai⟩:=OB.out k (J3b _);rw[J6u,Nat.pow_zero,J4i] at Aw;clear Ai;go_wp2_with fail;refine AR.mono ?_;rintro e w'⟨rfl,rfl⟩;go_wp2_with fail;refine Ba.mono ?_;rintro e w1⟨rfl,d1,AI,As⟩;have UC:=Q0a AI;have Up:=Q0a As;clear AI As Ba AR hc;go_wp2_with fail
   go_loopw [6,7] (fun jv iv wr=>∃(j:Nat) (d2:BD),jv=.int .i64 j/\iv=.int .i64 ((i0*2 ^ (k-j):Nat):Int)/\j<=k/\d.To d2 w wr/\d2.Is (S j)) (fun jv _ _=>(intOf jv).toNat)
   case atStart=>exact⟨k,d1,rfl,by simp,J3b _,UC.out,Up.out⟩
   case round =>
    obtain⟨j,d2,rfl,rfl,hj,AI,As⟩:=hrel;have NJ:=JH.out _ _ AI;by_cases Fw:j=0
    ·subst Fw;obtain⟨CR,K3,AS⟩:=Ff.out _ _ AI As;have Bi:=Q0a AS;clear AS;have hv:((1024*(i0*2 ^ k):Nat):Int)=((i0*2 ^ (k-0):Nat):Int)*1024:=by rw[Nat.sub_zero];omega
     have hb:i0*2 ^ (k-0)<1048576:=by
      have:=(OB.out 0 (by omega)).1;omega
     rw[hv] at Bi;generalize i0*2 ^ (k-0)=p at *
     clear hv;go_wp2_with (refine Q1X _ rfl _ _ _ 156 3 3 rfl underlying156 underlying3 d.mb (upk d.ps) K3 _ _ rfl rfl rfl ?_;intro w2 CN Bu);go_ret2;exact Bi.out _ CN Bu
    ·obtain⟨l,rfl⟩:∃l,j=l+1:=⟨j-1,by omega⟩
     obtain⟨b2,BF,CF⟩:=AL.out l wr d2 (by omega) AI As;have hI:i0*2 ^ (k-l)=i0*2 ^ (k-(l+1))*2:=by
      rw[show k-l=k-(l+1)+1 from by omega,J4k,J6s]
     have hb:=(OB.out l (by omega)).1;have RC:((i0*2 ^ (k-l)+1:Nat):Int)=((i0*2 ^ (k-(l+1)):Nat):Int)*2+1:=by rw[hI];omega
     have P7:=Q0a (show((i0*2 ^ (k-l):Nat):Int)=((i0*2 ^ (k-(l+1)):Nat):Int)*2 from by rw[hI];omega);rw[RC] at CF;rw[hI] at hb;clear RC hI AI As;generalize i0*2 ^ (k-(l+1))=p at *
     have DG:((l+1:Nat):Int)=(l:Int)+1:=by omega
     go_wp2_with fail;refine CF.mono ?_;rintro e w2⟨rfl,d3,F6,Pi⟩;go_wp2_with fail;go_roundw
     case rel=>exact⟨l,d3,by go_num,by rw[P7.out],by omega,F6,Pi⟩
     case measure=>simp[intOf]
def Z8q(c:CA)(d:BD)(p:Nat)(w:World)(r:Ending)(w':World):Prop:=r=.returned (.tuple #[.int .i64 ((addr c.size p 0:Nat):Int),.int .i64 0]) /\
 ∃(d':BD) (m:BM) (rv':RV),d'.b=d.b/\d'.top=d.top/\d'.ps=d.ps++[p]/\d'.At/\m.bits=(List.replicate (960/c.size) false).set 0 true/\(c.insert rv' (m,p)).Ok/\Step (c.hl++d.hl) ((c.insert rv' (m,p)).hl++d'.hl) w w'
theorem Z8r{w w5:World}{c:CA}{d d':BD}{m:BM}(p g:Nat)(ok:c.Ok)(hn:∀x∈c.pg,x.2≠p)(hp:p<1048576)(CT:c.pg.length<1048576)(hm:m.bits=(List.replicate (960/c.size) false).set 0 true)(b1:d'.b=d.b)(b2:d'.top=d.top)(b3:d'.ps=d.ps++[p])(b4:d'.At)
  (Ap:Step (c.hl++d.hl) (c.hl++(m.hl++d'.hl)) w w5) (hg:g<w5.heap.size) (EH:g∉keys (c.hl++(m.hl++d'.hl))) :
  Calls prog 132 #[lvOf c.rv c.pg.length,.int .i64 (Q0r c.pg p),.slice (some ⟨w5.heap.size,0,none⟩) 1 1] (w5.drew.alloc (.cells #[ptr m.b,.int .i64 ((1024*p:Nat):Int)] 236)) fun r w6=>∃(g6 CJ:Nat) (v6:Value),v6=.slice (some ⟨g6,0,none⟩) (c.pg.length+1) CJ/\r=.returned v6 /\
   w6.heap[g]?=w5.heap[g]?/\w6.cell? ⟨c.c,2,none⟩=some (lvOf c.rv c.pg.length)/\w6.frozen? ⟨c.c,2,none⟩=false /\
   Calls prog 128 #[.pointer (some ⟨c.c,0,none⟩),.agg #[ptr m.b,.int .i64 ((1024*p:Nat):Int)],.int .i64 0] (w6.setCell ⟨c.c,2,none⟩ v6) fun r w7=>r=.returned (.int .i64 ((addr c.size p 0:Nat):Int))/\Z8q c d p w (.returned (.tuple #[.int .i64 ((addr c.size p 0:Nat):Int),.int .i64 0])) w7:=by
 have s5:=Ap.sep;have s6:=(s5.drew.alloc (.cells #[ptr m.b,.int .i64 ((1024*p:Nat):Int)] 236))
 have D2:(Q0i c.pg).length=c.pg.length*2:=Q7k _;have ox:∀v∈Q0i c.pg,v.oneCell'=true:=by
  intro v hv;unfold Q0i at hv;obtain⟨y,_,hy⟩:=J3C.1 hv;simp at hy;rcases hy with rfl|rfl <;> rfl
 have e0:c.hl++(m.hl++d'.hl)=[(c.c,isC 233 [ptr c.bb,.int .i64 c.size,lvOf c.rv c.pg.length])]++rowH c.rv 236 2 (Q0i c.pg)++(pgH c.pg++(m.hl++d'.hl)):=by unfold CA.hl;simp
 have s6':=s6;rw[e0] at s6';have hv:Cells (w5.drew.alloc (.cells #[ptr m.b,.int .i64 ((1024*p:Nat):Int)] 236)) w5.heap.size 236 [ptr m.b,.int .i64 ((1024*p:Nat):Int)]:=Cells.new w5.drew 236 [ptr m.b,.int .i64 ((1024*p:Nat):Int)];have I2:w5.heap.size∉keys (c.hl++(m.hl++d'.hl)):=fun hm=>by have:=s5.lt hm;omega
 refine(J0z s6' ok.rv D2 (Q8b c.pg p) (by omega) hv (by rw[<- e0];exact I2) ox rfl rfl).mono ?_;rintro r w6⟨rv',rfl,Dt,KD⟩;have AJ:w6.heap[g]?=w5.heap[g]?:=by
  have h1:=KD.chg.block g (by simp;omega) (by rw[<- e0];exact EH);rw[h1];exact heap_alloc_old w5.drew _ hg
 have B4:=(KD.sep).cells (b:=c.c) (T:=233) (cs:=[ptr c.bb,.int .i64 c.size,lvOf c.rv c.pg.length]) (by simp);have O4:Step (c.hl++(m.hl++d'.hl)) ((c.insert rv' (m,p)).hl++d'.hl) w5 (w6.setCell ⟨c.c,2,none⟩ (lvOf rv' (c.pg.length+1))):=
  (CA.insStep (c:=c) (K:=d'.hl) (m,p) rv' s6 KD).from_alloc.from_drew
 have okN:=CA.ok_ins ok rv' (m,p) hn Dt CT hp (by rw[hm];simp);have AZ:=Ap.trans O4;obtain⟨g6,CJ,e6⟩:∃g6 CJ:Nat,rv'=some (g6,CJ):=by
  cases rv' with
  | none=>have:c.pg.length+1=0:=Dt;omega
  | some p=>exact⟨p.1,p.2,rfl⟩
 refine⟨g6,CJ,_,by rw[e6];rfl,rfl,AJ,B4.cell 2 _ rfl,B4.free 2,?_⟩;have Gj:=Q8L AZ.sep.left okN m.b p 0 hp (by omega);refine Gj.mono ?_;rintro r w7⟨rfl,GX⟩;exact⟨rfl,rfl,d',m,rv',b1,b2,b3,b4,hm,okN,AZ.trans (AZ.sep.grown GX)⟩
theorem Z2U(a b:Nat)(ha:a<2 ^ 63)(hb:b<2 ^ 63):bits BinOp.xor IntKind.i64 (a:Int) (b:Int)=((a ^^^ b:Nat):Int):=by
 have h:(a ^^^ b)<2 ^ 63:=J4t ha hb;have e:((BitVec.ofInt 64 (a:Int)) ^^^ (BitVec.ofInt 64 (b:Int))).toNat=a ^^^ b:=by
  rw[BitVec.ofInt_natCast,BitVec.ofInt_natCast,BitVec.toNat_xor,BitVec.toNat_ofNat,BitVec.toNat_ofNat,J4x (by omega),J4x (by omega)]
 unfold bits;show IntKind.i64.wrap (((BitVec.ofInt 64 (a:Int)) ^^^ (BitVec.ofInt 64 (b:Int))).toNat:Int)=_;rw[e,IntKind.wrap_i64];omega
theorem J0J(i:Nat):i ^^^ 1=sib i:=by
 have h:(i ^^^ 1)/2=i/2:=by
  have:=Nat.xor_div_two_pow (a:=i) (b:=1) (n:=1)
  simpa using this
 have h2:(i ^^^ 1)%2=(i+1)%2:=by
  have:=J4v i 1 0;rw[J4z,J4z,J4z] at this;have h3:i%2=0∨i%2=1:=by omega
  have h4:(i ^^^ 1)%2=0∨(i ^^^ 1)%2=1:=by omega
  rcases h3 with h3|h3 <;> rcases h4 with h4|h4 <;> simp[h3,h4] at this <;> omega
 unfold sib;split <;> omega
theorem J0K(u:Nat->Bool)(top p:Nat):∃k,k<=top/\(k<top->clr u k (sib (p/2 ^ k))=false)/\∀j,j<k->clr u j (sib (p/2 ^ j))=true:=by
 rcases J1U (fun k=>decide (k=top)||!clr u k (sib (p/2 ^ k))) (top+1) with h|⟨k,h1,h2,h3⟩
 ·have:=h top (by omega);simp at this
 ·refine⟨k,by omega,fun hk=>?_,fun j hj=>?_⟩
  ·simp only[J6o,decide_eq_true_eq,J6l] at h2;rcases h2 with h2|h2
   ·omega
   ·exact h2
  ·have:=h3 j hj;simp only[Bool.or_eq_false_iff,Bool.not_eq_false'] at this;exact this.2
theorem Z8s(u:Nat->Bool)(p k:Nat)(hs:∀j,j<k->clr u j (sib (p/2 ^ j))=true):clr (setU u p false) k (p/2 ^ k)=true:=by
 induction k with
 | zero=>rw[Nat.pow_zero,Nat.div_one,Z1J];simp[setU]
 | succ k ih =>
  obtain⟨s1,s2⟩:=Q4x (p/2 ^ k);have h1:=ih (fun j hj=>hs j (by omega));have h2:=hs k (by omega);rw[<- Q4w u p k (sib (p/2 ^ k)) (fun e=>s2 e.symm)] at h2;rw[div_succ,clr_half,J3x];have:(p/2 ^ k=2*(p/2 ^ k/2)/\sib (p/2 ^ k)=2*(p/2 ^ k/2)+1)∨(sib (p/2 ^ k)=2*(p/2 ^ k/2)/\p/2 ^ k=2*(p/2 ^ k/2)+1):=by omega
  rcases this with ⟨e1,e2⟩|⟨e1,e2⟩
  ·exact⟨by rw[e1] at h1;exact h1,by rw[e2] at h2;exact h2⟩
  ·exact⟨by rw[e1] at h2;exact h2,by rw[e2] at h1;exact h1⟩
theorem Q4b{u:Nat->Bool}{p:Nat}(hu:u p=true)(k:Nat):clr u k (p/2 ^ k)=false:=by
 cases h:clr u k (p/2 ^ k) with
 | false=>rfl
 | true=>rw[clr_iff] at h;rw[h p rfl] at hu;cases hu
theorem Z1L{u:Nat->Bool}{top p k:Nat}(hu:u p=true)(hk:k<top):fre u top k (sib (p/2 ^ k))=clr u k (sib (p/2 ^ k)):=by
 unfold fre;rw[(Q4x (p/2 ^ k)).1,<- div_succ,Q4b hu];simp
def mrg(G:Nat->Nat->Bool)(p k:Nat):Nat->Nat->Bool:=fun l x=>if l<k then(G l x&&!(x==sib (p/2 ^ l))) else G l x
theorem Z8t(G:Nat->Nat->Bool)(p:Nat):mrg G p 0=G:=by funext l x;simp[mrg]
theorem Z8u(G:Nat->Nat->Bool)(p k:Nat):upG (mrg G p k) k (sib (p/2 ^ k)) false=mrg G p (k+1):=by
 funext l x;unfold upG mrg;by_cases h:l=k
 ·subst h;by_cases hx:x=sib (p/2 ^ l)
  ·simp[hx]
  ·have e:(x==sib (p/2 ^ l))=false:=by simpa using hx
   simp[hx,e]
 ·have e:(l<k+1)=(l<k):=by apply propext;omega
  simp[h,e]
theorem J0L(u:Nat->Bool)(top p k:Nat)(hk:k<=top)(hu:u p=true)(hn:k<top->clr u k (sib (p/2 ^ k))=false)(hs:∀j,j<k->clr u j (sib (p/2 ^ j))=true)(l x:Nat)(hl:l<=top) :
  upG (mrg (fre u top) p k) k (p/2 ^ k) true l x=fre (setU u p false) top l x:=by
 rw[Z8l u top p k hk hu (Z8s u p k hs) hn l x hl];unfold upG mrg;by_cases h:l=k
 ·subst h;by_cases hx:x=p/2 ^ l
  ·simp[hx]
  ·have e:(x==p/2 ^ l)=false:=by simpa using hx
   simp[hx,e]
 ·simp[h]
theorem Z0w{top p k:Nat}(hp:p<2 ^ top)(hk:k<=top):p/2 ^ k<2 ^ (top-k):=by
 rw[J6v (J4r k),<- J4D,show top-k+k=top from by omega];exact hp
theorem J0e{n i:Nat}(hi:i<2 ^ (n+1)):sib i<2 ^ (n+1):=by
 rw[J4k] at *
 unfold sib;split <;> omega
def J1Z(d:BD)(p:Nat)(w:World)(r:Ending)(w':World):Prop:=r=.returned (.int .i64 0) /\
 ∃d':BD,d'.b=d.b/\d'.top=d.top/\d'.ps=d.ps.erase p/\d'.At/\Step d.hl d'.hl w w'
theorem Z1M(w:World):(zeroValue 3).run prog w=.ok (.int .i64 0) w:=by kernel_rfl
theorem Z1N{w:World}{d:BD}(h:Sep w d.hl)(ha:d.At)(p:Nat)(hp:p∈d.ps) :
  Calls prog 145 #[.pointer (some ⟨d.b,0,none⟩),.int .i64 (1024*(p:Int))] w (J1Z d p w):=by
 have hx:((1024*p:Nat):Int)=1024*(p:Int):=by omega
 have hu:uOf d.ps p=true:=by simpa[uOf] using hp
 obtain⟨k1,A0,hn,hs⟩:=J0K (uOf d.ps) d.top p;have FK:=ha.lt p hp;have ht:=ha.is.top;have Em:=Q1k (P:=prog) (BD.map h) ((1024*p:Nat):Int) true (.int .i64 0) underlying156 underlying3 (Z1M w);rw[Z8n,if_pos hp,hx] at Em;simp only[if_true,J5U,Option.isSome_some] at Em;have K3:=BD.map h;have Vo:=BD.cm h (by rw[ha.is.len];omega);have Gx:=Q0a (show ∀w2,Q0x w2 d.mb (del (upk d.ps) (1024*(p:Int)))->w.grownBy w2 (some d.mb)->({d with ps:=d.ps.erase p}:BD).To {d with ps:=d.ps.erase p} w2 w2/\Step d.hl ({d with ps:=d.ps.erase p}:BD).hl w w2 from fun w2 CN Bu=>by
  rw[<- hx,J0F] at CN;have:=BD.putMap h _ CN Bu;exact⟨BD.To.refl this.sep,this⟩)
 have Pe:Hid (({d with ps:=d.ps.erase p}:BD).Is (mrg (fre (uOf d.ps) d.top) p 0)):=by
  show BD.Is _ _;rw[Z8t];exact⟨ha.is.len,ha.is.top,ha.is.bits⟩
 have JH:=Q0a (show ∀w2 wr d1,({d with ps:=d.ps.erase p}:BD).To d1 w2 wr->wr.cell? ⟨d.b,0,none⟩=some (.int .i64 d.top) from fun w2 wr d1 AI=>by
  have:=BD.c0 AI.step.sep;rw[AI.b,AI.top] at this;exact this)
 have ES:=Q0a (show ∀k w2 wr d1,k<k1->({d with ps:=d.ps.erase p}:BD).To d1 w2 wr->d1.Is (mrg (fre (uOf d.ps) d.top) p k)->∃b,wr.cell? ⟨d.b,1+k,none⟩=some (.pointer (some ⟨b,0,none⟩)) /\
   Calls prog 127 #[.pointer (some ⟨b,0,none⟩),.bool false,.slice (some ⟨wr.heap.size,0,none⟩) 1 1] (wr.alloc (.cells #[.int .i64 ((sib (p/2 ^ k):Nat):Int)] 3)) fun r w'=>r=.returned (.int .i64 1)/\∃d2,({d with ps:=d.ps.erase p}:BD).To d2 w2 w'/\d2.Is (mrg (fre (uOf d.ps) d.top) p (k+1)) from fun k w2 wr d1 hk AI As=>by
  have Ew:k<d.top:=by omega
  have e0:d.top-k=(d.top-k-1)+1:=by omega
  have Ab:sib (p/2 ^ k)<2 ^ (d.top-k):=by
   have:=Z0w FK (show k<=d.top by omega);rw[e0] at this ⊢;exact J0e this
  have Aa:mrg (fre (uOf d.ps) d.top) p k k (sib (p/2 ^ k))≠false:=by
   unfold mrg;rw[if_neg (by omega),Z1L hu Ew,hs k hk];decide
  have et:d1.top=d.top:=AI.top;obtain⟨b,h3,h4⟩:=Q8R AI.step.sep As k (sib (p/2 ^ k)) false (by omega) (by rw[et];exact Ab) Aa;rw[AI.b] at h3;refine⟨b,h3,h4.mono ?_⟩;rintro r w'⟨rfl,d2,CK,BZ⟩;rw[Z8u] at BZ;exact⟨rfl,d2,AI.trans CK,BZ⟩)
 have M3:=Q0a (show ∀w2 wr d1,k1<d.top->({d with ps:=d.ps.erase p}:BD).To d1 w2 wr->d1.Is (mrg (fre (uOf d.ps) d.top) p k1)->∃b,wr.cell? ⟨d.b,1+k1,none⟩=some (.pointer (some ⟨b,0,none⟩)) /\
   Calls prog 127 #[.pointer (some ⟨b,0,none⟩),.bool false,.slice (some ⟨wr.heap.size,0,none⟩) 1 1] (wr.alloc (.cells #[.int .i64 ((sib (p/2 ^ k1):Nat):Int)] 3)) fun r w'=>r=.returned (.int .i64 0)/\∃d2,({d with ps:=d.ps.erase p}:BD).To d2 w2 w'/\d2.Is (mrg (fre (uOf d.ps) d.top) p k1) from fun w2 wr d1 Ew AI As=>by
  have e0:d.top-k1=(d.top-k1-1)+1:=by omega
  have Ab:sib (p/2 ^ k1)<2 ^ (d.top-k1):=by
   have:=Z0w FK (show k1<=d.top by omega);rw[e0] at this ⊢;exact J0e this
  have Aa:mrg (fre (uOf d.ps) d.top) p k1 k1 (sib (p/2 ^ k1))=false:=by
   unfold mrg;rw[if_neg (by omega),Z1L hu Ew,hn Ew]
  have et:d1.top=d.top:=AI.top;obtain⟨b,h3,h4⟩:=J0G AI.step.sep As k1 (sib (p/2 ^ k1)) false (by omega) (by rw[et];exact Ab) Aa;rw[AI.b] at h3;refine⟨b,h3,h4.mono ?_⟩;rintro r w'⟨rfl,d2,CK,BZ⟩;exact⟨rfl,d2,AI.trans CK,BZ⟩)
 have Bi:=Q0a (show ∀w2 wr d1,Step d.hl ({d with ps:=d.ps.erase p}:BD).hl w w2->({d with ps:=d.ps.erase p}:BD).To d1 w2 wr->d1.Is (mrg (fre (uOf d.ps) d.top) p k1)->∃b,wr.cell? ⟨d.b,1+k1,none⟩=some (.pointer (some ⟨b,0,none⟩)) /\
   Calls prog 127 #[.pointer (some ⟨b,0,none⟩),.bool true,.slice (some ⟨wr.heap.size,0,none⟩) 1 1] (wr.alloc (.cells #[.int .i64 ((p/2 ^ k1:Nat):Int)] 3)) fun r w'=>r=.returned (.int .i64 1)/\J1Z d p w (.returned (.int .i64 0)) w' from fun w2 wr d1 Ap AI As=>by
  have Aa:mrg (fre (uOf d.ps) d.top) p k1 k1 (p/2 ^ k1)≠true:=by
   unfold mrg;rw[if_neg (by omega)];unfold fre;rw[Q4b hu];simp
  have et:d1.top=d.top:=AI.top;obtain⟨b,h3,h4⟩:=Q8R AI.step.sep As k1 (p/2 ^ k1) true (by omega) (by rw[et];exact Z0w FK A0) Aa;rw[AI.b] at h3;refine⟨b,h3,h4.mono ?_⟩;rintro r w'⟨rfl,d2,CK,BZ⟩;have F6:=AI.trans CK;have et2:d2.top=d.top:=F6.top;have ep2:d2.ps=d.ps.erase p:=F6.ps;refine⟨rfl,rfl,d2,F6.b,et2,ep2,⟨⟨BZ.len,BZ.top,?_⟩,?_,?_⟩,Ap.trans F6.step⟩
  ·intro k m hm;rw[BZ.bits k m hm];have Ew:k<=d2.top:=by
    have h1:k<d2.bms.length:=(J3t.1 hm).1;have h2:d2.bms.length=d2.top+1:=BZ.len;omega
   apply J5l
   intro x _;rw[ep2,Z5e ha.nd,et2];exact J0L _ _ _ _ A0 hu hn hs k x (by omega)
  ·rw[ep2];exact ha.nd.erase p
  ·intro x hx;rw[ep2] at hx;rw[et2];exact ha.lt x (J3G hx))
 have Qz:p<1048576:=J3d FK (by have:=Q1H (k:=0) ht;simpa using this);clear h ha hu hn hs;generalize mrg (fre (uOf d.ps) d.top) p=M at *
 generalize Nv:({d with ps:=d.ps.erase p}:BD)=d0 at *
 clear Nv;generalize d.top=top at *
 go_enter func145,ntmps145;go_wp2_with (refine Q2z _ rfl _ _ 156 3 3 3 rfl underlying156 underlying3 d.mb (upk d.ps) K3 _ rfl rfl ?_;intro w2 CN Bu);obtain⟨Mu,L7⟩:=Gx.out w2 CN Bu;clear CN Bu K3 Vo Em Gx;go_wp2_with fail
 go_loopw [5,7] (fun kv iv wr=>∃(k:Nat) (d1:BD),kv=.int .i64 k/\iv=.int .i64 ((p/2 ^ k:Nat):Int)/\k<=k1/\d0.To d1 w2 wr/\d1.Is (M k)) (fun kv _ _=>k1-(intOf kv).toNat)
 case atStart=>exact⟨0,d0,rfl,by simp,J5e _,Mu,Pe.out⟩
 case round =>
  clear Mu;obtain⟨k,d1,rfl,rfl,hk,AI,As⟩:=hrel;have NJ:=JH.out _ _ _ AI;have U6:p/2 ^ k<1048576:=J4o (J4I _ _) Qz;have Hw:bits BinOp.xor IntKind.i64 ((p/2 ^ k:Nat):Int) 1=((sib (p/2 ^ k):Nat):Int):=by
   rw[show(1:Int)=((1:Nat):Int) from rfl,Z2U _ _ (by omega) (by omega),J0J]
  have Kk:=Q0a (show((p/2 ^ (k+1):Nat):Int)=((p/2 ^ k:Nat):Int)/2 from by rw[div_succ];omega);by_cases Ab:k<k1
  ·obtain⟨b,hc,Ba⟩:=ES.out k w2 wr d1 Ab AI As;have Ew:k<top:=by omega
   clear AI As;generalize p/2 ^ k=i at *
   generalize sib i=s at *
   go_wp2_with fail;refine Ba.mono ?_;rintro e w3⟨rfl,d2,CK,BZ⟩;clear Ba hc Hw;go_wp2_with fail;go_roundw
   case rel=>exact⟨k+1,d2,by go_num,by rw[Kk.out],by omega,CK,BZ⟩
   case measure=>simp[intOf];omega
  ·obtain rfl:k=k1:=by omega
   by_cases Ew:k<top
   ·obtain⟨b,hc,Ba⟩:=M3.out w2 wr d1 Ew AI As;have MV:=Q0a (show ∀w3 d2,d0.To d2 w2 w3->d2.Is (M k)->_ from fun w3 d2 h1 h2=>Bi.out w2 w3 d2 L7 h1 h2);clear AI As Kk;generalize p/2 ^ k=i at *
    generalize sib i=s at *
    go_wp2_with fail;refine Ba.mono ?_;rintro e w3⟨rfl,d2,CK,BZ⟩;obtain⟨b2,BF,CF⟩:=MV.out w3 d2 CK BZ;clear Ba hc Hw CK BZ;go_wp2_with fail;refine CF.mono ?_;rintro e w4⟨rfl,AS⟩;have Ng:=Q0a AS;clear AS CF;go_wp2_with fail;go_ret;exact Ng.out
   ·obtain⟨b2,BF,CF⟩:=Bi.out w2 wr d1 L7 AI As;clear AI As Kk Hw;have PI:¬((k:Int)<top):=by omega
    have Uf:decide ((k:Int)<top)=false:=by simpa using PI
    generalize p/2 ^ k=i at *
    go_wp2_with fail;refine CF.mono ?_;rintro e w4⟨rfl,AS⟩;have Ng:=Q0a AS;clear AS CF;go_wp2_with fail;go_ret;exact Ng.out
def Z8v(c:CA)(d:BD)(k p:Nat)(w:World)(r:Ending)(w':World):Prop:=r=.returned (.int .i64 0) /\
 ∃d':BD,d'.b=d.b/\d'.top=d.top/\d'.ps=d.ps.erase p/\d'.At/\Step (c.hl++d.hl) ((c.dropPg k).hl++d'.hl) w w'
theorem Q0U{w w':World}{b:Nat}(h:w'.heap[b]?=w.heap[b]?)(j:Nat):w'.cell? ⟨b,j,none⟩=w.cell? ⟨b,j,none⟩:=by simp only[World.cell?,h]
theorem Z5h{w:World}{c:CA}{d:BD}{w4:World}{rb cap n:Nat}(k:Nat)(x:BM×Nat)(m':BM)(hx:c.pg[k]?=some x)(hb:m'.b=x.1.b)(A6:c.rv=some (rb,cap))(hn:c.pg.length=n+1)(ok:c.Ok)(ha:d.At)(hp:x.2∈d.ps)(g:Nat)(EH:g∉keys d.hl)(FQ:g<w4.heap.size)
  (Ap:Step (c.hl++d.hl) ((c.pageTo k x m').hl++d.hl) w w4) :
  Calls prog 145 #[ptr d.b,.int .i64 ((1024*x.2:Nat):Int)] w4.drew fun r w5=>r=.returned (.int .i64 0)/\(w5.cell? ⟨c.c,0,none⟩=some (ptr c.bb)/\w5.cell? ⟨g,1,none⟩=w4.cell? ⟨g,1,none⟩) /\
   w5.cell? ⟨c.c,2,none⟩=some (.slice (some ⟨rb,0,none⟩) (n+1) cap) /\
   Calls prog 146 #[.slice (some ⟨rb,0,none⟩) (n+1) cap,.int .i64 k,.int .i64 ((k:Int)+1)] w5 fun r w6=>r=.returned (.slice (some ⟨rb,0,none⟩) n cap) /\
    (∃v,w6.cell? ⟨c.c,2,none⟩=some v)/\w6.frozen? ⟨c.c,2,none⟩=false/\Z8v c d k x.2 w (.returned (.int .i64 0)) (w6.setCell ⟨c.c,2,none⟩ (.slice (some ⟨rb,0,none⟩) n cap)):=by
 have hk:=(J3t.1 hx).1;have s4:=Ap.sep.drew;have Le:((1024*x.2:Nat):Int)=1024*(x.2:Int):=by omega
 rw[Le];refine(Z1N s4.right ha x.2 hp).mono ?_;rintro r w5⟨rfl,d',b1,b2,b3,b4,b5⟩;have f5:Step ((c.pageTo k x m').hl++d.hl) ((c.pageTo k x m').hl++d'.hl) w4 w5:=by
  have:=Step.frame (c.pageTo k x m').hl [] (by simpa using s4) b5
  simpa using this.from_drew
 have s5:=f5.sep;have ec:Q0i (c.pageTo k x m').pg=Q0i c.pg:=Q7l _ _ _ _ hx hb;have el:(c.pageTo k x m').pg.length=n+1:=by simp[CA.pageTo,hn]
 have ed:(c.pageTo k x m').dropPg k=c.dropPg k:=by simp[CA.pageTo,CA.dropPg,List.eraseIdx_set_eq]
 have hC:=CA.sepC s5.left;have A7:(c.pageTo k x m').c=c.c:=rfl;have hR:=CA.sepR s5.left;have CB:(c.pageTo k x m').rv=some (rb,cap):=A6;rw[CB,ec] at hR;obtain⟨o,ho,Ag,rfl,B4,AW⟩:=hR.get (b:=rb) (q:=isR 236 (cap*2) (Q0i c.pg)) (by simp[rowH]);have Bg:=ok.rv;rw[A6,hn] at Bg;have CT:=ok.len;have D2:(Q0i c.pg).length=(n+1)*2:=by rw[Q7k,hn]
 have ox:∀v∈Q0i c.pg,v.oneCell'=true:=by
  intro v hv;unfold Q0i at hv;obtain⟨y,_,hy⟩:=J3C.1 hv;simp at hy;rcases hy with rfl|rfl <;> rfl
 refine⟨rfl,⟨hC.cell 0 _ rfl,?_⟩,?_,?_⟩
 ·exact Q0U ((b5.chg.block g FQ EH)) 1
 ·have:=hC.cell 2 _ rfl;rw[CB,el] at this;exact this
 ·refine(J0A ho B4 AW D2 (by omega) (by omega) Bg.1 Bg.2 ox).mono ?_;rintro r w6⟨rfl,q1,q2⟩;have Aa:c.c≠rb:=fun e=>by
   have AO:=s5.left.nd;unfold CA.hl at AO;rw[CB] at AO;simp[rowH] at AO;exact AO.1.1 (by simpa[CA.pageTo] using e)
  have AJ:=q2.block c.c (s5.lt (by simp[CA.hl,CA.pageTo])) (fun e=>Aa (J3Z e));refine⟨rfl,⟨_,(Q0U AJ 2).trans (hC.cell 2 _ rfl)⟩,?_,rfl,d',b1,b2,b3,b4,?_⟩
  ·have:=hC.free 2;rw[A7] at this
   simpa only[World.frozen?,AJ] using this
  ·have hd:=CA.dropStep s5.left CB k n (by rw[el];omega) el (by rw[ec];exact⟨rfl,q1,q2⟩);rw[ed,A7] at hd;have:=Step.frame [] d'.hl (by simpa using s5) hd;exact(Ap.trans f5).trans (by simpa using this)
theorem Z5i{w:World}{c:CA}{d:BD}(h:Sep w (c.hl++d.hl))(ok:c.Ok)(hd:d.At)(DR:c.bb=d.b)(a:Nat)(ha:a<9223372036854775808)(k i:Nat)(x:BM×Nat)(hs:Q5w c a=some (k,i))(hx:c.pg[k]?=some x)(hi:x.1.bits[i]?.getD false=true)(Cd:cntB (x.1.bits.set i false)=0)(hp:x.2∈d.ps) :
  Calls prog 77 #[.pointer (some ⟨c.c,0,none⟩),.int .i64 a] w (Z8v c d k x.2 w):=by
 have k1:=Q8c h.left ok a ha;rw[hs] at k1;have hk:=(J3t.1 hx).1;have C4:i<x.1.bits.length:=by
  rcases J5K i x.1.bits.length with e|e
  ·exact e
  ·rw[J4R e] at hi;cases hi
 have GQ:=ok.many x (J5q hx);have Gp:x.1.bits.length<=1048576:=by rw[GQ];have:=J4I 960 c.size;omega
 have CT:=ok.len;obtain⟨rb,cap,A6⟩:∃rb cap,c.rv=some (rb,cap):=by
  cases e:c.rv with
  | none=>have:=ok.rv;rw[e] at this;have:c.pg.length=0:=this;omega
  | some p=>exact⟨p.1,p.2,rfl⟩
 obtain⟨n,hn⟩:∃n,c.pg.length=n+1:=⟨c.pg.length-1,by omega⟩
 have Ef:Hid (∀w1,Below w.heap.size w w1->w1.cell? ⟨c.c,2,none⟩=some (.slice (some ⟨rb,0,none⟩) (n+1) cap)/\w1.cell? ⟨rb,k*2,none⟩=some (.pointer (some ⟨x.1.b,0,none⟩))/\w1.cell? ⟨rb,k*2+1,none⟩=some (.int .i64 ((1024*x.2:Nat):Int)) /\
   Calls prog 127 #[.pointer (some ⟨x.1.b,0,none⟩),.bool false,.slice (some ⟨w1.heap.size+1,0,none⟩) 1 1] ((w1.alloc (.cells #[.pointer (some ⟨x.1.b,0,none⟩),.int .i64 ((1024*x.2:Nat):Int)] 236)).alloc (.cells #[.int .i64 i] 3)) fun r w4=>r=.returned (.int .i64 1) /\
    w4.cell? ⟨w1.heap.size,0,none⟩=some (.pointer (some ⟨x.1.b,0,none⟩))/\w4.cell? ⟨w1.heap.size,1,none⟩=some (.int .i64 ((1024*x.2:Nat):Int))/\w4.cell? ⟨c.c,0,none⟩=some (.pointer (some ⟨d.b,0,none⟩)) /\
    Calls prog 144 #[.pointer (some ⟨x.1.b,0,none⟩)] w4 (fun r w5=>r=.returned (.int .i64 0)/\w4=w5) /\
    Calls prog 145 #[.pointer (some ⟨d.b,0,none⟩),.int .i64 ((1024*x.2:Nat):Int)] w4.drew fun r w5=>r=.returned (.int .i64 0)/\(w5.cell? ⟨c.c,0,none⟩=some (.pointer (some ⟨d.b,0,none⟩))/\w5.cell? ⟨w1.heap.size,1,none⟩=some (.int .i64 ((1024*x.2:Nat):Int))) /\
     w5.cell? ⟨c.c,2,none⟩=some (.slice (some ⟨rb,0,none⟩) (n+1) cap) /\
     Calls prog 146 #[.slice (some ⟨rb,0,none⟩) (n+1) cap,.int .i64 k,.int .i64 ((k:Int)+1)] w5 fun r w6=>r=.returned (.slice (some ⟨rb,0,none⟩) n cap) /\
      (∃v,w6.cell? ⟨c.c,2,none⟩=some v)/\w6.frozen? ⟨c.c,2,none⟩=false/\Z8v c d k x.2 w (.returned (.int .i64 0)) (w6.setCell ⟨c.c,2,none⟩ (.slice (some ⟨rb,0,none⟩) n cap))):=fun w1 hb=>by
  have s1:=(h.grown hb).sep;have BY:=CA.sepR s1.left;rw[A6] at BY;obtain⟨e1,e2⟩:=Q2c _ _ _ hx;have BF:=(CA.sepC s1.left).cell 2 _ rfl;rw[A6,hn] at BF;refine⟨BF,Q0G BY _ _ e1,Q0G BY _ _ e2,?_⟩;have s3:=(s1.alloc (.cells #[.pointer (some ⟨x.1.b,0,none⟩),.int .i64 ((1024*x.2:Nat):Int)] 236)).alloc (.cells #[.int .i64 i] 3);have sb:=CA.sepB s3.left k x hx;have Ab:∀b∈keys x.1.hl,b<w1.heap.size:=fun b AJ=>(CA.sepB s1.left k x hx).lt AJ
  have hz:((w1.alloc (.cells #[.pointer (some ⟨x.1.b,0,none⟩),.int .i64 ((1024*x.2:Nat):Int)] 236))).heap.size=w1.heap.size+1:=by simp
  have Ba:=Q2C sb false i C4 Gp (by rw[hi];simp) (w1.heap.size+1) (by
   have:=(Cells.new (w1.alloc (.cells #[.pointer (some ⟨x.1.b,0,none⟩),.int .i64 ((1024*x.2:Nat):Int)] 236)) 3 [.int .i64 i]).cell 0 _ rfl;rw[hz] at this;exact this) (fun hm=>by have:=Ab _ hm;omega)
  refine Ba.mono ?_;rintro r w4⟨rfl,Ap⟩;have Bj:=CA.turnB s3.left k x hx {x.1 with bits:=x.1.bits.set i false} rfl Ap;have AZ:Step (c.hl++d.hl) ((c.pageTo k x {x.1 with bits:=x.1.bits.set i false}).hl++d.hl) w w4:=by
   have:=Step.frame [] d.hl (by simpa using s3) Bj;exact(h.grown hb).trans (Step.from_alloc (Step.from_alloc (by simpa using this)))
  have Ec:w1.heap.size∉keys x.1.hl:=fun hm=>by have:=Ab _ hm;omega
  have AJ:=Ap.chg.block w1.heap.size (by simp;omega) Ec;have Bc:=((Cells.new w1 236 [.pointer (some ⟨x.1.b,0,none⟩),.int .i64 ((1024*x.2:Nat):Int)]).alloc (.cells #[.int .i64 i] 3))
  have g4:w1.heap.size<w4.heap.size:=by
   have:=Ap.chg.size;simp at this;omega
  have Im:w1.heap.size∉keys d.hl:=fun hm=>by have:=s1.right.lt hm;omega
  have d1:=(Q0U AJ 1).trans (Bc.cell 1 _ rfl);have d0:=(CA.sepC AZ.sep.left).cell 0 _ rfl;have d0':w4.cell? ⟨c.c,0,none⟩=some (.pointer (some ⟨d.b,0,none⟩)):=by rw[<- DR];exact d0
  refine⟨rfl,(Q0U AJ 0).trans (Bc.cell 0 _ rfl),d1,d0',?_,?_⟩
  ·have:=Q5U Ap.sep (by simpa using Gp);rw[Cd] at this;exact this
  ·have ht:=Z5h k x {x.1 with bits:=x.1.bits.set i false} hx rfl A6 hn ok hd hp w1.heap.size Im g4 AZ;rw[d1,DR] at ht;exact ht
 have HQ:Hid (∀r w',Told w (Q4Z (some (k,i))) r w'->r=.returned (.tuple #[.int .i64 k,.int .i64 i,.bool true])/\Below w.heap.size w w'):=fun r w' ⟨e,hb⟩=>⟨e,hb⟩
 have Bz:(0:Int)<=k:=by omega
 have Dm:(k:Int)<(n:Int)+1:=by omega
 have Fy:(k:Int)<1048576:=by omega
 have BJ:(0:Int)<=i:=by omega
 have J3:(i:Int)<1048576:=by omega
 have hw:IntKind.i64.wrap ((k:Int)+1)=(k:Int)+1:=Go.IntWalk.i64_in _ (by omega);clear h ok hs hx hi C4 GQ Gp A6 Cd hd DR hp hk CT;obtain⟨GL,LD⟩:∃GL:Ending->World->Prop,GL=Z8v c d k x.2 w:=⟨_,rfl⟩
 rw[<- LD] at Ef ⊢;clear LD hn;generalize 1024*x.2=pv at *
 generalize x.1.b=b at *
 generalize c.c=cc at *
 generalize d.b=db at *
 go_enter func77,ntmps77;go_wp2_with fail;refine k1.mono ?_;rintro r w1 hf;obtain⟨rfl,hb⟩:=HQ.out _ _ hf;obtain⟨c1,c2,c3,Ba⟩:=Ef.out _ hb;have CI:=Q0a Ba;clear Ba hf hb;go_wp2_with fail;refine CI.out.mono ?_;rintro r w4⟨rfl,d1,d2,d3,d4,d5⟩;have HG:=Q0a d5;have HC:=Q0a d4;clear d4 d5;go_wp2_with fail;refine HC.out.mono ?_;rintro r w5⟨rfl,rfl⟩;have d2':w4.drew.cell? ⟨w1.heap.size,1,none⟩=some (.int .i64 pv):=d2;have d3':w4.drew.cell? ⟨cc,0,none⟩=some (.pointer (some ⟨db,0,none⟩)):=d3;go_wp2_with fail
 go_region_held3 (fun w'=>w'.cell? ⟨cc,0,none⟩=some (.pointer (some ⟨db,0,none⟩))/\w'.cell? ⟨w1.heap.size,1,none⟩=some (.int .i64 pv))
  (first|exact⟨d3,d2⟩|exact⟨d3',d2'⟩|exact⟨e0,e1⟩)
  (first|(go_at_call 145;refine HG.out.mono ?_;rintro r w6⟨rfl,⟨e0,e1⟩,e2,e3⟩;have HD:=Q0a e3;clear e3))
 go_wp2_with fail;refine HD.out.mono ?_;rintro r w7⟨rfl,⟨v,f1⟩,f2,f3⟩;have HF:=Q0a f3;clear f3;go_wp2_with fail;exact HF.out
end Go.Proofs.YtfidemmgofcnmaaGreatDoor

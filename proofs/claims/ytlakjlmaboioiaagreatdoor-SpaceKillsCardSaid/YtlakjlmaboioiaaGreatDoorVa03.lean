/- What the laws of spaces share is proved. No condition. Part of a proof. -/
import Derived.Test.YtlakjlmaboioiaaGreatDoorVa02
import Derived.IntWalk
import Derived.Deep.QuietTactic
import Derived.BigQuiet
import Derived.Laws.CopyRow
import Derived.Laws.IdiomCopy
import Derived.Lib.Overlaps
import Derived.Lib.AppendZerosOnto
import Derived.Shelf.Spec.SlicesInsert
set_option maxHeartbeats 4000000
set_option maxRecDepth 100000
set_option linter.unusedVariables false
namespace Go.Proofs.YtlakjlmaboioiaaGreatDoor
open Go.RowKit Go.Proofs.Tryz
structure En (α:Type) where
 id:Int
 b:Nat
 q:α
def ptr (b:Nat):Value:=.pointer (some ⟨b,0,none⟩)
section
variable {α:Type}
def kvs (E:List (En α)):List (Int×Value):=E.map fun e=>(e.id,ptr e.b)
def find:List (En α)->Int->Option (En α)
 | [],_=>none
 | e::r,id=>if id=e.id then some e else find r id
def upd (E:List (En α)) (id:Int) (q:α):List (En α):=E.map fun e=>if e.id=id then {e with q:=q} else e
def rem:List (En α)->Int->List (En α)
 | [],_=>[]
 | e::r,id=>if id=e.id then r else e::rem r id
theorem Q5H (E:List (En α)) (id:Int):look (kvs E) id=(find E id).map fun e=>ptr e.b:=by
 induction E with
 | nil=>rfl
 | cons e r ih =>
  have ih':look (r.map fun e=>(e.id,ptr e.b)) id=_:=ih;by_cases h:id=e.id <;> simp [kvs,look,find,h,ih']
theorem Z4x (E:List (En α)) (id:Int) (b:Nat) (q:α) (h:find E id=none):put (kvs E) id (ptr b)=kvs (E++[⟨id,b,q⟩]):=by
 induction E with
 | nil=>rfl
 | cons e r ih =>
  by_cases hk:id=e.id
  ·simp [find,hk] at h
  ·simp only [find,hk,if_false] at h;have ih':put (r.map fun e=>(e.id,ptr e.b)) id (ptr b)=_:=ih h;simp [kvs,put,hk,ih']
theorem Q7Y (E:List (En α)) (id:Int):del (kvs E) id=kvs (rem E id):=by
 induction E with
 | nil=>rfl
 | cons e r ih =>
  have ih':del (r.map fun e=>(e.id,ptr e.b)) id=_:=ih;by_cases hk:id=e.id <;> simp [kvs,del,rem,hk,ih']
theorem Z4y (E:List (En α)) (id:Int) (q:α):kvs (upd E id q)=kvs E:=by
 simp only [kvs,upd,J4p]
 apply J4q
 intro e _;by_cases h:e.id=id <;> simp [h]
theorem Q0b {E:List (En α)} {id:Int} {e:En α} (h:find E id=some e):e∈E/\e.id=id:=by
 induction E with
 | nil=>simp [find] at h
 | cons x r ih =>
  by_cases hk:id=x.id
  ·simp [find,hk] at h;subst h;exact⟨by simp,hk.symm⟩
  ·simp only [find,hk,if_false] at h;exact⟨by simp [(ih h).1],(ih h).2⟩
theorem Q8K {E:List (En α)} {id:Int} (h:find E id=none):∀e∈E,e.id≠id:=by
 induction E with
 | nil=>simp
 | cons x r ih =>
  by_cases hk:id=x.id
  ·simp [find,hk] at h
  ·simp only [find,hk,if_false] at h;intro e he;rcases J2m.1 he with rfl|he
   ·exact fun h'=>hk h'.symm
   ·exact ih h e he
theorem Q2a (E:List (En α)) (x:En α) (id:Int):find (E++[x]) id=match find E id with|some e=>some e|none=>if id=x.id then some x else none:=by
 induction E with
 | nil=>simp [find]
 | cons e r ih=>by_cases h:id=e.id <;> simp [find,h,ih]
theorem Q0i {E:List (En α)} {id:Int} {e:En α} (hf:find E id=some e) (q:α):find (upd E id q) id=some {e with q:=q}:=by
 induction E with
 | nil=>simp [find] at hf
 | cons x r ih =>
  by_cases hx:id=x.id
  ·simp only [find,hx,if_true] at hf;simp only [upd,J2k,hx,if_true,find];cases hf;rfl
  ·simp only [find,hx,if_false] at hf;have:=ih hf;have BZ:¬x.id=id:=fun e=>hx e.symm
   simp only [upd,J2k,BZ,if_false,find,hx];exact this
theorem Q0x {E:List (En α)} {id j:Int} (Aa:j≠id) (q:α):find (upd E id q) j=find E j:=by
 induction E with
 | nil=>rfl
 | cons x r ih =>
  by_cases hx:x.id=id
  ·have hj:¬j=x.id:=fun e=>Aa (e.trans hx)
   simp only [upd,J2k,hx,if_true,find];have F6:¬j=id:=Aa;simp only [F6,if_false];exact ih
  ·simp only [upd,J2k,hx,if_false,find];by_cases hj:j=x.id
   ·simp [hj]
   ·simp only [hj,if_false];exact ih
theorem Q2m {E:List (En α)} (Ae:E.Pairwise (fun a b=>a.id≠b.id)) (id x:Int):find (rem E id) x=if x=id then none else find E x:=by
 induction E with
 | nil=>simp [rem,find]
 | cons e r ih =>
  obtain⟨h1,h2⟩:=J2I.1 Ae;by_cases hk:id=e.id
  ·subst hk;simp only [rem,if_true];by_cases hx:x=e.id
   ·subst hx;simp only [if_true];cases hf:find r e.id with
    | none=>rfl
    | some y=>exact absurd (Q0b hf).2.symm (h1 y (Q0b hf).1)
   ·simp [find,hx]
  ·simp only [rem,hk,if_false,find];by_cases hx:x=e.id
   ·subst hx;simp;intro e2;exact absurd e2.symm hk
   ·simp only [hx,if_false];exact ih h2
theorem Q7Z {E:List (En α)} {id:Int} {e:En α} (h:e∈rem E id):e∈E:=by
 induction E with
 | nil=>simp [rem] at h
 | cons x r ih =>
  by_cases hk:id=x.id
  ·simp [rem,hk] at h;simp [h]
  ·simp only [rem,hk,if_false] at h;rcases J2m.1 h with rfl|h
   ·simp
   ·simp [ih h]
theorem Q1B (E:List (En α)) (id:Int):(rem E id).Sublist E:=by
 induction E with
 | nil=>simp [rem]
 | cons x r ih =>
  by_cases hk:id=x.id
  ·simp [rem,hk]
  ·simp only [rem,hk,if_false];exact ih.cons_cons x
theorem Z9P {E:List (En α)} {id:Int} {q:α} {x:En α} (h:x∈upd E id q):∃e∈E,e.b=x.b/\e.id=x.id/\((e.id=id/\x.q=q)∨(e.id≠id/\x=e)):=by
 obtain⟨e,he,rfl⟩:=J2n.1 h;by_cases hk:e.id=id
 ·exact⟨e,he,by simp [hk],by simp [hk],.inl ⟨hk,by simp [hk]⟩⟩
 ·exact⟨e,he,by simp [hk],by simp [hk],.inr ⟨hk,by simp [hk]⟩⟩
theorem Q0N {E:List (En α)} (id:Int) (q:α) {R:En α->En α->Prop} (hR:∀a b a' b':En α,a.b=a'.b->a.id=a'.id->b.b=b'.b->b.id=b'.id->R a b->R a' b') (h:E.Pairwise R):(upd E id q).Pairwise R:=by
 unfold upd;rw [J2M];refine h.imp fun {a b} Dh=>hR a b _ _ ?_ ?_ ?_ ?_ Dh <;> split <;> rfl
theorem Z1t {E:List (En α)} {id:Int} (q:α) (h:∀e∈E,e.id≠id):upd E id q=E:=by
 unfold upd
 conv=>rhs;rw [<- List.map_id E]
 exact J4q fun e he=>by simp [h e he]
theorem Z4z {E:List (En α)} (Ae:E.Pairwise (fun a b=>a.id≠b.id)) {id:Int} {e:En α} (hf:find E id=some e):upd E id e.q=E:=by
 induction E with
 | nil=>rfl
 | cons x r ih =>
  obtain⟨h1,h2⟩:=J2I.1 Ae;by_cases hx:id=x.id
  ·subst hx;simp [find] at hf;subst hf;have:=Z1t (E:=r) (id:=x.id) x.q (fun e he=>(h1 e he).symm);simp only [upd,J2k,if_true] at this ⊢;rw [this]
  ·simp only [find,hx,if_false] at hf;have BZ:¬x.id=id:=fun e=>hx e.symm
   have:=ih h2 hf;simp only [upd,J2k,BZ,if_false] at this ⊢;rw [this]
theorem upd_upd (E:List (En α)) (id:Int) (q r:α):upd (upd E id q) id r=upd E id r:=by
 unfold upd;rw [J4p]
 apply J4q
 intro e _;by_cases h:e.id=id <;> simp [h]
theorem Q3b {E:List (En α)} (Ae:E.Pairwise (fun a b=>a.id≠b.id)) {id:Int} {e:En α} (hf:find E id=some e) :
  ∃A B,E=A++e::B/\(∀q,upd E id q=A++{e with q:=q}::B)/\rem E id=A++B:=by
 induction E with
 | nil=>simp [find] at hf
 | cons x r ih =>
  obtain⟨h1,h2⟩:=J2I.1 Ae;by_cases hx:id=x.id
  ·subst hx;simp [find] at hf;subst hf;refine⟨[],r,rfl,fun q=>?_,by simp [rem]⟩;have:=Z1t (E:=r) (id:=x.id) q (fun e he=>(h1 e he).symm);simp only [upd,J2k,if_true,J4r];exact congrArg _ this
  ·simp only [find,hx,if_false] at hf;obtain⟨A,B,e1,e2,e3⟩:=ih h2 hf;refine⟨x::A,B,by rw [e1];rfl,fun q=>?_,by simp [rem,hx,e3]⟩;have BZ:¬x.id=id:=fun e=>hx e.symm
   have:=e2 q;simp only [upd,J2k,BZ,if_false,J4s] at this ⊢;rw [this]
end
def isMI (kv:List (Int×Value)):Obj->Prop:=isM (kv.map fun p=>(.int .i64 p.1,p.2))
structure CA where
 c:Nat
 bb:Nat
 size:Nat
 rv:RV
 pg:List (BM×Nat)
def Q0j (pg:List (BM×Nat)):List Value:=pg.flatMap fun x=>[ptr x.1.b,.int .i64 ((1024*x.2:Nat):Int)]
def pgH (pg:List (BM×Nat)):HL:=pg.flatMap fun x=>x.1.hl
def CA.hl (c:CA):HL:=(c.c,isC 341 [ptr c.bb,.int .i64 c.size,lvOf c.rv c.pg.length])::(rowH c.rv 343 2 (Q0j c.pg)++pgH c.pg)
structure CA.Ok (c:CA):Prop where
 rv:rvOk c.rv c.pg.length
 s0:16<=c.size
 s1:c.size<=512
 sorted:c.pg.Pairwise (fun a b=>a.2<b.2)
 lt:∀x∈c.pg,x.2<1048576
 many:∀x∈c.pg,x.1.bits.length=960/c.size
 len:c.pg.length<=1048576
theorem Q1V (pg:List (BM×Nat)) (k:Nat) (x:BM×Nat) (h:pg[k]?=some x):(Q0j pg)[k*2]?=some (ptr x.1.b)/\(Q0j pg)[k*2+1]?=some (.int .i64 ((1024*x.2:Nat):Int)):=by
 induction pg generalizing k with
 | nil=>simp at h
 | cons y r ih =>
  cases k with
  | zero=>simp at h;subst h;exact⟨rfl,rfl⟩
  | succ k =>
   have:=ih k (by simpa using h);have e1:(k+1)*2=(k*2)+1+1:=by omega
   have e2:(k+1)*2+1=(k*2+1)+1+1:=by omega
   rw [e1];exact⟨this.1,this.2⟩
theorem Q7j (pg:List (BM×Nat)):(Q0j pg).length=pg.length*2:=by
 induction pg with
 | nil=>rfl
 | cons y r ih =>
  show (_::_::Q0j r).length=_;simp [ih];omega
section
variable {w:World} {c:CA}
theorem CA.sepC (h:Sep w c.hl):Cells w c.c 341 [ptr c.bb,.int .i64 c.size,lvOf c.rv c.pg.length]:=h.cells (by simp [CA.hl])
theorem CA.sepR (h:Sep w c.hl):Sep w (rowH c.rv 343 2 (Q0j c.pg)):=h.tail.left
theorem CA.sepB (h:Sep w c.hl) (k:Nat) (x:BM×Nat) (hx:c.pg[k]?=some x):Sep w x.1.hl:=by
 refine h.sub ?_;unfold CA.hl pgH;rw [Q4v (fun x:BM×Nat=>x.1.hl) _ _ _ hx];refine List.Sublist.cons _ ?_;refine List.Sublist.trans ?_ (J2X _ _);exact (J2X _ _).trans (J2W _ _)
end
theorem Z7F {w:World} {c:CA} (h:Sep w c.hl) (ok:c.Ok):Calls prog 226 #[.pointer (some ⟨c.c,0,none⟩)] w fun r w'=>r=.returned (.int .i64 ((960/c.size:Nat):Int))/\w=w':=by
 have c1:=(CA.sepC h).cell 1 _ rfl;have s0:=ok.s0;have hd:((960:Int)/(c.size:Int))=((960/c.size:Nat):Int):=by rw [J4b];rfl
 clear h;generalize c.size=s at *
 go_enter func226,ntmps226
 go_wp2
 go_ret;exact⟨rfl,rfl⟩
def addr (size p i:Nat):Nat:=1024*p+64+i*size
theorem Q8L {w:World} {c:CA} (h:Sep w c.hl) (ok:c.Ok) (b p i:Nat) (hp:p<1048576) (hi:i<64) :
  Calls prog 225 #[.pointer (some ⟨c.c,0,none⟩),.agg #[ptr b,.int .i64 ((1024*p:Nat):Int)],.int .i64 i] w (Told w (.int .i64 ((addr c.size p i:Nat):Int))):=by
 have c1:=(CA.sepC (h.alloc (.cells #[ptr b,.int .i64 ((1024*p:Nat):Int)] 343))).cell 1 _ rfl;have b1:=(Cells.new w 343 [ptr b,.int .i64 ((1024*p:Nat):Int)]).cell 1 _ rfl;have s1:=ok.s1;have HB:Hid (Below w.heap.size w (w.alloc (.cells #[ptr b,.int .i64 ((1024*p:Nat):Int)] 343)).drew):=((Below.refl _ _).alloc (J2h _) _).drew;have hm:i*c.size<=64*512:=J3k (by omega) s1;have Dt:IntKind.i64.wrap (((1024*p:Nat):Int)+64)=((1024*p+64:Nat):Int):=by rw [Go.IntWalk.i64_in _ (by omega)];omega
 have ES:IntKind.i64.wrap ((i:Int)*(c.size:Int))=((i*c.size:Nat):Int):=by rw [<- J3l];exact Go.IntWalk.i64_in _ (by omega)
 have Je:IntKind.i64.wrap (((1024*p+64:Nat):Int)+((i*c.size:Nat):Int))=((addr c.size p i:Nat):Int):=by unfold addr;rw [Go.IntWalk.i64_in _ (by omega)];omega
 clear h ok hm;generalize addr c.size p i=r at *
 generalize i*c.size=m at *
 generalize hk:1024*p+64=k at *
 generalize 1024*p=q at *
 generalize c.size=s at *
 clear hk;have e1:(w.alloc (.cells #[ptr b,.int .i64 q] 343)).drew.cell? ⟨c.c,1,none⟩=some (.int .i64 s):=c1;have e2:(w.alloc (.cells #[ptr b,.int .i64 q] 343)).drew.cell? ⟨w.heap.size,1,none⟩=some (.int .i64 q):=b1;unfold ptr at *
 go_enter func225,ntmps225;go_wp2_with fail
 go_region_held3 (fun w'=>w'.cell? ⟨c.c,1,none⟩=some (.int .i64 s)/\w'.cell? ⟨w.heap.size,1,none⟩=some (.int .i64 q)) (first|exact⟨c1,b1⟩|exact⟨e1,e2⟩) (first|fail)
 go_wp2_with fail;go_ret;exact⟨rfl,HB.out⟩
def cmpI (x y:Int):Int:=if x<y then -1 else if y<x then 1 else 0
theorem Q6a {w:World} (x:Int):Calls prog 251 #[.int .i64 x] w fun r w'=>r=.returned (.bool false)/\w=w':=by
 have h1:(x != x)=false:=by simp
 go_enter func251,ntmps251
 go_wp2
 go_ret;exact⟨rfl,rfl⟩
theorem Z9Q {w:World} (x y:Int):Calls prog 214 #[.int .i64 x,.int .i64 y] w fun r w'=>r=.returned (.int .i64 (cmpI x y))/\w=w':=by
 unfold cmpI;by_cases h1:x<y
 ·rw [if_pos h1];go_enter func214,ntmps214;go_wp2_with (go_at_call 251;refine (Q6a _).mono ?_;rintro e w' ⟨rfl,rfl⟩);go_ret;exact⟨rfl,rfl⟩
 ·rw [if_neg h1];by_cases h2:y<x
  ·rw [if_pos h2];go_enter func214,ntmps214;go_wp2_with (go_at_call 251;refine (Q6a _).mono ?_;rintro e w' ⟨rfl,rfl⟩);go_ret;exact⟨rfl,rfl⟩
  ·rw [if_neg h2];go_enter func214,ntmps214;go_wp2_with (go_at_call 251;refine (Q6a _).mono ?_;rintro e w' ⟨rfl,rfl⟩);go_ret;exact⟨rfl,rfl⟩
theorem Z4A (w:World) (b:Value) (at_ x:Int):Calls prog 260 #[.agg #[b,.int .i64 at_],.int .i64 x] w fun r w'=>r=.returned (.int .i64 (cmpI at_ x))/\Below w.heap.size w w':=by
 have HB:Hid (Below w.heap.size w (w.alloc (.cells #[b,.int .i64 at_] 343))):=(Below.refl _ _).alloc (J2h _) _;have hc:=fun w:World=>Z9Q (w:=w) at_ x
 generalize cmpI at_ x=c at *
 go_enter func260,ntmps260;go_wp2_with (go_at_call 214;refine (hc _).mono ?_;rintro e w' ⟨rfl,rfl⟩);go_ret;exact⟨rfl,HB.out⟩
def Q0r (pg:List (BM×Nat)) (p:Nat):Nat:=(pg.filter fun x=>decide (x.2<p)).length
theorem Q4x {pg:List (BM×Nat)} (hs:pg.Pairwise (fun a b=>a.2<b.2)) (p k:Nat) (x:BM×Nat) (hx:pg[k]?=some x):(k<Q0r pg p↔x.2<p):=by
 induction pg generalizing k with
 | nil=>simp at hx
 | cons y r ih =>
  obtain⟨h1,h2⟩:=J2I.1 hs;unfold Q0r;by_cases hy:y.2<p
  ·rw [J4t (by simpa using hy),J2S];cases k with
   | zero=>simp at hx;subst hx;simp [hy]
   | succ k =>
    have:=ih h2 k (by simpa using hx);unfold Q0r at this;omega
  ·have hr:r.filter (fun x=>decide (x.2<p))=[]:=by
    rw [J4h];intro z hz;have:=h1 z hz;simp;omega
   rw [J4u (by simpa using hy),hr];have Kh:¬x.2<p:=by
    cases k with
    | zero=>simp at hx;subst hx;exact hy
    | succ k =>
     have hm:=h1 x (J4v (by simpa using hx));omega
   simp;omega
theorem Q8a (pg:List (BM×Nat)) (p:Nat):Q0r pg p<=pg.length:=J4w _ _
theorem Z9z (a b:Nat):decide (cmpI ((1024*a:Nat):Int) ((1024*b:Nat):Int)<0)=decide (a<b):=by
 unfold cmpI;by_cases h1:a<b
 ·rw [if_pos (by omega)];simp [h1]
 ·rw [if_neg (by omega)];by_cases h2:b<a
  ·rw [if_pos (by omega)];simp [h1]
  ·rw [if_neg (by omega)];simp [h1]
theorem J1k (a b:Nat):(cmpI ((1024*a:Nat):Int) ((1024*b:Nat):Int)==0)=decide (a=b):=by
 unfold cmpI;by_cases h1:a<b
 ·rw [if_pos (by omega),decide_eq_false (by omega)];rfl
 ·rw [if_neg (by omega)];by_cases h2:b<a
  ·rw [if_pos (by omega),decide_eq_false (by omega)];rfl
  ·rw [if_neg (by omega),decide_eq_true (by omega)];rfl
def Q3T (pg:List (BM×Nat)) (q:Nat):Bool:=match pg[Q0r pg q]? with|some x=>decide (x.2=q)|none=>false
def Z0p (pg:List (BM×Nat)) (q:Nat) (w:World) (r:Ending) (w':World):Prop:=r=.returned (.tuple #[.int .i64 (Q0r pg q),.bool (Q3T pg q)])/\Below w.heap.size w w'
theorem Z0q {w:World} {c:CA} (h:Sep w c.hl) (ok:c.Ok) (q:Nat) :
  Calls prog 259 #[lvOf c.rv c.pg.length,.int .i64 ((1024*q:Nat):Int),.func (.func 260) #[] #[]] w (Z0p c.pg q w):=by
 have hB:=Q8a c.pg q;have CS:=ok.len;cases AQ:c.rv with
 | none =>
  have h0:c.pg.length=0:=by have:=ok.rv;rw [AQ] at this;exact this
  have DY:c.pg=[]:=J4x h0;rw [DY];have hR:Hid (Z0p [] q w (.returned (.tuple #[.int .i64 0,.bool false])) w):=⟨rfl,Below.refl _ _⟩
  clear h ok hB CS h0 DY AQ;generalize 1024*q=x at *
  unfold lvOf;go_enter func259,ntmps259;go_wp2_with fail
  go_loop [9,10] (fun iv jv=>iv=.int .i64 0/\jv=.int .i64 0) (fun _ _=>0)
  case atStart=>exact⟨rfl,rfl⟩
  case round =>
   obtain⟨rfl,rfl⟩:=hrel;go_wp2_with fail;go_ret2;exact hR.out
 | some p =>
  obtain⟨rb,cap⟩:=p;have Cc:=CA.sepR h;rw [AQ] at Cc;have NG:rb<w.heap.size:=Cc.lt (by simp [rowH]);have HC:=Q0a (show ∀k x wr,c.pg[k]?=some x->Below w.heap.size w wr->wr.cell? ⟨rb,k*2,none⟩=some (ptr x.1.b)/\wr.cell? ⟨rb,k*2+1,none⟩=some (.int .i64 ((1024*x.2:Nat):Int)) from fun k x wr hx hb=>by
   obtain⟨e1,e2⟩:=Q1V _ _ _ hx;exact⟨(hb.cell (p:=⟨rb,k*2,none⟩) NG).trans (Q0Y Cc _ _ e1),(hb.cell (p:=⟨rb,k*2+1,none⟩) NG).trans (Q0Y Cc _ _ e2)⟩)
  have JN:=Q0a (fun k x hx=>Q4x ok.sorted q k x hx);have D5:=Q0a (show ∀(x:BM×Nat) (wr:World),Below w.heap.size w wr->Calls prog 260 #[.agg #[ptr x.1.b,.int .i64 ((1024*x.2:Nat):Int)],.int .i64 ((1024*q:Nat):Int)] wr fun r w'=>r=.returned (.int .i64 (cmpI ((1024*x.2:Nat):Int) ((1024*q:Nat):Int)))/\Below w.heap.size w w' from fun x wr hb =>
   (Z4A wr (ptr x.1.b) _ _).mono fun r w' ⟨e,Af⟩=>⟨e,hb.trans (Af.mono hb.size)⟩)
  have HF:=Q0a (show ∀wr:World,Below w.heap.size w wr->Z0p c.pg q w (.returned (.tuple #[.int .i64 (Q0r c.pg q),.bool (Q3T c.pg q)])) wr from fun wr hb=>⟨rfl,hb⟩);have Bd:Hid (∀x,c.pg[Q0r c.pg q]?=some x->Q3T c.pg q=decide (x.2=q)):=fun x hx=>by unfold Q3T;rw [hx]
  have K0:Hid (Q0r c.pg q=c.pg.length->Q3T c.pg q=false):=fun e=>by unfold Q3T;rw [e,J3W (J2h _)]
  have Dr:Hid (∀k,k<c.pg.length->∃x,c.pg[k]?=some x):=fun k hk=>⟨_,J4y hk⟩
  clear h ok Cc AQ;generalize hBB:Q0r c.pg q=B at *
  generalize Q3T c.pg q=hp at *
  generalize Iy:c.pg=pg at *
  generalize pg.length=n at *
  clear hBB Iy;unfold lvOf;go_enter func259,ntmps259;go_wp2_with fail
  go_loopw [9,10] (fun iv jv wr=>∃i j:Nat,iv=.int .i64 i/\jv=.int .i64 j/\i<=B/\B<=j/\j<=n/\Below w.heap.size w wr) (fun iv jv _=>(intOf jv).toNat-(intOf iv).toNat)
  case atStart=>exact⟨0,n,rfl,rfl,J4j _,hB,J2h _,Below.refl _ _⟩
  case round =>
   obtain⟨i,j,rfl,rfl,hi,hj,NX,hb⟩:=hrel;by_cases Ab:i<j
   ·obtain⟨k,hk⟩:∃k:Nat,k=(i+j)/2:=⟨_,rfl⟩
    have A0:((i:Int)+j)/2=(k:Int):=by omega
    have D6:i<=k:=by omega
    have O9:k<j:=by omega
    clear hk;obtain⟨x,hx⟩:=Dr.out k (by omega);obtain⟨d1,d2⟩:=HC.out k x wr hx hb;have AC:=JN.out k x hx;have AR:=D5.out x wr hb;have Do:k<n:=by omega
    have By:(0:Int)<=k:=by omega
    have U8:(k:Int)<n:=by omega
    unfold ptr at d1 AR;by_cases LG:x.2<q
    ·have hd:decide (cmpI ((1024*x.2:Nat):Int) ((1024*q:Nat):Int)<0)=true:=by rw [Z9z];simpa using LG
     have TS:=AC.2 LG;clear hx AC LG;generalize cmpI ((1024*x.2:Nat):Int) ((1024*q:Nat):Int)=cv at *
     generalize 1024*x.2=xv at *
     generalize 1024*q=qv at *
     go_wp2_with (go_at_call 260;refine AR.mono ?_;rintro e w2 ⟨rfl,Af⟩);go_roundw
     case rel=>exact⟨k+1,j,by go_num,rfl,by omega,hj,NX,Af⟩
     case measure=>simp [intOf];omega
    ·have hd:decide (cmpI ((1024*x.2:Nat):Int) ((1024*q:Nat):Int)<0)=false:=by rw [Z9z];simpa using LG
     have TS:¬k<B:=fun e=>LG (AC.1 e)
     clear hx AC LG;generalize cmpI ((1024*x.2:Nat):Int) ((1024*q:Nat):Int)=cv at *
     generalize 1024*x.2=xv at *
     generalize 1024*q=qv at *
     go_wp2_with (go_at_call 260;refine AR.mono ?_;rintro e w2 ⟨rfl,Af⟩);go_roundw
     case rel=>exact⟨i,k,rfl,rfl,hi,by omega,by omega,Af⟩
     case measure=>simp [intOf];omega
   ·obtain rfl:i=B:=by omega
    obtain rfl:j=i:=by omega
    by_cases Ce:j<n
    ·obtain⟨x,hx⟩:=Dr.out j Ce;obtain⟨d1,d2⟩:=HC.out j x wr hx hb;have AR:=D5.out x wr hb;have DF:=Bd.out x hx;have GC:=J1k x.2 q;rw [<- DF] at GC;unfold ptr at d1 AR;have He:(j:Int)<n:=by omega
     have G0:(0:Int)<=j:=by omega
     clear hx DF;generalize cmpI ((1024*x.2:Nat):Int) ((1024*q:Nat):Int)=cv at *
     generalize 1024*x.2=xv at *
     generalize 1024*q=qv at *
     go_wp2_with (go_at_call 260;refine AR.mono ?_;rintro e w2 ⟨rfl,Af⟩);go_ret2;exact HF.out _ Af
    ·have Ar:=K0.out (by omega);subst Ar;have He:¬(j:Int)<n:=by omega
     have Q7:decide ((j:Int)<n)=false:=by simpa using He
     go_wp2_with fail;go_ret2;exact HF.out _ hb
theorem Z1u {w:World} {c:CA} (h:Sep w c.hl) (ok:c.Ok) (q:Nat) :
  Calls prog 227 #[.pointer (some ⟨c.c,0,none⟩),.int .i64 ((1024*q:Nat):Int)] w (Z0p c.pg q w):=by
 have k1:=Z0q h ok q;have c2:=(CA.sepC h).cell 2 _ rfl;have NH:∃a cp,lvOf c.rv c.pg.length=.slice a c.pg.length cp:=by
  cases AQ:c.rv with
  | none=>have:=ok.rv;rw [AQ] at this;exact⟨none,0,by show Value.slice none 0 0=_;rw [show c.pg.length=0 from this]⟩
  | some p=>exact⟨_,_,rfl⟩
 obtain⟨a,cp,hv⟩:=NH;rw [hv] at k1 c2;have HQ:Hid (∀r w',Z0p c.pg q w r w'->∃i b,r=.returned (.tuple #[.int .i64 i,.bool b])/\Z0p c.pg q w (.returned (.tuple #[.int .i64 i,.bool b])) w'):=fun r w' ⟨e,hb⟩=>⟨_,_,e,rfl,hb⟩
 clear h ok hv;generalize 1024*q=x at *
 go_enter func227,ntmps227;go_wp2_with fail;refine k1.mono ?_;rintro r w1 hf;obtain⟨i,b,rfl,IQ⟩:=HQ.out _ _ hf;have Mg:=Q0a IQ;clear IQ hf;go_wp2_with fail;go_ret2;exact Mg.out
theorem Q1n {w w':World} {B:Nat} (h:Below B w w') (n:Nat):Below B w (w'.drewN n):=⟨h.os,h.tape,h.output,h.size,h.block⟩
theorem Z4B {w:World} {m:BM} (h:Sep w m.hl) (i:Nat) (hn:m.bits.length<=1048576):Calls prog 258 #[.pointer (some ⟨m.b,0,none⟩),.int .i64 i] w fun r w'=>r=.returned (.bool (m.bits[i]?.getD false))/\w=w':=by
 by_cases hi:i<m.bits.length
 ·exact Q7W h i hi hn
 ·have:=Z4v h i (.inr (by omega));rw [J3W (by omega)];exact this
def Q5B (c:CA) (a:Nat):Option (Nat×Nat):=
 match c.pg[Q0r c.pg (a/1024)]? with
 | none=>none
 | some x=>if x.2=a/1024/\64<=a%1024/\(a%1024-64)%c.size=0/\x.1.bits[(a%1024-64)/c.size]?.getD false=true then some (Q0r c.pg (a/1024),(a%1024-64)/c.size) else none
def Q5b:Option (Nat×Nat)->Value
 | none=>.tuple #[.int .i64 0,.int .i64 0,.bool false]
 | some (k,i)=>.tuple #[.int .i64 k,.int .i64 i,.bool true]
theorem Z7G {w:World} (c:CA) (a:Int) (ha:a<0) :
  Calls prog 264 #[.pointer (some ⟨c.c,0,none⟩),.int .i64 a] w fun r w'=>r=.returned (Q5b none)/\w=w':=by
 unfold Q5b;go_enter func264,ntmps264
 go_wp2
 go_ret3
 exact⟨rfl,rfl⟩
theorem Z9R {w:World} (cc s a q k:Nat) (hp:Bool) (FD:Ending->World->Prop) (n:Int) (D1:16<=s) (C2:s<=512) (ha:a<4611686018427387904) (Gk:(a:Int)/1024*1024=(q:Int)) (Gc:(a:Int)%1024-64=n) (hn:n<960)
  (k1:Calls prog 227 #[.pointer (some ⟨cc,0,none⟩),.int .i64 q] w FD) (HQ:Hid (∀r w',FD r w'->r=.returned (.tuple #[.int .i64 k,.bool hp])/\Below w.heap.size w w'))
  (HC:Hid (∀w',Below w.heap.size w w'->w'.cell? ⟨cc,1,none⟩=some (.int .i64 s)))
  (Ar:hp=false∨n<0∨(0<=n/\n%s≠0)) :
  Calls prog 264 #[.pointer (some ⟨cc,0,none⟩),.int .i64 a] w (Told w (Q5b none)):=by
 have HT:Hid (∀n w',Below w.heap.size w w'->Told w (Q5b none) (.returned (.tuple #[.int .i64 0,.int .i64 0,.bool false])) (w'.drewN n)):=fun n w' hb=>⟨rfl,Q1n hb n⟩
 by_cases h1:hp=false
 ·subst h1;clear Ar;go_enter func264,ntmps264;go_wp2_with fail;refine k1.mono ?_;rintro r w1 hf;obtain⟨rfl,hb⟩:=HQ.out _ _ hf;have c1:=HC.out _ hb;have F9:=Q0a (fun n=>HT.out n _ hb);clear hf hb;go_wp2_with fail
  go_quiet (fail)
  go_wp2_with fail
  go_ret3
  exact F9.out _
 ·have Pj:hp=true:=by cases hp <;> simp_all
  subst Pj;by_cases h2:n<0
  ·have h3:decide (n<0)=true:=by simpa using h2
   clear Ar h1;go_enter func264,ntmps264;go_wp2_with fail;refine k1.mono ?_;rintro r w1 hf;obtain⟨rfl,hb⟩:=HQ.out _ _ hf;have c1:=HC.out _ hb;have F9:=Q0a (fun n=>HT.out n _ hb);clear hf hb;go_wp2_with fail
   go_quiet (fail)
   go_wp2_with fail
   go_ret3
   exact F9.out _
  ·have h3:decide (n<0)=false:=by simpa using h2
   have h4:0<=n/\n%s≠0:=by rcases Ar with h|h|h;exact absurd h h1;exact absurd h h2;exact h
   have h5:(n.tmod (s:Int) != 0)=true:=by rw [J3Y h4.1];simpa using h4.2
   have h6:(n.tmod (s:Int)==0)=false:=by rw [J3Y h4.1];simpa using h4.2
   have h7:((s:Int)==0)=false:=by simp;omega
   have h8:(s:Int)≠0:=by omega
   obtain⟨m,hm⟩:∃m,n.tmod (s:Int)=m:=⟨_,rfl⟩
   rw [hm] at h5 h6;clear Ar h1 h4;go_enter func264,ntmps264;go_wp2_with fail;refine k1.mono ?_;rintro r w1 hf;obtain⟨rfl,hb⟩:=HQ.out _ _ hf;have c1:=HC.out _ hb;have F9:=Q0a (fun n=>HT.out n _ hb);clear hf hb;go_wp2_with fail
   go_quiet (fail)
   go_wp2_with fail
   go_ret3
   exact F9.out _
theorem Z7H {w:World} (cc s a q k rb np cap b:Nat) (FD:Ending->World->Prop) (n i:Nat) (v:Bool) (D1:16<=s) (C2:s<=512) (ha:a<4611686018427387904) (Gk:(a:Int)/1024*1024=(q:Int)) (Gc:(a:Int)%1024-64=n) (hn:n<960) (hm:n%s=0) (hi:n/s=i) (hk:k<np) (Th:np<=1048576)
  (k1:Calls prog 227 #[.pointer (some ⟨cc,0,none⟩),.int .i64 q] w FD) (HQ:Hid (∀r w',FD r w'->r=.returned (.tuple #[.int .i64 k,.bool true])/\Below w.heap.size w w'))
  (HC:Hid (∀w',Below w.heap.size w w'->w'.cell? ⟨cc,1,none⟩=some (.int .i64 s)/\w'.cell? ⟨cc,2,none⟩=some (.slice (some ⟨rb,0,none⟩) np cap)/\w'.cell? ⟨rb,k*2,none⟩=some (.pointer (some ⟨b,0,none⟩)) /\
   ∀n,Calls prog 258 #[.pointer (some ⟨b,0,none⟩),.int .i64 i] (w'.drewN n) fun r w''=>r=.returned (.bool v)/\∃m,w''=w'.drewN m)) :
  Calls prog 264 #[.pointer (some ⟨cc,0,none⟩),.int .i64 a] w (Told w (Q5b (if v then some (k,i) else none))):=by
 have Ig:(n:Int).tmod (s:Int)=0:=by rw [J3Y (by omega)];omega
 have FH:(n:Int).tdiv (s:Int)=(i:Int):=by rw [J3X (by omega),<- hi];exact (J4b n s).symm
 have h7:((s:Int)==0)=false:=by simp;omega
 have h8:(s:Int)≠0:=by omega
 have By:(0:Int)<=k:=by omega
 have A0:(k:Int)<np:=by omega
 have h3:decide ((n:Int)<0)=false:=by simp
 have h9:(i:Int)<1024:=by have:=J3N n s;omega
 have NC:(0:Int)<=i:=by omega
 clear hm hi hn;obtain⟨z,hz⟩:∃z:Int,z=n:=⟨_,rfl⟩
 rw [<- hz] at Ig FH h3 Gc;clear hz;cases v with
 | false =>
  have HT:Hid (∀n w',Below w.heap.size w w'->Told w (Q5b (if false=true then some (k,i) else none)) (.returned (.tuple #[.int .i64 0,.int .i64 0,.bool false])) (w'.drewN n)):=fun n w' hb=>⟨rfl,Q1n hb n⟩
  go_enter func264,ntmps264;go_wp2_with fail;refine k1.mono ?_;rintro r w1 hf;obtain⟨rfl,hb⟩:=HQ.out _ _ hf;obtain⟨c1,c2,c3,B0⟩:=HC.out _ hb;have F9:=Q0a (fun n=>HT.out n _ hb);have HG:=Q0a B0;clear hf hb B0;go_wp2_with fail
  go_quiet ((go_at_call 258;exact HG.out _))
  go_wp2_with fail
  go_ret3
  exact F9.out _
 | true =>
  have HT:Hid (∀n w',Below w.heap.size w w'->Told w (Q5b (if true=true then some (k,i) else none)) (.returned (.tuple #[.int .i64 k,.int .i64 i,.bool true])) (w'.drewN n)):=fun n w' hb=>⟨rfl,Q1n hb n⟩
  go_enter func264,ntmps264;go_wp2_with fail;refine k1.mono ?_;rintro r w1 hf;obtain⟨rfl,hb⟩:=HQ.out _ _ hf;obtain⟨c1,c2,c3,B0⟩:=HC.out _ hb;have F9:=Q0a (fun n=>HT.out n _ hb);have HG:=Q0a B0;clear hf hb B0;go_wp2_with fail
  go_quiet ((go_at_call 258;exact HG.out _))
  go_wp2_with fail
  go_quiet (fail)
  go_wp2_with fail
  go_ret3
  exact F9.out _
theorem Q8b {w:World} {c:CA} (h:Sep w c.hl) (ok:c.Ok) (a:Nat) (ha:a<4611686018427387904) :
  Calls prog 264 #[.pointer (some ⟨c.c,0,none⟩),.int .i64 a] w (Told w (Q5b (Q5B c a))):=by
 have k1:=Z1u h ok (a/1024);have s0:=ok.s0;have s1:=ok.s1;have CS:=ok.len;have Gk:(a:Int)/1024*1024=((1024*(a/1024):Nat):Int):=by omega
 have AR:c.c<w.heap.size:=h.lt (by simp [CA.hl]);have Fi:=(CA.sepC h).cell 1 _ rfl;have Gz:=(CA.sepC h).cell 2 _ rfl;have Jk:Hid (∀w',Below w.heap.size w w'->w'.cell? ⟨c.c,1,none⟩=some (.int .i64 c.size)):=fun w' hb=>(hb.cell (p:=⟨c.c,1,none⟩) AR).trans Fi
 have HQ:Hid (∀r w',Z0p c.pg (a/1024) w r w'->r=.returned (.tuple #[.int .i64 (Q0r c.pg (a/1024)),.bool (Q3T c.pg (a/1024))])/\Below w.heap.size w w'):=fun r w' hf=>hf
 have no:∀hp,Q3T c.pg (a/1024)=hp->(hp=false∨(a:Int)%1024-64<0∨(0<=(a:Int)%1024-64/\((a:Int)%1024-64)%(c.size:Int)≠0))->Calls prog 264 #[.pointer (some ⟨c.c,0,none⟩),.int .i64 a] w (Told w (Q5b none)):=fun hp _ Ar =>
  Z9R c.c c.size a (1024*(a/1024)) (Q0r c.pg (a/1024)) (Q3T c.pg (a/1024)) _ _ s0 s1 ha Gk rfl (by omega) k1 HQ Jk (by subst hp;exact Ar)
 unfold Q5B;cases hx:c.pg[Q0r c.pg (a/1024)]? with
 | none=>exact no false (by unfold Q3T;rw [hx]) (.inl rfl)
 | some x =>
  have hh:Q3T c.pg (a/1024)=decide (x.2=a/1024):=by unfold Q3T;rw [hx]
  by_cases h1:x.2=a/1024
  ·have ht:Q3T c.pg (a/1024)=true:=by rw [hh];simpa using h1
   by_cases h2:64<=a%1024
   ·have hz:(a:Int)%1024-64=((a%1024-64:Nat):Int):=by omega
    by_cases h3:(a%1024-64)%c.size=0
    ·have hk:=(J2y.1 hx).1;obtain⟨rb,cap,AQ⟩:∃rb cap,c.rv=some (rb,cap):=by
      cases e:c.rv with
      | none=>have:=ok.rv;rw [e] at this;have:c.pg.length=0:=this;omega
      | some p=>exact⟨p.1,p.2,rfl⟩
     have Cc:=CA.sepR h;rw [AQ] at Cc;have NG:rb<w.heap.size:=Cc.lt (by simp [rowH]);have FT:=CA.sepB h _ x hx;have Kc:=ok.many x (J4v hx);have Ie:x.1.bits.length<=1048576:=by rw [Kc];have:=J3N 960 c.size;omega
     obtain⟨e1,_⟩:=Q1V _ _ _ hx;have:=Z7H c.c c.size a (1024*(a/1024)) (Q0r c.pg (a/1024)) rb c.pg.length cap x.1.b _ (a%1024-64) ((a%1024-64)/c.size) (x.1.bits[(a%1024-64)/c.size]?.getD false) s0 s1 ha Gk hz (by omega) h3 rfl hk CS k1 (fun r w' hf=>by rw [<- ht];exact hf) (fun w' hb=>⟨Jk w' hb,by
      have:=(hb.cell (p:=⟨c.c,2,none⟩) AR).trans Gz;rw [AQ] at this;exact this,(hb.cell (p:=⟨rb,_,none⟩) NG).trans (Q0Y Cc _ _ e1),fun n=>(Z4B ((FT.grown hb).sep.drewN n) _ Ie).mono fun r w'' ⟨e,e2⟩=>⟨e,n,e2.symm⟩⟩)
     refine this.mono fun r w' hr=>?_
     simp only [h1,h2,h3,true_and];exact hr
    ·have:=no true ht (.inr (.inr ⟨by omega,by rw [hz];intro e;exact h3 (by exact_mod_cast e)⟩))
     simpa [h3] using this
   ·have:=no true ht (.inr (.inl (by omega)))
    simpa [h2] using this
  ·have:=no false (by rw [hh];simpa using h1) (.inl rfl)
   simpa [h1] using this
theorem Z9S {w:World} {c:CA} (h:Sep w c.hl) (ok:c.Ok) (a:Nat) (ha:a<4611686018427387904) :
  Calls prog 263 #[.pointer (some ⟨c.c,0,none⟩),.int .i64 a] w (Told w (.bool (Q5B c a).isSome)):=by
 have k1:=Q8b h ok a ha;clear h ok;generalize Q5B c a=o at *
 generalize c.c=cc at *
 have HQ:Hid (∀r w',Told w (Q5b o) r w'->∃i j:Int,r=.returned (.tuple #[.int .i64 i,.int .i64 j,.bool o.isSome])/\Told w (.bool o.isSome) (.returned (.bool o.isSome)) w'):=fun r w' ⟨e,hb⟩=>by
  cases o with
  | none=>exact⟨0,0,e,rfl,hb⟩
  | some p=>exact⟨p.1,p.2,e,rfl,hb⟩
 generalize o.isSome=v at *
 go_enter func263,ntmps263;go_wp2_with fail;refine k1.mono ?_;rintro r w1 hf;obtain⟨i,j,rfl,IQ⟩:=HQ.out _ _ hf;have Mg:=Q0a IQ;clear IQ hf;go_wp2_with fail;go_ret;exact Mg.out
theorem Q3z {P:Program} (w:World) (dT sT ty elem:TypeId) (size g o dLen dCap:Nat) (a:Addr) (sLen sCap m:Nat) (Ag:Array Value) (t:TypeId) (cs:List Value)
  (hu:P.underlying dT=some (.slice elem)) (hs:(P.info? elem).map (·.size)=some size)
  (hg:w.heap[g]?=some (.cells Ag t (0,0))) (hm:Nat.min sLen dLen=m) (hn:cs.length=m*size)
  (CV:∀j v,cs[j]?=some v->w.cell? (a.add j)=some v) (Am:o+cs.length<=Ag.size) (h1:∀v∈cs,v.oneCell'=true) :
  (Builtin.copy_ #[dT,sT] ty #[.slice (some ⟨g,o,none⟩) dLen dCap,.slice (some a) sLen sCap]).run P w =
   .ok (.int .i64 m) (w.setRow g (Ag.toList.take o++cs++Ag.toList.drop (o+cs.length)).toArray):=by
 have hl:=run_loadCells_list (P:=P) w a cs CV;have Ap:=run_storeCells_at P g o t cs 0 Ag w hg (by simpa using Am) h1;rw [hn] at hl;cases hq:P.info? elem with
 | none=>simp [hq] at hs
 | some i =>
  have hi:i.size=size:=by simpa [hq] using hs
  simp [Builtin.copy_,run_underlying hu,Builtin.lenOf,Builtin.firstCells,sizeOf,typeInfo,hq,hi,hm,hl,Ap,goInt]
theorem Z4C (Ag:List Value) (xs news:List Value) (p:Nat) (hx:Ag.take xs.length=xs) (hp:p<=xs.length) (hl:xs.length+news.length<=Ag.length) :
  let c1:=Ag.take (p+news.length)++xs.drop p++Ag.drop (p+news.length+(xs.drop p).length)
  let c2:=c1.take p++news++c1.drop (p+news.length)
  c1.length=Ag.length/\c2.length=Ag.length/\c2.take (xs.length+news.length)=xs.take p++news++xs.drop p:=by
 have e0:(xs.drop p).length=xs.length-p:=J4z;have e1:(Ag.take (p+news.length)++xs.drop p++Ag.drop (p+news.length+(xs.drop p).length)).length=Ag.length:=by
  simp only [J2R,J4A,J4z];omega
 refine⟨e1,?_,?_⟩
 ·simp only [J2R,J4A,J4z];omega
 ·have ht:(Ag.take (p+news.length)++xs.drop p++Ag.drop (p+news.length+(xs.drop p).length)).take p=xs.take p:=by
   rw [J3h,J4B (by simp;omega),J4C,show min p (p+news.length)=p by omega];rw [<- hx,J4C,show min p xs.length=p by omega]
  have hd:(Ag.take (p+news.length)++xs.drop p++Ag.drop (p+news.length+(xs.drop p).length)).drop (p+news.length)=xs.drop p++Ag.drop (p+news.length+(xs.drop p).length):=by
   rw [J3h,J4D (by simp;omega),J4E (by simp;omega),J4r]
  show List.take (xs.length+news.length) _=_;rw [ht,hd,<- J3h];have e2:(xs.take p++news++xs.drop p).length=xs.length+news.length:=by simp;omega
  rw [<- e2,J4F]
def InsP (T:TypeId) (n:Nat) (blk:Option Nat) (ys:List Value) (w:World) (r:Ending) (w':World):Prop:=
 ∃v',r=.returned v'/\w'.ownsRow 0 T 2 v' (n+1) ys/\w.grownBy w' blk/\(v'.ownBlock=blk∨v'.ownBlock=some w.heap.size)
theorem infopage:(prog.info? 343).map (fun i=>(i.zero,i.size,i.bytes))=some (some (.agg #[.pointer none,.int .i64 0]),2,16):=by kernel_rfl
theorem Z9T {w:World} {rv:RV} {n vb:Nat} {xs:List Value} {v0 v1:Value} (Ak:w.ownsRow 0 343 2 (lvOf rv n) n xs) (AY:rvOk rv n) (hn:n<=1048576) (b0:w.cell? ⟨vb,0,none⟩=some v0) (b1:w.cell? ⟨vb,1,none⟩=some v1) (o0:v0.oneCell'=true) (o1:v1.oneCell'=true) :
  Calls prog 228 #[lvOf rv n,.int .i64 n,.slice (some ⟨vb,0,none⟩) 1 1] w (InsP 343 n (lvOf rv n).ownBlock (xs++[v0,v1]) w):=by
 obtain⟨i0,hi,BN,Bt,Bp⟩:=info_parts infopage;have J2:∀j u,[v0,v1][j]?=some u->w.cell? ((⟨vb,0,none⟩:Addr).add j)=some u:=by
  intro j u hj
  match j,hj with
  | 0,hj=>cases hj;exact b0
  | 1,hj=>cases hj;exact b1
 obtain⟨v',w',hr,q1,q2,q3,q4⟩:=run_append_own_at (P:=prog) w 0 339 339 343 i0 (.agg #[.pointer none,.int .i64 0]) 2 16 underlying339 hi BN Bt Bp rfl (by decide) (lvOf rv n) n xs Ak ⟨vb,0,none⟩ 1 1 [v0,v1] rfl J2 (by simp [o0,o1]) (by unfold maxLen;omega) (by omega) (J4j _);have HR:Hid (InsP 343 n (lvOf rv n).ownBlock (xs++[v0,v1]) w (.returned v') w'):=⟨v',rfl,q1,q2,q4⟩
 clear hi BN Bt Bp Ak q1 q2 q3 q4 J2;cases rv with
 | none =>
  have h0:n=0:=AY;subst h0;unfold lvOf at *
  go_enter func228,ntmps228;go_wp2_with (at_builtin;refine Lib.wpList_append_run _ rfl _ _ _ _ rfl _ _ rfl rfl _ _ hr ?_);go_ret;exact HR.out
 | some p =>
  obtain⟨g,cap⟩:=p;have WI:n<=cap:=AY.1;have Dx:cap<=9223372036854775807:=by have:=AY.2;unfold maxLen at this;omega
  clear AY;unfold lvOf at *
  go_enter func228,ntmps228;go_wp2_with (at_builtin;refine Lib.wpList_append_run _ rfl _ _ _ _ rfl _ _ rfl rfl _ _ hr ?_)
  all_goals (go_ret;exact HR.out)
theorem Z4D {w:World} {g cap n i vb:Nat} {xs:List Value} {Ag:Array Value} {v0 v1:Value} (hg:w.heap[g]?=some (.cells Ag 343 (0,0))) (BB:Ag.size=cap*2) (AW:Ag.toList.take xs.length=xs) (hx:xs.length=n*2) (hi:i<n) (hn:n<=1048576) (hc:n+1<=cap) (Dx:cap<=maxLen)
  (hv:Cells w vb 343 [v0,v1]) (FX:vb≠g) (ox:∀v∈xs,v.oneCell'=true) (o0:v0.oneCell'=true) (o1:v1.oneCell'=true) :
  Calls prog 228 #[.slice (some ⟨g,0,none⟩) n cap,.int .i64 i,.slice (some ⟨vb,0,none⟩) 1 1] w (InsP 343 n (some g) (xs.take (i*2)++[v0,v1]++xs.drop (i*2)) w):=by
 have B7:(prog.info? 343).map (·.size)=some 2:=by
  obtain⟨i0,hi,BN,Bt,Bp⟩:=info_parts infopage;rw [hi];simp [Bt]
 have AR:Ag.toList.length=cap*2:=by simpa using BB
 have Ec:∀lb cb,(callFunc 261 #[.slice (some ⟨vb,0,none⟩) 1 1,.slice (some ⟨g,(i+1)*2,none⟩) lb cb]).run prog w=.ok (.value (.bool false)) w:=fun lb cb=>by
  rw [run_callFunc_extern func261 (by kernel_rfl) (by kernel_rfl) (by kernel_rfl) (e:=Extern.SlicesOverlaps.overlaps #[339,339] #[4]) (by kernel_rfl),
   Lib.run_overlaps_apart w 339 4 343 underlying339 2 sizeOf343 ⟨vb,0,none⟩ ⟨g,(i+1)*2,none⟩ 1 1 lb cb FX 343 343 2 Ag.size (by simp [World.shape?,show w.heap[vb]?=_ from hv]) (by simp [World.shape?,hg]) (by omega) (hv.free 0) (hv.free 2)]
  rfl
 have EK:(xs.drop (i*2)).length=(n-i)*2:=by rw [J4z,hx];omega
 have JC:=Z4C Ag.toList xs [v0,v1] (i*2) AW (by omega) (by simp only [J2S,J4G];omega);simp only [J2S,J4G,Nat.reduceAdd] at JC;obtain⟨e1,e2,e3⟩:=JC;obtain⟨c1,Cf⟩:∃c1:List Value,c1=Ag.toList.take (i*2+2)++xs.drop (i*2)++Ag.toList.drop (i*2+2+(xs.drop (i*2)).length):=⟨_,rfl⟩
 rw [<- Cf] at e1 e2 e3;obtain⟨c2,B6⟩:∃c2:List Value,c2=c1.take (i*2)++[v0,v1]++c1.drop (i*2+2):=⟨_,rfl⟩
 rw [<- B6] at e2 e3;have Az:∀j v,xs[j]?=some v->w.drew.cell? ⟨g,j,none⟩=some v:=fun j v hj=>by
  have:Ag.toList[j]?=some v:=by
   rw [<- AW] at hj;rw [J4k] at hj;split at hj
   ·exact hj
   ·cases hj
  rw [J4H] at this;show w.cell? _=_;simp [World.cell?,hg,this]
 have Pu:∀ty dc sc,(Builtin.copy_ #[339,339] ty #[.slice (some ⟨g,(i+1)*2,none⟩) (n-i) dc,.slice (some ⟨g,i*2,none⟩) (n+1-i) sc]).run prog w.drew=.ok (.int .i64 ((n-i:Nat):Int)) (w.drew.setRow g c1.toArray):=fun ty dc sc=>by
  have:=Q3z (P:=prog) w.drew 339 339 ty 343 2 g ((i+1)*2) (n-i) dc ⟨g,i*2,none⟩ (n+1-i) sc (n-i) Ag 343 (xs.drop (i*2)) underlying339 B7 hg (by simp only [J4I];split <;> omega) EK
   (fun j v hj=>by rw [Addr.add_lit];exact Az _ v (by rwa [J4J] at hj)) (by rw [EK,BB];omega) (fun v hv=>ox v (J4K hv))
  rw [show (i+1)*2=i*2+2 by omega] at this ⊢;rw [this,Cf]
 have Cz:(w.drew.setRow g c1.toArray).heap[g]?=some (.cells c1.toArray 343 (0,0)):=setRow_heap w.drew g Ag _ _ _ hg;have OW:∀ty dc,(Builtin.copy_ #[339,339] ty #[.slice (some ⟨g,i*2,none⟩) (n+1-i) dc,.slice (some ⟨vb,0,none⟩) 1 1]).run prog (w.drew.setRow g c1.toArray)=.ok (.int .i64 1) ((w.drew.setRow g c1.toArray).setRow g c2.toArray):=fun ty dc=>by
  have:=Q3z (P:=prog) (w.drew.setRow g c1.toArray) 339 339 ty 343 2 g (i*2) (n+1-i) dc ⟨vb,0,none⟩ 1 1 1 c1.toArray 343 [v0,v1] underlying339 B7 Cz (by simp only [J4I];split <;> omega) rfl
   (fun j v hj=>by
    rw [Addr.add_lit,J4L];have hb:(w.drew.setRow g c1.toArray).heap[vb]?=w.heap[vb]?:=setRow_other w.drew g vb _ FX;have:(w.drew.setRow g c1.toArray).cell? ⟨vb,j,none⟩=w.cell? ⟨vb,j,none⟩:=by simp [World.cell?,hb]
    rw [this];exact hv.cell j v hj) (by simp only [J2S,J4G,J4M];omega) (by simp [o0,o1])
  rw [this,B6];rfl
 have HR:Hid (InsP 343 n (some g) (xs.take (i*2)++[v0,v1]++xs.drop (i*2)) w (.returned (.slice (some ⟨g,0,none⟩) (n+1) cap)) ((w.drew.setRow g c1.toArray).setRow g c2.toArray)):=by
  have B8:((w.drew.setRow g c1.toArray).setRow g c2.toArray).heap[g]?=some (.cells c2.toArray 343 (0,0)):=setRow_heap _ g c1.toArray _ _ _ Cz;refine⟨_,rfl,⟨by simp only [J2R,J4A,J2S,J4G];omega,.inr ⟨g,cap,c2.toArray,rfl,J4j _,B8,hc,Dx,by simp only [J4M];omega,?_⟩⟩,⟨rfl,rfl,rfl,by simp,fun k _ hk=>?_⟩,.inl rfl⟩
  ·rw [<- e3];congr 1;simp only [hx]
   first|omega|simp
  ·have A7:k≠g:=fun e=>hk (by rw [e])
   rw [setRow_other _ g k _ A7,setRow_other _ g k _ A7];rfl
 clear Az hg BB AW Cz e1 e2 e3 AR ox EK hx Cf B6 hv;generalize xs.take (i*2)++[v0,v1]++xs.drop (i*2)=ys at *
 generalize c1.toArray=a1 at *
 generalize c2.toArray=a2 at *
 have QU:cap<=9223372036854775807:=by unfold maxLen at Dx;omega
 have Bp:¬((i:Int)=(n:Int)):=by omega
 have Dt:IntKind.i64.wrap ((i:Int)+1)=(i:Int)+1:=Go.IntWalk.i64_in _ (by omega);have ES:IntKind.i64.wrap ((n:Int)+1)=(n:Int)+1:=Go.IntWalk.i64_in _ (by omega);have T4:((i:Int)+1).toNat=i+1:=by omega
 have Av:(0:Int)<=(i:Int)+1:=by omega
 have Ce:i<=n:=by omega
 have As:(i:Int)<=(n:Int)+1:=by omega
 have Af:¬(cap=i+1):=by omega
 have A5:¬(cap=i):=by omega
 have mixed:prog.follows .mixedOrders=true:=by kernel_rfl
 go_enter func228,ntmps228;go_wp2_with (simp only [Ec])
 go_region_law_o (refine step_copy_runI rfl _ _ 339 339 rfl _ _ (by simp [Act.eval,Act.put]) (by simp [Act.eval,Act.put]) (Pu _ _ _) ?_)
 go_wp2_with (at_builtin;refine wpList_copy_runI _ rfl _ _ 339 339 rfl _ _ rfl rfl (OW _ _) ?_);go_ret;exact HR.out
theorem Z2z (row:List Value) (xs news:List Value) (p:Nat) (hp:p<=xs.length) (hr:row.take p=xs.take p) (hl:xs.length+news.length<=row.length) :
  let c1:=row.take p++news++row.drop (p+news.length)
  let c2:=c1.take (p+news.length)++xs.drop p++c1.drop (p+news.length+(xs.drop p).length)
  c1.length=row.length/\c2.length=row.length/\c2.take (xs.length+news.length)=xs.take p++news++xs.drop p:=by
 have e0:(xs.drop p).length=xs.length-p:=J4z;have e1:(row.take p++news++row.drop (p+news.length)).length=row.length:=by
  simp only [J2R,J4A,J4z];omega
 refine⟨e1,?_,?_⟩
 ·simp only [J2R,J4A,J4z];omega
 ·have ht:(row.take p++news++row.drop (p+news.length)).take (p+news.length)=xs.take p++news:=by
   have:(row.take p++news).length=p+news.length:=by simp;omega
   rw [<- this,J4F,hr]
  show List.take (xs.length+news.length) _=_;rw [ht];have e2:(xs.take p++news++xs.drop p).length=xs.length+news.length:=by simp;omega
  rw [<- e2,J4F]
theorem Z7I {w:World} {g n i vb:Nat} {xs:List Value} {Ag:Array Value} {v0 v1:Value} (hg:w.heap[g]?=some (.cells Ag 343 (0,0))) (AW:Ag.toList.take xs.length=xs) (hx:xs.length=n*2) (hi:i<n) (hn:n<=1048576)
  (hv:Cells w vb 343 [v0,v1]) (ox:∀v∈xs,v.oneCell'=true) (o0:v0.oneCell'=true) (o1:v1.oneCell'=true) :
  Calls prog 228 #[.slice (some ⟨g,0,none⟩) n n,.int .i64 i,.slice (some ⟨vb,0,none⟩) 1 1] w (InsP 343 n (some g) (xs.take (i*2)++[v0,v1]++xs.drop (i*2)) w):=by
 obtain⟨i0,BJ,BN,Bt,Ni⟩:=info_parts infopage;have B7:(prog.info? 343).map (·.size)=some 2:=by rw [BJ];simp [Bt]
 have VG:g<w.heap.size:=lt_of_block hg;have UB:vb<w.heap.size:=lt_of_block hv;have Az:∀j v,xs[j]?=some v->w.cell? ⟨g,j,none⟩=some v:=fun j v hj=>by
  have:Ag.toList[j]?=some v:=by
   rw [<- AW] at hj;rw [J4k] at hj;split at hj
   ·exact hj
   ·cases hj
  rw [J4H] at this;simp [World.cell?,hg,this]
 have Ca:(Builtin.firstCells i0.size i (.slice (some ⟨g,0,none⟩) i n)).run prog w.drew=.ok (xs.take (i*2)).toArray w.drew:=by
  rw [Bt];exact run_firstCells_some w.drew 2 i ⟨g,0,none⟩ i n (xs.take (i*2)) (by rw [J4A];omega) (fun j v hj=>by
   rw [Addr.add_lit,J4L];rw [J4k] at hj;split at hj
   ·exact Az j v hj
   ·cases hj)
 have OC:(n:Int)+1-(i:Int)=((n+1-i:Nat):Int):=by omega
 have D6:i+(n+1-i)=n+1:=by omega
 obtain⟨G,hG⟩:∃G,G=grownCap w (n+1) n 343:=⟨_,rfl⟩
 have Uj:n+1<=G:=by rw [hG];exact grownCap_ge w _ _ _
 have SU:G<=maxLen:=by rw [hG];exact grownCap_le_maxLen w (n+1) n _ (by unfold maxLen;omega)
 obtain⟨ROW,I7⟩:∃ROW:Array Value,ROW=(xs.take (i*2)).toArray++Builtin.zeroCells (Value.agg #[.pointer none,.int .i64 0]).cells (n+1-i)++Builtin.zeroCells (Value.agg #[.pointer none,.int .i64 0]).cells (G-(n+1)):=⟨_,rfl⟩
 have VT:∀ty,(Builtin.append_ #[339,3] ty #[.slice (some ⟨g,0,none⟩) i n,.int .i64 ((n:Int)+1-(i:Int))]).run prog w =
   .ok (.slice (some ⟨w.heap.size,0,none⟩) (n+1) G) (w.drew.alloc (.cells ROW 343)):=fun ty=>by
  have h:=Lib.run_append_grow_zeros w 339 3 ty 343 i0 _ .i64 .i64 underlying339 underlying3 BJ BN (some ⟨g,0,none⟩) i n (xs.take (i*2)) Ca (n+1-i) (by omega) (by omega) (by omega) (by omega) (by rw [Ni];omega) (by rw [Ni,D6];exact growslice_fits (by omega) (by omega));rw [D6] at h;rw [OC,I7,hG];exact h
 have RY:ROW.size=G*2:=by
  rw [I7];simp only [Array.size_append,size_zeroCells,J4M,J4A,show (Value.agg #[.pointer none,.int .i64 0]).cells.size=2 from rfl];omega
 have Tb:ROW.toList.take (i*2)=xs.take (i*2):=by
  rw [I7];simp only [Array.toList_append,J3h];rw [J4B (by simp;omega)];simp [List.take_take]
 have UL:ROW.toList.length=G*2:=by simpa using RY
 have JC:=Z2z ROW.toList xs [v0,v1] (i*2) (by omega) Tb (by simp only [J2S,J4G];omega);simp only [J2S,J4G,Nat.reduceAdd] at JC;obtain⟨e1,e2,e3⟩:=JC;obtain⟨c1,Cf⟩:∃c1:List Value,c1=ROW.toList.take (i*2)++[v0,v1]++ROW.toList.drop (i*2+2):=⟨_,rfl⟩
 rw [<- Cf] at e1 e2 e3;obtain⟨c2,B6⟩:∃c2:List Value,c2=c1.take (i*2+2)++xs.drop (i*2)++c1.drop (i*2+2+(xs.drop (i*2)).length):=⟨_,rfl⟩
 rw [<- B6] at e2 e3;have EK:(xs.drop (i*2)).length=(n-i)*2:=by rw [J4z,hx];omega
 have hN:∀W:World,W.heap=(w.alloc (.cells ROW 343)).heap->W.heap[w.heap.size]?=some (.cells ROW 343 (0,0))/\(∀k,k<w.heap.size->W.heap[k]?=w.heap[k]?):=fun W hW=>by
  rw [hW];exact⟨heap_alloc_new w _,fun k hk=>heap_alloc_old w _ hk⟩
 have M2:∀W:World,W.heap=(w.alloc (.cells ROW 343)).heap->∀ty dc,(Builtin.copy_ #[339,339] ty #[.slice (some ⟨w.heap.size,i*2,none⟩) (n+1-i) dc,.slice (some ⟨vb,0,none⟩) 1 1]).run prog W=.ok (.int .i64 1) (W.setRow w.heap.size c1.toArray):=fun W hW ty dc=>by
  obtain⟨n1,n2⟩:=hN W hW;have:=Q3z (P:=prog) W 339 339 ty 343 2 w.heap.size (i*2) (n+1-i) dc ⟨vb,0,none⟩ 1 1 1 ROW 343 [v0,v1] underlying339 B7 n1 (by simp only [J4I];split <;> omega) rfl
   (fun j v hj=>by
    rw [Addr.add_lit,J4L];have:W.cell? ⟨vb,j,none⟩=w.cell? ⟨vb,j,none⟩:=by simp [World.cell?,n2 vb UB]
    rw [this];exact hv.cell j v hj) (by simp only [J2S,J4G];omega) (by simp [o0,o1])
  rw [this,Cf];rfl
 have Pm:∀W:World,W.heap=((w.alloc (.cells ROW 343)).setRow w.heap.size c1.toArray).heap->W.heap[w.heap.size]?=some (.cells c1.toArray 343 (0,0))/\(∀k,k<w.heap.size->W.heap[k]?=w.heap[k]?):=fun W hW=>by
  obtain⟨n1,n2⟩:=hN _ rfl;rw [hW];exact⟨setRow_heap _ w.heap.size ROW _ _ _ n1,fun k hk=>(setRow_other _ _ k _ (by omega)).trans (n2 k hk)⟩
 have Np:∀W:World,W.heap=((w.alloc (.cells ROW 343)).setRow w.heap.size c1.toArray).heap->∀ty dc sc,(Builtin.copy_ #[339,339] ty #[.slice (some ⟨w.heap.size,(i+1)*2,none⟩) (n-i) dc,.slice (some ⟨g,i*2,none⟩) (n-i) sc]).run prog W=.ok (.int .i64 ((n-i:Nat):Int)) (W.setRow w.heap.size c2.toArray):=fun W hW ty dc sc=>by
  obtain⟨n1,n2⟩:=Pm W hW;have:=Q3z (P:=prog) W 339 339 ty 343 2 w.heap.size ((i+1)*2) (n-i) dc ⟨g,i*2,none⟩ (n-i) sc (n-i) c1.toArray 343 (xs.drop (i*2)) underlying339 B7 n1 (by simp only [J4I];split <;> omega) EK
   (fun j v hj=>by
    rw [Addr.add_lit];have:W.cell? ⟨g,i*2+j,none⟩=w.cell? ⟨g,i*2+j,none⟩:=by simp [World.cell?,n2 g VG]
    rw [this];exact Az _ v (by rwa [J4J] at hj)) (by rw [EK];simp only [J4M];omega) (fun v hv=>ox v (J4K hv))
  rw [show (i+1)*2=i*2+2 by omega] at this ⊢;rw [this,B6]
 have HR:Hid (∀w':World,w'.heap=(((w.alloc (.cells ROW 343)).setRow w.heap.size c1.toArray).setRow w.heap.size c2.toArray).heap->w'.os=w.os->w'.tape=w.tape->w'.output=w.output->InsP 343 n (some g) (xs.take (i*2)++[v0,v1]++xs.drop (i*2)) w (.returned (.slice (some ⟨w.heap.size,0,none⟩) (n+1) G)) w'):=fun w' hW h1 h2 h3=>by
  obtain⟨n1,n2⟩:=Pm _ rfl;refine⟨_,rfl,⟨by simp only [J2R,J4A,J2S,J4G];omega,.inr ⟨w.heap.size,G,c2.toArray,rfl,J4j _,by rw [hW];exact setRow_heap _ _ c1.toArray _ _ _ n1,Uj,SU,by simp only [J4M];omega,?_⟩⟩,⟨h1,h2,h3,by rw [hW];simp,fun k hk _=>?_⟩,.inr rfl⟩
  ·rw [<- e3];congr 1;simp only [hx]
   first|omega|simp
  ·rw [hW,setRow_other _ _ k _ (by omega)];exact n2 k hk
 clear Az hg AW e1 e2 e3 ox EK hx Cf B6 hv RY Tb UL hN Pm Ca hG I7 BJ BN Bt Ni B7 OC D6;generalize xs.take (i*2)++[v0,v1]++xs.drop (i*2)=ys at *
 generalize c1.toArray=a1 at *
 generalize c2.toArray=a2 at *
 have hA:=M2 (w.alloc (.cells ROW 343)).drew rfl;have hB:=Np ((w.alloc (.cells ROW 343)).drew.setRow w.heap.size a1).drew rfl;clear M2 Np;have LJ:G<=9223372036854775807:=by unfold maxLen at SU;omega
 have Bp:¬((i:Int)=(n:Int)):=by omega
 have Dt:IntKind.i64.wrap ((i:Int)+1)=(i:Int)+1:=Go.IntWalk.i64_in _ (by omega);have ES:IntKind.i64.wrap ((n:Int)+1)=(n:Int)+1:=Go.IntWalk.i64_in _ (by omega);have T4:((i:Int)+1).toNat=i+1:=by omega
 have Av:(0:Int)<=(i:Int)+1:=by omega
 have Ce:i<=n:=by omega
 have Gw:i+1<=n:=by omega
 have As:(i:Int)<=(n:Int)+1:=by omega
 have AH:(n:Int)<(n:Int)+1:=by omega
 have WD:¬(G=i):=by omega
 have VV:¬(G=i+1):=by omega
 have JI:¬(n=i):=by omega
 have mixed:prog.follows .mixedOrders=true:=by kernel_rfl
 go_enter func228,ntmps228;go_wp2_with (at_builtin;refine Lib.wpList_append_run _ rfl _ _ _ _ rfl _ _ rfl rfl _ _ (VT _) ?_)
 go_region_law_o (refine step_copy_runI rfl _ _ 339 339 rfl _ _ (by simp [Act.eval,Act.put]) (by simp [Act.eval,Act.put]) (hB _ _ _) ?_)
 go_wp2
 go_ret;exact HR.out _ rfl rfl rfl rfl
def InsD (A B:HL) (rv:RV) (n i:Nat) (xs news:List Value) (w:World) (r:Ending) (w':World):Prop:=
 ∃rv',r=.returned (lvOf rv' (n+1))/\rvOk rv' (n+1)/\Step (A++rowH rv 343 2 xs++B) (A++rowH rv' 343 2 (xs.take (i*2)++news++xs.drop (i*2))++B) w w'
theorem Z9U {w:World} {A B:HL} {rv:RV} {n i vb:Nat} {xs:List Value} {v0 v1:Value} (h:Sep w (A++rowH rv 343 2 xs++B)) (AY:rvOk rv n) (hx:xs.length=n*2) (hi:i<=n) (hn:n<=1048576)
  (hv:Cells w vb 343 [v0,v1]) (FX:vb∉keys (A++rowH rv 343 2 xs++B)) (ox:∀v∈xs,v.oneCell'=true) (o0:v0.oneCell'=true) (o1:v1.oneCell'=true) :
  Calls prog 228 #[lvOf rv n,.int .i64 i,.slice (some ⟨vb,0,none⟩) 1 1] w (InsD A B rv n i xs [v0,v1] w):=by
 have hr:Sep w (rowH rv 343 2 xs):=h.left.right;have Ak:=Q7X hr AY hx;have key:Calls prog 228 #[lvOf rv n,.int .i64 i,.slice (some ⟨vb,0,none⟩) 1 1] w (InsP 343 n (lvOf rv n).ownBlock (xs.take (i*2)++[v0,v1]++xs.drop (i*2)) w):=by
  by_cases Ce:i=n
  ·subst Ce;have:=Z9T Ak AY hn (hv.cell 0 _ rfl) (hv.cell 1 _ rfl) o0 o1;rw [J4f (by omega),J4E (by omega),J4n];exact this
  ·cases rv with
   | none=>have:n=0:=AY;omega
   | some p =>
    obtain⟨g,cap⟩:=p;obtain⟨o,ho,Ag,rfl,BB,AW⟩:=hr.get (b:=g) (q:=isR 343 (cap*2) xs) (by simp [rowH]);by_cases hc:n+1<=cap
    ·exact Z4D ho BB AW hx (by omega) hn hc AY.2 hv (fun e=>FX (by subst e;simp [rowH])) ox o0 o1
    ·have:cap=n:=by have:=AY.1;omega
     subst this;exact Z7I ho AW hx (by omega) hn hv ox o0 o1
 refine key.mono ?_;rintro r w' ⟨v',rfl,q1,q2,q3⟩;obtain⟨rv',rfl,e2,e3⟩:=Q2l h q1 q2 q3;exact⟨rv',rfl,e2,e3⟩
end Go.Proofs.YtlakjlmaboioiaaGreatDoor

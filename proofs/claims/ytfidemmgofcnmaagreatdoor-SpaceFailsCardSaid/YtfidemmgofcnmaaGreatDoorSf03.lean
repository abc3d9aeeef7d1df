/- SpaceFails returns true at every input. No condition. Part of its proof. -/
import Derived.Test.YtfidemmgofcnmaaGreatDoorSf02
import Derived.IntWalk
import Derived.Deep.QuietTactic
import Derived.BigQuiet
import Derived.Laws.CopyRow
import Derived.Laws.IdiomCopy
import Derived.Lib.Overlaps
import Derived.Lib.AppendZerosOnto
import Derived.Shelf.Spec.SlicesInsert
set_option maxHeartbeats 4000000
set_option maxRecDepth 100000
set_option linter.unusedVariables false
namespace Go.Proofs.YtfidemmgofcnmaaGreatDoor
open Go.RowKit Go.Proofs.Tryz
structure En(α:Type) where
 id:Int
 b:Nat
 q:α
def ptr(b:Nat):Value:=.pointer (some ⟨b,0,none⟩)
section
variable {α:Type}
def kvs(E:List (En α)):List (Int×Value):=E.map fun e=>(e.id,ptr e.b)
def find:List (En α)->Int->Option (En α)
 | [],_=>none
 | e::r,id=>if id=e.id then some e else find r id
def upd(E:List (En α))(id:Int)(q:α):List (En α):=E.map fun e=>if e.id=id then {e with q:=q} else e
def rem:List (En α)->Int->List (En α)
 | [],_=>[]
 | e::r,id=>if id=e.id then r else e::rem r id
theorem Q5C(E:List (En α))(id:Int):look (kvs E) id=(find E id).map fun e=>ptr e.b:=by
 induction E with
 | nil=>rfl
 | cons e r ih =>
  have ih':look (r.map fun e=>(e.id,ptr e.b)) id=_:=ih;by_cases h:id=e.id <;> simp[kvs,look,find,h,ih']
theorem Z4N(E:List (En α))(id:Int)(b:Nat)(q:α)(h:find E id=none):put (kvs E) id (ptr b)=kvs (E++[⟨id,b,q⟩]):=by
 induction E with
 | nil=>rfl
 | cons e r ih =>
  by_cases hk:id=e.id
  ·simp[find,hk] at h
  ·simp only[find,hk,if_false] at h;have ih':put (r.map fun e=>(e.id,ptr e.b)) id (ptr b)=_:=ih h;simp[kvs,put,hk,ih']
theorem Q7Z(E:List (En α))(id:Int):del (kvs E) id=kvs (rem E id):=by
 induction E with
 | nil=>rfl
 | cons e r ih =>
  have ih':del (r.map fun e=>(e.id,ptr e.b)) id=_:=ih;by_cases hk:id=e.id <;> simp[kvs,del,rem,hk,ih']
theorem Z4O(E:List (En α))(id:Int)(q:α):kvs (upd E id q)=kvs E:=by
 simp only[kvs,upd,J5k]
 apply J5l
 intro e _;by_cases h:e.id=id <;> simp[h]
theorem Q0b{E:List (En α)}{id:Int}{e:En α}(h:find E id=some e):e∈E/\e.id=id:=by
 induction E with
 | nil=>simp[find] at h
 | cons x r ih =>
  by_cases hk:id=x.id
  ·simp[find,hk] at h;subst h;exact⟨by simp,hk.symm⟩
  ·simp only[find,hk,if_false] at h;exact⟨by simp[(ih h).1],(ih h).2⟩
theorem Q5V{E:List (En α)}{id:Int}(h:find E id=none):∀e∈E,e.id≠id:=by
 induction E with
 | nil=>simp
 | cons x r ih =>
  by_cases hk:id=x.id
  ·simp[find,hk] at h
  ·simp only[find,hk,if_false] at h;intro e he;rcases J3g.1 he with rfl|he
   ·exact fun h'=>hk h'.symm
   ·exact ih h e he
theorem Q2g(E:List (En α))(x:En α)(id:Int):find (E++[x]) id=match find E id with|some e=>some e|none=>if id=x.id then some x else none:=by
 induction E with
 | nil=>simp[find]
 | cons e r ih=>by_cases h:id=e.id <;> simp[find,h,ih]
theorem Q0h{E:List (En α)}{id:Int}{e:En α}(hf:find E id=some e)(q:α):find (upd E id q) id=some {e with q:=q}:=by
 induction E with
 | nil=>simp[find] at hf
 | cons x r ih =>
  by_cases hx:id=x.id
  ·simp only[find,hx,if_true] at hf;simp only[upd,J3e,hx,if_true,find];cases hf;rfl
  ·simp only[find,hx,if_false] at hf;have:=ih hf;have Cb:¬x.id=id:=fun e=>hx e.symm
   simp only[upd,J3e,Cb,if_false,find,hx];exact this
theorem Q0w{E:List (En α)}{id j:Int}(Aa:j≠id)(q:α):find (upd E id q) j=find E j:=by
 induction E with
 | nil=>rfl
 | cons x r ih =>
  by_cases hx:x.id=id
  ·have hj:¬j=x.id:=fun e=>Aa (e.trans hx)
   simp only[upd,J3e,hx,if_true,find];have Fr:¬j=id:=Aa;simp only[Fr,if_false];exact ih
  ·simp only[upd,J3e,hx,if_false,find];by_cases hj:j=x.id
   ·simp[hj]
   ·simp only[hj,if_false];exact ih
theorem Q2r{E:List (En α)}(Ae:E.Pairwise (fun a b=>a.id≠b.id))(id x:Int):find (rem E id) x=if x=id then none else find E x:=by
 induction E with
 | nil=>simp[rem,find]
 | cons e r ih =>
  obtain⟨h1,h2⟩:=J3D.1 Ae;by_cases hk:id=e.id
  ·subst hk;simp only[rem,if_true];by_cases hx:x=e.id
   ·subst hx;simp only[if_true];cases hf:find r e.id with
    | none=>rfl
    | some y=>exact absurd (Q0b hf).2.symm (h1 y (Q0b hf).1)
   ·simp[find,hx]
  ·simp only[rem,hk,if_false,find];by_cases hx:x=e.id
   ·subst hx;simp;intro e2;exact absurd e2.symm hk
   ·simp only[hx,if_false];exact ih h2
theorem Q8a{E:List (En α)}{id:Int}{e:En α}(h:e∈rem E id):e∈E:=by
 induction E with
 | nil=>simp[rem] at h
 | cons x r ih =>
  by_cases hk:id=x.id
  ·simp[rem,hk] at h;simp[h]
  ·simp only[rem,hk,if_false] at h;rcases J3g.1 h with rfl|h
   ·simp
   ·simp[ih h]
theorem Q1G(E:List (En α))(id:Int):(rem E id).Sublist E:=by
 induction E with
 | nil=>simp[rem]
 | cons x r ih =>
  by_cases hk:id=x.id
  ·simp[rem,hk]
  ·simp only[rem,hk,if_false];exact ih.cons_cons x
theorem J0v{E:List (En α)}{id:Int}{q:α}{x:En α}(h:x∈upd E id q):∃e∈E,e.b=x.b/\e.id=x.id/\((e.id=id/\x.q=q)∨(e.id≠id/\x=e)):=by
 obtain⟨e,he,rfl⟩:=J3h.1 h;by_cases hk:e.id=id
 ·exact⟨e,he,by simp[hk],by simp[hk],.inl ⟨hk,by simp[hk]⟩⟩
 ·exact⟨e,he,by simp[hk],by simp[hk],.inr ⟨hk,by simp[hk]⟩⟩
theorem Q0Q{E:List (En α)}(id:Int)(q:α){R:En α->En α->Prop}(hR:∀a b a' b':En α,a.b=a'.b->a.id=a'.id->b.b=b'.b->b.id=b'.id->R a b->R a' b')(h:E.Pairwise R):(upd E id q).Pairwise R:=by
 unfold upd;rw[J3H];refine h.imp fun {a b} Cp=>hR a b _ _ ?_ ?_ ?_ ?_ Cp <;> split <;> rfl
theorem Z1G{E:List (En α)}{id:Int}(q:α)(h:∀e∈E,e.id≠id):upd E id q=E:=by
 unfold upd
 conv=>rhs;rw[<- List.map_id E]
 exact J5l fun e he=>by simp[h e he]
theorem Z4P{E:List (En α)}(Ae:E.Pairwise (fun a b=>a.id≠b.id)){id:Int}{e:En α}(hf:find E id=some e):upd E id e.q=E:=by
 induction E with
 | nil=>rfl
 | cons x r ih =>
  obtain⟨h1,h2⟩:=J3D.1 Ae;by_cases hx:id=x.id
  ·subst hx;simp[find] at hf;subst hf;have:=Z1G (E:=r) (id:=x.id) x.q (fun e he=>(h1 e he).symm);simp only[upd,J3e,if_true] at this ⊢;rw[this]
  ·simp only[find,hx,if_false] at hf;have Cb:¬x.id=id:=fun e=>hx e.symm
   have:=ih h2 hf;simp only[upd,J3e,Cb,if_false] at this ⊢;rw[this]
theorem upd_upd(E:List (En α))(id:Int)(q r:α):upd (upd E id q) id r=upd E id r:=by
 unfold upd;rw[J5k]
 apply J5l
 intro e _;by_cases h:e.id=id <;> simp[h]
theorem Q3i{E:List (En α)}(Ae:E.Pairwise (fun a b=>a.id≠b.id)){id:Int}{e:En α}(hf:find E id=some e) :
  ∃A B,E=A++e::B/\(∀q,upd E id q=A++{e with q:=q}::B)/\rem E id=A++B:=by
 induction E with
 | nil=>simp[find] at hf
 | cons x r ih =>
  obtain⟨h1,h2⟩:=J3D.1 Ae;by_cases hx:id=x.id
  ·subst hx;simp[find] at hf;subst hf;refine⟨[],r,rfl,fun q=>?_,by simp[rem]⟩;have:=Z1G (E:=r) (id:=x.id) q (fun e he=>(h1 e he).symm);simp only[upd,J3e,if_true,J5m];exact congrArg _ this
  ·simp only[find,hx,if_false] at hf;obtain⟨A,B,e1,e2,e3⟩:=ih h2 hf;refine⟨x::A,B,by rw[e1];rfl,fun q=>?_,by simp[rem,hx,e3]⟩;have Cb:¬x.id=id:=fun e=>hx e.symm
   have:=e2 q;simp only[upd,J3e,Cb,if_false,J5n] at this ⊢;rw[this]
end
def isMI(kv:List (Int×Value)):Obj->Prop:=isM (kv.map fun p=>(.int .i64 p.1,p.2))
structure CA where
 c:Nat
 bb:Nat
 size:Nat
 rv:RV
 pg:List (BM×Nat)
def Q0i(pg:List (BM×Nat)):List Value:=pg.flatMap fun x=>[ptr x.1.b,.int .i64 ((1024*x.2:Nat):Int)]
def pgH(pg:List (BM×Nat)):HL:=pg.flatMap fun x=>x.1.hl
def CA.hl(c:CA):HL:=(c.c,isC 233 [ptr c.bb,.int .i64 c.size,lvOf c.rv c.pg.length])::(rowH c.rv 236 2 (Q0i c.pg)++pgH c.pg)
structure CA.Ok(c:CA):Prop where
 rv:rvOk c.rv c.pg.length
 s0:16<=c.size
 s1:c.size<=512
 sorted:c.pg.Pairwise (fun a b=>a.2<b.2)
 lt:∀x∈c.pg,x.2<1048576
 many:∀x∈c.pg,x.1.bits.length=960/c.size
 len:c.pg.length<=1048576
theorem Q2c(pg:List (BM×Nat))(k:Nat)(x:BM×Nat)(h:pg[k]?=some x):(Q0i pg)[k*2]?=some (ptr x.1.b)/\(Q0i pg)[k*2+1]?=some (.int .i64 ((1024*x.2:Nat):Int)):=by
 induction pg generalizing k with
 | nil=>simp at h
 | cons y r ih =>
  cases k with
  | zero=>simp at h;subst h;exact⟨rfl,rfl⟩
  | succ k =>
   have:=ih k (by simpa using h);have e1:(k+1)*2=(k*2)+1+1:=by omega
   have e2:(k+1)*2+1=(k*2+1)+1+1:=by omega
   rw[e1];exact⟨this.1,this.2⟩
theorem Q7k(pg:List (BM×Nat)):(Q0i pg).length=pg.length*2:=by
 induction pg with
 | nil=>rfl
 | cons y r ih =>
  show(_::_::Q0i r).length=_;simp[ih];omega
section
variable {w:World} {c:CA}
theorem CA.sepC(h:Sep w c.hl):Cells w c.c 233 [ptr c.bb,.int .i64 c.size,lvOf c.rv c.pg.length]:=h.cells (by simp[CA.hl])
theorem CA.sepR(h:Sep w c.hl):Sep w (rowH c.rv 236 2 (Q0i c.pg)):=h.tail.left
theorem CA.sepB(h:Sep w c.hl)(k:Nat)(x:BM×Nat)(hx:c.pg[k]?=some x):Sep w x.1.hl:=by
 refine h.sub ?_;unfold CA.hl pgH;rw[Q4r (fun x:BM×Nat=>x.1.hl) _ _ _ hx];refine List.Sublist.cons _ ?_;refine List.Sublist.trans ?_ (J3S _ _);exact(J3S _ _).trans (J3R _ _)
end
theorem Z8c{w:World}{c:CA}(h:Sep w c.hl)(ok:c.Ok):Calls prog 130 #[.pointer (some ⟨c.c,0,none⟩)] w fun r w'=>r=.returned (.int .i64 ((960/c.size:Nat):Int))/\w=w':=by
 have c1:=(CA.sepC h).cell 1 _ rfl;have s0:=ok.s0;have hd:((960:Int)/(c.size:Int))=((960/c.size:Nat):Int):=by rw[J4W];rfl
 clear h;generalize c.size=s at *
 go_enter func130,ntmps130
 go_wp2
 go_ret;exact⟨rfl,rfl⟩
def addr(size p i:Nat):Nat:=1024*p+64+i*size
theorem Q8L{w:World}{c:CA}(h:Sep w c.hl)(ok:c.Ok)(b p i:Nat)(hp:p<1048576)(hi:i<64) :
  Calls prog 128 #[.pointer (some ⟨c.c,0,none⟩),.agg #[ptr b,.int .i64 ((1024*p:Nat):Int)],.int .i64 i] w (Told w (.int .i64 ((addr c.size p i:Nat):Int))):=by
 have c1:=(CA.sepC (h.alloc (.cells #[ptr b,.int .i64 ((1024*p:Nat):Int)] 236))).cell 1 _ rfl;have b1:=(Cells.new w 236 [ptr b,.int .i64 ((1024*p:Nat):Int)]).cell 1 _ rfl;have s1:=ok.s1;have HB:Hid (Below w.heap.size w (w.alloc (.cells #[ptr b,.int .i64 ((1024*p:Nat):Int)] 236)).drew):=((Below.refl _ _).alloc (J3b _) _).drew;have hm:i*c.size<=64*512:=J4f (by omega) s1;have Du:IntKind.i64.wrap (((1024*p:Nat):Int)+64)=((1024*p+64:Nat):Int):=by rw[Go.IntWalk.i64_in _ (by omega)];omega
 have EV:IntKind.i64.wrap ((i:Int)*(c.size:Int))=((i*c.size:Nat):Int):=by rw[<- J4g];exact Go.IntWalk.i64_in _ (by omega)
 have IF:IntKind.i64.wrap (((1024*p+64:Nat):Int)+((i*c.size:Nat):Int))=((addr c.size p i:Nat):Int):=by unfold addr;rw[Go.IntWalk.i64_in _ (by omega)];omega
 clear h ok hm;generalize addr c.size p i=r at *
 generalize i*c.size=m at *
 generalize hk:1024*p+64=k at *
 generalize 1024*p=q at *
 generalize c.size=s at *
 clear hk;have e1:(w.alloc (.cells #[ptr b,.int .i64 q] 236)).drew.cell? ⟨c.c,1,none⟩=some (.int .i64 s):=c1;have e2:(w.alloc (.cells #[ptr b,.int .i64 q] 236)).drew.cell? ⟨w.heap.size,1,none⟩=some (.int .i64 q):=b1;unfold ptr at *
 go_enter func128,ntmps128;go_wp2_with fail
 go_region_held3 (fun w'=>w'.cell? ⟨c.c,1,none⟩=some (.int .i64 s)/\w'.cell? ⟨w.heap.size,1,none⟩=some (.int .i64 q)) (first|exact⟨c1,b1⟩|exact⟨e1,e2⟩) (first|fail)
 go_wp2_with fail;go_ret;exact⟨rfl,HB.out⟩
def cmpI(x y:Int):Int:=if x<y then -1 else if y<x then 1 else 0
theorem Q5W{w:World}(x:Int):Calls prog 197 #[.int .i64 x] w fun r w'=>r=.returned (.bool false)/\w=w':=by
 have h1:(x != x)=false:=by simp
 go_enter func197,ntmps197
 go_wp2
 go_ret;exact⟨rfl,rfl⟩
theorem Z4Q{w:World}(x y:Int):Calls prog 138 #[.int .i64 x,.int .i64 y] w fun r w'=>r=.returned (.int .i64 (cmpI x y))/\w=w':=by
 unfold cmpI;by_cases h1:x<y
 ·rw[if_pos h1];go_enter func138,ntmps138;go_wp2_with (go_at_call 197;refine(Q5W _).mono ?_;rintro e w'⟨rfl,rfl⟩);go_ret;exact⟨rfl,rfl⟩
 ·rw[if_neg h1];by_cases h2:y<x
  ·rw[if_pos h2];go_enter func138,ntmps138;go_wp2_with (go_at_call 197;refine(Q5W _).mono ?_;rintro e w'⟨rfl,rfl⟩);go_ret;exact⟨rfl,rfl⟩
  ·rw[if_neg h2];go_enter func138,ntmps138;go_wp2_with (go_at_call 197;refine(Q5W _).mono ?_;rintro e w'⟨rfl,rfl⟩);go_ret;exact⟨rfl,rfl⟩
theorem Z4R(w:World)(b:Value)(at_ x:Int):Calls prog 192 #[.agg #[b,.int .i64 at_],.int .i64 x] w fun r w'=>r=.returned (.int .i64 (cmpI at_ x))/\Below w.heap.size w w':=by
 have HB:Hid (Below w.heap.size w (w.alloc (.cells #[b,.int .i64 at_] 236))):=(Below.refl _ _).alloc (J3b _) _;have hc:=fun w:World=>Z4Q (w:=w) at_ x
 generalize cmpI at_ x=c at *
 go_enter func192,ntmps192;go_wp2_with (go_at_call 138;refine(hc _).mono ?_;rintro e w'⟨rfl,rfl⟩);go_ret;exact⟨rfl,HB.out⟩
def Q0r(pg:List (BM×Nat))(p:Nat):Nat:=(pg.filter fun x=>decide (x.2<p)).length
theorem Q4u{pg:List (BM×Nat)}(hs:pg.Pairwise (fun a b=>a.2<b.2))(p k:Nat)(x:BM×Nat)(hx:pg[k]?=some x):(k<Q0r pg p↔x.2<p):=by
 induction pg generalizing k with
 | nil=>simp at hx
 | cons y r ih =>
  obtain⟨h1,h2⟩:=J3D.1 hs;unfold Q0r;by_cases hy:y.2<p
  ·rw[J5o (by simpa using hy),J3N];cases k with
   | zero=>simp at hx;subst hx;simp[hy]
   | succ k =>
    have:=ih h2 k (by simpa using hx);unfold Q0r at this;omega
  ·have hr:r.filter (fun x=>decide (x.2<p))=[]:=by
    rw[J5c];intro z hz;have:=h1 z hz;simp;omega
   rw[J5p (by simpa using hy),hr];have Kq:¬x.2<p:=by
    cases k with
    | zero=>simp at hx;subst hx;exact hy
    | succ k =>
     have hm:=h1 x (J5q (by simpa using hx));omega
   simp;omega
theorem Q8b(pg:List (BM×Nat))(p:Nat):Q0r pg p<=pg.length:=J5r _ _
theorem J0d(a b:Nat):decide (cmpI ((1024*a:Nat):Int) ((1024*b:Nat):Int)<0)=decide (a<b):=by
 unfold cmpI;by_cases h1:a<b
 ·rw[if_pos (by omega)];simp[h1]
 ·rw[if_neg (by omega)];by_cases h2:b<a
  ·rw[if_pos (by omega)];simp[h1]
  ·rw[if_neg (by omega)];simp[h1]
theorem J1W(a b:Nat):(cmpI ((1024*a:Nat):Int) ((1024*b:Nat):Int)==0)=decide (a=b):=by
 unfold cmpI;by_cases h1:a<b
 ·rw[if_pos (by omega),decide_eq_false (by omega)];rfl
 ·rw[if_neg (by omega)];by_cases h2:b<a
  ·rw[if_pos (by omega),decide_eq_false (by omega)];rfl
  ·rw[if_neg (by omega),decide_eq_true (by omega)];rfl
def Q3V(pg:List (BM×Nat))(q:Nat):Bool:=match pg[Q0r pg q]? with|some x=>decide (x.2=q)|none=>false
def Z0r(pg:List (BM×Nat))(q:Nat)(w:World)(r:Ending)(w':World):Prop:=r=.returned (.tuple #[.int .i64 (Q0r pg q),.bool (Q3V pg q)])/\Below w.heap.size w w'
theorem Z0s{w:World}{c:CA}(h:Sep w c.hl)(ok:c.Ok)(q:Nat) :
  Calls prog 191 #[lvOf c.rv c.pg.length,.int .i64 ((1024*q:Nat):Int),.func (.func 192) #[] #[]] w (Z0r c.pg q w):=by
 have hB:=Q8b c.pg q;have CT:=ok.len;cases A6:c.rv with
 | none =>
  have h0:c.pg.length=0:=by have:=ok.rv;rw[A6] at this;exact this
  have DT:c.pg=[]:=J5s h0;rw[DT];have hR:Hid (Z0r [] q w (.returned (.tuple #[.int .i64 0,.bool false])) w):=⟨rfl,Below.refl _ _⟩
  clear h ok hB CT h0 DT A6;generalize 1024*q=x at *
  unfold lvOf;go_enter func191,ntmps191;go_wp2_with fail
  go_loop [9,10] (fun iv jv=>iv=.int .i64 0/\jv=.int .i64 0) (fun _ _=>0)
  case atStart=>exact⟨rfl,rfl⟩
  case round =>
   obtain⟨rfl,rfl⟩:=hrel;go_wp2_with fail;go_ret2;exact hR.out
 | some p =>
  obtain⟨rb,cap⟩:=p;have BY:=CA.sepR h;rw[A6] at BY;have NY:rb<w.heap.size:=BY.lt (by simp[rowH]);have HC:=Q0a (show ∀k x wr,c.pg[k]?=some x->Below w.heap.size w wr->wr.cell? ⟨rb,k*2,none⟩=some (ptr x.1.b)/\wr.cell? ⟨rb,k*2+1,none⟩=some (.int .i64 ((1024*x.2:Nat):Int)) from fun k x wr hx hb=>by
   obtain⟨e1,e2⟩:=Q2c _ _ _ hx;exact⟨(hb.cell (p:=⟨rb,k*2,none⟩) NY).trans (Q0G BY _ _ e1),(hb.cell (p:=⟨rb,k*2+1,none⟩) NY).trans (Q0G BY _ _ e2)⟩)
  have J9:=Q0a (fun k x hx=>Q4u ok.sorted q k x hx);have Cz:=Q0a (show ∀(x:BM×Nat) (wr:World),Below w.heap.size w wr->Calls prog 192 #[.agg #[ptr x.1.b,.int .i64 ((1024*x.2:Nat):Int)],.int .i64 ((1024*q:Nat):Int)] wr fun r w'=>r=.returned (.int .i64 (cmpI ((1024*x.2:Nat):Int) ((1024*q:Nat):Int)))/\Below w.heap.size w w' from fun x wr hb =>
   (Z4R wr (ptr x.1.b) _ _).mono fun r w' ⟨e,Ai⟩=>⟨e,hb.trans (Ai.mono hb.size)⟩)
  have HF:=Q0a (show ∀wr:World,Below w.heap.size w wr->Z0r c.pg q w (.returned (.tuple #[.int .i64 (Q0r c.pg q),.bool (Q3V c.pg q)])) wr from fun wr hb=>⟨rfl,hb⟩);have Bd:Hid (∀x,c.pg[Q0r c.pg q]?=some x->Q3V c.pg q=decide (x.2=q)):=fun x hx=>by unfold Q3V;rw[hx]
  have JF:Hid (Q0r c.pg q=c.pg.length->Q3V c.pg q=false):=fun e=>by unfold Q3V;rw[e,J4R (J3b _)]
  have Dr:Hid (∀k,k<c.pg.length->∃x,c.pg[k]?=some x):=fun k hk=>⟨_,J5t hk⟩
  clear h ok BY A6;generalize hBB:Q0r c.pg q=B at *
  generalize Q3V c.pg q=hp at *
  generalize GV:c.pg=pg at *
  generalize pg.length=n at *
  clear hBB GV;unfold lvOf;go_enter func191,ntmps191;go_wp2_with fail
  go_loopw [9,10] (fun iv jv wr=>∃i j:Nat,iv=.int .i64 i/\jv=.int .i64 j/\i<=B/\B<=j/\j<=n/\Below w.heap.size w wr) (fun iv jv _=>(intOf jv).toNat-(intOf iv).toNat)
  case atStart=>exact⟨0,n,rfl,rfl,J5e _,hB,J3b _,Below.refl _ _⟩
  case round =>
   obtain⟨i,j,rfl,rfl,hi,hj,NM,hb⟩:=hrel;by_cases Ab:i<j
   ·obtain⟨k,hk⟩:∃k:Nat,k=(i+j)/2:=⟨_,rfl⟩
    have A0:((i:Int)+j)/2=(k:Int):=by omega
    have Dy:i<=k:=by omega
    have NN:k<j:=by omega
    clear hk;obtain⟨x,hx⟩:=Dr.out k (by omega);obtain⟨d1,d2⟩:=HC.out k x wr hx hb;have AA:=J9.out k x hx;have AM:=Cz.out x wr hb;have Dm:k<n:=by omega
    have Bz:(0:Int)<=k:=by omega
    have Td:(k:Int)<n:=by omega
    unfold ptr at d1 AM;by_cases Lg:x.2<q
    ·have hd:decide (cmpI ((1024*x.2:Nat):Int) ((1024*q:Nat):Int)<0)=true:=by rw[J0d];simpa using Lg
     have Uq:=AA.2 Lg;clear hx AA Lg;generalize cmpI ((1024*x.2:Nat):Int) ((1024*q:Nat):Int)=cv at *
     generalize 1024*x.2=xv at *
     generalize 1024*q=qv at *
     go_wp2_with (go_at_call 192;refine AM.mono ?_;rintro e w2⟨rfl,Ai⟩);go_roundw
     case rel=>exact⟨k+1,j,by go_num,rfl,by omega,hj,NM,Ai⟩
     case measure=>simp[intOf];omega
    ·have hd:decide (cmpI ((1024*x.2:Nat):Int) ((1024*q:Nat):Int)<0)=false:=by rw[J0d];simpa using Lg
     have Uq:¬k<B:=fun e=>Lg (AA.1 e)
     clear hx AA Lg;generalize cmpI ((1024*x.2:Nat):Int) ((1024*q:Nat):Int)=cv at *
     generalize 1024*x.2=xv at *
     generalize 1024*q=qv at *
     go_wp2_with (go_at_call 192;refine AM.mono ?_;rintro e w2⟨rfl,Ai⟩);go_roundw
     case rel=>exact⟨i,k,rfl,rfl,hi,by omega,by omega,Ai⟩
     case measure=>simp[intOf];omega
   ·obtain rfl:i=B:=by omega
    obtain rfl:j=i:=by omega
    by_cases Cm:j<n
    ·obtain⟨x,hx⟩:=Dr.out j Cm;obtain⟨d1,d2⟩:=HC.out j x wr hx hb;have AM:=Cz.out x wr hb;have DK:=Bd.out x hx;have GK:=J1W x.2 q;rw[<- DK] at GK;unfold ptr at d1 AM;have Gw:(j:Int)<n:=by omega
     have Fw:(0:Int)<=j:=by omega
     clear hx DK;generalize cmpI ((1024*x.2:Nat):Int) ((1024*q:Nat):Int)=cv at *
     generalize 1024*x.2=xv at *
     generalize 1024*q=qv at *
     go_wp2_with (go_at_call 192;refine AM.mono ?_;rintro e w2⟨rfl,Ai⟩);go_ret2;exact HF.out _ Ai
    ·have Aq:=JF.out (by omega);subst Aq;have Gw:¬(j:Int)<n:=by omega
     have Ph:decide ((j:Int)<n)=false:=by simpa using Gw
     go_wp2_with fail;go_ret2;exact HF.out _ hb
theorem Z1H{w:World}{c:CA}(h:Sep w c.hl)(ok:c.Ok)(q:Nat) :
  Calls prog 131 #[.pointer (some ⟨c.c,0,none⟩),.int .i64 ((1024*q:Nat):Int)] w (Z0r c.pg q w):=by
 have k1:=Z0s h ok q;have c2:=(CA.sepC h).cell 2 _ rfl;have IS:∃a cp,lvOf c.rv c.pg.length=.slice a c.pg.length cp:=by
  cases A6:c.rv with
  | none=>have:=ok.rv;rw[A6] at this;exact⟨none,0,by show Value.slice none 0 0=_;rw[show c.pg.length=0 from this]⟩
  | some p=>exact⟨_,_,rfl⟩
 obtain⟨a,cp,hv⟩:=IS;rw[hv] at k1 c2;have HQ:Hid (∀r w',Z0r c.pg q w r w'->∃i b,r=.returned (.tuple #[.int .i64 i,.bool b])/\Z0r c.pg q w (.returned (.tuple #[.int .i64 i,.bool b])) w'):=fun r w' ⟨e,hb⟩=>⟨_,_,e,rfl,hb⟩
 clear h ok hv;generalize 1024*q=x at *
 go_enter func131,ntmps131;go_wp2_with fail;refine k1.mono ?_;rintro r w1 hf;obtain⟨i,b,rfl,IG⟩:=HQ.out _ _ hf;have MV:=Q0a IG;clear IG hf;go_wp2_with fail;go_ret2;exact MV.out
theorem Q0Y{w w':World}{B:Nat}(h:Below B w w')(n:Nat):Below B w (w'.drewN n):=⟨h.os,h.tape,h.output,h.size,h.block⟩
theorem Z4S{w:World}{m:BM}(h:Sep w m.hl)(i:Nat)(hn:m.bits.length<=1048576):Calls prog 190 #[.pointer (some ⟨m.b,0,none⟩),.int .i64 i] w fun r w'=>r=.returned (.bool (m.bits[i]?.getD false))/\w=w':=by
 by_cases hi:i<m.bits.length
 ·exact Q7Y h i hi hn
 ·have:=Z4M h i (.inr (by omega));rw[J4R (by omega)];exact this
def Q5w(c:CA)(a:Nat):Option (Nat×Nat):=
 match c.pg[Q0r c.pg (a/1024)]? with
 | none=>none
 | some x=>if x.2=a/1024/\64<=a%1024/\(a%1024-64)%c.size=0/\x.1.bits[(a%1024-64)/c.size]?.getD false=true then some (Q0r c.pg (a/1024),(a%1024-64)/c.size) else none
def Q4Z:Option (Nat×Nat)->Value
 | none=>.tuple #[.int .i64 0,.int .i64 0,.bool false]
 | some (k,i)=>.tuple #[.int .i64 k,.int .i64 i,.bool true]
theorem Z8d{w:World}(c:CA)(a:Int)(ha:a<0) :
  Calls prog 143 #[.pointer (some ⟨c.c,0,none⟩),.int .i64 a] w fun r w'=>r=.returned (Q4Z none)/\w=w':=by
 unfold Q4Z;go_enter func143,ntmps143
 go_wp2
 go_ret3
 exact⟨rfl,rfl⟩
theorem J0w{w:World}(cc s a q k:Nat)(hp:Bool)(FD:Ending->World->Prop)(n:Int)(DW:16<=s)(C5:s<=512)(ha:a<9223372036854775808)(Ib:(a:Int)/1024*1024=(q:Int))(Iz:(a:Int)%1024-64=n)(hn:n<960)
  (k1:Calls prog 131 #[.pointer (some ⟨cc,0,none⟩),.int .i64 q] w FD) (HQ:Hid (∀r w',FD r w'->r=.returned (.tuple #[.int .i64 k,.bool hp])/\Below w.heap.size w w'))
  (HC:Hid (∀w',Below w.heap.size w w'->w'.cell? ⟨cc,1,none⟩=some (.int .i64 s)))
  (Aq:hp=false∨n<0∨(0<=n/\n%s≠0)) :
  Calls prog 143 #[.pointer (some ⟨cc,0,none⟩),.int .i64 a] w (Told w (Q4Z none)):=by
 have HT:Hid (∀n w',Below w.heap.size w w'->Told w (Q4Z none) (.returned (.tuple #[.int .i64 0,.int .i64 0,.bool false])) (w'.drewN n)):=fun n w' hb=>⟨rfl,Q0Y hb n⟩
 by_cases h1:hp=false
 ·subst h1;clear Aq;go_enter func143,ntmps143;go_wp2_with fail;refine k1.mono ?_;rintro r w1 hf;obtain⟨rfl,hb⟩:=HQ.out _ _ hf;have c1:=HC.out _ hb;have Fm:=Q0a (fun n=>HT.out n _ hb);clear hf hb;go_wp2_with fail
  go_quiet (fail)
  go_wp2_with fail
  go_ret3
  exact Fm.out _
 ·have K0:hp=true:=by cases hp <;> simp_all
  subst K0;by_cases h2:n<0
  ·have h3:decide (n<0)=true:=by simpa using h2
   clear Aq h1;go_enter func143,ntmps143;go_wp2_with fail;refine k1.mono ?_;rintro r w1 hf;obtain⟨rfl,hb⟩:=HQ.out _ _ hf;have c1:=HC.out _ hb;have Fm:=Q0a (fun n=>HT.out n _ hb);clear hf hb;go_wp2_with fail
   go_quiet (fail)
   go_wp2_with fail
   go_ret3
   exact Fm.out _
  ·have h3:decide (n<0)=false:=by simpa using h2
   have h4:0<=n/\n%s≠0:=by rcases Aq with h|h|h;exact absurd h h1;exact absurd h h2;exact h
   have h5:(n.tmod (s:Int) != 0)=true:=by rw[J4T h4.1];simpa using h4.2
   have h6:(n.tmod (s:Int)==0)=false:=by rw[J4T h4.1];simpa using h4.2
   have h7:((s:Int)==0)=false:=by simp;omega
   have h8:(s:Int)≠0:=by omega
   obtain⟨m,hm⟩:∃m,n.tmod (s:Int)=m:=⟨_,rfl⟩
   rw[hm] at h5 h6;clear Aq h1 h4;go_enter func143,ntmps143;go_wp2_with fail;refine k1.mono ?_;rintro r w1 hf;obtain⟨rfl,hb⟩:=HQ.out _ _ hf;have c1:=HC.out _ hb;have Fm:=Q0a (fun n=>HT.out n _ hb);clear hf hb;go_wp2_with fail
   go_quiet (fail)
   go_wp2_with fail
   go_ret3
   exact Fm.out _
theorem Z8e{w:World}(cc s a q k rb np cap b:Nat)(FD:Ending->World->Prop)(n i:Nat)(v:Bool)(DW:16<=s)(C5:s<=512)(ha:a<9223372036854775808)(Ib:(a:Int)/1024*1024=(q:Int))(Iz:(a:Int)%1024-64=n)(hn:n<960)(hm:n%s=0)(hi:n/s=i)(hk:k<np)(RB:np<=1048576)
  (k1:Calls prog 131 #[.pointer (some ⟨cc,0,none⟩),.int .i64 q] w FD) (HQ:Hid (∀r w',FD r w'->r=.returned (.tuple #[.int .i64 k,.bool true])/\Below w.heap.size w w'))
  (HC:Hid (∀w',Below w.heap.size w w'->w'.cell? ⟨cc,1,none⟩=some (.int .i64 s)/\w'.cell? ⟨cc,2,none⟩=some (.slice (some ⟨rb,0,none⟩) np cap)/\w'.cell? ⟨rb,k*2,none⟩=some (.pointer (some ⟨b,0,none⟩)) /\
   ∀n,Calls prog 190 #[.pointer (some ⟨b,0,none⟩),.int .i64 i] (w'.drewN n) fun r w''=>r=.returned (.bool v)/\∃m,w''=w'.drewN m)) :
  Calls prog 143 #[.pointer (some ⟨cc,0,none⟩),.int .i64 a] w (Told w (Q4Z (if v then some (k,i) else none))):=by
 have GC:(n:Int).tmod (s:Int)=0:=by rw[J4T (by omega)];omega
 have Gb:(n:Int).tdiv (s:Int)=(i:Int):=by rw[J4S (by omega),<- hi];exact(J4W n s).symm
 have h7:((s:Int)==0)=false:=by simp;omega
 have h8:(s:Int)≠0:=by omega
 have Bz:(0:Int)<=k:=by omega
 have A0:(k:Int)<np:=by omega
 have h3:decide ((n:Int)<0)=false:=by simp
 have h9:(i:Int)<1024:=by have:=J4I n s;omega
 have Oa:(0:Int)<=i:=by omega
 clear hm hi hn;obtain⟨z,hz⟩:∃z:Int,z=n:=⟨_,rfl⟩
 rw[<- hz] at GC Gb h3 Iz;clear hz;cases v with
 | false =>
  have HT:Hid (∀n w',Below w.heap.size w w'->Told w (Q4Z (if false=true then some (k,i) else none)) (.returned (.tuple #[.int .i64 0,.int .i64 0,.bool false])) (w'.drewN n)):=fun n w' hb=>⟨rfl,Q0Y hb n⟩
  go_enter func143,ntmps143;go_wp2_with fail;refine k1.mono ?_;rintro r w1 hf;obtain⟨rfl,hb⟩:=HQ.out _ _ hf;obtain⟨c1,c2,c3,Bv⟩:=HC.out _ hb;have Fm:=Q0a (fun n=>HT.out n _ hb);have HG:=Q0a Bv;clear hf hb Bv;go_wp2_with fail
  go_quiet ((go_at_call 190;exact HG.out _))
  go_wp2_with fail
  go_ret3
  exact Fm.out _
 | true =>
  have HT:Hid (∀n w',Below w.heap.size w w'->Told w (Q4Z (if true=true then some (k,i) else none)) (.returned (.tuple #[.int .i64 k,.int .i64 i,.bool true])) (w'.drewN n)):=fun n w' hb=>⟨rfl,Q0Y hb n⟩
  go_enter func143,ntmps143;go_wp2_with fail;refine k1.mono ?_;rintro r w1 hf;obtain⟨rfl,hb⟩:=HQ.out _ _ hf;obtain⟨c1,c2,c3,Bv⟩:=HC.out _ hb;have Fm:=Q0a (fun n=>HT.out n _ hb);have HG:=Q0a Bv;clear hf hb Bv;go_wp2_with fail
  go_quiet ((go_at_call 190;exact HG.out _))
  go_wp2_with fail
  go_quiet (fail)
  go_wp2_with fail
  go_ret3
  exact Fm.out _
theorem Q8c{w:World}{c:CA}(h:Sep w c.hl)(ok:c.Ok)(a:Nat)(ha:a<9223372036854775808) :
  Calls prog 143 #[.pointer (some ⟨c.c,0,none⟩),.int .i64 a] w (Told w (Q4Z (Q5w c a))):=by
 have k1:=Z1H h ok (a/1024);have s0:=ok.s0;have s1:=ok.s1;have CT:=ok.len;have Ib:(a:Int)/1024*1024=((1024*(a/1024):Nat):Int):=by omega
 have AM:c.c<w.heap.size:=h.lt (by simp[CA.hl]);have EK:=(CA.sepC h).cell 1 _ rfl;have FJ:=(CA.sepC h).cell 2 _ rfl;have QG:Hid (∀w',Below w.heap.size w w'->w'.cell? ⟨c.c,1,none⟩=some (.int .i64 c.size)):=fun w' hb=>(hb.cell (p:=⟨c.c,1,none⟩) AM).trans EK
 have HQ:Hid (∀r w',Z0r c.pg (a/1024) w r w'->r=.returned (.tuple #[.int .i64 (Q0r c.pg (a/1024)),.bool (Q3V c.pg (a/1024))])/\Below w.heap.size w w'):=fun r w' hf=>hf
 have no:∀hp,Q3V c.pg (a/1024)=hp->(hp=false∨(a:Int)%1024-64<0∨(0<=(a:Int)%1024-64/\((a:Int)%1024-64)%(c.size:Int)≠0))->Calls prog 143 #[.pointer (some ⟨c.c,0,none⟩),.int .i64 a] w (Told w (Q4Z none)):=fun hp _ Aq =>
  J0w c.c c.size a (1024*(a/1024)) (Q0r c.pg (a/1024)) (Q3V c.pg (a/1024)) _ _ s0 s1 ha Ib rfl (by omega) k1 HQ QG (by subst hp;exact Aq)
 unfold Q5w;cases hx:c.pg[Q0r c.pg (a/1024)]? with
 | none=>exact no false (by unfold Q3V;rw[hx]) (.inl rfl)
 | some x =>
  have hh:Q3V c.pg (a/1024)=decide (x.2=a/1024):=by unfold Q3V;rw[hx]
  by_cases h1:x.2=a/1024
  ·have ht:Q3V c.pg (a/1024)=true:=by rw[hh];simpa using h1
   by_cases h2:64<=a%1024
   ·have hz:(a:Int)%1024-64=((a%1024-64:Nat):Int):=by omega
    by_cases h3:(a%1024-64)%c.size=0
    ·have hk:=(J3t.1 hx).1;obtain⟨rb,cap,A6⟩:∃rb cap,c.rv=some (rb,cap):=by
      cases e:c.rv with
      | none=>have:=ok.rv;rw[e] at this;have:c.pg.length=0:=this;omega
      | some p=>exact⟨p.1,p.2,rfl⟩
     have BY:=CA.sepR h;rw[A6] at BY;have NY:rb<w.heap.size:=BY.lt (by simp[rowH]);have FH:=CA.sepB h _ x hx;have GQ:=ok.many x (J5q hx);have Gp:x.1.bits.length<=1048576:=by rw[GQ];have:=J4I 960 c.size;omega
     obtain⟨e1,_⟩:=Q2c _ _ _ hx;have:=Z8e c.c c.size a (1024*(a/1024)) (Q0r c.pg (a/1024)) rb c.pg.length cap x.1.b _ (a%1024-64) ((a%1024-64)/c.size) (x.1.bits[(a%1024-64)/c.size]?.getD false) s0 s1 ha Ib hz (by omega) h3 rfl hk CT k1 (fun r w' hf=>by rw[<- ht];exact hf) (fun w' hb=>⟨QG w' hb,by
      have:=(hb.cell (p:=⟨c.c,2,none⟩) AM).trans FJ;rw[A6] at this;exact this,(hb.cell (p:=⟨rb,_,none⟩) NY).trans (Q0G BY _ _ e1),fun n=>(Z4S ((FH.grown hb).sep.drewN n) _ Gp).mono fun r w'' ⟨e,e2⟩=>⟨e,n,e2.symm⟩⟩)
     refine this.mono fun r w' hr=>?_
     simp only[h1,h2,h3,true_and];exact hr
    ·have:=no true ht (.inr (.inr ⟨by omega,by rw[hz];intro e;exact h3 (by exact_mod_cast e)⟩))
     simpa[h3] using this
   ·have:=no true ht (.inr (.inl (by omega)))
    simpa[h2] using this
  ·have:=no false (by rw[hh];simpa using h1) (.inl rfl)
   simpa[h1] using this
theorem J0x{w:World}{c:CA}(h:Sep w c.hl)(ok:c.Ok)(a:Nat)(ha:a<9223372036854775808) :
  Calls prog 122 #[.pointer (some ⟨c.c,0,none⟩),.int .i64 a] w (Told w (.bool (Q5w c a).isSome)):=by
 have k1:=Q8c h ok a ha;clear h ok;generalize Q5w c a=o at *
 generalize c.c=cc at *
 have HQ:Hid (∀r w',Told w (Q4Z o) r w'->∃i j:Int,r=.returned (.tuple #[.int .i64 i,.int .i64 j,.bool o.isSome])/\Told w (.bool o.isSome) (.returned (.bool o.isSome)) w'):=fun r w' ⟨e,hb⟩=>by
  cases o with
  | none=>exact⟨0,0,e,rfl,hb⟩
  | some p=>exact⟨p.1,p.2,e,rfl,hb⟩
 generalize o.isSome=v at *
 go_enter func122,ntmps122;go_wp2_with fail;refine k1.mono ?_;rintro r w1 hf;obtain⟨i,j,rfl,IG⟩:=HQ.out _ _ hf;have MV:=Q0a IG;clear IG hf;go_wp2_with fail;go_ret;exact MV.out
theorem Q3E{P:Program}(w:World)(dT sT ty elem:TypeId)(size g o dLen dCap:Nat)(a:Addr)(sLen sCap m:Nat)(Ag:Array Value)(t:TypeId)(cs:List Value)
  (hu:P.underlying dT=some (.slice elem)) (hs:(P.info? elem).map (·.size)=some size)
  (hg:w.heap[g]?=some (.cells Ag t (0,0))) (hm:Nat.min sLen dLen=m) (hn:cs.length=m*size)
  (FG:∀j v,cs[j]?=some v->w.cell? (a.add j)=some v) (An:o+cs.length<=Ag.size) (h1:∀v∈cs,v.oneCell'=true) :
  (Builtin.copy_ #[dT,sT] ty #[.slice (some ⟨g,o,none⟩) dLen dCap,.slice (some a) sLen sCap]).run P w =
   .ok (.int .i64 m) (w.setRow g (Ag.toList.take o++cs++Ag.toList.drop (o+cs.length)).toArray):=by
 have hl:=run_loadCells_list (P:=P) w a cs FG;have Ap:=run_storeCells_at P g o t cs 0 Ag w hg (by simpa using An) h1;rw[hn] at hl;cases hq:P.info? elem with
 | none=>simp[hq] at hs
 | some i =>
  have hi:i.size=size:=by simpa[hq] using hs
  simp[Builtin.copy_,run_underlying hu,Builtin.lenOf,Builtin.firstCells,sizeOf,typeInfo,hq,hi,hm,hl,Ap,goInt]
theorem Z4T(Ag:List Value)(xs news:List Value)(p:Nat)(hx:Ag.take xs.length=xs)(hp:p<=xs.length)(hl:xs.length+news.length<=Ag.length) :
  let c1:=Ag.take (p+news.length)++xs.drop p++Ag.drop (p+news.length+(xs.drop p).length)
  let c2:=c1.take p++news++c1.drop (p+news.length)
  c1.length=Ag.length/\c2.length=Ag.length/\c2.take (xs.length+news.length)=xs.take p++news++xs.drop p:=by
 have e0:(xs.drop p).length=xs.length-p:=J5u;have e1:(Ag.take (p+news.length)++xs.drop p++Ag.drop (p+news.length+(xs.drop p).length)).length=Ag.length:=by
  simp only[J3M,J5v,J5u];omega
 refine⟨e1,?_,?_⟩
 ·simp only[J3M,J5v,J5u];omega
 ·have ht:(Ag.take (p+news.length)++xs.drop p++Ag.drop (p+news.length+(xs.drop p).length)).take p=xs.take p:=by
   rw[J4c,J5w (by simp;omega),J5x,show min p (p+news.length)=p by omega];rw[<- hx,J5x,show min p xs.length=p by omega]
  have hd:(Ag.take (p+news.length)++xs.drop p++Ag.drop (p+news.length+(xs.drop p).length)).drop (p+news.length)=xs.drop p++Ag.drop (p+news.length+(xs.drop p).length):=by
   rw[J4c,J5y (by simp;omega),J5z (by simp;omega),J5m]
  show List.take (xs.length+news.length) _=_;rw[ht,hd,<- J4c];have e2:(xs.take p++news++xs.drop p).length=xs.length+news.length:=by simp;omega
  rw[<- e2,J5A]
def InsP(T:TypeId)(n:Nat)(blk:Option Nat)(ys:List Value)(w:World)(r:Ending)(w':World):Prop:=
 ∃v',r=.returned v'/\w'.ownsRow 0 T 2 v' (n+1) ys/\w.grownBy w' blk/\(v'.ownBlock=blk∨v'.ownBlock=some w.heap.size)
theorem infopage:(prog.info? 236).map (fun i=>(i.zero,i.size,i.bytes))=some (some (.agg #[.pointer none,.int .i64 0]),2,16):=by kernel_rfl
theorem J0y{w:World}{rv:RV}{n vb:Nat}{xs:List Value}{v0 v1:Value}(Af:w.ownsRow 0 236 2 (lvOf rv n) n xs)(Bg:rvOk rv n)(hn:n<=1048576)(b0:w.cell? ⟨vb,0,none⟩=some v0)(b1:w.cell? ⟨vb,1,none⟩=some v1)(o0:v0.oneCell'=true)(o1:v1.oneCell'=true) :
  Calls prog 132 #[lvOf rv n,.int .i64 n,.slice (some ⟨vb,0,none⟩) 1 1] w (InsP 236 n (lvOf rv n).ownBlock (xs++[v0,v1]) w):=by
 obtain⟨i0,hi,Bx,AX,AU⟩:=info_parts infopage;have JD:∀j u,[v0,v1][j]?=some u->w.cell? ((⟨vb,0,none⟩:Addr).add j)=some u:=by
  intro j u hj
  match j,hj with
  | 0,hj=>cases hj;exact b0
  | 1,hj=>cases hj;exact b1
 obtain⟨v',w',hr,q1,q2,q3,q4⟩:=run_append_own_at (P:=prog) w 0 231 231 236 i0 (.agg #[.pointer none,.int .i64 0]) 2 16 underlying231 hi Bx AX AU rfl (by decide) (lvOf rv n) n xs Af ⟨vb,0,none⟩ 1 1 [v0,v1] rfl JD (by simp[o0,o1]) (by unfold maxLen;omega) (by omega) (J5e _);have HR:Hid (InsP 236 n (lvOf rv n).ownBlock (xs++[v0,v1]) w (.returned v') w'):=⟨v',rfl,q1,q2,q4⟩
 clear hi Bx AX AU Af q1 q2 q3 q4 JD;cases rv with
 | none =>
  have h0:n=0:=Bg;subst h0;unfold lvOf at *
  go_enter func132,ntmps132;go_wp2_with (at_builtin;refine Lib.wpList_append_run _ rfl _ _ _ _ rfl _ _ rfl rfl _ _ hr ?_);go_ret;exact HR.out
 | some p =>
  obtain⟨g,cap⟩:=p;have Rm:n<=cap:=Bg.1;have CR:cap<=9223372036854775807:=by have:=Bg.2;unfold maxLen at this;omega
  clear Bg;unfold lvOf at *
  go_enter func132,ntmps132;go_wp2_with (at_builtin;refine Lib.wpList_append_run _ rfl _ _ _ _ rfl _ _ rfl rfl _ _ hr ?_)
  all_goals (go_ret;exact HR.out)
theorem Z4U{w:World}{g cap n i vb:Nat}{xs:List Value}{Ag:Array Value}{v0 v1:Value}(hg:w.heap[g]?=some (.cells Ag 236 (0,0)))(B4:Ag.size=cap*2)(AW:Ag.toList.take xs.length=xs)(hx:xs.length=n*2)(hi:i<n)(hn:n<=1048576)(hc:n+1<=cap)(CR:cap<=maxLen)
  (hv:Cells w vb 236 [v0,v1]) (I2:vb≠g) (ox:∀v∈xs,v.oneCell'=true) (o0:v0.oneCell'=true) (o1:v1.oneCell'=true) :
  Calls prog 132 #[.slice (some ⟨g,0,none⟩) n cap,.int .i64 i,.slice (some ⟨vb,0,none⟩) 1 1] w (InsP 236 n (some g) (xs.take (i*2)++[v0,v1]++xs.drop (i*2)) w):=by
 have Be:(prog.info? 236).map (·.size)=some 2:=by
  obtain⟨i0,hi,Bx,AX,AU⟩:=info_parts infopage;rw[hi];simp[AX]
 have AM:Ag.toList.length=cap*2:=by simpa using B4
 have BR:∀lb cb,(callFunc 193 #[.slice (some ⟨vb,0,none⟩) 1 1,.slice (some ⟨g,(i+1)*2,none⟩) lb cb]).run prog w=.ok (.value (.bool false)) w:=fun lb cb=>by
  rw[run_callFunc_extern func193 (by kernel_rfl) (by kernel_rfl) (by kernel_rfl) (e:=Extern.SlicesOverlaps.overlaps #[231,231] #[4]) (by kernel_rfl),
   Lib.run_overlaps_apart w 231 4 236 underlying231 2 sizeOf236 ⟨vb,0,none⟩ ⟨g,(i+1)*2,none⟩ 1 1 lb cb I2 236 236 2 Ag.size (by simp[World.shape?,show w.heap[vb]?=_ from hv]) (by simp[World.shape?,hg]) (by omega) (hv.free 0) (hv.free 2)]
  rfl
 have DF:(xs.drop (i*2)).length=(n-i)*2:=by rw[J5u,hx];omega
 have Jy:=Z4T Ag.toList xs [v0,v1] (i*2) AW (by omega) (by simp only[J3N,J5B];omega);simp only[J3N,J5B,Nat.reduceAdd] at Jy;obtain⟨e1,e2,e3⟩:=Jy;obtain⟨c1,CM⟩:∃c1:List Value,c1=Ag.toList.take (i*2+2)++xs.drop (i*2)++Ag.toList.drop (i*2+2+(xs.drop (i*2)).length):=⟨_,rfl⟩
 rw[<- CM] at e1 e2 e3;obtain⟨c2,BF⟩:∃c2:List Value,c2=c1.take (i*2)++[v0,v1]++c1.drop (i*2+2):=⟨_,rfl⟩
 rw[<- BF] at e2 e3;have Au:∀j v,xs[j]?=some v->w.drew.cell? ⟨g,j,none⟩=some v:=fun j v hj=>by
  have:Ag.toList[j]?=some v:=by
   rw[<- AW] at hj;rw[J5f] at hj;split at hj
   ·exact hj
   ·cases hj
  rw[J5C] at this;show w.cell? _=_;simp[World.cell?,hg,this]
 have Qc:∀ty dc sc,(Builtin.copy_ #[231,231] ty #[.slice (some ⟨g,(i+1)*2,none⟩) (n-i) dc,.slice (some ⟨g,i*2,none⟩) (n+1-i) sc]).run prog w.drew=.ok (.int .i64 ((n-i:Nat):Int)) (w.drew.setRow g c1.toArray):=fun ty dc sc=>by
  have:=Q3E (P:=prog) w.drew 231 231 ty 236 2 g ((i+1)*2) (n-i) dc ⟨g,i*2,none⟩ (n+1-i) sc (n-i) Ag 236 (xs.drop (i*2)) underlying231 Be hg (by simp only[J5D];split <;> omega) DF
   (fun j v hj=>by rw[Addr.add_lit];exact Au _ v (by rwa [J5E] at hj)) (by rw[DF,B4];omega) (fun v hv=>ox v (J5F hv))
  rw[show(i+1)*2=i*2+2 by omega] at this ⊢;rw[this,CM]
 have Ch:(w.drew.setRow g c1.toArray).heap[g]?=some (.cells c1.toArray 236 (0,0)):=setRow_heap w.drew g Ag _ _ _ hg;have Pn:∀ty dc,(Builtin.copy_ #[231,231] ty #[.slice (some ⟨g,i*2,none⟩) (n+1-i) dc,.slice (some ⟨vb,0,none⟩) 1 1]).run prog (w.drew.setRow g c1.toArray)=.ok (.int .i64 1) ((w.drew.setRow g c1.toArray).setRow g c2.toArray):=fun ty dc=>by
  have:=Q3E (P:=prog) (w.drew.setRow g c1.toArray) 231 231 ty 236 2 g (i*2) (n+1-i) dc ⟨vb,0,none⟩ 1 1 1 c1.toArray 236 [v0,v1] underlying231 Be Ch (by simp only[J5D];split <;> omega) rfl
   (fun j v hj=>by
    rw[Addr.add_lit,J5G];have hb:(w.drew.setRow g c1.toArray).heap[vb]?=w.heap[vb]?:=setRow_other w.drew g vb _ I2;have:(w.drew.setRow g c1.toArray).cell? ⟨vb,j,none⟩=w.cell? ⟨vb,j,none⟩:=by simp[World.cell?,hb]
    rw[this];exact hv.cell j v hj) (by simp only[J3N,J5B,J5H];omega) (by simp[o0,o1])
  rw[this,BF];rfl
 have HR:Hid (InsP 236 n (some g) (xs.take (i*2)++[v0,v1]++xs.drop (i*2)) w (.returned (.slice (some ⟨g,0,none⟩) (n+1) cap)) ((w.drew.setRow g c1.toArray).setRow g c2.toArray)):=by
  have Bu:((w.drew.setRow g c1.toArray).setRow g c2.toArray).heap[g]?=some (.cells c2.toArray 236 (0,0)):=setRow_heap _ g c1.toArray _ _ _ Ch;refine⟨_,rfl,⟨by simp only[J3M,J5v,J3N,J5B];omega,.inr ⟨g,cap,c2.toArray,rfl,J5e _,Bu,hc,CR,by simp only[J5H];omega,?_⟩⟩,⟨rfl,rfl,rfl,by simp,fun k _ hk=>?_⟩,.inl rfl⟩
  ·rw[<- e3];congr 1;simp only[hx]
   first|omega|simp
  ·have AC:k≠g:=fun e=>hk (by rw[e])
   rw[setRow_other _ g k _ AC,setRow_other _ g k _ AC];rfl
 clear Au hg B4 AW Ch e1 e2 e3 AM ox DF hx CM BF hv;generalize xs.take (i*2)++[v0,v1]++xs.drop (i*2)=ys at *
 generalize c1.toArray=a1 at *
 generalize c2.toArray=a2 at *
 have PX:cap<=9223372036854775807:=by unfold maxLen at CR;omega
 have AU:¬((i:Int)=(n:Int)):=by omega
 have Du:IntKind.i64.wrap ((i:Int)+1)=(i:Int)+1:=Go.IntWalk.i64_in _ (by omega);have EV:IntKind.i64.wrap ((n:Int)+1)=(n:Int)+1:=Go.IntWalk.i64_in _ (by omega);have SH:((i:Int)+1).toNat=i+1:=by omega
 have Aw:(0:Int)<=(i:Int)+1:=by omega
 have Cm:i<=n:=by omega
 have Ar:(i:Int)<=(n:Int)+1:=by omega
 have Ai:¬(cap=i+1):=by omega
 have A9:¬(cap=i):=by omega
 have mixed:prog.follows .mixedOrders=true:=by kernel_rfl
 go_enter func132,ntmps132;go_wp2_with (simp only[BR])
 go_region_law_o (refine step_copy_runI rfl _ _ 231 231 rfl _ _ (by simp[Act.eval,Act.put]) (by simp[Act.eval,Act.put]) (Qc _ _ _) ?_)
 go_wp2_with (at_builtin;refine wpList_copy_runI _ rfl _ _ 231 231 rfl _ _ rfl rfl (Pn _ _) ?_);go_ret;exact HR.out
theorem Z2P(row:List Value)(xs news:List Value)(p:Nat)(hp:p<=xs.length)(hr:row.take p=xs.take p)(hl:xs.length+news.length<=row.length) :
  let c1:=row.take p++news++row.drop (p+news.length)
  let c2:=c1.take (p+news.length)++xs.drop p++c1.drop (p+news.length+(xs.drop p).length)
  c1.length=row.length/\c2.length=row.length/\c2.take (xs.length+news.length)=xs.take p++news++xs.drop p:=by
 have e0:(xs.drop p).length=xs.length-p:=J5u;have e1:(row.take p++news++row.drop (p+news.length)).length=row.length:=by
  simp only[J3M,J5v,J5u];omega
 refine⟨e1,?_,?_⟩
 ·simp only[J3M,J5v,J5u];omega
 ·have ht:(row.take p++news++row.drop (p+news.length)).take (p+news.length)=xs.take p++news:=by
   have:(row.take p++news).length=p+news.length:=by simp;omega
   rw[<- this,J5A,hr]
  show List.take (xs.length+news.length) _=_;rw[ht];have e2:(xs.take p++news++xs.drop p).length=xs.length+news.length:=by simp;omega
  rw[<- e2,J5A]
theorem Z8f{w:World}{g n i vb:Nat}{xs:List Value}{Ag:Array Value}{v0 v1:Value}(hg:w.heap[g]?=some (.cells Ag 236 (0,0)))(AW:Ag.toList.take xs.length=xs)(hx:xs.length=n*2)(hi:i<n)(hn:n<=1048576)
  (hv:Cells w vb 236 [v0,v1]) (ox:∀v∈xs,v.oneCell'=true) (o0:v0.oneCell'=true) (o1:v1.oneCell'=true) :
  Calls prog 132 #[.slice (some ⟨g,0,none⟩) n n,.int .i64 i,.slice (some ⟨vb,0,none⟩) 1 1] w (InsP 236 n (some g) (xs.take (i*2)++[v0,v1]++xs.drop (i*2)) w):=by
 obtain⟨i0,BJ,Bx,AX,MS⟩:=info_parts infopage;have Be:(prog.info? 236).map (·.size)=some 2:=by rw[BJ];simp[AX]
 have TV:g<w.heap.size:=lt_of_block hg;have ND:vb<w.heap.size:=lt_of_block hv;have Au:∀j v,xs[j]?=some v->w.cell? ⟨g,j,none⟩=some v:=fun j v hj=>by
  have:Ag.toList[j]?=some v:=by
   rw[<- AW] at hj;rw[J5f] at hj;split at hj
   ·exact hj
   ·cases hj
  rw[J5C] at this;simp[World.cell?,hg,this]
 have Cc:(Builtin.firstCells i0.size i (.slice (some ⟨g,0,none⟩) i n)).run prog w.drew=.ok (xs.take (i*2)).toArray w.drew:=by
  rw[AX];exact run_firstCells_some w.drew 2 i ⟨g,0,none⟩ i n (xs.take (i*2)) (by rw[J5v];omega) (fun j v hj=>by
   rw[Addr.add_lit,J5G];rw[J5f] at hj;split at hj
   ·exact Au j v hj
   ·cases hj)
 have NV:(n:Int)+1-(i:Int)=((n+1-i:Nat):Int):=by omega
 have Dy:i+(n+1-i)=n+1:=by omega
 obtain⟨G,hG⟩:∃G,G=grownCap w (n+1) n 236:=⟨_,rfl⟩
 have TC:n+1<=G:=by rw[hG];exact grownCap_ge w _ _ _
 have RZ:G<=maxLen:=by rw[hG];exact grownCap_le_maxLen w (n+1) n _ (by unfold maxLen;omega)
 obtain⟨ROW,Hu⟩:∃ROW:Array Value,ROW=(xs.take (i*2)).toArray++Builtin.zeroCells (Value.agg #[.pointer none,.int .i64 0]).cells (n+1-i)++Builtin.zeroCells (Value.agg #[.pointer none,.int .i64 0]).cells (G-(n+1)):=⟨_,rfl⟩
 have U4:∀ty,(Builtin.append_ #[231,3] ty #[.slice (some ⟨g,0,none⟩) i n,.int .i64 ((n:Int)+1-(i:Int))]).run prog w =
   .ok (.slice (some ⟨w.heap.size,0,none⟩) (n+1) G) (w.drew.alloc (.cells ROW 236)):=fun ty=>by
  have h:=Lib.run_append_grow_zeros w 231 3 ty 236 i0 _ .i64 .i64 underlying231 underlying3 BJ Bx (some ⟨g,0,none⟩) i n (xs.take (i*2)) Cc (n+1-i) (by omega) (by omega) (by omega) (by omega) (by rw[MS];omega) (by rw[MS,Dy];exact growslice_fits (by omega) (by omega));rw[Dy] at h;rw[NV,Hu,hG];exact h
 have Sc:ROW.size=G*2:=by
  rw[Hu];simp only[Array.size_append,size_zeroCells,J5H,J5v,show(Value.agg #[.pointer none,.int .i64 0]).cells.size=2 from rfl];omega
 have RT:ROW.toList.take (i*2)=xs.take (i*2):=by
  rw[Hu];simp only[Array.toList_append,J4c];rw[J5w (by simp;omega)];simp[List.take_take]
 have Ti:ROW.toList.length=G*2:=by simpa using Sc
 have Jy:=Z2P ROW.toList xs [v0,v1] (i*2) (by omega) RT (by simp only[J3N,J5B];omega);simp only[J3N,J5B,Nat.reduceAdd] at Jy;obtain⟨e1,e2,e3⟩:=Jy;obtain⟨c1,CM⟩:∃c1:List Value,c1=ROW.toList.take (i*2)++[v0,v1]++ROW.toList.drop (i*2+2):=⟨_,rfl⟩
 rw[<- CM] at e1 e2 e3;obtain⟨c2,BF⟩:∃c2:List Value,c2=c1.take (i*2+2)++xs.drop (i*2)++c1.drop (i*2+2+(xs.drop (i*2)).length):=⟨_,rfl⟩
 rw[<- BF] at e2 e3;have DF:(xs.drop (i*2)).length=(n-i)*2:=by rw[J5u,hx];omega
 have hN:∀W:World,W.heap=(w.alloc (.cells ROW 236)).heap->W.heap[w.heap.size]?=some (.cells ROW 236 (0,0))/\(∀k,k<w.heap.size->W.heap[k]?=w.heap[k]?):=fun W hW=>by
  rw[hW];exact⟨heap_alloc_new w _,fun k hk=>heap_alloc_old w _ hk⟩
 have LL:∀W:World,W.heap=(w.alloc (.cells ROW 236)).heap->∀ty dc,(Builtin.copy_ #[231,231] ty #[.slice (some ⟨w.heap.size,i*2,none⟩) (n+1-i) dc,.slice (some ⟨vb,0,none⟩) 1 1]).run prog W=.ok (.int .i64 1) (W.setRow w.heap.size c1.toArray):=fun W hW ty dc=>by
  obtain⟨n1,n2⟩:=hN W hW;have:=Q3E (P:=prog) W 231 231 ty 236 2 w.heap.size (i*2) (n+1-i) dc ⟨vb,0,none⟩ 1 1 1 ROW 236 [v0,v1] underlying231 Be n1 (by simp only[J5D];split <;> omega) rfl
   (fun j v hj=>by
    rw[Addr.add_lit,J5G];have:W.cell? ⟨vb,j,none⟩=w.cell? ⟨vb,j,none⟩:=by simp[World.cell?,n2 vb ND]
    rw[this];exact hv.cell j v hj) (by simp only[J3N,J5B];omega) (by simp[o0,o1])
  rw[this,CM];rfl
 have Qa:∀W:World,W.heap=((w.alloc (.cells ROW 236)).setRow w.heap.size c1.toArray).heap->W.heap[w.heap.size]?=some (.cells c1.toArray 236 (0,0))/\(∀k,k<w.heap.size->W.heap[k]?=w.heap[k]?):=fun W hW=>by
  obtain⟨n1,n2⟩:=hN _ rfl;rw[hW];exact⟨setRow_heap _ w.heap.size ROW _ _ _ n1,fun k hk=>(setRow_other _ _ k _ (by omega)).trans (n2 k hk)⟩
 have Ms:∀W:World,W.heap=((w.alloc (.cells ROW 236)).setRow w.heap.size c1.toArray).heap->∀ty dc sc,(Builtin.copy_ #[231,231] ty #[.slice (some ⟨w.heap.size,(i+1)*2,none⟩) (n-i) dc,.slice (some ⟨g,i*2,none⟩) (n-i) sc]).run prog W=.ok (.int .i64 ((n-i:Nat):Int)) (W.setRow w.heap.size c2.toArray):=fun W hW ty dc sc=>by
  obtain⟨n1,n2⟩:=Qa W hW;have:=Q3E (P:=prog) W 231 231 ty 236 2 w.heap.size ((i+1)*2) (n-i) dc ⟨g,i*2,none⟩ (n-i) sc (n-i) c1.toArray 236 (xs.drop (i*2)) underlying231 Be n1 (by simp only[J5D];split <;> omega) DF
   (fun j v hj=>by
    rw[Addr.add_lit];have:W.cell? ⟨g,i*2+j,none⟩=w.cell? ⟨g,i*2+j,none⟩:=by simp[World.cell?,n2 g TV]
    rw[this];exact Au _ v (by rwa [J5E] at hj)) (by rw[DF];simp only[J5H];omega) (fun v hv=>ox v (J5F hv))
  rw[show(i+1)*2=i*2+2 by omega] at this ⊢;rw[this,BF]
 have HR:Hid (∀w':World,w'.heap=(((w.alloc (.cells ROW 236)).setRow w.heap.size c1.toArray).setRow w.heap.size c2.toArray).heap->w'.os=w.os->w'.tape=w.tape->w'.output=w.output->InsP 236 n (some g) (xs.take (i*2)++[v0,v1]++xs.drop (i*2)) w (.returned (.slice (some ⟨w.heap.size,0,none⟩) (n+1) G)) w'):=fun w' hW h1 h2 h3=>by
  obtain⟨n1,n2⟩:=Qa _ rfl;refine⟨_,rfl,⟨by simp only[J3M,J5v,J3N,J5B];omega,.inr ⟨w.heap.size,G,c2.toArray,rfl,J5e _,by rw[hW];exact setRow_heap _ _ c1.toArray _ _ _ n1,TC,RZ,by simp only[J5H];omega,?_⟩⟩,⟨h1,h2,h3,by rw[hW];simp,fun k hk _=>?_⟩,.inr rfl⟩
  ·rw[<- e3];congr 1;simp only[hx]
   first|omega|simp
  ·rw[hW,setRow_other _ _ k _ (by omega)];exact n2 k hk
 clear Au hg AW e1 e2 e3 ox DF hx CM BF hv Sc RT Ti hN Qa Cc hG Hu BJ Bx AX MS Be NV Dy;generalize xs.take (i*2)++[v0,v1]++xs.drop (i*2)=ys at *
 generalize c1.toArray=a1 at *
 generalize c2.toArray=a2 at *
 have hA:=LL (w.alloc (.cells ROW 236)).drew rfl;have hB:=Ms ((w.alloc (.cells ROW 236)).drew.setRow w.heap.size a1).drew rfl;clear LL Ms;have KQ:G<=9223372036854775807:=by unfold maxLen at RZ;omega
 have AU:¬((i:Int)=(n:Int)):=by omega
 have Du:IntKind.i64.wrap ((i:Int)+1)=(i:Int)+1:=Go.IntWalk.i64_in _ (by omega);have EV:IntKind.i64.wrap ((n:Int)+1)=(n:Int)+1:=Go.IntWalk.i64_in _ (by omega);have SH:((i:Int)+1).toNat=i+1:=by omega
 have Aw:(0:Int)<=(i:Int)+1:=by omega
 have Cm:i<=n:=by omega
 have Gq:i+1<=n:=by omega
 have Ar:(i:Int)<=(n:Int)+1:=by omega
 have AD:(n:Int)<(n:Int)+1:=by omega
 have Wx:¬(G=i):=by omega
 have Ul:¬(G=i+1):=by omega
 have Ih:¬(n=i):=by omega
 have mixed:prog.follows .mixedOrders=true:=by kernel_rfl
 go_enter func132,ntmps132;go_wp2_with (at_builtin;refine Lib.wpList_append_run _ rfl _ _ _ _ rfl _ _ rfl rfl _ _ (U4 _) ?_)
 go_region_law_o (refine step_copy_runI rfl _ _ 231 231 rfl _ _ (by simp[Act.eval,Act.put]) (by simp[Act.eval,Act.put]) (hB _ _ _) ?_)
 go_wp2
 go_ret;exact HR.out _ rfl rfl rfl rfl
def InsD(A B:HL)(rv:RV)(n i:Nat)(xs news:List Value)(w:World)(r:Ending)(w':World):Prop:=
 ∃rv',r=.returned (lvOf rv' (n+1))/\rvOk rv' (n+1)/\Step (A++rowH rv 236 2 xs++B) (A++rowH rv' 236 2 (xs.take (i*2)++news++xs.drop (i*2))++B) w w'
theorem J0z{w:World}{A B:HL}{rv:RV}{n i vb:Nat}{xs:List Value}{v0 v1:Value}(h:Sep w (A++rowH rv 236 2 xs++B))(Bg:rvOk rv n)(hx:xs.length=n*2)(hi:i<=n)(hn:n<=1048576)
  (hv:Cells w vb 236 [v0,v1]) (I2:vb∉keys (A++rowH rv 236 2 xs++B)) (ox:∀v∈xs,v.oneCell'=true) (o0:v0.oneCell'=true) (o1:v1.oneCell'=true) :
  Calls prog 132 #[lvOf rv n,.int .i64 i,.slice (some ⟨vb,0,none⟩) 1 1] w (InsD A B rv n i xs [v0,v1] w):=by
 have hr:Sep w (rowH rv 236 2 xs):=h.left.right;have Af:=Q4t hr Bg hx;have key:Calls prog 132 #[lvOf rv n,.int .i64 i,.slice (some ⟨vb,0,none⟩) 1 1] w (InsP 236 n (lvOf rv n).ownBlock (xs.take (i*2)++[v0,v1]++xs.drop (i*2)) w):=by
  by_cases Cm:i=n
  ·subst Cm;have:=J0y Af Bg hn (hv.cell 0 _ rfl) (hv.cell 1 _ rfl) o0 o1;rw[J5a (by omega),J5z (by omega),J5i];exact this
  ·cases rv with
   | none=>have:n=0:=Bg;omega
   | some p =>
    obtain⟨g,cap⟩:=p;obtain⟨o,ho,Ag,rfl,B4,AW⟩:=hr.get (b:=g) (q:=isR 236 (cap*2) xs) (by simp[rowH]);by_cases hc:n+1<=cap
    ·exact Z4U ho B4 AW hx (by omega) hn hc Bg.2 hv (fun e=>I2 (by subst e;simp[rowH])) ox o0 o1
    ·have:cap=n:=by have:=Bg.1;omega
     subst this;exact Z8f ho AW hx (by omega) hn hv ox o0 o1
 refine key.mono ?_;rintro r w'⟨v',rfl,q1,q2,q3⟩;obtain⟨rv',rfl,e2,e3⟩:=Q1p h q1 q2 q3;exact⟨rv',rfl,e2,e3⟩
end Go.Proofs.YtfidemmgofcnmaaGreatDoor

/- What the laws of spaces share is proved. No condition. Part of a proof. -/
import Derived.Test.YtlakjlmaboioiaaGreatDoorVa11
set_option maxHeartbeats 8000000
set_option maxRecDepth 100000
set_option linter.unusedVariables false
namespace Go.Proofs.YtlakjlmaboioiaaGreatDoor
open Go.RowKit Go.Proofs.Tryz
theorem Inv.lok {P:PL} {l:List Pl} {fr:List Nat} {xc:Int->Int} {zs:List Nat} (v:Inv P l fr xc zs):LOk l:=⟨v.len,fun p hp=>⟨by have:=(v.st p hp).1;omega,(v.st p hp).2⟩⟩
theorem new3 {w w1:World} {T:TypeId} {a b c:Value} (hb:Below (w.alloc (.cells #[a,b,c] T)).heap.size (w.alloc (.cells #[a,b,c] T)) w1):Below w.heap.size w w1/\w1.cell? ⟨w.heap.size,0,none⟩=some a/\w1.cell? ⟨w.heap.size,1,none⟩=some b/\w1.cell? ⟨w.heap.size,2,none⟩=some c/\(∀i,w1.frozen? ⟨w.heap.size,i,none⟩=false)/\w.heap.size<w1.heap.size:=by
 have hc:=(Cells.new w T [a,b,c]).same (hb.block w.heap.size (by simp));refine⟨((Below.refl _ _).alloc (J2h _) _).trans (hb.mono (by simp)),hc.cell 0 _ rfl,hc.cell 1 _ rfl,hc.cell 2 _ rfl,hc.free,?_⟩;have:=hb.size;simp at this;omega
theorem Q0e {w w1:World} {o:Obj} (hb:Below (w.alloc o).heap.size (w.alloc o) w1):Below w.heap.size w w1:=((Below.refl _ _).alloc (J2h _) _).trans (hb.mono (by simp))
theorem Z1O {w w1:World} (h:Below w.heap.size w w1) (a b c:Value) (o:Obj):Below w.heap.size w ((((w1.setCell ⟨w.heap.size,0,none⟩ a).setCell ⟨w.heap.size,1,none⟩ b).setCell ⟨w.heap.size,2,none⟩ c).alloc o):=
 (((h.setCell (J2h _) _).setCell (J2h _) _).setCell (J2h _) _).alloc (by have:=h.size;simpa [World.setCell] using this) _
theorem Z5U {w:World} {S:CO} (h:Sep w S.hl) {x:Nat} {a b c e kind:Int} (hG:Calls prog 93 #[.pointer (some ⟨S.t,0,none⟩),.int .u32 x] (w.alloc (.cells #[.int .i64 0,.int .i64 0,.int .i64 0] 69)) (Told (w.alloc (.cells #[.int .i64 0,.int .i64 0,.int .i64 0] 69)) (.tuple #[.agg #[.int .i64 a,.int .i64 b,.int .i64 c],.int .i64 e])))
  (hc:e≠0∨kind=0∨a=kind):Calls prog 30 #[.pointer (some ⟨S.c,0,none⟩),.int .u32 x,.int .i64 kind] w (Told w (.tuple #[.agg #[.int .i64 a,.int .i64 b,.int .i64 c],.int .i64 e])):=by
 have c1:=CO.c1 (h.alloc (.cells #[.int .i64 0,.int .i64 0,.int .i64 0] 69));have A6:e≠0∨e=0/\kind=0∨e=0/\kind≠0/\a=kind:=by omega
 clear h hc;rcases A6 with he|⟨rfl,rfl⟩|⟨rfl,hk,rfl⟩
 ·have Av:(e==0)=false:=by simpa using he
  go_enter func30,ntmps30;go_wp2_with (go_at_call 93;refine hG.mono ?_;rintro r w1 ⟨rfl,hb⟩;obtain⟨hb,e0,e1,e2,ef,Ab⟩:=new3 hb;have HB:=Q0a hb;have f0:=ef 0;have f1:=ef 1;have f2:=ef 2;clear hb ef);refine bodyPost_ret (v:=.tuple #[.agg #[.int .i64 a,.int .i64 b,.int .i64 c],.int .i64 e]) (by simp [results,results30,go_sem,e0,e1,e2,Ab]) rfl ⟨rfl,Z1O HB.out _ _ _ _⟩
 ·go_enter func30,ntmps30;go_wp2_with (go_at_call 93;refine hG.mono ?_;rintro r w1 ⟨rfl,hb⟩;obtain⟨hb,e0,e1,e2,ef,Ab⟩:=new3 hb;have HB:=Q0a hb;have f0:=ef 0;have f1:=ef 1;have f2:=ef 2;clear hb ef);refine bodyPost_ret (v:=.tuple #[.agg #[.int .i64 a,.int .i64 b,.int .i64 c],.int .i64 0]) (by simp [results,results30,go_sem,e0,e1,e2,Ab]) rfl ⟨rfl,Z1O HB.out _ _ _ _⟩
 ·have Av:(a==0)=false:=by simpa using hk
  go_enter func30,ntmps30;go_wp2_with (go_at_call 93;refine hG.mono ?_;rintro r w1 ⟨rfl,hb⟩;obtain⟨hb,e0,e1,e2,ef,Ab⟩:=new3 hb;have HB:=Q0a hb;have f0:=ef 0;have f1:=ef 1;have f2:=ef 2;clear hb ef);refine bodyPost_ret (v:=.tuple #[.agg #[.int .i64 a,.int .i64 b,.int .i64 c],.int .i64 0]) (by simp [results,results30,go_sem,e0,e1,e2,Ab]) rfl ⟨rfl,Z1O HB.out _ _ _ _⟩
theorem Z8w {w:World} {S:CO} (h:Sep w S.hl) {x:Nat} {a b c kind:Int} (hG:Calls prog 93 #[.pointer (some ⟨S.t,0,none⟩),.int .u32 x] (w.alloc (.cells #[.int .i64 0,.int .i64 0,.int .i64 0] 69)) (Told (w.alloc (.cells #[.int .i64 0,.int .i64 0,.int .i64 0] 69)) (.tuple #[.agg #[.int .i64 a,.int .i64 b,.int .i64 c],.int .i64 0])))
  (hk:kind≠0) (ha:a≠kind):Calls prog 30 #[.pointer (some ⟨S.c,0,none⟩),.int .u32 x,.int .i64 kind] w (Told w (.tuple #[.agg #[.int .i64 0,.int .i64 0,.int .i64 0],.int .i64 10])):=by
 have c1:=CO.c1 (h.alloc (.cells #[.int .i64 0,.int .i64 0,.int .i64 0] 69));have Av:(kind==0)=false:=by simpa using hk
 have Af:(a==kind)=false:=by simpa using ha
 have As:(kind != 0)=true:=by simpa using hk
 have A5:(a != kind)=true:=by simpa using ha
 clear h hk ha;go_enter func30,ntmps30;go_wp2_with (go_at_call 93;refine hG.mono ?_;rintro r w1 ⟨rfl,hb⟩;obtain⟨hb,e0,e1,e2,ef,Ab⟩:=new3 hb;have HB:=Q0a hb;have f0:=ef 0;have f1:=ef 1;have f2:=ef 2;clear hb ef);refine bodyPost_ret (v:=.tuple #[.agg #[.int .i64 0,.int .i64 0,.int .i64 0],.int .i64 10]) (by simp [results,results30,go_sem,e0,e1,e2,Ab]) rfl ⟨rfl,Z1O HB.out _ _ _ _⟩
section
variable {w:World} {S:CO} {fr:List Nat} {N K:Nat}
theorem Q3G (h:Sep w S.hl) (ok:LOk S.l) {x:Nat} (hx:x<4294967296) (kind:Int) (hp:pget S.l 1 x=none):Calls prog 30 #[.pointer (some ⟨S.c,0,none⟩),.int .u32 x,.int .i64 kind] w (Told w (.tuple #[zobj,.int .i64 8])):=
 Z5U h (Z5K (h:=S.ht) (CO.sT (h.alloc _)) ok hx hp) (.inl (by decide))
theorem Q1F (h:Sep w S.hl) (ok:LOk S.l) {x:Nat} (hx:x<4294967296) (kind:Int) {p:Pl} (hp:pget S.l 1 x=some p) (hk:kind=0∨(p.kind:Int)=kind):Calls prog 30 #[.pointer (some ⟨S.c,0,none⟩),.int .u32 x,.int .i64 kind] w (Told w (.tuple #[p.obj,.int .i64 0])):=
 Z5U h (Q6l (h:=S.ht) (CO.sT (h.alloc _)) ok hx hp) (.inr hk)
theorem Q2E (h:Sep w S.hl) (ok:LOk S.l) {x:Nat} (hx:x<4294967296) (kind:Int) {p:Pl} (hp:pget S.l 1 x=some p) (h0:kind≠0) (hk:(p.kind:Int)≠kind):Calls prog 30 #[.pointer (some ⟨S.c,0,none⟩),.int .u32 x,.int .i64 kind] w (Told w (.tuple #[zobj,.int .i64 10])):=
 Z8w h (Q6l (h:=S.ht) (CO.sT (h.alloc _)) ok hx hp) h0 hk
end
theorem CO.Ok.wordf {S:CO} {fr:List Nat} {N K:Nat} (ok:S.Ok fr N K) {p:Pl} (hp:p∈S.l) (hi:p.is=true) (hk:p.kind=1):Q0u S.P.a.mem p.at_=p.own/\p.at_%8=0/\p.at_+8<=S.P.a.mem.length/\p.own<1048576:=by
 have hu:=ok.inv.mem.used hp hi (by omega);rw [hk] at hu;have h1:=Q0m ok.inv.mem.pool hu;have:Q0c 1=64:=rfl;refine⟨ok.inv.mem.word p hp hi hk,Q2q ok.inv.mem.pool hu,by omega,?_⟩;obtain⟨e,he⟩:=ok.inv.tre.acc hp hi hk;have h2:=ok.inv.mem.pool.q.fa _ e he;have h3:=ok.inv.mem.pool.q.next1;omega
theorem Q9i {w:World} {S:CO} (h:Sep w S.hl) (hb:∀b∈S.P.a.mem,b<256) (hm:S.P.a.mem.length<=1073741824) {k a f x:Nat} (ha:a%8=0) (hl:a+8<=S.P.a.mem.length) (hx:Q0u S.P.a.mem a=x) (EV:x<1048576) :
  Calls prog 137 #[.pointer (some ⟨S.c,0,none⟩),.agg #[.int .i64 k,.int .i64 a,.int .i64 f]] w (Told w (.int .i64 x)):=by
 have s1:=(h.alloc (.cells #[.int .i64 k,.int .i64 a,.int .i64 f] 69)).drew;have k1:=Q1f (CO.sP s1);have k2:=Z4X (PL.sA (CO.sP s1)) hb a ha hl hm;rw [hx] at k2;have c0:=CO.c0 (h.alloc (.cells #[.int .i64 k,.int .i64 a,.int .i64 f] 69));have d0:=CO.c0 s1;have e1:(w.alloc (.cells #[.int .i64 k,.int .i64 a,.int .i64 f] 69)).cell? ⟨w.heap.size,1,none⟩=some (.int .i64 a):=(Cells.new w 69 [.int .i64 k,.int .i64 a,.int .i64 f]).cell 1 _ rfl;have e2:(w.alloc (.cells #[.int .i64 k,.int .i64 a,.int .i64 f] 69)).drew.cell? ⟨w.heap.size,1,none⟩=some (.int .i64 a):=e1;have HB:Hid (Below w.heap.size w (w.alloc (.cells #[.int .i64 k,.int .i64 a,.int .i64 f] 69)).drew):=((Below.refl _ _).alloc (J2h _) _).drew
 have hw:IntKind.i64.wrap (x:Int)=(x:Int):=Go.IntWalk.i64_in _ (by omega);unfold ptr at *
 clear h hb hm ha hl hx s1;go_enter func137,ntmps137;go_wp2_with fail
 go_region_held3 (fun w'=>w'.cell? ⟨S.c,0,none⟩=some (.pointer (some ⟨S.P.p,0,none⟩))/\w'.cell? ⟨w.heap.size,1,none⟩=some (.int .i64 a)) (first|exact⟨c0,e1⟩|exact⟨d0,e2⟩)
  (first|(go_at_call 155;refine k1.mono ?_;rintro e w' ⟨rfl,rfl⟩)|(go_at_call 216;refine k2.mono ?_;rintro e w' ⟨rfl,rfl⟩))
 go_wp2_with fail
 first|exact⟨rfl,HB.out⟩|(go_ret;exact⟨rfl,HB.out⟩)
theorem Q5M {w:World} {S:CO} {x:Nat} {e:Int} (he:e≠0) (hO:Calls prog 30 #[.pointer (some ⟨S.c,0,none⟩),.int .u32 x,.int .i64 1] w (Told w (.tuple #[.agg #[.int .i64 0,.int .i64 0,.int .i64 0],.int .i64 e]))) :
  Calls prog 67 #[.pointer (some ⟨S.c,0,none⟩),.int .u32 x] w (Told w (.tuple #[.int .i64 0,.int .i64 e])):=by
 have Av:(e==0)=false:=by simpa using he
 go_enter func67,ntmps67;go_wp2_with (go_at_call 30;refine hO.mono ?_;rintro r w1 ⟨rfl,hb⟩;have HB:=Q0a hb;clear hb);have Ee:Hid (∀o,Below w.heap.size w (w1.alloc o)):=fun o=>HB.out.alloc HB.out.size o
 go_ret2;exact⟨rfl,Ee.out _⟩
theorem Q6n {w:World} {S:CO} {fr:List Nat} {N K:Nat} (h:Sep w S.hl) (ok:S.Ok fr N K) {x:Nat} (hx:x<4294967296) {p:Pl} (hp:pget S.l 1 x=some p) (hk:p.kind=1) :
  Calls prog 67 #[.pointer (some ⟨S.c,0,none⟩),.int .u32 x] w (Told w (.tuple #[.int .i64 (p.own:Int),.int .i64 0])):=by
 have hO:Calls prog 30 #[.pointer (some ⟨S.c,0,none⟩),.int .u32 x,.int .i64 1] w (Told w (.tuple #[.agg #[.int .i64 (p.kind:Int),.int .i64 (p.at_:Int),.int .i64 (p.fac:Int)],.int .i64 0])):=Q1F h ok.inv.lok hx 1 hp (.inr (by omega));obtain⟨w1_eq,w2,w3,w4⟩:=ok.wordf (Q0z hp) (Pl.is_iff.2 (.inl (pget_some.1 hp).2.2)) hk;have HW:Hid (∀w1,Below w.heap.size w w1->∀o,Calls prog 137 #[.pointer (some ⟨S.c,0,none⟩),.agg #[.int .i64 (p.kind:Int),.int .i64 (p.at_:Int),.int .i64 (p.fac:Int)]] (w1.alloc o) fun r w'=>r=.returned (.int .i64 (p.own:Int))/\Below w.heap.size w w'):=fun w1 hb o =>
  (Q9i (k:=p.kind) (a:=p.at_) (f:=p.fac) ((h.grown hb).sep.alloc o) ok.inv.mem.pool.bytes (Q0p ok.inv.mem.pool) w2 w3 w1_eq w4).mono fun r w' ⟨e,Al⟩=>⟨e,(hb.alloc hb.size o).trans (Al.mono (by have:=hb.size;simp;omega))⟩
 clear h ok hp w1_eq w2 w3 w4 hk;generalize p.own=po at *
 generalize p.kind=pk at *
 generalize p.at_=pa at *
 generalize p.fac=pf at *
 go_enter func67,ntmps67;go_wp2_with (first|(go_at_call 30;refine hO.mono ?_;rintro r w1 ⟨rfl,hb⟩;have HB:=Q0a hb;clear hb)|(go_at_call 137;refine (HW.out _ HB.out _).mono ?_;rintro r w2 ⟨rfl,hb⟩;have Ee:=Q0a hb;clear hb));go_ret2;exact⟨rfl,Ee.out⟩
theorem Q2F {w:World} {S:CO} (h:Sep w S.hl) (ok:LOk S.l):Calls prog 32 #[.pointer (some ⟨S.c,0,none⟩)] w (NewHs w (allL S.l 1)):=by
 have c1:=CO.c1 h;have hA:=Q9f (h:=S.ht) (CO.sT h) ok;clear h ok;unfold CO.ht at hA;go_enter func32,ntmps32;go_wp2_with (go_at_call 94;refine hA.mono ?_;rintro e w' ⟨v,rfl,h1,h2⟩)
 first|exact⟨v,rfl,h1,h2⟩|(go_ret;exact⟨v,rfl,h1,h2⟩)
theorem Q5y {w:World} {S:CO} (h:Sep w S.hl) (ok:LOk S.l):Calls prog 34 #[.pointer (some ⟨S.c,0,none⟩)] w (NewHs w (allL S.l 2)):=by
 have c1:=CO.c1 h;have hA:=Q9g (h:=S.ht) (CO.sT h) ok;clear h ok;unfold CO.ht at hA;go_enter func34,ntmps34;go_wp2_with (go_at_call 97;refine hA.mono ?_;rintro e w' ⟨v,rfl,h1,h2⟩)
 first|exact⟨v,rfl,h1,h2⟩|(go_ret;exact⟨v,rfl,h1,h2⟩)
theorem Q2e {w:World} {S:CO} (h:Sep w S.hl):Calls prog 49 #[.pointer (some ⟨S.c,0,none⟩)] w fun r w'=>r=.returned (.pointer (some ⟨S.P.p,0,none⟩))/\w=w':=by
 have c0:=CO.c0 h;clear h;go_enter func49,ntmps49
 go_wp2
 go_ret;exact⟨rfl,rfl⟩
theorem CO.Ok.few {S:CO} {fr:List Nat} {N K:Nat} (ok:S.Ok fr N K):S.ts.length<=256:=by
 have h1:=ok.inv.que.nd;have:((S.ts.map Prod.fst).map (·%256)).Nodup:=by
  unfold List.Nodup;rw [J2M];refine h1.imp_of_mem ?_;intro a b ha hb Dh e;obtain⟨p,hp⟩:=(ok.inv.que.has a).1 ha;obtain⟨q,hq⟩:=(ok.inv.que.has b).1 hb;exact Dh (Q0Q hp hq e).1
 have:=Q4u 256 _ this (by
  intro x hx;obtain⟨y,_,rfl⟩:=J2n.1 hx;omega)
 simpa using this
theorem Z5V {w:World} {S:CO} {fr:List Nat} {N K:Nat} (h:Sep w S.hl) (ok:S.Ok fr N K) (hK:K<=1048576) {x:Nat} (hx:x<4294967296):Calls prog 36 #[.pointer (some ⟨S.c,0,none⟩),.int .u32 x] w (Told w (.int .i64 (Q5D S.ts S.now x))):=by
 have c2:=CO.c2 h;have hA:=Z5R (CO.sG h) ok.ov ok.few (fun t ht=>by have:=ok.due t ht;have:=ok.now;have:=ok.per;omega) x;have hw:IntKind.i64.wrap (x:Int)=(x:Int):=Go.IntWalk.i64_in _ (by omega);clear h ok;generalize Q5D S.ts S.now x=lv at *
 go_enter func36,ntmps36;go_wp2_with (go_at_call 99;refine hA.mono ?_;rintro e w' ⟨rfl,hb⟩;have HB:=Q0a hb;clear hb)
 first|exact⟨rfl,HB.out⟩|(go_ret;exact⟨rfl,HB.out⟩)
theorem Z0D {w:World} {S:CO} {fr:List Nat} (h:Sep w S.hl) (ok:S.P.Ok fr) {own:Nat} {e:En Fa} (hf:find S.P.q.E own=some e) (hq:(1024:Int)<=Q0v e) :
  Calls prog 147 #[ptr S.P.q.t,.int .i64 own,.int .i64 1024] w fun r w1=>r=.returned (.int .i64 0)/\w1.cell? ⟨S.c,0,none⟩=some (ptr S.P.p)/\w1.cell? ⟨S.P.p,1,none⟩=some (ptr S.P.d.b) /\
   Calls prog 154 #[ptr S.P.d.b,.int .i64 0] w1 fun r w2 =>
    (∃a:Nat,r=.returned (.tuple #[.int .i64 a,.int .i64 0])/\w2.cell? ⟨S.c,0,none⟩=some (ptr S.P.p) /\
     Calls prog 155 #[ptr S.P.p] w2 (fun r w'=>r=.returned (ptr S.P.a.a)/\w2=w') /\
     Calls prog 150 #[ptr S.P.a.a,.int .i64 a,.int .i64 1024,.int .u8 0] w2 fun r w3=>r=.returned (.int .i64 0)/\GetC S fr own 8 e w (at2 a 0) w3)
    ∨ (r=.returned (.tuple #[.int .i64 0,.int .i64 4])/\w2.cell? ⟨S.c,0,none⟩=some (ptr S.P.p)/\w2.cell? ⟨S.P.p,0,none⟩=some (ptr S.P.q.t) /\
     Calls prog 149 #[ptr S.P.q.t,.int .i64 own,.int .i64 1024] w2 fun r w3=>r=.returned (.int .i64 0)/\GetC S fr own 8 e w (at2 0 4) w3):=by
 obtain⟨f1,f2,f3,f4,f5,f6,f7,f8⟩:=ok.q.fa _ e hf;have Ae:=ok.q.ids;have C6:(1024:Int)<=e.q.limit-(e.q.charged+e.q.given):=hq;refine (Q7p (PL.sQ (CO.sP h)) ok.q hf 1024 (by omega) C6).mono ?_;rintro r w1 ⟨rfl,st1⟩;have s1:Step S.hl (S.setP (S.P.setQ {S.P.q with E:=upd S.P.q.E own {e.q with charged:=e.q.charged+1024}})).hl w w1:=CO.stepP h _ rfl (PL.stepQ (CO.sP h) {S.P.q with E:=upd S.P.q.E own {e.q with charged:=e.q.charged+1024}} rfl st1);have ok1:=PL.ok_setQ ok (Q3f ok.q hf {e.q with charged:=e.q.charged+1024} ⟨by show 0<=e.q.charged+_;omega,f2,by show e.q.charged+_+e.q.given<=e.q.limit;omega,rfl,rfl⟩)
 have Gl:find (upd S.P.q.E own {e.q with charged:=e.q.charged+1024}) own=some {e with q:={e.q with charged:=e.q.charged+1024}}:=Q0i hf _;have k0:=CO.c0 s1.sep;have k1:=PL.c1 (CO.sP s1.sep);have k2:=PL.c0 (CO.sP s1.sep);refine⟨rfl,k0,k1,?_⟩;rcases Z5p S.P.d with hn|⟨kk,i0,t1,t2,t3⟩
 ·refine (Q7n (PL.sD (CO.sP s1.sep)) ok.d.is hn).mono ?_;rintro r w2 ⟨rfl,rfl⟩;right;refine⟨rfl,k0,k2,?_⟩;have LL:=Q3A (PL.sQ (CO.sP s1.sep)) ok1.q (id:=own) (e:={e with q:={e.q with charged:=e.q.charged+1024}}) Gl 1024 (by omega) (by show _<=e.q.charged+_;omega);refine Calls.mono LL ?_;rintro r w3 ⟨rfl,st3⟩;have eback:({S.P.q with E:=upd (upd S.P.q.E own {e.q with charged:=e.q.charged+1024}) own {e.q with charged:=e.q.charged+1024-1024}}:QT)=S.P.q:=by
   rw [upd_upd,J5P,Z4z Ae hf]
  have st3':Step (S.P.setQ {S.P.q with E:=upd S.P.q.E own {e.q with charged:=e.q.charged+1024}}).q.hl ({S.P.q with E:=upd (upd S.P.q.E own {e.q with charged:=e.q.charged+1024}) own {e.q with charged:=e.q.charged+1024-1024}}:QT).hl w1 w3:=st3;rw [eback] at st3';have s3:=CO.stepP s1.sep S.P rfl (PL.stepQ (CO.sP s1.sep) S.P.q rfl st3');exact⟨rfl,.inr (.inl ⟨hq,fun p hp=>Q8Y hn hp,rfl,s1.trans s3⟩)⟩
 ·refine (Q7o (PL.sD (CO.sP s1.sep)) ok.d kk i0 t1 t2 t3).mono ?_;rintro r w2 ⟨rfl,d,d1,d2,d3,d4,st2⟩;left;have s2:=CO.stepP s1.sep ((S.P.setQ {S.P.q with E:=upd S.P.q.E own {e.q with charged:=e.q.charged+1024}}).setD d) rfl (PL.stepD (CO.sP s1.sep) d d1 st2);have N2:=Z5o ok hf C6 d1 d2 d3 d4;have Id:=Q0p ok;have Og:1024*(i0*2 ^ kk)+1024<=S.P.a.mem.length:=N2.room.1;have j0:=CO.c0 s2.sep;have j1:=Q1f (CO.sP s2.sep);refine⟨1024*(i0*2 ^ kk),rfl,j0,j1,?_⟩;refine Calls.mono (Z4Y (PL.sA (CO.sP s2.sep)) (1024*(i0*2 ^ kk)) 1024 0 (by omega) Og Id) ?_;rintro r w3 ⟨rfl,st3⟩;have s3:=CO.stepP s2.sep (((S.P.setQ {S.P.q with E:=upd S.P.q.E own {e.q with charged:=e.q.charged+1024}}).setD d).setA (put_ S.P.a.mem (1024*(i0*2 ^ kk)) (List.replicate 1024 0))) rfl (PL.stepA (CO.sP s2.sep) _ st3)
  exact⟨rfl,.inr (.inr ⟨_,_,_,hq,N2,rfl,(s1.trans s2).trans s3⟩)⟩
theorem Z2X {w:World} {S:CO} {fr:List Nat} (h:Sep w S.hl) (ok:S.P.Ok fr) {own:Nat} {e:En Fa} (hf:find S.P.q.E own=some e) (hq:Q0v e<1024) :
  Calls prog 147 #[ptr S.P.q.t,.int .i64 own,.int .i64 1024] w fun r w1=>r=.returned (.int .i64 5)/\GetC S fr own 8 e w (at2 0 5) w1:=by
 refine (Q4B (PL.sQ (CO.sP h)) ok.q hf 1024 (by omega) hq).mono ?_;rintro r w1 ⟨rfl,hb⟩;exact⟨rfl,.inl ⟨hq,rfl,h.grown hb⟩⟩
def FrF (S:CO) (bx a own:Nat) (w':World):Prop:=w'.cell? ⟨S.c,0,none⟩=some (.pointer (some ⟨S.P.p,0,none⟩))/\w'.cell? ⟨S.P.p,0,none⟩=some (.pointer (some ⟨S.P.q.t,0,none⟩))/\w'.cell? ⟨S.P.p,1,none⟩=some (.pointer (some ⟨S.P.d.b,0,none⟩))/\w'.cell? ⟨bx,1,none⟩=some (.int .i64 a)/\w'.cell? ⟨bx,2,none⟩=some (.int .i64 own)
theorem Step.box {w w0 w1:World} {H H':HL} (st:Step H H' w0 w1) (h:Sep w H) (h0:w.heap.size<w0.heap.size) {i:Nat} {v:Value} (hv:w0.cell? ⟨w.heap.size,i,none⟩=some v):w1.cell? ⟨w.heap.size,i,none⟩=some v:=
 (World.cell?_of_block (w:=w0) (st.chg.block _ h0 (fun hk=>by have:w.heap.size<w.heap.size:=h.lt hk;omega))).trans hv
theorem FrF.base {w w0:World} {S:CO} (h0:Sep w0 S.hl) {a own:Nat} (h1:w0.cell? ⟨w.heap.size,1,none⟩=some (.int .i64 a)) (h2:w0.cell? ⟨w.heap.size,2,none⟩=some (.int .i64 own)):FrF S w.heap.size a own w0:=
 ⟨CO.c0 h0,PL.c0 (CO.sP h0),PL.c1 (CO.sP h0),h1,h2⟩
theorem FrF.step {w w0 w1:World} {S:CO} {P':PL} (h:Sep w S.hl) (hl:w.heap.size<w0.heap.size) {a own:Nat} (f:FrF S w.heap.size a own w0) (st:Step S.hl (S.setP P').hl w0 w1) (hp:P'.p=S.P.p) (hq:P'.q.t=S.P.q.t) (hd:P'.d.b=S.P.d.b):FrF S w.heap.size a own w1:=by
 have c:=CO.c0 st.sep;have p0:=PL.c0 (CO.sP st.sep);have p1:=PL.c1 (CO.sP st.sep);have e:(S.setP P').P=P':=rfl;rw [e,hp] at c p0 p1;rw [hq] at p0;rw [hd] at p1;exact⟨c,p0,p1,st.box h hl f.2.2.2.1,st.box h hl f.2.2.2.2⟩
theorem Q8q {w w0:World} {S:CO} {fr:List Nat} (h:Sep w S.hl) (s0:Step S.hl S.hl w w0) (hl:w.heap.size<w0.heap.size) (ok:S.P.Ok fr) {own a:Nat} {e:En Fa} (hp:Held S.P fr own 8 a e) (f:FrF S w.heap.size a own w0) :
  Calls prog 149 #[.pointer (some ⟨S.P.q.t,0,none⟩),.int .i64 own,.int .i64 1024] w0 fun r w1=>r=.returned (.int .i64 0)/\FrF S w.heap.size a own w1 /\
   Calls prog 160 #[.pointer (some ⟨S.P.d.b,0,none⟩),.int .i64 a] w1.drew fun r w2=>r=.returned (.int .i64 0)/\FrF S w.heap.size a own w2/\PutC S fr own 8 a w (.returned (.tuple #[])) w2:=by
 obtain⟨hf,hq,_,hg⟩:=hp;obtain⟨g,Lr,rfl⟩:=hg rfl;obtain⟨f1,f2,f3,f4,f5,f6,f7,f8⟩:=ok.q.fa _ e hf;have C6:(1024:Int)<=e.q.charged:=hq;refine Calls.mono (Q3A (PL.sQ (CO.sP s0.sep)) ok.q hf 1024 (by omega) C6) ?_;rintro r w1 ⟨rfl,st1⟩;have s1:Step S.hl (S.setP (S.P.setQ {S.P.q with E:=upd S.P.q.E own {e.q with charged:=e.q.charged-1024}})).hl w0 w1:=CO.stepP s0.sep _ rfl (PL.stepQ (CO.sP s0.sep) {S.P.q with E:=upd S.P.q.E own {e.q with charged:=e.q.charged-1024}} rfl st1);have Nm:g∈S.P.d.ps:=ok.pages.mem_iff.1 (J3c _ Lr);have f1:=f.step h hl s1 rfl rfl rfl;refine⟨rfl,f1,?_⟩;have hx:((1024*g:Nat):Int)=1024*(g:Int):=by omega
 rw [hx];refine Calls.mono (Z1A (PL.sD (CO.sP s1.drew.sep)) ok.d g Nm) ?_;rintro r w2 ⟨rfl,d,d1,d2,d3,d4,st2⟩;have s2:=s1.drew.trans (CO.stepP s1.drew.sep ((S.P.setQ {S.P.q with E:=upd S.P.q.E own {e.q with charged:=e.q.charged-1024}}).setD d) rfl (PL.stepD (CO.sP s1.drew.sep) d d1 st2));have f2:=f.step h hl (P':=(S.P.setQ {S.P.q with E:=upd S.P.q.E own {e.q with charged:=e.q.charged-1024}}).setD d) s2 rfl rfl d1;exact⟨rfl,f2,rfl,_,_,Z2I ok hf C6 Lr d1 d2 d3 d4,s0.trans s2⟩
theorem Q5i {w w1:World} {S:CO} {P1:PL} (s1:Step S.hl (S.setP P1).hl w w1) {a x:Nat} (ha:a%8=0) (hl:a+8<=P1.a.mem.length) (hm:P1.a.mem.length<=1073741824) (hx:x<1048576) (w2:World) (hb:Below w1.heap.size w1 w2) :
  w2.cell? ⟨S.c,0,none⟩=some (ptr P1.p)/\w2.cell? ⟨P1.p,0,none⟩=some (ptr P1.q.t)/\Calls prog 155 #[ptr P1.p] w2 (fun r w'=>r=.returned (ptr P1.a.a)/\w2=w') /\
   ∀g,w2.cell? ⟨g,0,none⟩=some (.int .u64 x)->w1.heap.size<=g->g<w2.heap.size ->
    Calls prog 158 #[ptr P1.a.a,.int .i64 a,.slice (some ⟨g,0,none⟩) 1 1] w2 fun r w3=>r=.returned (.int .i64 0)/\(w3.cell? ⟨S.c,0,none⟩=some (ptr P1.p)/\∀b,b∉keys P1.a.hl->b<w2.heap.size->w3.heap[b]?=w2.heap[b]?)/\Step S.hl (S.setP (P1.setA (put_ P1.a.mem a (Q0d x)))).hl w w3:=by
 have s2:=s1.trans (s1.sep.grown hb);refine⟨CO.c0 s2.sep,PL.c0 (CO.sP s2.sep),Q1f (CO.sP s2.sep),fun g hg Cz B8=>?_⟩;have hk:g∉keys P1.a.hl:=fun hk=>by
  have:=(PL.sA (CO.sP s1.sep)).lt hk;omega
 refine Calls.mono (Z1E (PL.sA (CO.sP s2.sep)) a x ha hl hm (by omega) g hg B8 hk) ?_;rintro r w3 ⟨rfl,st⟩;have s3:=CO.stepP s2.sep (P1.setA (put_ P1.a.mem a (Q0d x))) rfl (PL.stepA (CO.sP s2.sep) _ st);exact⟨rfl,⟨CO.c0 s3.sep,fun b hb hl=>st.chg.block b hl hb⟩,s2.trans s3⟩
theorem Z0E {w w0:World} {S:CO} {fr:List Nat} (h:Sep w S.hl) (Bz:Below w.heap.size w w0) (ok:S.P.Ok fr) (AK:∃i p,Fst S.l i p) {own a:Nat} {e:En Fa} (hf:find S.P.q.E own=some e) {lim:Int} (h0:0<=lim) (Dq:S.P.q.next+1<1048576) (ha:a%8=0) (hl:a+8<=S.P.a.mem.length) :
  Calls prog 157 #[ptr S.P.q.t,.int .i64 own,.int .i64 lim] w0 fun r w1=>∃(x:Nat) (er:Int),r=.returned (.tuple #[.int .i64 x,.int .i64 er])/\x<1048576/\w0.heap.size<=w1.heap.size/\(∀b,w.heap.size<=b->b<w0.heap.size->w1.heap[b]?=w0.heap[b]?) /\
   ∀w2,Below w1.heap.size w1 w2->w2.cell? ⟨S.c,0,none⟩=some (ptr S.P.p)/\w2.cell? ⟨S.P.p,0,none⟩=some (ptr S.P.q.t)/\Calls prog 155 #[ptr S.P.p] w2 (fun r w'=>r=.returned (ptr S.P.a.a)/\w2=w') /\
    ∀g,w2.cell? ⟨g,0,none⟩=some (.int .u64 x)->w1.heap.size<=g->g<w2.heap.size ->
     Calls prog 158 #[ptr S.P.a.a,.int .i64 a,.slice (some ⟨g,0,none⟩) 1 1] w2 fun r w3=>r=.returned (.int .i64 0)/\(w3.cell? ⟨S.c,0,none⟩=some (ptr S.P.p)/\∀b,w.heap.size<=b->b<w2.heap.size->w3.heap[b]?=w2.heap[b]?)/\Q3j S own 1 a lim e w (one er) w3:=by
 have s0:=h.grown Bz;have Id:=Q0p ok;have Dw:=ok.q.next0;have Qg:∀b,w.heap.size<=b->b∉keys S.P.a.hl:=fun b hb hk=>by
  have:=(PL.sA (CO.sP h)).lt hk;omega
 have told:∀w1,Below w0.heap.size w0 w1->w0.heap.size<=w1.heap.size/\(∀b,w.heap.size<=b->b<w0.heap.size->w1.heap[b]?=w0.heap[b]?)/\Step S.hl (S.setP S.P).hl w w1:=fun w1 hb=>⟨hb.size,fun b _ h2=>hb.block b h2,s0.trans (s0.sep.grown hb)⟩
 by_cases hq:lim<=Q0v e
 ·by_cases Lu:S.P.q.E.length=32
  ·refine (Z0C (PL.sQ (CO.sP s0.sep)) ok.q hf lim h0 hq Lu).mono ?_;rintro r w1 ⟨rfl,hb⟩;obtain⟨t1,t2,t3⟩:=told w1 hb;refine⟨0,11,rfl,by omega,t1,t2,fun w2 Af=>?_⟩;obtain⟨a1,a0,a2,a3⟩:=Q5i t3 (x:=0) ha hl Id (by omega) w2 Af;refine⟨a1,a0,a2,fun g g1 g2 g3=>(a3 g g1 g2 g3).mono ?_⟩;rintro r w3 ⟨rfl,kk,st⟩;exact⟨rfl,⟨kk.1,fun b h1 h2=>kk.2 b (Qg b h1) h2⟩,.inr (.inr (.inl ⟨AK,rfl,⟨11,.inr ⟨rfl,Lu⟩,rfl⟩,st⟩))⟩
  ·refine (Z5S (PL.sQ (CO.sP s0.sep)) ok.q hf lim h0 hq Lu Dq).mono ?_;rintro r w1 ⟨rfl,b,st⟩;have s1:=s0.trans (CO.stepP s0.sep (S.P.setQ (Q4b S.P.q own e b lim)) rfl (PL.stepQ (CO.sP s0.sep) _ rfl st));have hx:((S.P.q.next.toNat:Nat):Int)=S.P.q.next:=by omega
   refine⟨S.P.q.next.toNat,0,by rw [hx],by omega,st.chg.size,fun b' h1 h2=>st.chg.block b' h2 (fun hk=>?_),fun w2 Af=>?_⟩
   ·have:=(PL.sQ (CO.sP h)).lt hk;omega
   ·obtain⟨a1,a0,a2,a3⟩:=Q5i s1 (x:=S.P.q.next.toNat) ha hl Id (by omega) w2 Af;refine⟨a1,a0,a2,fun g g1 g2 g3=>(a3 g g1 g2 g3).mono ?_⟩;rintro r w3 ⟨rfl,kk,st⟩;exact⟨rfl,⟨kk.1,fun b h1 h2=>kk.2 b (Qg b h1) h2⟩,.inr (.inr (.inr ⟨AK,rfl,hq,rfl,b,st⟩))⟩
 ·refine (Q9h (PL.sQ (CO.sP s0.sep)) ok.q hf lim h0 (by unfold Q0v at hq;omega)).mono ?_;rintro r w1 ⟨rfl,hb⟩;obtain⟨t1,t2,t3⟩:=told w1 hb;refine⟨0,5,rfl,by omega,t1,t2,fun w2 Af=>?_⟩;obtain⟨a1,a0,a2,a3⟩:=Q5i t3 (x:=0) ha hl Id (by omega) w2 Af;refine⟨a1,a0,a2,fun g g1 g2 g3=>(a3 g g1 g2 g3).mono ?_⟩;rintro r w3 ⟨rfl,kk,st⟩;exact⟨rfl,⟨kk.1,fun b h1 h2=>kk.2 b (Qg b h1) h2⟩,.inr (.inr (.inl ⟨AK,rfl,⟨5,.inl ⟨rfl,by omega⟩,rfl⟩,st⟩))⟩
theorem GetC.tup {S:CO} {fr:List Nat} {own n:Nat} {e:En Fa} {w w':World} {r:Ending} (h:GetC S fr own n e w r w'):∃a er:Int,r=.returned (.tuple #[.int .i64 a,.int .i64 er])/\GetC S fr own n e w (.returned (.tuple #[.int .i64 a,.int .i64 er])) w':=by
 have k:∃a er:Int,r=.returned (.tuple #[.int .i64 a,.int .i64 er]):=by
  rcases h with ⟨_,rfl,_⟩|⟨_,_,rfl,_⟩|⟨a,_,_,_,_,rfl,_⟩
  ·exact⟨_,_,rfl⟩
  ·exact⟨_,_,rfl⟩
  ·exact⟨_,_,rfl⟩
 obtain⟨a,er,rfl⟩:=k;exact⟨a,er,rfl,h⟩
theorem Z2Y {w:World} {S:CO} {fr:List Nat} (h:Sep w S.hl) (ok:S.P.Ok fr) {own n:Nat} {e:En Fa} (hf:find S.P.q.E own=some e) (h1:1<=n) (h7:n<=7) :
  Calls prog 69 #[.pointer (some ⟨S.c,0,none⟩),.int .i64 own,.int .i64 n] w (GetC S fr own n e w):=by
 have hg:=(Q5K (CO.sP h) ok (own:Int) (n:Int)).mono fun r w' hr=>(J0B h ok hf h1 h7 hr).tup
 have c0:=CO.c0 h;have Av:(((n:Nat):Int) != 8)=true:=by simp;omega
 have Af:(((n:Nat):Int)==8)=false:=by simp;omega
 generalize GetC S fr own n e w=Q at *
 clear h ok hf h1 h7;go_enter func69,ntmps69;go_wp2_with fail;refine hg.mono ?_;rintro r w1 ⟨a,er,rfl,hx⟩;have HX:=Q0a hx;clear hx;go_wp2_with fail
 first|exact HX.out|(go_ret2;exact HX.out)
theorem Z2Z {w:World} {S:CO} {fr:List Nat} (h:Sep w S.hl) (ok:S.P.Ok fr) {own:Nat} {e:En Fa} (hf:find S.P.q.E own=some e) :
  Calls prog 69 #[.pointer (some ⟨S.c,0,none⟩),.int .i64 own,.int .i64 8] w (GetC S fr own 8 e w):=by
 have c0:=CO.c0 h;have p0:=PL.c0 (CO.sP h);by_cases hq:Q0v e<1024
 ·have hc:=Z2X h ok hf hq;unfold ptr at *
  unfold at2 at hc;generalize GetC S fr own 8 e w=Q at *
  clear h ok hf hq;go_enter func69,ntmps69;go_wp2_with fail;refine hc.mono ?_;rintro r w1 ⟨rfl,hx⟩;have HX:=Q0a hx;clear hx;go_wp2_with fail
  first|exact HX.out|(go_ret2;exact HX.out)
 ·have hc:=Z0D h ok hf (by omega);unfold ptr at *
  unfold at2 at hc;generalize GetC S fr own 8 e w=Q at *
  clear h ok hf hq;go_enter func69,ntmps69;go_wp2_with fail;refine hc.mono ?_;rintro r w1 ⟨rfl,e0,e1,hx⟩;have HX:=Q0a hx;clear hx c0 p0 hc;go_wp2_with fail;refine HX.out.mono ?_;rintro r w2 (⟨a,rfl,e0,hA,hx⟩|⟨rfl,e0,e1,hx⟩)
  ·have HY:=Q0a hx;clear hx HX;go_wp2_with fail;refine hA.mono ?_;rintro r w3 ⟨rfl,rfl⟩;clear hA;go_wp2_with fail;refine HY.out.mono ?_;rintro r w3 ⟨rfl,hx⟩;have HZ:=Q0a hx;clear hx HY;go_wp2_with fail
   first|exact HZ.out|(go_ret2;exact HZ.out)
  ·have HY:=Q0a hx;clear hx HX;go_wp2_with fail;refine HY.out.mono ?_;rintro r w3 ⟨rfl,hx⟩;have HZ:=Q0a hx;clear hx HY;go_wp2_with fail
   first|exact HZ.out|(go_ret2;exact HZ.out)
theorem Z8x {w:World} {S:CO} {fr:List Nat} (h:Sep w S.hl) (ok:S.P.Ok fr) {own n:Nat} {e:En Fa} (hf:find S.P.q.E own=some e) (hn:n=8∨1<=n/\n<=7) :
  Calls prog 69 #[.pointer (some ⟨S.c,0,none⟩),.int .i64 own,.int .i64 n] w (GetC S fr own n e w):=by
 rcases hn with rfl|⟨h1,h7⟩
 ·exact Z2Z h ok hf
 ·exact Z2Y h ok hf h1 h7
theorem Z5W {w:World} {S:CO} {fr:List Nat} (h:Sep w S.hl) (ok:S.P.Ok fr) {own n a:Nat} {e:En Fa} (hp:Held S.P fr own n a e) (hn:n≠8) :
  Calls prog 71 #[.pointer (some ⟨S.c,0,none⟩),.agg #[.int .i64 n,.int .i64 a,.int .i64 own]] w (PutC S fr own n a w):=by
 have hu:=hp.at' hn;obtain⟨g1,g2,g3,g4⟩:=Q0m ok hu;obtain⟨c,hc⟩:=PL.cls ok g3 g4;have hm:=Q0p ok;have s1:=(h.alloc (.cells #[.int .i64 n,.int .i64 a,.int .i64 own] 69)).drew;have Ii:=hp.paid;rw [Q1T hn] at Ii;have hB:=Cells.new w 69 [.int .i64 n,.int .i64 a,.int .i64 own];have Bo:Calls prog 159 #[.pointer (some ⟨S.P.p,0,none⟩),.int .i64 own,.int .i64 n,.int .i64 a] (w.alloc (.cells #[.int .i64 n,.int .i64 a,.int .i64 own] 69)).drew fun r w1=>r=.returned (.int .i64 0)/\w1.cell? ⟨S.c,0,none⟩=some (.pointer (some ⟨S.P.p,0,none⟩))/\w1.cell? ⟨w.heap.size,0,none⟩=some (.int .i64 n)/\w1.cell? ⟨w.heap.size,1,none⟩=some (.int .i64 a)/\w1.cell? ⟨w.heap.size,2,none⟩=some (.int .i64 own)/\PutC S fr own n a w (.returned (.tuple #[])) w1:=by
  refine (Q4C (CO.sP s1) ok (own:Int) hp.acc n Ii c hc a (by rw [<- Q0T hc];exact hu) (by omega)).mono ?_;intro r w1 hr;obtain⟨P',fr',b,st⟩:=J0C s1 ok hr;have G9:=CO.c0 st.sep;rw [show (S.setP P').P.p=S.P.p from b.same.p] at G9;exact⟨hr.1,G9,st.box h (by simp) (hB.cell 0 _ rfl),st.box h (by simp) (hB.cell 1 _ rfl),st.box h (by simp) (hB.cell 2 _ rfl),rfl,P',fr',b,st.from_drew.from_alloc⟩
 have c0:=CO.c0 (h.alloc (.cells #[.int .i64 n,.int .i64 a,.int .i64 own] 69));have d0:=CO.c0 s1;have e0:=hB.cell 0 _ rfl;have e1:=hB.cell 1 _ rfl;have e2:=hB.cell 2 _ rfl;have f0:(w.alloc (.cells #[.int .i64 n,.int .i64 a,.int .i64 own] 69)).drew.cell? ⟨w.heap.size,0,none⟩=some (.int .i64 n):=e0;have f1:(w.alloc (.cells #[.int .i64 n,.int .i64 a,.int .i64 own] 69)).drew.cell? ⟨w.heap.size,1,none⟩=some (.int .i64 a):=e1;have f2:(w.alloc (.cells #[.int .i64 n,.int .i64 a,.int .i64 own] 69)).drew.cell? ⟨w.heap.size,2,none⟩=some (.int .i64 own):=e2;have Av:(((n:Nat):Int) != 8)=true:=by simp;omega
 have Af:(((n:Nat):Int)==8)=false:=by simp;omega
 generalize PutC S fr own n a w=Q at *
 clear h ok hp hu g1 g2 g3 g4 hc hm s1 Ii hB hn;go_enter func71,ntmps71;go_wp2_with fail
 go_region_held3 (fun w'=>w'.cell? ⟨S.c,0,none⟩=some (.pointer (some ⟨S.P.p,0,none⟩))/\w'.cell? ⟨w.heap.size,0,none⟩=some (.int .i64 n)/\w'.cell? ⟨w.heap.size,1,none⟩=some (.int .i64 a)/\w'.cell? ⟨w.heap.size,2,none⟩=some (.int .i64 own)) (first|exact⟨c0,e0,e1,e2⟩|exact⟨d0,f0,f1,f2⟩|exact⟨t0,t1,t2,t3⟩)
  (first|(go_at_call 159;refine Bo.mono ?_;rintro r w1 ⟨rfl,t0,t1,t2,t3,hx⟩;have HX:=Q0a hx;clear hx))
 go_wp2_with fail
 first|exact HX.out|((try simp only [Exit.inBlock,Exit.then]);refine bodyPost_ret (results_none rfl _ _ _) rfl ?_;exact HX.out)
theorem Z3a {w:World} {S:CO} {fr:List Nat} (h:Sep w S.hl) (ok:S.P.Ok fr) {own a:Nat} {e:En Fa} (hp:Held S.P fr own 8 a e) :
  Calls prog 71 #[.pointer (some ⟨S.c,0,none⟩),.agg #[.int .i64 8,.int .i64 a,.int .i64 own]] w (PutC S fr own 8 a w):=by
 have s0:=(h.alloc (.cells #[.int .i64 8,.int .i64 a,.int .i64 own] 69))
 have hB:=Cells.new w 69 [.int .i64 8,.int .i64 a,.int .i64 own];have e0:=hB.cell 0 _ rfl;have F0:FrF S w.heap.size a own (w.alloc (.cells #[.int .i64 8,.int .i64 a,.int .i64 own] 69)):=FrF.base s0 (hB.cell 1 _ rfl) (hB.cell 2 _ rfl);have EN:=Q8q (w0:=(w.alloc (.cells #[.int .i64 8,.int .i64 a,.int .i64 own] 69)).drew) h (h.grown (((Below.refl _ _).alloc (J2h _) _).drew)) (by simp [World.drew]) ok hp F0;obtain⟨c0,c1,c2,c3,c4⟩:=F0;have DN:Hid (∀(v:World) b i x,v.cell? ⟨b,i,none⟩=some x->v.drew.cell? ⟨b,i,none⟩=some x):=fun v b i x hv=>hv
 have d0:=DN.out _ _ _ _ c0;have d1:=DN.out _ _ _ _ c1;have d2:=DN.out _ _ _ _ c2;have d3:=DN.out _ _ _ _ c3;have d4:=DN.out _ _ _ _ c4;generalize PutC S fr own 8 a w=Q at *
 unfold FrF at EN;clear h ok hp s0 hB;go_enter func71,ntmps71;go_wp2_with fail
 go_region_held3 (fun w'=>w'.cell? ⟨S.c,0,none⟩=some (.pointer (some ⟨S.P.p,0,none⟩))/\w'.cell? ⟨S.P.p,0,none⟩=some (.pointer (some ⟨S.P.q.t,0,none⟩))/\w'.cell? ⟨w.heap.size,2,none⟩=some (.int .i64 own)) (first|exact⟨c0,c1,c4⟩|exact⟨d0,d1,d4⟩|exact⟨t0,t1,t4⟩)
  (first|(go_at_call 149;refine EN.mono ?_;rintro r w1 ⟨rfl,⟨t0,t1,t2,t3,t4⟩,hx⟩;have HX:=Q0a hx;clear hx))
 have x0:=DN.out _ _ _ _ t0;have x2:=DN.out _ _ _ _ t2;have x3:=DN.out _ _ _ _ t3;clear c0 c1 c2 c3 c4 d0 d1 d2 d3 d4 EN;go_wp2_with fail
 go_region_held3 (fun w'=>w'.cell? ⟨S.c,0,none⟩=some (.pointer (some ⟨S.P.p,0,none⟩))/\w'.cell? ⟨S.P.p,1,none⟩=some (.pointer (some ⟨S.P.d.b,0,none⟩))/\w'.cell? ⟨w.heap.size,1,none⟩=some (.int .i64 a)) (first|exact⟨t0,t2,t3⟩|exact⟨x0,x2,x3⟩|exact⟨y0,y2,y3⟩)
  (first|(go_at_call 160;refine HX.out.mono ?_;rintro r w2 ⟨rfl,⟨y0,y1,y2,y3,y4⟩,hx⟩;have HY:=Q0a hx;clear hx))
 go_wp2_with fail
 first|exact HY.out|((try simp only [Exit.inBlock,Exit.then]);refine bodyPost_ret (results_none rfl _ _ _) rfl ?_;exact HY.out)
theorem Q8r {w:World} {S:CO} {fr:List Nat} (h:Sep w S.hl) (ok:S.P.Ok fr) {own n a:Nat} {e:En Fa} (hp:Held S.P fr own n a e) :
  Calls prog 71 #[.pointer (some ⟨S.c,0,none⟩),.agg #[.int .i64 n,.int .i64 a,.int .i64 own]] w (PutC S fr own n a w):=by
 by_cases hn:n=8
 ·subst hn;exact Z3a h ok hp
 ·exact Z5W h ok hp hn
theorem Z1P (w:World) (k:Int):Calls prog 68 #[.int .i64 k] w fun r w'=>r=.returned (.bool (decide (k=8∨1<=k/\k<=5)))/\w=w':=by
 by_cases h8:k=8
 ·subst h8;go_enter func68,ntmps68;go_wp2_with fail
  first|exact⟨rfl,rfl⟩|(go_ret;exact⟨rfl,rfl⟩)
 ·have hb:(k==8)=false:=by simpa using h8
  by_cases h1:1<=k
  ·by_cases h5:k<=5
   ·have hd:decide (k=8∨1<=k/\k<=5)=true:=by rw [decide_eq_true_eq];omega
    rw [hd];clear hd;go_enter func68,ntmps68;go_wp2_with fail
    first|exact⟨rfl,rfl⟩|(go_ret;exact⟨rfl,rfl⟩)
   ·have hd:decide (k=8∨1<=k/\k<=5)=false:=by rw [decide_eq_false_iff_not];omega
    rw [hd];clear hd;have Wg:5<k:=by omega
    go_enter func68,ntmps68;go_wp2_with fail
    first|exact⟨rfl,rfl⟩|(go_ret;exact⟨rfl,rfl⟩)
  ·have hd:decide (k=8∨1<=k/\k<=5)=false:=by rw [decide_eq_false_iff_not];omega
   rw [hd];clear hd;have Pj:k<1:=by omega
   go_enter func68,ntmps68;go_wp2_with fail
   first|exact⟨rfl,rfl⟩|(go_ret;exact⟨rfl,rfl⟩)
theorem Q5N {w w1:World} {o:Obj} (hb:Below (w.alloc o).heap.size (w.alloc o) w1) {i:Nat} {v:Value} (hv:(w.alloc o).cell? ⟨w.heap.size,i,none⟩=some v):w1.cell? ⟨w.heap.size,i,none⟩=some v:=
 (World.cell?_of_block (w:=w.alloc o) (hb.block _ (by simp))).trans hv
theorem Z0F {w:World} {S:CO} (h:Sep w S.hl) (lok:LOk S.l) (hf:∀p∈S.l,p.st≠0) (own n a:Nat) (lim:Int) (e:En Fa) :
  Calls prog 70 #[.pointer (some ⟨S.c,0,none⟩),.agg #[.int .i64 n,.int .i64 a,.int .i64 own],.int .i64 lim] w (Q3j S own n a lim e w):=by
 have s0:=h.alloc (.cells #[.int .i64 n,.int .i64 a,.int .i64 own] 69);have c1:=CO.c1 s0;have hr:=Q6m (h:=S.ht) (CO.sT s0) lok;rw [show allL S.ht.l 0=[] from empty_iff.2 hf] at hr;have HR:Hid (∀w1,Below (w.alloc (.cells #[.int .i64 n,.int .i64 a,.int .i64 own] 69)).heap.size (w.alloc (.cells #[.int .i64 n,.int .i64 a,.int .i64 own] 69)) w1->Q3j S own n a lim e w (.returned (.int .i64 11)) w1):=fun w1 hb=>.inl ⟨hf,rfl,h.grown (Q0e hb)⟩
 generalize Q3j S own n a lim e w=Q at *
 unfold CO.ht at hr;clear h lok hf s0;go_enter func70,ntmps70;go_wp2_with fail;refine hr.mono ?_;rintro r w1 ⟨rfl,hb⟩;have HX:=Q0a (HR.out w1 hb);clear hb;go_wp2_with fail
 first|exact HX.out|(go_ret;exact HX.out)
theorem Z5X {l:List Pl} (AK:∃i p,Fst l i p):(allL l 0).length≠0:=fun h=>by
 obtain⟨i,p,h1,h2,_⟩:=AK;exact empty_iff.1 (J4x h) p (J4v h1) h2
theorem Z8y {w:World} {S:CO} (h:Sep w S.hl) (lok:LOk S.l) (AK:∃i p,Fst S.l i p) (own n a:Nat) (lim:Int) (e:En Fa) (hn:n≠1) :
  Calls prog 70 #[.pointer (some ⟨S.c,0,none⟩),.agg #[.int .i64 n,.int .i64 a,.int .i64 own],.int .i64 lim] w (Q3j S own n a lim e w):=by
 have s0:=h.alloc (.cells #[.int .i64 n,.int .i64 a,.int .i64 own] 69);have hB:=Cells.new w 69 [.int .i64 n,.int .i64 a,.int .i64 own];have c1:=CO.c1 s0;have hr:=Q6m (h:=S.ht) (CO.sT s0) lok;have hm:=Z5X AK;have HR:Hid (∀w1,Below (w.alloc (.cells #[.int .i64 n,.int .i64 a,.int .i64 own] 69)).heap.size (w.alloc (.cells #[.int .i64 n,.int .i64 a,.int .i64 own] 69)) w1->w1.cell? ⟨w.heap.size,0,none⟩=some (.int .i64 n)/\Q3j S own n a lim e w (.returned (.int .i64 0)) w1):=fun w1 hb=>⟨Q5N hb (hB.cell 0 _ rfl),.inr (.inl ⟨AK,hn,rfl,h.grown (Q0e hb)⟩)⟩
 generalize Q3j S own n a lim e w=Q at *
 unfold CO.ht at hr;simp only at hr;generalize (allL S.l 0).length=m at *
 have Av:(((m:Nat):Int)==0)=false:=by simp;omega
 have Af:(((n:Nat):Int) != 1)=true:=by simp;omega
 have As:(((n:Nat):Int)==1)=false:=by simp;omega
 clear h lok AK s0 hB hm hn;go_enter func70,ntmps70;go_wp2_with fail;refine hr.mono ?_;rintro r w1 ⟨rfl,hb⟩;obtain⟨e0,hx⟩:=HR.out w1 hb;have HX:=Q0a hx;clear hb hx;go_wp2_with fail
 first|exact HX.out|(go_ret;exact HX.out)
theorem Z8z {w:World} {S:CO} {fr:List Nat} (h:Sep w S.hl) (ok:S.P.Ok fr) (lok:LOk S.l) (AK:∃i p,Fst S.l i p) {own a:Nat} {e:En Fa} (hf:find S.P.q.E own=some e) {lim:Int} (h0:0<=lim) (Dq:S.P.q.next+1<1048576) (ha:a%8=0) (hl:a+8<=S.P.a.mem.length) :
  Calls prog 70 #[.pointer (some ⟨S.c,0,none⟩),.agg #[.int .i64 1,.int .i64 a,.int .i64 own],.int .i64 lim] w (Q3j S own 1 a lim e w):=by
 have s0:=h.alloc (.cells #[.int .i64 1,.int .i64 a,.int .i64 own] 69);have hB:=Cells.new w 69 [.int .i64 1,.int .i64 a,.int .i64 own];have c1:=CO.c1 s0;have hr:=Q6m (h:=S.ht) (CO.sT s0) lok;have hm:=Z5X AK;have HR:Hid (∀w1,Below (w.alloc (.cells #[.int .i64 1,.int .i64 a,.int .i64 own] 69)).heap.size (w.alloc (.cells #[.int .i64 1,.int .i64 a,.int .i64 own] 69)) w1 ->
   (w1.cell? ⟨w.heap.size,0,none⟩=some (.int .i64 1)/\w1.cell? ⟨w.heap.size,1,none⟩=some (.int .i64 a)/\w1.cell? ⟨w.heap.size,2,none⟩=some (.int .i64 own)/\w1.cell? ⟨S.c,0,none⟩=some (.pointer (some ⟨S.P.p,0,none⟩))/\w1.cell? ⟨S.P.p,0,none⟩=some (.pointer (some ⟨S.P.q.t,0,none⟩))/\w.heap.size<w1.heap.size) /\
   Calls prog 157 #[.pointer (some ⟨S.P.q.t,0,none⟩),.int .i64 own,.int .i64 lim] w1.drew fun r w2=>∃(x:Nat) (er:Int),r=.returned (.tuple #[.int .i64 x,.int .i64 er])/\x<1048576 /\
    (w2.cell? ⟨S.c,0,none⟩=some (.pointer (some ⟨S.P.p,0,none⟩))/\w2.cell? ⟨S.P.p,0,none⟩=some (.pointer (some ⟨S.P.q.t,0,none⟩))/\w2.cell? ⟨w.heap.size,1,none⟩=some (.int .i64 a)/\w2.cell? ⟨w.heap.size,2,none⟩=some (.int .i64 own)/\w.heap.size<w2.heap.size/\S.c<w2.heap.size) /\
    (Calls prog 155 #[.pointer (some ⟨S.P.p,0,none⟩)] w2.drew fun r w'=>r=.returned (.pointer (some ⟨S.P.a.a,0,none⟩))/\w2.drew=w') /\
    (Calls prog 155 #[.pointer (some ⟨S.P.p,0,none⟩)] (w2.alloc (.cells #[.int .u64 x] 171)).drew fun r w'=>r=.returned (.pointer (some ⟨S.P.a.a,0,none⟩))/\(w2.alloc (.cells #[.int .u64 x] 171)).drew=w') /\
    Calls prog 158 #[.pointer (some ⟨S.P.a.a,0,none⟩),.int .i64 a,.slice (some ⟨w2.heap.size,0,none⟩) 1 1] (w2.alloc (.cells #[.int .u64 x] 171)).drew fun r w3=>r=.returned (.int .i64 0)/\(w3.cell? ⟨S.c,0,none⟩=some (.pointer (some ⟨S.P.p,0,none⟩))/\w3.cell? ⟨w.heap.size,1,none⟩=some (.int .i64 a))/\Q3j S own 1 a lim e w (.returned (.int .i64 er)) w3):=fun w1 hb=>by
  have Al:=Q0e hb;have s1:=(h.grown Al).sep;have b1:=Q5N hb (hB.cell 1 _ rfl);have b2:=Q5N hb (hB.cell 2 _ rfl);have Ab:w.heap.size<w1.heap.size:=by have:=hb.size;rw [World.size_alloc] at this;omega
  refine⟨⟨Q5N hb (hB.cell 0 _ rfl),b1,b2,CO.c0 s1,PL.c0 (CO.sP s1),Ab⟩,?_⟩;refine Calls.mono (Z0E h Al.drew ok AK hf h0 Dq ha hl) ?_;rintro r w2 ⟨x,er,rfl,hx,hs,hk,AU⟩;have KH:w1.heap.size<=w2.heap.size:=hs;have Ah:∀i v,w1.cell? ⟨w.heap.size,i,none⟩=some v->w2.cell? ⟨w.heap.size,i,none⟩=some v:=fun i v hv=>(World.cell?_of_block (w:=w1) (hk _ (J2h _) Ab)).trans hv
  obtain⟨a1,a2,a3,_⟩:=AU w2 (Below.refl _ _);obtain⟨_,_,d3,_⟩:=AU w2.drew (Below.refl _ _).drew;obtain⟨_,_,g3,g4⟩:=AU (w2.alloc (.cells #[.int .u64 x] 171)).drew ((Below.refl _ _).alloc (J2h _) _).drew;have AR:S.c<w2.heap.size:=by
   have:=(CO.cells h).lt;have:=Al.size;omega
  refine⟨x,er,rfl,hx,⟨a1,a2,Ah _ _ b1,Ah _ _ b2,by omega,AR⟩,d3,g3,?_⟩;refine Calls.mono (g4 w2.heap.size ((Cells.new w2 171 [.int .u64 x]).cell 0 _ rfl) (J2h _) (by simp [World.drew])) ?_;rintro r w3 ⟨rfl,⟨k1,k2⟩,hx⟩;refine⟨rfl,⟨k1,?_⟩,hx⟩;refine (World.cell?_of_block (w:=(w2.alloc (.cells #[.int .u64 x] 171)).drew) (k2 _ (J2h _) (by simp [World.drew];omega))).trans ?_;exact Q0K (Ah _ _ b1)
 generalize Q3j S own 1 a lim e w=Q at *
 unfold CO.ht at hr;simp only at hr;generalize (allL S.l 0).length=m at *
 have Av:(((m:Nat):Int)==0)=false:=by simp;omega
 clear h ok lok AK s0 hB hm hf h0 Dq ha hl;go_enter func70,ntmps70;go_wp2_with fail;refine hr.mono ?_;rintro r w1 ⟨rfl,hb⟩;obtain⟨⟨e0,e1,e2,e3,e4,Ab⟩,Cu⟩:=HR.out w1 hb;have f2:w1.drew.cell? ⟨w.heap.size,2,none⟩=some (.int .i64 own):=e2;have f3:w1.drew.cell? ⟨S.c,0,none⟩=some (.pointer (some ⟨S.P.p,0,none⟩)):=e3;have f4:w1.drew.cell? ⟨S.P.p,0,none⟩=some (.pointer (some ⟨S.P.q.t,0,none⟩)):=e4;clear hb hr c1;go_wp2_with fail
 go_region_held3 (fun w'=>w'.cell? ⟨S.c,0,none⟩=some (.pointer (some ⟨S.P.p,0,none⟩))/\w'.cell? ⟨S.P.p,0,none⟩=some (.pointer (some ⟨S.P.q.t,0,none⟩))/\w'.cell? ⟨w.heap.size,2,none⟩=some (.int .i64 own)) (first|exact⟨e3,e4,e2⟩|exact⟨f3,f4,f2⟩|exact⟨t0,t1,t3⟩)
  (first|(go_at_call 157;refine Cu.mono ?_;rintro r w2 ⟨x,er,rfl,C9,⟨t0,t1,t2,t3,t4,t5⟩,Sl,Vn,hS⟩;have HS:=Q0a hS;clear hS))
 have hw:IntKind.u64.wrap (x:Int)=(x:Int):=Go.IntWalk.u64_in _ (by omega);have x0:w2.drew.cell? ⟨S.c,0,none⟩=some (.pointer (some ⟨S.P.p,0,none⟩)):=t0;have x1:w2.drew.cell? ⟨w.heap.size,1,none⟩=some (.int .i64 a):=t2;have y0:(w2.alloc (.cells #[.int .u64 x] 171)).drew.cell? ⟨S.c,0,none⟩=some (.pointer (some ⟨S.P.p,0,none⟩)):=Q0K t0;have y1:(w2.alloc (.cells #[.int .u64 x] 171)).drew.cell? ⟨w.heap.size,1,none⟩=some (.int .i64 a):=Q0K t2;clear e0 e1 e2 e3 e4 f2 f3 f4 Cu Ab;go_wp2_with fail
 go_region_held3 (fun w'=>w'.cell? ⟨S.c,0,none⟩=some (.pointer (some ⟨S.P.p,0,none⟩))/\w'.cell? ⟨w.heap.size,1,none⟩=some (.int .i64 a)) (first|exact⟨t0,t2⟩|exact⟨x0,x1⟩|exact⟨y0,y1⟩|exact⟨z0,z1⟩)
  (first|(go_at_call 155;refine Sl.mono ?_;rintro r w' ⟨rfl,rfl⟩)|(go_at_call 155;refine Vn.mono ?_;rintro r w' ⟨rfl,rfl⟩)|(go_at_call 158;refine HS.out.mono ?_;rintro r w3 ⟨rfl,⟨z0,z1⟩,hx⟩;have HX:=Q0a hx;clear hx))
 all_goals
  go_wp2_with fail
  first|exact HX.out|(go_ret;exact HX.out)
theorem Z3b {w:World} {S:CO} {fr:List Nat} (h:Sep w S.hl) (ok:S.P.Ok fr) (lok:LOk S.l) {own n a:Nat} {e:En Fa} (hf:find S.P.q.E own=some e) {lim:Int} (Dq:S.P.q.next+1<1048576) (h1:n=1->0<=lim/\a%8=0/\a+8<=S.P.a.mem.length) :
  Calls prog 70 #[.pointer (some ⟨S.c,0,none⟩),.agg #[.int .i64 n,.int .i64 a,.int .i64 own],.int .i64 lim] w (Q3j S own n a lim e w):=by
 rcases Z8s S.l with Ar|AK
 ·exact Z0F h lok Ar own n a lim e
 ·by_cases hn:n=1
  ·subst hn;obtain⟨k1,k2,k3⟩:=h1 rfl;exact Z8z h ok lok AK hf k1 Dq k2 k3
  ·exact Z8y h lok AK own n a lim e hn
end Go.Proofs.YtlakjlmaboioiaaGreatDoor

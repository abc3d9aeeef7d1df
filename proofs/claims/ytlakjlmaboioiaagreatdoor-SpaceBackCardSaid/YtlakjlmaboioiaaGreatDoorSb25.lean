/- SpaceBack returns true at every input. No condition. Part of its proof. -/
import Derived.Test.YtlakjlmaboioiaaGreatDoorSb01
import Derived.Test.YtlakjlmaboioiaaGreatDoorSb24
import Derived.Test.YtlakjlmaboioiaaGreatDoorSb21
import Derived.Test.YtlakjlmaboioiaaGreatDoorSb10
import Derived.Test.YtlakjlmaboioiaaGreatDoorSb18
import Derived.Shelf.RegionOpenPlain
import Derived.Test.YtlakjlmaboioiaaGreatDoorSb15
import Derived.Test.YtlakjlmaboioiaaGreatDoorSb14
import Derived.Test.YtlakjlmaboioiaaGreatDoorSb06
import Derived.BigQuiet
import Derived.Deep.QuietTactic
set_option maxHeartbeats 4000000
set_option maxRecDepth 1000000
set_option linter.unusedVariables false
namespace Go.Proofs.YtlakjlmaboioiaaGreatDoor
open Go.RowKit Go.Proofs.Tryz
structure AvOk (a:AV) (next:Int):Prop where
 ok:NOk a.N next
 is:EnIs a
 r:∀h s c,a.en h s=some c->1<=c.2/\c.2<16
 has:∀h s c,a.en h s=some c->∃n∈a.N,n.q.sp=(h:Int)/\n.q.sl=(s:Int)
theorem SP.Ok.avOk {Z:SP} {fr:List Nat} {N K:Nat} {M:Int} (ok:Z.Ok fr N K M):AvOk Z.av Z.F.next:=
 ⟨ok.fo.n,ok.fpi.enIs,fun h s c hc=>ok.fpi.rights hc,fun h s c hc=>by
  obtain⟨e,he,rfl⟩:=Q3m hc;exact ok.fpi.has h s e he⟩
theorem Z9d {N:List (En Nd)} {next:Int} (ok:NOk N next) {sp sl:Int} (h:ownN N sp sl≠0):∃n∈N,n.q.sp=sp/\n.q.sl=sl/\ownN N sp sl=n.id:=by
 rcases Q3N N sp sl with ⟨n,hn,rfl,rfl⟩|hno
 ·exact⟨n,hn,rfl,rfl,Q1N ok hn⟩
 ·exact absurd ((Q1w ok).2 hno) h
theorem J0T {o:Option (Nat×Nat)} (h:∀c,o=some c->c.2<16):Q8h 15 o=none:=by
 cases o with
 | none=>rfl
 | some c =>
  show (if less c.2 15=0 then none else some (c.1,less c.2 15))=none;rw [if_pos (Q4E c.2 (h c rfl))]
theorem Z3Q:∀r,r<16->∀m,m<16->less r m<16:=by decide
theorem AvOk.weak1 {a:AV} {next:Int} (k:AvOk a next) {m:Nat} (hm:m<16) (id:Int):AvOk (weak1 m a id).1 next:=by
 cases hf:find a.N id with
 | none=>unfold Go.Proofs.YtlakjlmaboioiaaGreatDoor.weak1;rw [hf];exact k
 | some n =>
  have W:=Q9I (m:=m) k.ok k.is hf;refine⟨W.ok,W.is,fun h s c hc=>?_,fun h s c hc=>?_⟩
  ·rw [W.en] at hc;split at hc
   ·cases ho:a.en h s with
    | none=>rw [ho] at hc;cases hc
    | some c0 =>
     have h0:=k.r h s c0 ho;rw [ho] at hc;unfold Q8h at hc;simp only at hc;split at hc
     ·cases hc
     ·cases hc
      have:=Z3Q c0.2 h0.2 m hm;exact⟨by simp only;omega,this⟩
   ·exact k.r h s c hc
  ·have hen:=W.en h s;have hown:=W.own h s;cases ho:a.en h s with
   | none =>
    rw [ho] at hen;rw [hen] at hc;split at hc <;> cases hc
   | some c0 =>
    obtain⟨n0,hn0,q1,q2⟩:=k.has h s c0 ho;have hid:ownN a.N (h:Int) (s:Int)=n0.id:=(Q5I k.ok hn0 h s).2 ⟨q1,q2⟩;have hpos:=k.ok.rng n0 hn0;have hne:ownN (Go.Proofs.YtlakjlmaboioiaaGreatDoor.weak1 m a id).1.N (h:Int) (s:Int)≠0:=by
     rw [hown];split
     ·rename_i hg;exfalso;obtain⟨n2,c2,g1,g2,g3⟩:=W.gone.1 hg.1;rw [if_pos hg.2] at hen;have hn20:n2=n0:=by
       obtain⟨m1,m2⟩:=Q0b g1;have h3:=Q0k k.ok.ids hn0;rw [<- hid,hg.2,g1] at h3;exact J3u h3
      rw [hn20,q1,q2,J3C,J3C,ho] at g2;cases g2;rw [ho] at hen;unfold Q8h at hen;simp only [g3,if_pos] at hen;rw [hen] at hc;cases hc
     ·rw [hid];omega
    obtain⟨n',hn',e1,e2,_⟩:=Z9d W.ok hne;exact⟨n',hn',e1,e2⟩
theorem AvOk.weakA15 {next:Int}:∀(l:List Int) {a:AV},AvOk a next->AvOk (Q0M 15 a l).1 next/\(∀h s:Nat,(Q0M 15 a l).1.en h s=none∨(Q0M 15 a l).1.en h s=a.en h s)/\∀h s:Nat,ownN a.N (h:Int) (s:Int)∈l->(Q0M 15 a l).1.en h s=none
 | [],a,k=>⟨k,fun _ _=>.inr rfl,fun _ _ h=>by cases h⟩
 | id::r,a,k=>by
  have k1:=k.weak1 (m:=15) (by omega) id;obtain⟨i1,i2,i3⟩:=AvOk.weakA15 r k1;have hstep:∀h s:Nat,((Go.Proofs.YtlakjlmaboioiaaGreatDoor.weak1 15 a id).1.en h s=none∨(Go.Proofs.YtlakjlmaboioiaaGreatDoor.weak1 15 a id).1.en h s=a.en h s)/\(ownN a.N (h:Int) (s:Int)=id->(Go.Proofs.YtlakjlmaboioiaaGreatDoor.weak1 15 a id).1.en h s=none)/\(ownN a.N (h:Int) (s:Int)≠id->ownN (Go.Proofs.YtlakjlmaboioiaaGreatDoor.weak1 15 a id).1.N (h:Int) (s:Int)=ownN a.N (h:Int) (s:Int)):=fun h s=>by
   cases hf:find a.N id with
   | none =>
    have e:Go.Proofs.YtlakjlmaboioiaaGreatDoor.weak1 15 a id=(a,false):=by unfold Go.Proofs.YtlakjlmaboioiaaGreatDoor.weak1;rw [hf]
    rw [e];refine⟨.inr rfl,fun ho=>?_,fun _=>rfl⟩;cases hen:a.en h s with
    | none=>rfl
    | some c =>
     exfalso;obtain⟨n,hn,q1,q2⟩:=k.has h s c hen;have:=(Q5I k.ok hn h s).2 ⟨q1,q2⟩;have h3:=Q0k k.ok.ids hn;rw [<- this,ho,hf] at h3;cases h3
   | some n =>
    have W:=Q9I (m:=15) k.ok k.is hf;have hl:Q8h 15 (a.en h s)=none:=J0T fun c hc=>(k.r h s c hc).2
    rw [W.en,W.own,hl];refine⟨?_,fun ho=>by rw [if_pos ho],fun ho=>by rw [if_neg fun hh=>ho hh.2]⟩;split
    ·exact .inl rfl
    ·exact .inr rfl
  refine⟨i1,fun h s=>?_,fun h s hm=>?_⟩
  ·rcases i2 h s with h1|h1
   ·exact .inl h1
   ·rcases (hstep h s).1 with h2|h2
    ·exact .inl (h1.trans h2)
    ·exact .inr (h1.trans h2)
  ·by_cases ho:ownN a.N (h:Int) (s:Int)=id
   ·rcases i2 h s with h1|h1
    ·exact h1
    ·exact h1.trans ((hstep h s).2.1 ho)
   ·refine i3 h s ?_;rw [(hstep h s).2.2 ho];rcases J2C.1 hm with h'|h'
    ·exact absurd h' ho
    ·exact h'
structure Lesser (a a':AV) (next:Int):Prop where
 ok:AvOk a' next
 en:∀h s:Nat,a'.en h s=none∨a'.en h s=a.en h s
theorem Lesser.refl {a:AV} {next:Int} (k:AvOk a next):Lesser a a next:=⟨k,fun _ _=>.inr rfl⟩
theorem Lesser.trans {a b c:AV} {next:Int} (h:Lesser a b next) (k:Lesser b c next):Lesser a c next:=⟨k.ok,fun x s=>by
 rcases k.en x s with h1|h1
 ·exact .inl h1
 ·rw [h1];exact h.en x s⟩
theorem Lesser.none {a b:AV} {next:Int} (h:Lesser a b next) {x s:Nat} (h0:a.en x s=none):b.en x s=none:=by
 rcases h.en x s with h1|h1
 ·exact h1
 ·rw [h1];exact h0
theorem Z3R {a:AV} {next:Int} (k:AvOk a next) (x s:Nat):Lesser a (Q3t next x a (s:Int)).1 next/\(Q3t next x a (s:Int)).1.en x s=none:=by
 unfold Q3t;split
 ·rename_i h0;refine⟨Lesser.refl k,?_⟩;cases hen:a.en x s with
  | none=>rfl
  | some c =>
   exfalso;obtain⟨n,hn,q1,q2⟩:=k.has x s c hen;have:=(Q5I k.ok hn x s).2 ⟨q1,q2⟩;have:=k.ok.rng n hn;omega
 ·obtain⟨h1,h2,h3⟩:=AvOk.weakA15 (Q0G (kdF a.N) (rkF next) (ownN a.N (x:Int) (s:Int))++[ownN a.N (x:Int) (s:Int)]) k;exact⟨⟨h1,h2⟩,h3 x s (by simp)⟩
theorem Q7C {next:Int} {x:Nat}:∀(l:List Nat) {a:AV},AvOk a next->Lesser a (Q1P next x a (l.map fun (s:Nat)=>(s:Int))).1 next/\∀s∈l,(Q1P next x a (l.map fun (s:Nat)=>(s:Int))).1.en x s=none
 | [],a,k=>⟨Lesser.refl k,fun _ h=>by cases h⟩
 | s::r,a,k=>by
  obtain⟨h1,h2⟩:=Z3R k x s;obtain⟨i1,i2⟩:=Q7C r h1.ok;refine⟨h1.trans i1,fun t ht=>?_⟩;rcases J2C.1 ht with rfl|ht
  ·exact i1.none h2
  ·exact i2 t ht
theorem Z6W {a:AV} {l:List Pl} {tb:Nat->TB} {N:List (En Nd)} {next:Int} {x:Nat} (ha:a=avOf l tb N) (k:AvOk a next):Lesser a (Q1P next x a (Q0q l tb x)).1 next/\∀s:Nat,(Q1P next x a (Q0q l tb x)).1.en x s=none:=by
 obtain⟨L,hL⟩:∃L:List Nat,Q0q l tb x=L.map fun (s:Nat)=>(s:Int):=by
  unfold Q0q;split
  ·exact⟨[],rfl⟩
  ·split
   ·exact⟨_,rfl⟩
   ·exact⟨[],rfl⟩
 have hmem:=fun z=>mem_slotsL (l:=l) (tb:=tb) (x:=x) (z:=z)
 rw [hL] at hmem ⊢;obtain⟨h1,h2⟩:=Q7C (x:=x) L k;refine⟨h1,fun s=>?_⟩;by_cases hs:s∈L
 ·exact h2 s hs
 ·refine h1.none ?_;rw [ha];show (Q0f l tb x s).map Ent.c=none;cases he:Q0f l tb x s with
  | none=>rfl
  | some e =>
   exfalso;obtain⟨p,_,_,h4,_⟩:=Q3D he;obtain⟨t,ht,hte⟩:=J2D.1 ((hmem (s:Int)).2 ⟨s,rfl,h4,e,he⟩);have:t=s:=by have h':(t:Int)=(s:Int):=hte;omega
   exact hs (this ▸ ht)
def Q2i (a:AV) (p:Int×Int):AV×Nat:=Q0M 15 a [ownN a.N p.1 p.2]
def Q1e:AV->List (Int×Int)->AV×Nat
 | a,[]=>(a,0)
 | a,p::r=>((Q1e (Q2i a p).1 r).1,(Q2i a p).2+(Q1e (Q2i a p).1 r).2)
theorem purgeA_snoc:∀(l:List (Int×Int)) (a:AV) (p:Int×Int),Q1e a (l++[p])=((Q2i (Q1e a l).1 p).1,(Q1e a l).2+(Q2i (Q1e a l).1 p).2)
 | [],a,p=>by
  show ((Q2i a p).1,(Q2i a p).2+0)=((Q2i a p).1,0+(Q2i a p).2);rw [J5b,J2G]
 | y::r,a,p=>by
  rw [J4I];unfold Q1e;rw [purgeA_snoc r];simp only [J3X]
theorem Q9P (a:AV) (p:Int×Int):(Q2i a p).2<=1:=Q5F 15 _ a
theorem Q9Q:∀(l:List (Int×Int)) (a:AV),(Q1e a l).2<=l.length
 | [],a=>J2x _
 | p::r,a=>by
  have h1:=Q9P a p;have h2:=Q9Q r (Q2i a p).1;show _+_<=_;rw [J3i];omega
theorem Q6E {next:Int}:∀(l:List (Int×Int)) {a:AV},AvOk a next->Lesser a (Q1e a l).1 next/\∀h s:Nat,((h:Int),(s:Int))∈l->(Q1e a l).1.en h s=none
 | [],a,k=>⟨Lesser.refl k,fun _ _ h=>by cases h⟩
 | p::r,a,k=>by
  obtain⟨h1,h2,h3⟩:=AvOk.weakA15 [ownN a.N p.1 p.2] k;obtain⟨i1,i2⟩:=Q6E r h1;have hl:Lesser a (Q2i a p).1 next:=⟨h1,h2⟩
  refine⟨hl.trans i1,fun h s hm=>?_⟩;rcases J2C.1 hm with rfl|hm
  ·exact i1.none (h3 h s (by simp))
  ·exact i2 h s hm
def AsideS (H:HL) (L:List (Int×Int)) (a:Option Addr) (w:World):Prop:=∀(j:Nat) (x:Int×Int),L[j]?=some x->∃g,a=some ⟨g,0,none⟩/\g∉keys H/\g<w.heap.size/\w.cell? ⟨g,j*2,none⟩=some (.int .i64 x.1)/\w.cell? ⟨g,j*2+1,none⟩=some (.int .i64 x.2)
theorem AsideS.step {H H':HL} {L:List (Int×Int)} {a:Option Addr} {w w':World} (h:AsideS H L a w) (st:Step H H' w w'):AsideS H' L a w':=fun j x hj=>by
 obtain⟨g,h1,h2,h3,h4,h5⟩:=h j x hj;have e:=st.chg.block g h3 h2;refine⟨g,h1,fun hk=>?_,J2z h3 st.chg.size,(World.cell?_of_block (w:=w) e).trans h4,(World.cell?_of_block (w:=w) e).trans h5⟩;rcases st.new g hk with h'|h'
 ·exact h2 h'
 ·omega
theorem Z2k:∀(L:List (Int×Int)) (j:Nat) (x:Int×Int),L[j]?=some x->(L.flatMap encS)[j*2]?=some (.int .i64 x.1)/\(L.flatMap encS)[j*2+1]?=some (.int .i64 x.2)
 | [],j,x,h=>by simp at h
 | p::r,0,x,h=>by
  simp at h;subst h;exact⟨rfl,rfl⟩
 | p::r,j+1,x,h=>by
  have ih:=Z2k r j x (by simpa using h);rw [J2U];have e1:(j+1)*2=(j*2)+(encS p).length:=by simp [encS];omega
  have e2:(j+1)*2+1=(j*2+1)+(encS p).length:=by simp [encS];omega
  rw [e2,e1,J5M (by omega),J5M (by omega)]
  simpa using ih
theorem NewSp.aside {w w':World} {H:HL} {L:List (Int×Int)} {r:Ending} (h:NewSp w L r w') (hs:Sep w H):∃(a:Option Addr) (cap:Nat),r=.returned (.slice a L.length cap)/\Below w.heap.size w w'/\AsideS H L a w':=by
 obtain⟨v,rfl,h1,h2⟩:=h;obtain⟨a,cap,rfl,h3⟩:=Q8k h1;refine⟨a,cap,rfl,h2,fun j x hj=>?_⟩;obtain⟨e1,e2⟩:=Z2k L j x hj;obtain⟨g,rfl,q1,q2,q3⟩:=h3 _ _ e1;obtain⟨g',e,_,_,q4⟩:=h3 _ _ e2;cases e;exact⟨g,rfl,fun hk=>by have:=hs.lt hk;omega,q2,q3,q4⟩
theorem Z0W {w:World} {H:HL} (hs:Sep w H) (T:TypeId) (cs:List Value):AsideV H cs (some ⟨w.heap.size,0,none⟩) (w.alloc (.cells cs.toArray T)):=fun j v hj =>
 ⟨w.heap.size,rfl,fun hk=>by have:=hs.lt hk;omega,by simp,(Cells.new w T cs).cell j v hj⟩
def Z9N (Z:SP) (fr:List Nat) (N K:Nat) (M:Int) (l:List (Int×Int)) (w w':World):Prop:=∃Z',Z'.Ok fr N K M/\Z'.av=(Q1e Z.av l).1/\SameZ Z Z'/\Step Z.hl Z'.hl w w'
structure PgI (Z:SP) (fr:List Nat) (N K:Nat) (M:Int) (l:List (Int×Int)) (a:Option Addr) (w:World) (k:Nat) (Z1:SP) (wr:World):Prop where
 ok:Z1.Ok fr N K M
 av:Z1.av=(Q1e Z.av (l.take k)).1
 same:SameZ Z Z1
 st:Step Z.hl Z1.hl w wr
 row:AsideS Z1.hl l a wr
theorem Z0X {wr W:World} {Z:SP} {fr:List Nat} {N K:Nat} {M:Int} (hs:Sep wr Z.hl) (ok:Z.Ok fr N K M) {x s:Nat} (hx:x<4294967296) (hs2:s<256) (hb:Below wr.heap.size wr W) :
  Calls prog 88 #[.pointer (some ⟨Z.F.f,0,none⟩),.int .i64 x,.int .i64 s] W fun r w1=>r=.returned (.int .i64 (ownN Z.F.N (x:Int) (s:Int)))/\W=w1 /\
   ∀(w2:World) (a:Nat),a=w2.heap.size->Below wr.heap.size wr w2->Calls prog 85 #[.pointer (some ⟨Z.s,0,none⟩),.int .i64 15,.slice (some ⟨a,0,none⟩) 1 1] (w2.alloc (.cells #[.int .i64 (ownN Z.F.N (x:Int) (s:Int))] 3)) fun r w3=>∃v:Nat,r=.returned (.int .i64 v)/\v<=1/\(∀b,wr.heap.size<=b->b<w2.heap.size->w3.heap[b]?=w2.heap[b]?)/\∃Z',Z'.Ok fr N K M/\Q2i Z.av ((x:Int),(s:Int))=(Z'.av,v)/\SameZ Z Z'/\Step Z.hl Z'.hl wr w3:=by
 have s1:=hs.grown hb;have g1:(0:Int)<=(x:Int):=by omega
 have g2:(x:Int)<9223372036854775808:=by omega
 have g3:(0:Int)<=(s:Int):=by omega
 have g4:(s:Int)<9223372036854775808:=by omega
 refine (Q4N (SP.sF s1.sep) ok.fo (sp:=(x:Int)) (sl:=(s:Int)) (Q3l (p:=((x:Int),(s:Int))) g1 g2 g3 g4)).mono ?_;rintro r w1 ⟨rfl,rfl⟩;refine⟨rfl,rfl,fun w2 a ha hb2=>?_⟩;subst ha;have hb3:=hb2.alloc hb2.size (.cells #[.int .i64 (ownN Z.F.N (x:Int) (s:Int))] 3);have s3:=hs.grown hb3;have hrow:AsideV Z.hl ([ownN Z.F.N (x:Int) (s:Int)].map encI) (some ⟨w2.heap.size,0,none⟩) (w2.alloc (.cells #[.int .i64 (ownN Z.F.N (x:Int) (s:Int))] 3)):=Z0W (hs.grown hb2).sep 3 [.int .i64 (ownN Z.F.N (x:Int) (s:Int))];refine (Q2w s3.sep ok 15 (by omega) (by omega) [ownN Z.F.N (x:Int) (s:Int)] (some ⟨w2.heap.size,0,none⟩) 1 (by simp) hrow (Q7p _ _)).mono ?_
 rintro r w3 ⟨rfl,Z',k1,k2,k3,st⟩;refine⟨_,rfl,Q9P Z.av ((x:Int),(s:Int)),fun b h1 h2=>?_,Z',k1,?_,k3,s3.trans st⟩
 ·have h3:b<(w2.alloc (.cells #[.int .i64 (ownN Z.F.N (x:Int) (s:Int))] 3)).heap.size:=by simp;omega
  rw [st.keep hs h1 b (J2x _) h3];exact Below.heap_alloc _ _ _ h2
 ·unfold Q2i;rw [k2];rfl
theorem Q7D {w:World} {Z:SP} {fr:List Nat} {N K:Nat} {M:Int} (hs:Sep w Z.hl) (ok:Z.Ok fr N K M) (h:Nat) :
  Calls prog 39 #[.pointer (some ⟨Z.s,0,none⟩),.int .u32 h] w fun r w'=>r=.returned (.int .i64 ((Q1e Z.av (Q2X Z.S.l Z.tb h)).2:Nat))/\Z9N Z fr N K M (Q2X Z.S.l Z.tb h) w w':=by
 have kh:=Q5q hs ok h;have HStart:Hid (∀w1 a,Below w.heap.size w w1->AsideS Z.hl (Q2X Z.S.l Z.tb h) a w1->PgI Z fr N K M (Q2X Z.S.l Z.tb h) a w 0 Z w1):=fun w1 a hb ha=>⟨ok,rfl,SameZ.refl Z,hs.grown hb,ha⟩
 have HS:=Q0a hs;have HMem:Hid (∀z∈Q2X Z.S.l Z.tb h,∃x s:Nat,z=((x:Int),(s:Int))/\x<4294967296/\s<256):=fun z hz=>by
  obtain⟨x,hx,s,rfl,h3,_⟩:=mem_holdL.1 hz;obtain⟨q,hq⟩:=(Q1i (by rw [ok.core.inv.len];omega)).1 hx;exact⟨x,s,rfl,by
   obtain⟨a1,a2,_⟩:=pget_some.1 hq;have:=(ok.core.inv.lok.2 q (J4L a1)).2;unfold nm at a2;omega,h3⟩
 have hln:(Q2X Z.S.l Z.tb h).length<=65536:=by
  have h1:=Q6D Z.S.l Z.tb h (allL Z.S.l 1);have h2:=Q2y Z.S.l 1 Z.S.l.length;rw [ok.core.inv.len] at h2;unfold Q2X;unfold allL at h1 ⊢;rw [ok.core.inv.len] at h1 ⊢;omega
 generalize hL:Q2X Z.S.l Z.tb h=l at *
 generalize hn:l.length=n at *
 have HN:=Q0a hn;have HLn:=Q0a hln;clear hs ok hL hn hln;go_enter func39,ntmps39;go_wp2_with fail;refine kh.mono ?_;intro r w1 hx1;obtain⟨a,cap,rfl,h2,has⟩:=hx1.aside HS.out;have HI0:=Q0a (HStart.out w1 a h2 has);rw [HN.out];clear h2 has kh HStart hx1;go_wp2_with fail
 go_loopg [5,12] n (fun gk cv iv wr=>∃(k:Nat) (Z1:SP),iv=.int .i64 k/\cv=.int .i64 ((Q1e Z.av (l.take k)).2:Nat)/\k+gk=n/\PgI Z fr N K M l a w k Z1 wr)
 case atStart=>exact⟨0,Z,rfl,rfl,by omega,HI0.out⟩
 case round =>
  obtain⟨k,Z1,rfl,rfl,hkg,hI⟩:=hrel;have HKg:=Q0a hkg;have HI:=Q0a hI;by_cases hlt:k<n
  ·obtain⟨z,hz⟩:∃z,l[k]?=some z:=⟨l[k]'(by rw [HN.out];exact hlt),J4O (by rw [HN.out];exact hlt)⟩
   obtain⟨x,s,rfl,hx2,hs2⟩:=HMem.out z (J4L hz);obtain⟨g,rfl,_,_,hcx,hcy⟩:=hI.row k _ hz;have hnext:∀(Z2:SP) (w':World) (v:Nat),Q2i Z1.av ((x:Int),(s:Int))=(Z2.av,v)->Z2.Ok fr N K M->SameZ Z1 Z2->Step Z1.hl Z2.hl wr w'->(Q1e Z.av (l.take (k+1))).2=(Q1e Z.av (l.take k)).2+v/\PgI Z fr N K M l (some ⟨g,0,none⟩) w (k+1) Z2 w':=fun Z2 w' v e k1 k2 k3=>by
    have htk:l.take (k+1)=l.take k++[((x:Int),(s:Int))]:=by rw [J4t,hz];rfl
    have hsn:Q1e Z.av (l.take (k+1))=(Z2.av,(Q1e Z.av (l.take k)).2+v):=by
     rw [htk,purgeA_snoc,<- HI.out.av,e]
    exact⟨by rw [hsn],k1,by rw [hsn],HI.out.same.trans k2,HI.out.st.trans k3,AsideS.step HI.out.row k3⟩
   have HNext:=Q0a hnext;have HR:Hid (∀W,Below wr.heap.size wr W->W.cell? ⟨Z1.s,1,none⟩=some (.pointer (some ⟨Z1.F.f,0,none⟩))/\_):=fun W hb=>⟨SP.c1 (HI.out.st.sep.grown hb).sep,Z0X HI.out.st.sep HI.out.ok hx2 hs2 hb⟩
   have hss:=hI.same.s;rw [hss] at HR;have hcb:=Q9Q (l.take k) Z.av;rw [J4Q] at hcb;have hki:(k:Int)<(n:Int):=by omega
   have hk0:(0:Int)<=(k:Int):=by omega
   have hkb:(k:Int)<=65536:=by have:=HLn.out;omega
   have hcb2:(Q1e Z.av (l.take k)).2<=65536:=by have:=HLn.out;omega
   generalize hcc:(Q1e Z.av (l.take k)).2=c at *
   have hci:(c:Int)<=65536:=by omega
   have hc0:(0:Int)<=(c:Int):=by omega
   have hs0:(0:Int)<=(s:Int):=by omega
   have hs1:(s:Int)<256:=by omega
   have hx0:(0:Int)<=(x:Int):=by omega
   have hx1:(x:Int)<4294967296:=by omega
   have HFf:Hid (∀Z2:SP,SameZ Z1 Z2->Z2.F.f=Z1.F.f/\Z2.s=Z.s):=fun Z2 h=>⟨h.f,h.s.trans HI.out.same.s⟩
   generalize Z1.F.f=ff at *
   clear hI hkg hz hcb hcc hcb2 hnext hss hs2 hx2;have hbx:Below wr.heap.size wr (wr.alloc (.cells #[.int .i64 x,.int .i64 s] 46)):=(Below.refl _ _).alloc (J2x _) _;have hBox:=Cells.new wr 46 [.int .i64 x,.int .i64 s];have e0:=hBox.cell 0 _ rfl;have e1:=hBox.cell 1 _ rfl;obtain⟨d0,-⟩:=HR.out _ hbx;obtain⟨d1,kf⟩:=HR.out _ hbx.drew;have e0d:(wr.alloc (.cells #[.int .i64 x,.int .i64 s] 46)).drew.cell? ⟨wr.heap.size,0,none⟩=some (.int .i64 x):=e0;have e1d:(wr.alloc (.cells #[.int .i64 x,.int .i64 s] 46)).drew.cell? ⟨wr.heap.size,1,none⟩=some (.int .i64 s):=e1;have HBx:=Q0a hbx;have HBox:=Q0a hBox;have HSt:Hid (∀W,Below (wr.alloc (.cells #[.int .i64 x,.int .i64 s] 46)).heap.size (wr.alloc (.cells #[.int .i64 x,.int .i64 s] 46)) W->W.cell? ⟨Z.s,1,none⟩=some (.pointer (some ⟨ff,0,none⟩))/\W.cell? ⟨wr.heap.size,0,none⟩=some (.int .i64 x)/\W.cell? ⟨wr.heap.size,1,none⟩=some (.int .i64 s)):=fun W hb=>by
    have hc:=HBox.out.same (hb.block _ (by simp));exact⟨(HR.out _ (Q0e hb)).1,hc.cell 0 _ rfl,hc.cell 1 _ rfl⟩
   have HSa:Hid (∀W,Below (wr.alloc (.cells #[.int .i64 x,.int .i64 s] 46)).heap.size (wr.alloc (.cells #[.int .i64 x,.int .i64 s] 46)) W->∀o,Below (wr.alloc (.cells #[.int .i64 x,.int .i64 s] 46)).heap.size (wr.alloc (.cells #[.int .i64 x,.int .i64 s] 46)) (W.alloc o)):=fun W hb o=>hb.alloc hb.size o
   have HEnd:Hid (∀(w2 w3:World) (Z2:SP),Below (wr.alloc (.cells #[.int .i64 x,.int .i64 s] 46)).heap.size (wr.alloc (.cells #[.int .i64 x,.int .i64 s] 46)) w2->(∀b,wr.heap.size<=b->b<w2.heap.size->w3.heap[b]?=w2.heap[b]?)->SameZ Z1 Z2->Step Z1.hl Z2.hl wr w3->w3.cell? ⟨Z.s,1,none⟩=some (.pointer (some ⟨ff,0,none⟩))/\w3.cell? ⟨wr.heap.size,0,none⟩=some (.int .i64 x)/\w3.cell? ⟨wr.heap.size,1,none⟩=some (.int .i64 s)):=fun w2 w3 Z2 hb hk sm st=>by
    have hc:=HBox.out.same (hb.block _ (by simp));have hc3:=hc.same (hk _ (J2x _) hc.lt);have h1:=SP.c1 st.sep;obtain⟨q1,q2⟩:=HFf.out Z2 sm;rw [q1,q2] at h1;exact⟨h1,hc3.cell 0 _ rfl,hc3.cell 1 _ rfl⟩
   have HDr:Hid (Below (wr.alloc (.cells #[.int .i64 x,.int .i64 s] 46)).heap.size (wr.alloc (.cells #[.int .i64 x,.int .i64 s] 46)) (wr.alloc (.cells #[.int .i64 x,.int .i64 s] 46)).drew):=(Below.refl _ _).drew;clear hbx hBox;go_wp2_with fail
   go_region_held3 (fun W=>W.cell? ⟨Z.s,1,none⟩=some (.pointer (some ⟨ff,0,none⟩))/\W.cell? ⟨wr.heap.size,0,none⟩=some (.int .i64 x)/\W.cell? ⟨wr.heap.size,1,none⟩=some (.int .i64 s)) (first|exact⟨d0,e0,e1⟩|exact⟨d1,e0d,e1d⟩|exact HSt.out _ (HSa.out _ HDr.out _)|exact hS3)
    (first|(go_at_call 88;refine kf.mono ?_;rintro r w2 ⟨rfl,rfl,hwk⟩;have HWk:=Q0a hwk;clear hwk)|(go_at_call 85;refine (HWk.out (wr.alloc (.cells #[.int .i64 x,.int .i64 s] 46)).drew (wr.heap.size+1) (by simp) HBx.out.drew).mono ?_;rintro r w3 ⟨v,rfl,hv,hk,Z2,k1,k2,k3,st⟩;have hS3:=HEnd.out _ _ _ HDr.out hk k3 st;have HN2:=Q0a (HNext.out _ _ _ k2 k1 k3 st);have HV:=Q0a hv;clear hv hk k1 k2 k3 st))
   obtain⟨q1,q2⟩:=HN2.out;have Q1:=Q0a q1;have Q2:=Q0a q2;have hv0:(0:Int)<=(v:Int):=by omega
   have hv1:(v:Int)<=1:=by have:=HV.out;omega
   clear q1 q2 HN2 HWk hS3 HEnd HSa HSt HDr HBx HBox kf d0 d1 e0 e1 e0d e1d;go_wp2_with fail;go_roundg (n-(k+1))
   case measure=>have:=HKg.out;omega
   case rel=>exact⟨k+1,Z2,by go_num,by rw [Q1.out];simp;exact Go.IntWalk.i64_in _ (by omega),by have:=HKg.out;omega,Q2.out⟩
  ·obtain rfl:k=n:=by have:=HKg.out;omega
   have HR:Hid (((Q1e Z.av (l.take k)).2=(Q1e Z.av l).2)/\Z9N Z fr N K M l w wr):=by
    have h1:l.take k=l:=by rw [<- HN.out,J6J]
    have h2:=hI.av;rw [h1] at h2;exact⟨by rw [h1],Z1,hI.ok,h2,hI.same,hI.st⟩
   rw [HR.out.1];clear hI hkg;go_wp2_with fail
   first|exact⟨rfl,HR.out.2⟩|(go_ret;exact⟨rfl,HR.out.2⟩)
theorem Q9R {l:List Pl} {tb:Nat->TB} {h:Nat} {p:Pl} (hp:pget l 1 h=some p) (hn:(tb (h%256)).Nil) (h' s:Nat):Q0f (l.set (h%256) {p with st:=2}) tb h' s=Q0f l tb h' s:=by
 obtain⟨hi,hnm,_⟩:=pget_some.1 hp;by_cases e:h'%256=h%256
 ·have z:∀l',Q0f l' tb h' s=none:=fun l'=>by
   unfold Q0f;split
   ·split
    ·rename_i hc;rw [e];exact hn.2 s hc.2
    ·rfl
   ·rfl
  rw [z,z]
 ·unfold Q0f;rw [Q0z _ hi,if_neg e]
theorem SP.Ok.doom {Z:SP} {fr:List Nat} {N K:Nat} {M:Int} (ok:Z.Ok fr N K M) {x:Nat} {p:Pl} (hp:pget Z.S.l 1 x=some p) (h0:x≠0) (hk:kids Z.S.l x=[]) (hn:∀s:Nat,Z.av.en x s=none) (hno:∀(h s:Nat) (c:Nat×Nat),Z.av.en h s=some c->c.1≠x) {rv:OV} (hov:ovOk rv (Z.S.ts.length+1)) :
  (Z.setS (Z.S.doomed x p rv) Z.tb).Ok fr N K M/\(Z.setS (Z.S.doomed x p rv) Z.tb).av=Z.av:=by
 have hnil:(Z.tb (x%256)).Nil:=by
  obtain⟨hi,_,hst⟩:=pget_some.1 hp;by_cases h2:p.kind=2
  ·refine TB.nil_of (ok.tpi.full _ (J5D _ (by omega))) fun s hs=>?_
   have:=av_none.1 (hn s)
   rwa [Q0g hp h2 hs] at this
  ·exact ok.tpi.nil _ p hi (fun h=>h2 h.2)
 have hno':∀h' s e,Q0f Z.S.l Z.tb h' s=some e->e.h≠x:=fun h' s e he=>hno h' s (e.h,e.r) (Q9n he)
 refine⟨⟨ok.core.doomed hp h0 hk (ok.tpi.spare ok.core hp hnil) hov,ok.tpi.doomed ok.core hp hnil rv,ok.fpi.doomed hp hnil hno',ok.fo,ok.next⟩,?_⟩;show (⟨fun h s=>(Q0f (Z.S.l.set (x%256) {p with st:=2}) Z.tb h s).map Ent.c,Z.F.N⟩:AV)=_;unfold SP.av avOf;congr 1;funext h s;rw [Q9R hp hnil]
def Zmb (l:List Pl) (A:List Nat) (l':List Pl):Prop:=∀y,pget l' 2 y=if y∈A then (pget l 1 y).map (fun p=>{p with st:=2}) else pget l 2 y
theorem J0U {l:List Pl} {x:Nat} {p:Pl} (hp:pget l 1 x=some p):Zmb l [x] (l.set (x%256) {p with st:=2}):=fun y=>by
 obtain⟨hi,hn,hs⟩:=pget_some.1 hp;rw [Q0z _ hi];by_cases e:y%256=x%256
 ·rw [if_pos e];by_cases ey:y=x
  ·subst ey;rw [if_pos ⟨hn,rfl⟩,if_pos (by simp),hp];rfl
  ·rw [if_neg (fun h:_/\_=>ey (h.1.symm.trans hn)),if_neg (fun h:y∈[x]=>ey (J4E.1 h))];cases h2:pget l 2 y with
   | none=>rfl
   | some q=>exact absurd (Q0P h2 hp e).1 ey
 ·rw [if_neg e,if_neg];intro h;rw [J4E] at h;exact e (by rw [h])
def J0V (l:List Pl) (L:List Nat):Prop:=∀A x B,L=A++x::B->∃q,pget l 1 x=some q/\x≠0/\x∉A/\∀y∈kids l x,y∈A
theorem Z0Y {l:List Pl} {N:Nat} (t:Tre l N) {h:Nat} {p:Pl} (hp:pget l 1 h=some p) (h0:h≠0):J0V l (Q0K l N h++[h]):=fun A x B e=>by
 by_cases hk:p.kind=1
 ·by_cases hB:B=[]
  ·subst hB;obtain⟨e1,e2⟩:=List.append_inj' e rfl;obtain rfl:h=x:=by simpa using e2
   subst e1;refine⟨p,hp,h0,fun hm=>((Q2H t).1 hm).2 rfl,fun y hy=>?_⟩;obtain⟨p1,q1,a1,a2,a3,a4,a5⟩:=(Q0O t.len).1 hy;rw [hp] at a1;cases a1;refine Z5J t hp hk a3 a4 ?_ (.inl a5);intro e;subst e;rw [hp] at a3;cases a3;have:=t.rise y p hp a4 hk;omega
  ·obtain⟨B',b,rfl⟩:∃B' b,B=B'++[b]:=⟨B.dropLast,B.getLast hB,(List.dropLast_concat_getLast hB).symm⟩
   have e':Q0K l N h++[h]=(A++x::B')++[b]:=by rw [e];simp
   obtain⟨e1,e2⟩:=List.append_inj' e' rfl;obtain⟨q,q1,q2,q3,q4,q5,q6,_⟩:=Z5I t hp hk e1;exact⟨q,q1,q3,fun hm=>q5 x hm rfl,q6⟩
 ·have hu:Q0K l N h=[]:=(Q8R t).2 (Q4A fun q hq=>by rw [hp] at hq;cases hq;exact hk);rw [hu] at e;have:A=[]/\x=h/\B=[]:=by
   cases A with
   | nil=>simp at e;exact⟨rfl,e.1.symm,e.2⟩
   | cons a r=>simp at e
  obtain⟨rfl,rfl,rfl⟩:=this;refine⟨p,hp,h0,by simp,fun y hy=>?_⟩;rw [Q4A fun q hq=>by rw [hp] at hq;cases hq;exact hk] at hy;cases hy
def Z3S (l:List Pl) (A:List Nat):List Pl:=A.foldl (fun l x=>match pget l 1 x with|some p=>l.set (x%256) {p with st:=2}|none=>l) l
theorem Q7E {l:List Pl} {A:List Nat} {x:Nat} {p:Pl} (h:pget (Z3S l A) 1 x=some p):Z3S l (A++[x])=(Z3S l A).set (x%256) {p with st:=2}:=by
 unfold Z3S at h ⊢;rw [List.foldl_append];show (match pget _ 1 x with|some p=>_|none=>_)=_;rw [h]
structure KillI (Z:SP) (fr:List Nat) (N K:Nat) (M:Int) (A:List Nat) (Z1:SP):Prop where
 ok:Z1.Ok fr N K M
 s:Z1.s=Z.s
 c:Z1.S.c=Z.S.c
 t:Z1.S.t=Z.S.t
 g:Z1.S.g=Z.S.g
 f:Z1.F.f=Z.F.f
 nx:Z1.F.next=Z.F.next
 qn:Z1.S.P.q.next=Z.S.P.q.next
 per:Z1.S.period=Z.S.period
 now:Z1.S.now=Z.S.now
 same:SameP Z.S.P Z1.S.P
 acc:Z1.S.P.q.E.map En.id=Z.S.P.q.E.map En.id
 l:Z1.S.l=Z3S Z.S.l A
 live:Dmd Z.S.l A Z1.S.l
 zomb:Zmb Z.S.l A Z1.S.l
 ts:Z1.S.ts=Z.S.ts++A.map fun x=>(x,Z.S.now+Z.S.period)
 less:Lesser Z.av Z1.av Z.F.next
 out:∀x∈A,(∀s:Nat,Z1.av.en x s=none)/\∀(h s:Nat) (c:Nat×Nat),Z1.av.en h s=some c->c.1≠x
theorem KillI.start {Z:SP} {fr:List Nat} {N K:Nat} {M:Int} (ok:Z.Ok fr N K M):KillI Z fr N K M [] Z:=
 ⟨ok,rfl,rfl,rfl,rfl,rfl,rfl,rfl,rfl,rfl,SameP.refl _,rfl,rfl,Dmd.nil _,fun y=>by simp,by simp,Lesser.refl ok.avOk,fun x h=>by cases h⟩
theorem KillI.next {Z Z1 Z2 Z3:SP} {fr:List Nat} {N K:Nat} {M:Int} {A:List Nat} (hlz:Z.S.l.length<=256) (I:KillI Z fr N K M A Z1) {x:Nat} {q p:Pl} (hq:pget Z.S.l 1 x=some q) (h0:x≠0) (hA:x∉A) (hk:∀y∈kids Z.S.l x,y∈A)
  (ok2:Z2.Ok fr N K M) (w2:Z2.av=(Q1P Z1.F.next x Z1.av (Q0q Z1.S.l Z1.tb x)).1) (s2:SameZ Z1 Z2) (ok3:Z3.Ok fr N K M) (w3:Z3.av=(Q1e Z2.av (Q2X Z2.S.l Z2.tb x)).1) (s3:SameZ Z2 Z3) :
  (pget Z3.S.l 1 x=some q/\kids Z3.S.l x=[])/\∀{rv:OV},pget Z3.S.l 1 x=some p->ovOk rv (Z3.S.ts.length+1)->KillI Z fr N K M (A++[x]) (Z3.setS (Z3.S.doomed x p rv) Z3.tb):=by
 have l2:=s2.alt.l;have l3:=s3.alt.l;have hlen:=I.ok.core.inv.len;have hp1:pget Z1.S.l 1 x=some q:=by rw [I.live x,if_neg hA];exact hq
 have hp3:pget Z3.S.l 1 x=some q:=by rw [l3,l2];exact hp1
 have hk3:kids Z3.S.l x=[]:=by rw [l3,l2];exact Dmd.none_left hlz (by omega) I.live hk
 refine⟨⟨hp3,hk3⟩,fun {rv} hp hov=>?_⟩;obtain⟨e1,e2⟩:=Z6W (a:=Z1.av) (l:=Z1.S.l) (tb:=Z1.tb) (N:=Z1.F.N) (x:=x) rfl I.ok.avOk;rw [<- w2,I.nx] at e1;rw [<- w2] at e2;have k2:=ok2.avOk;rw [s2.nx,I.nx] at k2;obtain⟨e3,e4⟩:=Q6E (Q2X Z2.S.l Z2.tb x) k2;rw [<- w3] at e3 e4;have hn:∀s:Nat,Z3.av.en x s=none:=fun s=>e3.none (e2 s)
 have hno:∀(h s:Nat) (c:Nat×Nat),Z3.av.en h s=some c->c.1≠x:=fun h s c hc hx=>by
  rcases e3.en h s with h1|h1
  ·rw [h1] at hc;cases hc
  ·rw [h1] at hc;obtain⟨e,he,rfl⟩:=Q3m hc;obtain⟨r,r1,r2,r3,_⟩:=Q3D he;have hm:((h:Int),(s:Int))∈Q2X Z2.S.l Z2.tb x:=mem_holdL.2 ⟨h,(Q1i (by rw [ok2.core.inv.len];omega)).2 ⟨r,r1⟩,s,rfl,r3,e,he,hx⟩;rw [e4 h s hm] at h1;rw [<- h1] at hc;cases hc
 obtain⟨d1,d2⟩:=ok3.doom hp h0 hk3 hn hno hov;have hdm:Dmd Z3.S.l [x] (Z3.S.doomed x p rv).l:=J0C hp;have hzm:Zmb Z3.S.l [x] (Z3.S.doomed x p rv).l:=J0U hp;have hlv:Dmd Z.S.l A Z3.S.l:=by rw [l3,l2];exact I.live
 have hzv:Zmb Z.S.l A Z3.S.l:=by rw [l3,l2];exact I.zomb
 have hless:Lesser Z.av Z3.av Z.F.next:=(I.less.trans e1).trans e3;refine⟨d1,?_,?_,?_,?_,?_,?_,?_,?_,?_,?_,?_,?_,hlv.step hdm,fun y=>?_,?_,by rw [d2];exact hless,fun y hy=>?_⟩
 ·exact s3.s.trans (s2.s.trans I.s)
 ·exact s3.alt.c.trans (s2.alt.c.trans I.c)
 ·exact s3.alt.t.trans (s2.alt.t.trans I.t)
 ·exact s3.alt.g.trans (s2.alt.g.trans I.g)
 ·exact s3.f.trans (s2.f.trans I.f)
 ·exact s3.nx.trans (s2.nx.trans I.nx)
 ·exact s3.alt.next.trans (s2.alt.next.trans I.qn)
 ·exact s3.alt.per.trans (s2.alt.per.trans I.per)
 ·exact s3.alt.now.trans (s2.alt.now.trans I.now)
 ·exact (I.same.trans s2.alt.same).trans s3.alt.same
 ·exact s3.alt.ids.trans (s2.alt.ids.trans I.acc)
 ·have e:Z3.S.l=Z3S Z.S.l A:=l3.trans (l2.trans I.l);rw [Q7E (p:=p) (by rw [<- e];exact hp),<- e];rfl
 ·show pget (Z3.S.doomed x p rv).l 2 y=_;rw [hzm y,hzv y,hlv y];by_cases ey:y=x
  ·subst ey;simp [hA]
  ·by_cases hy:y∈A <;> simp [ey,hy]
 ·show Z3.S.ts++[(x,Z3.S.now+Z3.S.period)]=_;rw [s3.alt.ts,s2.alt.ts,I.ts,s3.alt.now,s2.alt.now,I.now,s3.alt.per,s2.alt.per,I.per];simp
 ·rw [d2];rcases J3l.1 hy with hy|hy
  ·obtain⟨o1,o2⟩:=I.out y hy;have hl13:Lesser Z1.av Z3.av Z.F.next:=e1.trans e3;refine⟨fun s=>hl13.none (o1 s),fun h s c hc=>?_⟩;rcases hl13.en h s with h1|h1
   ·rw [h1] at hc;cases hc
   ·rw [h1] at hc;exact o2 h s c hc
  ·rw [J4E] at hy;subst hy;exact⟨hn,hno⟩
open Go.Sort (Holds putRow holds_putRow holds_ahead putRow_self reverseLoop swp size_swp)
theorem Z0Z (blk cap:Nat) (d:Array Nat) (w:World) (hH:Holds encH w blk 0 d) (hsz:d.size<=65536) :
  Calls prog 96 #[.slice (some ⟨blk,0,none⟩) d.size cap] w fun e w'=>e=.returned (.tuple #[])/\∃n,w'=putRow encH (Go.Sort.ahead w n) blk 0 d.reverse:=by
 go_enter func96,ntmps96;go_wp2_with fail
 go_loopg [2,3] d.size (fun k s2 s3 wr=>∃(i jn:Nat) (jz:Int) (dk:Array Nat) (n:Nat),s2=.int .i64 i/\s3=.int .i64 jz/\((i:Int)<jz->jz=jn/\jn<d.size)/\(¬(i:Int)<jz->¬i<jn)/\jn-i<=k /\
  dk.size=d.size/\wr=putRow encH (Go.Sort.ahead w n) blk 0 dk/\reverseLoop i jn dk=reverseLoop 0 (d.size-1) d)
 case atStart=>exact⟨0,d.size-1,(d.size:Int)-1,d,0,rfl,rfl,fun h=>⟨by omega,by omega⟩,fun h=>by omega,by omega,rfl,(putRow_self encH w blk 0 d hH).symm,rfl⟩
 case round =>
  obtain⟨i,jn,jz,dk,n,rfl,rfl,h1,h2,hk,hds,hwr,heq⟩:=hrel;by_cases hlt:(i:Int)<jz
  ·obtain⟨rfl,hjn⟩:=h1 hlt;have hij:i<jn:=by omega
   have hHk:Holds encH wr blk 0 dk:=by rw [hwr];exact holds_putRow encH _ blk 0 d dk (holds_ahead encH w n blk 0 d hH) hds
   obtain⟨ci,fi⟩:=hHk i (by omega);obtain⟨cj,fj⟩:=hHk jn (by omega);have A:Go.Aside (wr=putRow encH (Go.Sort.ahead w n) blk 0 dk):=hwr;have SW:Hid (((wr.setCell ⟨blk,i,none⟩ (.int .u32 (dk[jn]!:Int))).setCell ⟨blk,jn,none⟩ (.int .u32 (dk[i]!:Int))).drew=putRow encH (Go.Sort.ahead w (n+1)) blk 0 (swp dk i jn)):=by
    have:=swap_world encH (off:=0) (i:=i) (j:=jn) (by omega) (by omega) hwr rfl rfl;rw [J5b,J5b] at this;exact this
   clear hwr hHk hH h1 h2;go_wp2_with fail;rw [J5b] at ci fi cj fj;unfold encH at ci cj;go_region
   all_goals
    go_wp2_with fail;go_roundg (jn-1-(i+1))
    case measure=>omega
    case rel =>
     rw [reverseLoop,if_pos hij] at heq;exact⟨i+1,jn-1,(jn:Int)-1,swp dk i jn,n+1,by go_num,by go_num,fun h=>⟨by omega,by omega⟩,fun h=>by omega,J2x _,by rw [size_swp];exact hds,
      (by have hsw:=SW.out;first|exact hsw|(simp only [getElem!_pos dk jn (by omega)] at hsw;exact hsw)),heq⟩
  ·have hnot:=h2 hlt;go_wp2_with fail
   first|go_end0|skip
   refine⟨rfl,n,?_⟩;rw [reverseLoop,if_neg hnot] at heq;rw [<- Go.Lib.reverseLoop_reverse,<- heq]
end Go.Proofs.YtlakjlmaboioiaaGreatDoor
namespace Go.Proofs.YtlakjlmaboioiaaGreatDoor
open Go.RowKit Go.Proofs.Tryz
theorem Z9e (l:List Pl) (hl:l.length<=256) (x:Nat):(kids l x).length<=256:=by
 unfold kids;split
 ·split
  ·unfold Z7x;refine J2y (J4M _ _) ?_;have:=Q2y l 1 l.length;unfold allL;omega
  ·simp
 ·simp
structure UndI (l:List Pl) (N x:Nat) (ws os:List Nat):Prop where
 eq:os++rest l N ws=pre l N x
theorem UndI.start (l:List Pl) (N x:Nat):UndI l N x [x] []:=⟨by simp [rest]⟩
theorem UndI.step {l:List Pl} {N x y:Nat} {ws os:List Nat} (t:Tre l N) (u:UndI l N x (ws++[y]) os):UndI l N x (ws++kids l y) (os++[y])/\(rest l N (ws++kids l y)).length<(rest l N (ws++[y])).length:=by
 have h:=u.eq;rw [Q8u t] at h ⊢;exact⟨⟨by rw [J3x];exact h⟩,by simp⟩
theorem UndI.len {l:List Pl} {N x:Nat} {ws os:List Nat} (t:Tre l N) (u:UndI l N x ws os):ws.length<=256/\os.length<=256:=by
 have h1:=congrArg List.length u.eq;have h2:=Z4r t x;have h3:=Z7A l N ws;rw [J3h] at h1;omega
theorem UndI.name {l:List Pl} {N x y:Nat} {ws os:List Nat} (t:Tre l N) (ok:LOk l) (hx:x<4294967296) (u:UndI l N x (ws++[y]) os):y<4294967296:=by
 have hy:y∈pre l N x:=by
  rw [<- u.eq,Q8u t];simp
 rcases Q5w t hy with rfl|⟨_,q,hq⟩
 ·exact hx
 ·obtain⟨a1,a2,_⟩:=pget_some.1 hq;have:=(ok.2 q (J4L a1)).2;unfold nm at a2;omega
theorem UndI.done {l:List Pl} {N x:Nat} {os:List Nat} (t:Tre l N) (u:UndI l N x [] os):os.reverse=Q0K l N x++[x]:=by
 have h:=u.eq;rw [show rest l N []=[] from rfl,J4D,Q4z t] at h;rw [h];simp
theorem OutH.single (w:World) (x:Nat):OutH w (w.alloc (.cells #[.int .u32 x] 27)) (.slice (some ⟨w.heap.size,0,none⟩) 1 1) [x]:=
 ⟨⟨rfl,.inr ⟨w.heap.size,1,#[.int .u32 x],rfl,J2x _,Cells.new w 27 [.int .u32 x],J2x 1,(by decide:1<=maxLen),rfl,rfl⟩⟩,(Below.refl _ _).alloc (J2x _) _⟩
theorem Two.start (w:World) (x:Nat):Two w (w.alloc (.cells #[.int .u32 x] 27)) (.slice (some ⟨w.heap.size,0,none⟩) 1 1) [x] (.slice none 0 0) []:=
 ⟨OutH.single w x,(OutH.nil w).alloc _,fun b _ h=>by simp [Value.ownBlock] at h⟩
theorem Two.drew {w wr:World} {v u:Value} {L M:List Nat} (h:Two w wr v L u M):Two w wr.drew v L u M:=h.below (Below.refl _ _).drew
theorem Z2l (w:World) (y:Nat):IsHs w.heap.size [y] (some ⟨w.heap.size,0,none⟩) (w.alloc (.cells #[.int .u32 y] 27)):=⟨fun j x hj=>by
 match j,hj with
 | 0,hj =>
  cases hj
  exact⟨_,rfl,J2x _,by simp,(Cells.new w 27 [.int .u32 y]).cell 0 _ rfl⟩
 | k+1,hj=>cases hj⟩
theorem Z3T {w:World} {S:CO} {fr:List Nat} {N K:Nat} (h:Sep w S.hl) (ok:S.Ok fr N K) {x:Nat} (hx:x<4294967296) :
  Calls prog 33 #[.pointer (some ⟨S.c,0,none⟩),.int .u32 x] w (NewHs w (Q0K S.l S.P.q.next.toNat x)):=by
 have tre:=ok.inv.tree;have lok:=ok.inv.lok;have HM:Hid (∀(w1:World) (y:Nat),Below w.heap.size w w1->y<4294967296->Calls prog 95 #[.pointer (some ⟨S.c,0,none⟩),.int .u32 y] w1 (NewHs w1 (kids S.l y))):=fun w1 y hb hy=>Q9m (h.grown hb).sep ok hy
 generalize S.P.q.next.toNat=M at *
 have HTre:=Q0a tre;have HLok:=Q0a lok;have HX:=Q0a hx;have HS:=Q0a (Two.start w x);clear h ok tre lok hx;go_enter func33,ntmps33;go_wp2_with fail
 go_loopg [5,6] (pre S.l M x).length (fun gk ov wv wr=>∃ws os,Two w wr wv ws ov os/\UndI S.l M x ws os/\(rest S.l M ws).length<=gk)
 case atStart=>exact⟨[x],[],HS.out,UndI.start _ _ _,by have:=(UndI.start S.l M x).eq;rw [J4H] at this;rw [this];exact J2x _⟩
 case round =>
  obtain⟨ws,os,htwo,hu,hgk⟩:=hrel;obtain⟨l1,l2⟩:=hu.len HTre.out;have hcc:ws=[]∨∃(ws':List Nat) (y:Nat),ws=ws'++[y]:=by
   rcases J6Y ws with h|⟨a,b,h⟩
   ·exact .inl h
   ·exact .inr ⟨a,b,by rw [h,J6Z]⟩
  rcases hcc with rfl|⟨ws',y,rfl⟩
  ·have hdone:=hu.done HTre.out;have hne:os≠[]:=fun e=>by rw [e] at hdone;simp at hdone
   obtain⟨aw,cw,rfl⟩:=htwo.1.shape;obtain⟨g,co,rfl⟩:=htwo.2.1.shape1 hne;obtain⟨_,_,_,_,hco,_⟩:=htwo.2.1.parts;have hrev:=Z0Z g co os.toArray wr (Z0L htwo.2.1) (by simp;omega);have hfin:∀n,NewHs w (Q0K S.l M x) (.returned (.slice (some ⟨g,0,none⟩) (Q0K S.l M x).length co)) (Go.Sort.putRow encH (Go.Sort.ahead wr n) g 0 os.toArray.reverse):=fun n=>by
    have h1:=htwo.2.1.reversed (k:=n);rw [hdone] at h1;have h2:=h1.cut;exact⟨_,rfl,h2.1,h2.2⟩
   have hlen:os.length=(Q0K S.l M x).length+1:=by
    have:=congrArg List.length hdone
    simpa using this
   have HF:=Q0a hfin;rw [show os.toArray.size=os.length from rfl] at hrev;rw [hlen] at hrev ⊢;have hm:(Q0K S.l M x).length<=256:=by omega
   have hcapi:(((Q0K S.l M x).length:Nat):Int)<=(co:Int):=by omega
   have hcap:(Q0K S.l M x).length<=co:=by omega
   have hw:IntKind.i64.wrap ((Q0K S.l M x).length:Int)=((Q0K S.l M x).length:Int):=Go.IntWalk.i64_in _ (by omega);clear hfin htwo hu hgk hdone hne l1 l2 hlen;generalize (Q0K S.l M x).length=m at *
   generalize NewHs w (Q0K S.l M x)=Q at *
   go_wp2_with fail;refine hrev.mono ?_;rintro r w1 ⟨rfl,n,rfl⟩;have HQ:=Q0a (HF.out n);clear hrev HF;generalize Go.Sort.putRow encH (Go.Sort.ahead wr n) g 0 os.toArray.reverse=w1 at *
   go_wp2_with fail
   first|exact HQ.out|(go_ret;exact HQ.out)
  ·obtain⟨g,cw,rfl⟩:=htwo.1.shape1 (by simp);obtain⟨_,_,_,_,hcw,_⟩:=htwo.1.parts;have hcap:ws'.length<=cw:=by
    have:ws'.length+1<=cw:=by simpa using hcw
    omega
   have hcapi:((ws'.length:Nat):Int)<=(cw:Int):=by omega
   clear hcw;obtain⟨hcell,_,_⟩:=htwo.1.cellAt (j:=ws'.length) (x:=y) (by simp);have hy:=hu.name HTre.out HLok.out HX.out;obtain⟨hstep,hlt⟩:=hu.step HTre.out;have hb:=htwo.1.2;have hmade:=HM.out wr.drew y hb.drew hy;have hkl:=Z9e S.l (by rw [HLok.out.1];exact J2x _) y;have hl:ws'.length+1<=256:=by simpa using l1
   have HApp:Hid (∀w1 am cm,Below wr.drew.heap.size wr.drew w1->IsHs wr.drew.heap.size (kids S.l y) am w1->(am=none->cm=0)->∃v1 w2,(Builtin.append_ #[66,66] 66 #[.slice (some ⟨g,0,none⟩) ws'.length cw,.slice am (kids S.l y).length cm]).run prog w1=.ok v1 w2/\Two w w2 v1 (ws'++kids S.l y) u5 os):=fun w1 am cm hb1 hi ha0=>by
    have t1:Two w w1 (.slice (some ⟨g,0,none⟩) ws'.length cw) ws' u5 os:=htwo.cut.drew.below hb1;obtain⟨v1,w2,e1,e2,e3,e4⟩:=J0P (ty:=66) (a:=am) (cap:=cm) t1.1.1 hi ha0 (by omega) t1.1.2.size;exact⟨v1,w2,e1,t1.app e2 e3 e4⟩
   have HApp2:Hid (∀w2 v1 L,Two w w2 v1 L u5 os->∃v2 w3,(Builtin.append_ #[66,66] 66 #[u5,.slice (some ⟨w2.heap.size,0,none⟩) 1 1]).run prog (w2.alloc (.cells #[.int .u32 y] 27))=.ok v2 w3/\Two w w3 v1 L v2 (os++[y])):=fun w2 v1 L t=>by
    have t1:=(t.alloc (.cells #[.int .u32 y] 27)).swap;obtain⟨v2,w3,e1,e2,e3,e4⟩:=Z6F (ty:=66) (a:=some ⟨w2.heap.size,0,none⟩) (cap:=1) t1.1.1 (Z2l w2 y) (by simp;omega) t1.1.2.size;exact⟨v2,w3,e1,(t1.app e2 e3 e4).swap⟩
   have HStep:=Q0a hstep;have HGk:=Q0a (J2z hlt hgk);have hw:IntKind.i64.wrap (ws'.length:Int)=(ws'.length:Int):=Go.IntWalk.i64_in _ (by omega);rw [show (ws'++[y]).length=ws'.length+1 by simp] at *
   clear htwo hu hgk l1 l2 hstep hlt hb hkl hy;generalize hkk:kids S.l y=kk at *
   generalize hn:ws'.length=n at *
   go_wp2_with fail
   go_region_law (first|(go_simp;go_at_call 95;refine hmade.mono ?_;intro r w1 hnew;obtain⟨am,cm,rfl,hbm,hism,hac⟩:=hnew.shape0;obtain⟨v1,w2,r1,r2⟩:=HApp.out w1 am cm hbm hism hac;clear hac;have HR:=Q0a r1;have HT2:=Q0a r2;clear r1 r2 hbm hism hnew)|(refine Q0E rfl (.tmp 23) (.tmp 26) 66 66 rfl _ _ (by simp [Act.eval]) (by simp [Act.eval]) HR.out ?_))
   all_goals
    obtain⟨v2,w3,r3,r4⟩:=HApp2.out _ _ _ HT2.out;have HT3:=Q0a r4;clear r4;go_wp2_with (at_builtin;refine Lib.wpList_append_run _ rfl _ _ _ _ rfl _ _ rfl rfl _ _ r3 ?_);go_roundg (rest S.l M (ws'++kk)).length
    case measure=>exact HGk.out
    case rel=>exact⟨_,_,HT3.out,HStep.out,J2x _⟩
theorem Z3U {w w2:World} {S:CO} {fr:List Nat} {N K:Nat} (h:Sep w S.hl) (ok:S.Ok fr N K) (hK:K<=1048576) {x:Nat} (hx:x<4294967296) {p:Pl} (hp:pget S.l 1 x=some p) (h0:x≠0) (hk:kids S.l x=[]) (hb:Below w.heap.size w w2) :
  w2.cell? ⟨S.c,1,none⟩=some (.pointer (some ⟨S.t,0,none⟩))/\Calls prog 172 #[.pointer (some ⟨S.t,0,none⟩),.int .u32 x] w2 fun r w3=>r=.returned (.int .i64 0)/\w3.cell? ⟨S.c,2,none⟩=some (.pointer (some ⟨S.g,0,none⟩))/\S.c<w3.heap.size /\
   Calls prog 173 #[.pointer (some ⟨S.g,0,none⟩),.slice (some ⟨w3.heap.size,0,none⟩) 1 1] (w3.alloc (.cells #[.int .i64 x] 3)) fun r w4=>∃z:Int,r=.returned (.int .i64 z)/\J0E S x w (.returned (.int .i64 0)) w4:=by
 have s2:=h.grown hb;have hnow:=ok.now;refine⟨CO.c1 s2.sep,?_⟩;refine Calls.mono (Z2Z (h:=S.ht) (CO.sT s2.sep) ok.inv.lok hx hp) ?_;rintro r w3 ⟨rfl,st⟩;have s3:=s2.trans (CO.stepL s2.sep _ st);refine⟨rfl,CO.c2 (S:=S.setL (S.l.set (x%256) {p with st:=2})) s3.sep,(CO.cells s3.sep).lt,?_⟩;have s4:=s3.trans (s3.sep.grown ((Below.refl _ w3).alloc (J2x _) (.cells #[.int .i64 x] 3)));refine Calls.mono (Z8F (CO.sG s4.sep) ok.ov ok.few ok.per.2 (by show S.now<=_;omega) ((Cells.new w3 3 [.int .i64 x]).cell 0 _ rfl)) ?_;rintro r w4 ⟨rv,rfl,hov,st4⟩;have s5:=s4.trans (CO.stepG s4.sep S.now rv (S.ts++[(x,S.now+S.period)]) st4)
 exact⟨_,rfl,.inr (.inr (.inr ⟨p,rv,hp,h0,hk,hov,rfl,s5⟩))⟩
theorem Z9f {w:World} {S:CO} {fr:List Nat} {N K:Nat} (h:Sep w S.hl) (ok:S.Ok fr N K) (hK:K<=1048576) {x:Nat} (hx:x<4294967296) {p:Pl} (hp:pget S.l 1 x=some p) (h0:x≠0) (hk:kids S.l x=[]) :
  Calls prog 98 #[.pointer (some ⟨S.c,0,none⟩),.int .u32 x] w (J0E S x w):=by
 have hO:Calls prog 30 #[.pointer (some ⟨S.c,0,none⟩),.int .u32 x,.int .i64 0] w (Told w (.tuple #[.agg #[.int .i64 (p.kind:Int),.int .i64 (p.at_:Int),.int .i64 (p.fac:Int)],.int .i64 0])):=Q3J h ok.inv.lok hx 0 hp (.inl rfl);have HM:Hid (∀w1,Below w.heap.size w w1->Calls prog 95 #[.pointer (some ⟨S.c,0,none⟩),.int .u32 x] w1 (NewHs w1 (kids S.l x))):=fun w1 hb=>Q9m (h.grown hb).sep ok hx
 rw [hk] at HM;have HC:Hid (∀w2,Below w.heap.size w w2->_):=fun w2 hb=>Z3U (w2:=w2) h ok hK hx hp h0 hk hb
 have hb1:(((x:Nat):Int)==0)=false:=by simp;omega
 have hw:IntKind.i64.wrap (x:Int)=(x:Int):=Go.IntWalk.i64_in _ (by omega);generalize J0E S x w=Q at *
 clear h ok hK hx hp h0 hk;go_enter func98,ntmps98;go_wp2_with fail;refine hO.mono ?_;rintro r w1 ⟨rfl,hb⟩;have hba:=hb.alloc hb.size (.cells #[.int .i64 (p.kind:Int),.int .i64 (p.at_:Int),.int .i64 (p.fac:Int)] 69);have hm:=HM.out _ hba;have HB:=Q0a hba;clear hb hba hO HM;go_wp2_with fail;refine hm.mono ?_;intro r w2 hn;obtain⟨am,cm,rfl,hbm,hism⟩:=hn.shape;obtain⟨c1,hkill⟩:=HC.out w2 (HB.out.trans (hbm.mono (by have:=HB.out.size;omega)));clear hn hbm hism hm HB HC;go_wp2_with fail;refine hkill.mono ?_;rintro r w3 ⟨rfl,c2,hlt,hadd⟩;have HA:=Q0a hadd;clear hadd hkill c1;go_wp2_with fail;refine HA.out.mono ?_
 rintro r w4 ⟨z,rfl,hx⟩;have HX:=Q0a hx;clear hx HA;go_wp2_with fail
 first|exact HX.out|(go_ret;exact HX.out)
theorem Q4S {F:Fence} (hF:Hid (F=Fence.wide)) {n:Nat} {P:Program} {c:Code} {Q:Exit->Act->World->Prop} {a:Act} {w:World} (h:c.wp P Q a w):c.wpIn F n P Q a w:=by
 have e:F=Fence.wide:=hF.out;subst e;exact wpIn_wide.2 h
structure J1U (g now x:Nat) (W:World) (J1:World->Prop):Prop where
 it:∃(b off len cap at_:Nat),W.cell? ⟨g,2,none⟩=some (.slice (some ⟨b,off,none⟩) (len+1) cap)/\len+1<=cap/\cap<=maxLen/\W.cell? ⟨b,off,none⟩=some (.int .i64 x)/\W.cell? ⟨b,off+1,none⟩=some (.int .i64 at_)/\at_<=now /\
  J1 (W.setCell ⟨g,2,none⟩ (.slice (if cap=1 then some ⟨b,off,none⟩ else some ⟨b,off+2,none⟩) len (cap-1)))
def Late (g now:Nat) (W:World):Prop:=(∃a cap,W.cell? ⟨g,2,none⟩=some (.slice a 0 cap))∨∃(b off len cap at_:Nat),W.cell? ⟨g,2,none⟩=some (.slice (some ⟨b,off,none⟩) (len+1) cap)/\W.cell? ⟨b,off+1,none⟩=some (.int .i64 at_)/\now<at_
theorem J1V (F:Fence) (hF:Hid (F=Fence.wide)) (n:Nat) (hn:1<=n) (l bx g now D:Nat) (xs:Nat->Nat) (J J1:Nat->World->Prop) (W:World)
  (hread:∀k W,J k W->W.cell? ⟨bx,0,none⟩=some (.pointer (some ⟨g,0,none⟩))/\W.cell? ⟨g,1,none⟩=some (.int .i64 now)/\W.frozen? ⟨g,2,none⟩=false/\k<=D/\(k<D->J1U g now (xs k) W (J1 k))/\(k=D->Late g now W))
  (hd:∀k W m,J k W->J k (W.drewN m)) (hd1:∀k W m,J1 k W->J1 k (W.drewN m))
  (hY:∀k W1,k<D->J1 k W1->YieldAt F (n-1) prog l #[.int .i64 (xs k:Int)] W1 fun e W'=>e=.returned (.bool true)/\J (k+1) W')
  (h0:J 0 W) :
  CallsIn F n prog 252 #[.func (.yield l) #[] #[],.pointer (some ⟨bx,0,none⟩)] W fun e W'=>(∃v,e=.returned v)/\J D W':=by
 have hfn:F.fn 252:=by rw [hF.out];trivial
 have hnone:∀(f:FuncId),(none:Option FuncId)=some f->F.fn f:=fun _ h=>nomatch h
 have hro:F.round=none:=by rw [hF.out];rfl
 have HR:=Q0a hread;have HD:=Q0a hd;have HD1:=Q0a hd1;have HY:=Q0a hY;clear hread hd hd1 hY;refine callsIn_of_wp func252 rfl hfn ?_ hro;simp only [ntmps252,J5c,J3i,J4W,Nat.reduceAdd,Nat.reduceSub,Array.replicate_succ,Array.replicate_zero,List.push_toArray,List.append_toArray,J4H,J4I]
 gi_wp2
 gi_loopg [3] D (fun gk xv wr=>∃k:Nat,k+gk=D/\J k wr)
 case atStart=>exact⟨0,by omega,h0⟩
 case round =>
  clear h0;obtain⟨k,hkg,hj⟩:=hrel;obtain⟨cb,c1,cf,hkD,hlt,hend⟩:=HR.out k wr hj;have HJ:=Q0a hj;have HKG:=Q0a hkg;clear hj hkg;by_cases hk:k<D
  ·obtain⟨b,off,len,cap,at_,c2,hc1,hc2,e0,e1,hat,hj1⟩:=(hlt hk).it;have hdec:decide ((at_:Int)<=(now:Int))=true:=by rw [decide_eq_true_eq];omega
   have hpos:decide ((0:Int)<(len:Int)+1)=true:=by rw [decide_eq_true_eq];omega
   gi_wp2
   refine Q4S hF ?_
   go_quiet (fail)
   gi_wp2
   refine Q4S hF ?_;have hl1:(1:Int)<=(len:Int)+1:=by omega
   have hl2:(len:Int)+1<=(cap:Int):=by omega
   have hl3:len+1<=cap:=hc1;have hlw:IntKind.i64.wrap (len:Int)=(len:Int):=Go.IntWalk.i64_in _ (by unfold maxLen at hc2;omega);have hJ1:Hid (∀m,J1 k (((wr.drewN m).setCell ⟨g,2,none⟩ (.slice (if cap=1 then some ⟨b,off,none⟩ else some ⟨b,off+2,none⟩) len (cap-1))))):=fun m=>HD1.out k _ m hj1
   clear hj1 hdec hpos;by_cases hcap:cap=1
   ·subst hcap;obtain rfl:len=0:=by omega
    simp only [if_true] at hJ1;go_region;have hj2:=hJ1.out (nq+1);obtain⟨fn,tmps,assign,body,hy,hR0⟩:=HY.out k _ hk hj2;have HRd:=Q0a hR0;clear hR0 hj2 c1 cf e0 e1 c2 cb HJ
    gi_wp2_with fail
    refine HRd.out.mono ?_;rintro e W4 ⟨rfl,hj4⟩;have HJ4:=Q0a hj4;clear hj4 HRd hy
    gi_wp2
    gi_roundg (D-(k+1))
    case measure=>have:=HKG.out;omega
    case rel=>exact⟨k+1,by omega,HJ4.out⟩
   ·simp only [if_neg hcap] at hJ1;go_region;have hj2:=hJ1.out (nq+1);obtain⟨fn,tmps,assign,body,hy,hR0⟩:=HY.out k _ hk hj2;have HRd:=Q0a hR0;clear hR0 hj2 c1 cf e0 e1 c2 cb HJ
    gi_wp2_with fail
    refine HRd.out.mono ?_;rintro e W4 ⟨rfl,hj4⟩;have HJ4:=Q0a hj4;clear hj4 HRd hy
    gi_wp2
    gi_roundg (D-(k+1))
    case measure=>have:=HKG.out;omega
    case rel=>exact⟨k+1,by omega,HJ4.out⟩
  ·obtain rfl:k=D:=by omega
   rcases hend rfl with ⟨a0,cap,c2⟩|⟨b,off,len,cap,at_,c2,e1,hat⟩
   ·have hpos:decide ((0:Int)<0)=false:=by decide
    gi_wp2
    refine Q4S hF ?_
    go_quiet (fail)
    gi_wp2
    go_end0;exact⟨⟨_,rfl⟩,HD.out _ _ _ HJ.out⟩
   ·have hdec:decide ((at_:Int)<=(now:Int))=false:=by rw [decide_eq_false_iff_not];omega
    have hpos:decide ((0:Int)<(len:Int)+1)=true:=by rw [decide_eq_true_eq];omega
    gi_wp2
    refine Q4S hF ?_
    go_quiet (fail)
    gi_wp2
    go_end0;exact⟨⟨_,rfl⟩,HD.out _ _ _ HJ.out⟩
end Go.Proofs.YtlakjlmaboioiaaGreatDoor

/- SpaceFails returns true at every input. No condition. Part of its proof. -/
import Derived.Test.YtfidemmgofcnmaaGreatDoorSf24
set_option maxHeartbeats 4000000
set_option maxRecDepth 1000000
set_option linter.unusedVariables false
namespace Go.Proofs.YtfidemmgofcnmaaGreatDoor
open Go.RowKit Go.Proofs.Tryz
structure AvOk(a:AV)(next:Int):Prop where
 ok:NOk a.N next
 is:EnIs a
 r:∀h s c,a.en h s=some c->1<=c.2/\c.2<16
 has:∀h s c,a.en h s=some c->∃n∈a.N,n.q.sp=(h:Int)/\n.q.sl=(s:Int)
theorem SP.Ok.avOk{Z:SP}{fr:List Nat}{N K:Nat}{M:Int}(ok:Z.Ok fr N K M):AvOk Z.av Z.F.next:=
 ⟨ok.fo.n,ok.fpi.enIs,fun h s c hc=>ok.fpi.rights hc,fun h s c hc=>by
  obtain⟨e,he,rfl⟩:=Q3v hc;exact ok.fpi.has h s e he⟩
theorem Z9t{N:List (En Nd)}{next:Int}(ok:NOk N next){sp sl:Int}(h:ownN N sp sl≠0):∃n∈N,n.q.sp=sp/\n.q.sl=sl/\ownN N sp sl=n.id:=by
 rcases Q3U N sp sl with ⟨n,hn,rfl,rfl⟩|Aq
 ·exact⟨n,hn,rfl,rfl,Q1R ok hn⟩
 ·exact absurd ((Q1y ok).2 Aq) h
theorem J1r{o:Option (Nat×Nat)}(h:∀c,o=some c->c.2<16):Q8w 15 o=none:=by
 cases o with
 | none=>rfl
 | some c =>
  show(if less c.2 15=0 then none else some (c.1,less c.2 15))=none;rw[if_pos (Q4H c.2 (h c rfl))]
theorem Z4b:∀r,r<16->∀m,m<16->less r m<16:=by decide
theorem AvOk.weak1{a:AV}{next:Int}(k:AvOk a next){m:Nat}(hm:m<16)(id:Int):AvOk (weak1 m a id).1 next:=by
 cases hf:find a.N id with
 | none=>unfold Go.Proofs.YtfidemmgofcnmaaGreatDoor.weak1;rw[hf];exact k
 | some n =>
  have W:=Q9R (m:=m) k.ok k.is hf;refine⟨W.ok,W.is,fun h s c hc=>?_,fun h s c hc=>?_⟩
  ·rw[W.en] at hc;split at hc
   ·cases ho:a.en h s with
    | none=>rw[ho] at hc;cases hc
    | some c0 =>
     have h0:=k.r h s c0 ho;rw[ho] at hc;unfold Q8w at hc;simp only at hc;split at hc
     ·cases hc
     ·cases hc
      have:=Z4b c0.2 h0.2 m hm;exact⟨by simp only;omega,this⟩
   ·exact k.r h s c hc
  ·have Bf:=W.en h s;have Af:=W.own h s;cases ho:a.en h s with
   | none =>
    rw[ho] at Bf;rw[Bf] at hc;split at hc <;> cases hc
   | some c0 =>
    obtain⟨n0,Dk,q1,q2⟩:=k.has h s c0 ho;have hid:ownN a.N (h:Int) (s:Int)=n0.id:=(Q5N k.ok Dk h s).2 ⟨q1,q2⟩;have Cn:=k.ok.rng n0 Dk;have Aa:ownN (Go.Proofs.YtfidemmgofcnmaaGreatDoor.weak1 m a id).1.N (h:Int) (s:Int)≠0:=by
     rw[Af];split
     ·rename_i hg;exfalso;obtain⟨n2,c2,g1,g2,g3⟩:=W.gone.1 hg.1;rw[if_pos hg.2] at Bf;have O8:n2=n0:=by
       obtain⟨m1,m2⟩:=Q0b g1;have h3:=Q0k k.ok.ids Dk;rw[<- hid,hg.2,g1] at h3;exact J3Z h3
      rw[O8,q1,q2,J4h,J4h,ho] at g2;cases g2;rw[ho] at Bf;unfold Q8w at Bf;simp only[g3,if_pos] at Bf;rw[Bf] at hc;cases hc
     ·rw[hid];omega
    obtain⟨n',DQ,e1,e2,_⟩:=Z9t W.ok Aa;exact⟨n',DQ,e1,e2⟩
theorem AvOk.weakA15{next:Int}:∀(l:List Int) {a:AV},AvOk a next->AvOk (Q0P 15 a l).1 next/\(∀h s:Nat,(Q0P 15 a l).1.en h s=none∨(Q0P 15 a l).1.en h s=a.en h s)/\∀h s:Nat,ownN a.N (h:Int) (s:Int)∈l->(Q0P 15 a l).1.en h s=none
 | [],a,k=>⟨k,fun _ _=>.inr rfl,fun _ _ h=>by cases h⟩
 | id::r,a,k=>by
  have k1:=k.weak1 (m:=15) (by omega) id;obtain⟨i1,i2,i3⟩:=AvOk.weakA15 r k1;have BL:∀h s:Nat,((Go.Proofs.YtfidemmgofcnmaaGreatDoor.weak1 15 a id).1.en h s=none∨(Go.Proofs.YtfidemmgofcnmaaGreatDoor.weak1 15 a id).1.en h s=a.en h s)/\(ownN a.N (h:Int) (s:Int)=id->(Go.Proofs.YtfidemmgofcnmaaGreatDoor.weak1 15 a id).1.en h s=none)/\(ownN a.N (h:Int) (s:Int)≠id->ownN (Go.Proofs.YtfidemmgofcnmaaGreatDoor.weak1 15 a id).1.N (h:Int) (s:Int)=ownN a.N (h:Int) (s:Int)):=fun h s=>by
   cases hf:find a.N id with
   | none =>
    have e:Go.Proofs.YtfidemmgofcnmaaGreatDoor.weak1 15 a id=(a,false):=by unfold Go.Proofs.YtfidemmgofcnmaaGreatDoor.weak1;rw[hf]
    rw[e];refine⟨.inr rfl,fun ho=>?_,fun _=>rfl⟩;cases Bf:a.en h s with
    | none=>rfl
    | some c =>
     exfalso;obtain⟨n,hn,q1,q2⟩:=k.has h s c Bf;have:=(Q5N k.ok hn h s).2 ⟨q1,q2⟩;have h3:=Q0k k.ok.ids hn;rw[<- this,ho,hf] at h3;cases h3
   | some n =>
    have W:=Q9R (m:=15) k.ok k.is hf;have hl:Q8w 15 (a.en h s)=none:=J1r fun c hc=>(k.r h s c hc).2
    rw[W.en,W.own,hl];refine⟨?_,fun ho=>by rw[if_pos ho],fun ho=>by rw[if_neg fun hh=>ho hh.2]⟩;split
    ·exact .inl rfl
    ·exact .inr rfl
  refine⟨i1,fun h s=>?_,fun h s hm=>?_⟩
  ·rcases i2 h s with h1|h1
   ·exact .inl h1
   ·rcases(BL h s).1 with h2|h2
    ·exact .inl (h1.trans h2)
    ·exact .inr (h1.trans h2)
  ·by_cases ho:ownN a.N (h:Int) (s:Int)=id
   ·rcases i2 h s with h1|h1
    ·exact h1
    ·exact h1.trans ((BL h s).2.1 ho)
   ·refine i3 h s ?_;rw[(BL h s).2.2 ho];rcases J3g.1 hm with h'|h'
    ·exact absurd h' ho
    ·exact h'
structure Lesser(a a':AV)(next:Int):Prop where
 ok:AvOk a' next
 en:∀h s:Nat,a'.en h s=none∨a'.en h s=a.en h s
theorem Lesser.refl{a:AV}{next:Int}(k:AvOk a next):Lesser a a next:=⟨k,fun _ _=>.inr rfl⟩
theorem Lesser.trans{a b c:AV}{next:Int}(h:Lesser a b next)(k:Lesser b c next):Lesser a c next:=⟨k.ok,fun x s=>by
 rcases k.en x s with h1|h1
 ·exact .inl h1
 ·rw[h1];exact h.en x s⟩
theorem Lesser.none{a b:AV}{next:Int}(h:Lesser a b next){x s:Nat}(h0:a.en x s=none):b.en x s=none:=by
 rcases h.en x s with h1|h1
 ·exact h1
 ·rw[h1];exact h0
theorem Z4c{a:AV}{next:Int}(k:AvOk a next)(x s:Nat):Lesser a (Q3A next x a (s:Int)).1 next/\(Q3A next x a (s:Int)).1.en x s=none:=by
 unfold Q3A;split
 ·rename_i h0;refine⟨Lesser.refl k,?_⟩;cases Bf:a.en x s with
  | none=>rfl
  | some c =>
   exfalso;obtain⟨n,hn,q1,q2⟩:=k.has x s c Bf;have:=(Q5N k.ok hn x s).2 ⟨q1,q2⟩;have:=k.ok.rng n hn;omega
 ·obtain⟨h1,h2,h3⟩:=AvOk.weakA15 (Q0H (kdF a.N) (rkF next) (ownN a.N (x:Int) (s:Int))++[ownN a.N (x:Int) (s:Int)]) k;exact⟨⟨h1,h2⟩,h3 x s (by simp)⟩
theorem Q7R{next:Int}{x:Nat}:∀(l:List Nat) {a:AV},AvOk a next->Lesser a (Q1V next x a (l.map fun(s:Nat)=>(s:Int))).1 next/\∀s∈l,(Q1V next x a (l.map fun(s:Nat)=>(s:Int))).1.en x s=none
 | [],a,k=>⟨Lesser.refl k,fun _ h=>by cases h⟩
 | s::r,a,k=>by
  obtain⟨h1,h2⟩:=Z4c k x s;obtain⟨i1,i2⟩:=Q7R r h1.ok;refine⟨h1.trans i1,fun t ht=>?_⟩;rcases J3g.1 ht with rfl|ht
  ·exact i1.none h2
  ·exact i2 t ht
theorem Z7g{a:AV}{l:List Pl}{tb:Nat->TB}{N:List (En Nd)}{next:Int}{x:Nat}(ha:a=avOf l tb N)(k:AvOk a next):Lesser a (Q1V next x a (Q0q l tb x)).1 next/\∀s:Nat,(Q1V next x a (Q0q l tb x)).1.en x s=none:=by
 obtain⟨L,hL⟩:∃L:List Nat,Q0q l tb x=L.map fun(s:Nat)=>(s:Int):=by
  unfold Q0q;split
  ·exact⟨[],rfl⟩
  ·split
   ·exact⟨_,rfl⟩
   ·exact⟨[],rfl⟩
 have Az:=fun z=>mem_slotsL (l:=l) (tb:=tb) (x:=x) (z:=z)
 rw[hL] at Az ⊢;obtain⟨h1,h2⟩:=Q7R (x:=x) L k;refine⟨h1,fun s=>?_⟩;by_cases hs:s∈L
 ·exact h2 s hs
 ·refine h1.none ?_;rw[ha];show(Q0f l tb x s).map Ent.c=none;cases he:Q0f l tb x s with
  | none=>rfl
  | some e =>
   exfalso;obtain⟨p,_,_,h4,_⟩:=Q3M he;obtain⟨t,ht,UI⟩:=J3h.1 ((Az (s:Int)).2 ⟨s,rfl,h4,e,he⟩);have:t=s:=by have h':(t:Int)=(s:Int):=UI;omega
   exact hs (this ▸ ht)
def Q2n(a:AV)(p:Int×Int):AV×Nat:=Q0P 15 a [ownN a.N p.1 p.2]
def Q1e:AV->List (Int×Int)->AV×Nat
 | a,[]=>(a,0)
 | a,p::r=>((Q1e (Q2n a p).1 r).1,(Q2n a p).2+(Q1e (Q2n a p).1 r).2)
theorem purgeA_snoc:∀(l:List (Int×Int)) (a:AV) (p:Int×Int),Q1e a (l++[p])=((Q2n (Q1e a l).1 p).1,(Q1e a l).2+(Q2n (Q1e a l).1 p).2)
 | [],a,p=>by
  show((Q2n a p).1,(Q2n a p).2+0)=((Q2n a p).1,0+(Q2n a p).2);rw[J5G,J3k]
 | y::r,a,p=>by
  rw[J5n];unfold Q1e;rw[purgeA_snoc r];simp only[J4C]
theorem Q9Z(a:AV)(p:Int×Int):(Q2n a p).2<=1:=Q5K 15 _ a
theorem Z0a:∀(l:List (Int×Int)) (a:AV),(Q1e a l).2<=l.length
 | [],a=>J3b _
 | p::r,a=>by
  have h1:=Q9Z a p;have h2:=Z0a r (Q2n a p).1;show _+_<=_;rw[J3N];omega
theorem Q6Q{next:Int}:∀(l:List (Int×Int)) {a:AV},AvOk a next->Lesser a (Q1e a l).1 next/\∀h s:Nat,((h:Int),(s:Int))∈l->(Q1e a l).1.en h s=none
 | [],a,k=>⟨Lesser.refl k,fun _ _ h=>by cases h⟩
 | p::r,a,k=>by
  obtain⟨h1,h2,h3⟩:=AvOk.weakA15 [ownN a.N p.1 p.2] k;obtain⟨i1,i2⟩:=Q6Q r h1;have hl:Lesser a (Q2n a p).1 next:=⟨h1,h2⟩
  refine⟨hl.trans i1,fun h s hm=>?_⟩;rcases J3g.1 hm with rfl|hm
  ·exact i1.none (h3 h s (by simp))
  ·exact i2 h s hm
def AsideS(H:HL)(L:List (Int×Int))(a:Option Addr)(w:World):Prop:=∀(j:Nat) (x:Int×Int),L[j]?=some x->∃g,a=some ⟨g,0,none⟩/\g∉keys H/\g<w.heap.size/\w.cell? ⟨g,j*2,none⟩=some (.int .i64 x.1)/\w.cell? ⟨g,j*2+1,none⟩=some (.int .i64 x.2)
theorem AsideS.step{H H':HL}{L:List (Int×Int)}{a:Option Addr}{w w':World}(h:AsideS H L a w)(st:Step H H' w w'):AsideS H' L a w':=fun j x hj=>by
 obtain⟨g,h1,h2,h3,h4,h5⟩:=h j x hj;have e:=st.chg.block g h3 h2;refine⟨g,h1,fun hk=>?_,J3d h3 st.chg.size,(World.cell?_of_block (w:=w) e).trans h4,(World.cell?_of_block (w:=w) e).trans h5⟩;rcases st.new g hk with h'|h'
 ·exact h2 h'
 ·omega
theorem Z2v:∀(L:List (Int×Int)) (j:Nat) (x:Int×Int),L[j]?=some x->(L.flatMap encS)[j*2]?=some (.int .i64 x.1)/\(L.flatMap encS)[j*2+1]?=some (.int .i64 x.2)
 | [],j,x,h=>by simp at h
 | p::r,0,x,h=>by
  simp at h;subst h;exact⟨rfl,rfl⟩
 | p::r,j+1,x,h=>by
  have ih:=Z2v r j x (by simpa using h);rw[J3z];have e1:(j+1)*2=(j*2)+(encS p).length:=by simp[encS];omega
  have e2:(j+1)*2+1=(j*2+1)+(encS p).length:=by simp[encS];omega
  rw[e2,e1,J6r (by omega),J6r (by omega)]
  simpa using ih
theorem NewSp.aside{w w':World}{H:HL}{L:List (Int×Int)}{r:Ending}(h:NewSp w L r w')(hs:Sep w H):∃(a:Option Addr) (cap:Nat),r=.returned (.slice a L.length cap)/\Below w.heap.size w w'/\AsideS H L a w':=by
 obtain⟨v,rfl,h1,h2⟩:=h;obtain⟨a,cap,rfl,h3⟩:=Q5P h1;refine⟨a,cap,rfl,h2,fun j x hj=>?_⟩;obtain⟨e1,e2⟩:=Z2v L j x hj;obtain⟨g,rfl,q1,q2,q3⟩:=h3 _ _ e1;obtain⟨g',e,_,_,q4⟩:=h3 _ _ e2;cases e;exact⟨g,rfl,fun hk=>by have:=hs.lt hk;omega,q2,q3,q4⟩
theorem Z1f{w:World}{H:HL}(hs:Sep w H)(T:TypeId)(cs:List Value):AsideV H cs (some ⟨w.heap.size,0,none⟩) (w.alloc (.cells cs.toArray T)):=fun j v hj =>
 ⟨w.heap.size,rfl,fun hk=>by have:=hs.lt hk;omega,by simp,(Cells.new w T cs).cell j v hj⟩
def J0i(Z:SP)(fr:List Nat)(N K:Nat)(M:Int)(l:List (Int×Int))(w w':World):Prop:=∃Z',Z'.Ok fr N K M/\Z'.av=(Q1e Z.av l).1/\SameZ Z Z'/\Step Z.hl Z'.hl w w'
structure PgI(Z:SP)(fr:List Nat)(N K:Nat)(M:Int)(l:List (Int×Int))(a:Option Addr)(w:World)(k:Nat)(Z1:SP)(wr:World):Prop where
 ok:Z1.Ok fr N K M
 av:Z1.av=(Q1e Z.av (l.take k)).1
 same:SameZ Z Z1
 st:Step Z.hl Z1.hl w wr
 row:AsideS Z1.hl l a wr
theorem Z1g{wr W:World}{Z:SP}{fr:List Nat}{N K:Nat}{M:Int}(hs:Sep wr Z.hl)(ok:Z.Ok fr N K M){x s:Nat}(hx:x<4294967296)(AB:s<256)(hb:Below wr.heap.size wr W) :
  Calls prog 161 #[.pointer (some ⟨Z.F.f,0,none⟩),.int .i64 x,.int .i64 s] W fun r w1=>r=.returned (.int .i64 (ownN Z.F.N (x:Int) (s:Int)))/\W=w1 /\
   ∀(w2:World) (a:Nat),a=w2.heap.size->Below wr.heap.size wr w2->Calls prog 158 #[.pointer (some ⟨Z.s,0,none⟩),.int .i64 15,.slice (some ⟨a,0,none⟩) 1 1] (w2.alloc (.cells #[.int .i64 (ownN Z.F.N (x:Int) (s:Int))] 3)) fun r w3=>∃v:Nat,r=.returned (.int .i64 v)/\v<=1/\(∀b,wr.heap.size<=b->b<w2.heap.size->w3.heap[b]?=w2.heap[b]?)/\∃Z',Z'.Ok fr N K M/\Q2n Z.av ((x:Int),(s:Int))=(Z'.av,v)/\SameZ Z Z'/\Step Z.hl Z'.hl wr w3:=by
 have s1:=hs.grown hb;have g1:(0:Int)<=(x:Int):=by omega
 have g2:(x:Int)<9223372036854775808:=by omega
 have g3:(0:Int)<=(s:Int):=by omega
 have g4:(s:Int)<9223372036854775808:=by omega
 refine(Q4O (SP.sF s1.sep) ok.fo (sp:=(x:Int)) (sl:=(s:Int)) (Q3u (p:=((x:Int),(s:Int))) g1 g2 g3 g4)).mono ?_;rintro r w1⟨rfl,rfl⟩;refine⟨rfl,rfl,fun w2 a ha Ai=>?_⟩;subst ha;have Ar:=Ai.alloc Ai.size (.cells #[.int .i64 (ownN Z.F.N (x:Int) (s:Int))] 3);have s3:=hs.grown Ar;have Au:AsideV Z.hl ([ownN Z.F.N (x:Int) (s:Int)].map encI) (some ⟨w2.heap.size,0,none⟩) (w2.alloc (.cells #[.int .i64 (ownN Z.F.N (x:Int) (s:Int))] 3)):=Z1f (hs.grown Ai).sep 3 [.int .i64 (ownN Z.F.N (x:Int) (s:Int))];refine(Q2y s3.sep ok 15 (by omega) (by omega) [ownN Z.F.N (x:Int) (s:Int)] (some ⟨w2.heap.size,0,none⟩) 1 (by simp) Au (Q7E _ _)).mono ?_
 rintro r w3⟨rfl,Z',k1,k2,k3,st⟩;refine⟨_,rfl,Q9Z Z.av ((x:Int),(s:Int)),fun b h1 h2=>?_,Z',k1,?_,k3,s3.trans st⟩
 ·have h3:b<(w2.alloc (.cells #[.int .i64 (ownN Z.F.N (x:Int) (s:Int))] 3)).heap.size:=by simp;omega
  rw[st.keep hs h1 b (J3b _) h3];exact Below.heap_alloc _ _ _ h2
 ·unfold Q2n;rw[k2];rfl
theorem Q7S{w:World}{Z:SP}{fr:List Nat}{N K:Nat}{M:Int}(hs:Sep w Z.hl)(ok:Z.Ok fr N K M)(h:Nat) :
  Calls prog 164 #[.pointer (some ⟨Z.s,0,none⟩),.int .u32 h] w fun r w'=>r=.returned (.int .i64 ((Q1e Z.av (Q3b Z.S.l Z.tb h)).2:Nat))/\J0i Z fr N K M (Q3b Z.S.l Z.tb h) w w':=by
 have kh:=Q5u hs ok h;have Cs:Hid (∀w1 a,Below w.heap.size w w1->AsideS Z.hl (Q3b Z.S.l Z.tb h) a w1->PgI Z fr N K M (Q3b Z.S.l Z.tb h) a w 0 Z w1):=fun w1 a hb ha=>⟨ok,rfl,SameZ.refl Z,hs.grown hb,ha⟩
 have HS:=Q0a hs;have K7:Hid (∀z∈Q3b Z.S.l Z.tb h,∃x s:Nat,z=((x:Int),(s:Int))/\x<4294967296/\s<256):=fun z hz=>by
  obtain⟨x,hx,s,rfl,h3,_⟩:=mem_holdL.1 hz;obtain⟨q,hq⟩:=(Q3g (by rw[ok.core.inv.len];omega)).1 hx;exact⟨x,s,rfl,by
   obtain⟨a1,a2,_⟩:=pget_some.1 hq;have:=(ok.core.inv.lok.2 q (J5q a1)).2;unfold nm at a2;omega,h3⟩
 have CT:(Q3b Z.S.l Z.tb h).length<=65536:=by
  have h1:=Q6P Z.S.l Z.tb h (allL Z.S.l 1);have h2:=Q2A Z.S.l 1 Z.S.l.length;rw[ok.core.inv.len] at h2;unfold Q3b;unfold allL at h1 ⊢;rw[ok.core.inv.len] at h1 ⊢;omega
 generalize hL:Q3b Z.S.l Z.tb h=l at *
 generalize hn:l.length=n at *
 have HN:=Q0a hn;have DS:=Q0a CT;clear hs ok hL hn CT;go_enter func164,ntmps164;go_wp2_with fail;refine kh.mono ?_;intro r w1 Dl;obtain⟨a,cap,rfl,h2,has⟩:=Dl.aside HS.out;have JJ:=Q0a (Cs.out w1 a h2 has);rw[HN.out];clear h2 has kh Cs Dl;go_wp2_with fail
 go_loopg [5,12] n (fun gk cv iv wr=>∃(k:Nat) (Z1:SP),iv=.int .i64 k/\cv=.int .i64 ((Q1e Z.av (l.take k)).2:Nat)/\k+gk=n/\PgI Z fr N K M l a w k Z1 wr)
 case atStart=>exact⟨0,Z,rfl,rfl,by omega,JJ.out⟩
 case round =>
  obtain⟨k,Z1,rfl,rfl,AC,hI⟩:=hrel;have Cg:=Q0a AC;have HI:=Q0a hI;by_cases Ab:k<n
  ·obtain⟨z,hz⟩:∃z,l[k]?=some z:=⟨l[k]'(by rw[HN.out];exact Ab),J5t (by rw[HN.out];exact Ab)⟩
   obtain⟨x,s,rfl,D3,AB⟩:=K7.out z (J5q hz);obtain⟨g,rfl,_,_,EA,JB⟩:=hI.row k _ hz;have BI:∀(Z2:SP) (w':World) (v:Nat),Q2n Z1.av ((x:Int),(s:Int))=(Z2.av,v)->Z2.Ok fr N K M->SameZ Z1 Z2->Step Z1.hl Z2.hl wr w'->(Q1e Z.av (l.take (k+1))).2=(Q1e Z.av (l.take k)).2+v/\PgI Z fr N K M l (some ⟨g,0,none⟩) w (k+1) Z2 w':=fun Z2 w' v e k1 k2 k3=>by
    have AW:l.take (k+1)=l.take k++[((x:Int),(s:Int))]:=by rw[J4Y,hz];rfl
    have DV:Q1e Z.av (l.take (k+1))=(Z2.av,(Q1e Z.av (l.take k)).2+v):=by
     rw[AW,purgeA_snoc,<- HI.out.av,e]
    exact⟨by rw[DV],k1,by rw[DV],HI.out.same.trans k2,HI.out.st.trans k3,AsideS.step HI.out.row k3⟩
   have D6:=Q0a BI;have HR:Hid (∀W,Below wr.heap.size wr W->W.cell? ⟨Z1.s,1,none⟩=some (.pointer (some ⟨Z1.F.f,0,none⟩))/\_):=fun W hb=>⟨SP.c1 (HI.out.st.sep.grown hb).sep,Z1g HI.out.st.sep HI.out.ok D3 AB hb⟩
   have KU:=hI.same.s;rw[KU] at HR;have EO:=Z0a (l.take k) Z.av;rw[J5v] at EO;have C3:(k:Int)<(n:Int):=by omega
   have Bz:(0:Int)<=(k:Int):=by omega
   have Fy:(k:Int)<=65536:=by have:=DS.out;omega
   have Kg:(Q1e Z.av (l.take k)).2<=65536:=by have:=DS.out;omega
   generalize A7:(Q1e Z.av (l.take k)).2=c at *
   have Ih:(c:Int)<=65536:=by omega
   have Ks:(0:Int)<=(c:Int):=by omega
   have DW:(0:Int)<=(s:Int):=by omega
   have C5:(s:Int)<256:=by omega
   have Cw:(0:Int)<=(x:Int):=by omega
   have Dl:(x:Int)<4294967296:=by omega
   have VB:Hid (∀Z2:SP,SameZ Z1 Z2->Z2.F.f=Z1.F.f/\Z2.s=Z.s):=fun Z2 h=>⟨h.f,h.s.trans HI.out.same.s⟩
   generalize Z1.F.f=ff at *
   clear hI AC hz EO A7 Kg BI KU AB D3;have Bn:Below wr.heap.size wr (wr.alloc (.cells #[.int .i64 x,.int .i64 s] 173)):=(Below.refl _ _).alloc (J3b _) _;have Ho:=Cells.new wr 173 [.int .i64 x,.int .i64 s];have e0:=Ho.cell 0 _ rfl;have e1:=Ho.cell 1 _ rfl;obtain⟨d0,-⟩:=HR.out _ Bn;obtain⟨d1,kf⟩:=HR.out _ Bn.drew;have e0d:(wr.alloc (.cells #[.int .i64 x,.int .i64 s] 173)).drew.cell? ⟨wr.heap.size,0,none⟩=some (.int .i64 x):=e0;have e1d:(wr.alloc (.cells #[.int .i64 x,.int .i64 s] 173)).drew.cell? ⟨wr.heap.size,1,none⟩=some (.int .i64 s):=e1;have BQ:=Q0a Bn;have CC:=Q0a Ho
   have Br:Hid (∀W,Below (wr.alloc (.cells #[.int .i64 x,.int .i64 s] 173)).heap.size (wr.alloc (.cells #[.int .i64 x,.int .i64 s] 173)) W->W.cell? ⟨Z.s,1,none⟩=some (.pointer (some ⟨ff,0,none⟩))/\W.cell? ⟨wr.heap.size,0,none⟩=some (.int .i64 x)/\W.cell? ⟨wr.heap.size,1,none⟩=some (.int .i64 s)):=fun W hb=>by
    have hc:=CC.out.same (hb.block _ (by simp));exact⟨(HR.out _ (Q0e hb)).1,hc.cell 0 _ rfl,hc.cell 1 _ rfl⟩
   have Rd:Hid (∀W,Below (wr.alloc (.cells #[.int .i64 x,.int .i64 s] 173)).heap.size (wr.alloc (.cells #[.int .i64 x,.int .i64 s] 173)) W->∀o,Below (wr.alloc (.cells #[.int .i64 x,.int .i64 s] 173)).heap.size (wr.alloc (.cells #[.int .i64 x,.int .i64 s] 173)) (W.alloc o)):=fun W hb o=>hb.alloc hb.size o
   have Ff:Hid (∀(w2 w3:World) (Z2:SP),Below (wr.alloc (.cells #[.int .i64 x,.int .i64 s] 173)).heap.size (wr.alloc (.cells #[.int .i64 x,.int .i64 s] 173)) w2->(∀b,wr.heap.size<=b->b<w2.heap.size->w3.heap[b]?=w2.heap[b]?)->SameZ Z1 Z2->Step Z1.hl Z2.hl wr w3->w3.cell? ⟨Z.s,1,none⟩=some (.pointer (some ⟨ff,0,none⟩))/\w3.cell? ⟨wr.heap.size,0,none⟩=some (.int .i64 x)/\w3.cell? ⟨wr.heap.size,1,none⟩=some (.int .i64 s)):=fun w2 w3 Z2 hb hk sm st=>by
    have hc:=CC.out.same (hb.block _ (by simp));have Gr:=hc.same (hk _ (J3b _) hc.lt);have h1:=SP.c1 st.sep;obtain⟨q1,q2⟩:=VB.out Z2 sm;rw[q1,q2] at h1;exact⟨h1,Gr.cell 0 _ rfl,Gr.cell 1 _ rfl⟩
   have DM:Hid (Below (wr.alloc (.cells #[.int .i64 x,.int .i64 s] 173)).heap.size (wr.alloc (.cells #[.int .i64 x,.int .i64 s] 173)) (wr.alloc (.cells #[.int .i64 x,.int .i64 s] 173)).drew):=(Below.refl _ _).drew;clear Bn Ho;go_wp2_with fail
   go_region_held3 (fun W=>W.cell? ⟨Z.s,1,none⟩=some (.pointer (some ⟨ff,0,none⟩))/\W.cell? ⟨wr.heap.size,0,none⟩=some (.int .i64 x)/\W.cell? ⟨wr.heap.size,1,none⟩=some (.int .i64 s)) (first|exact⟨d0,e0,e1⟩|exact⟨d1,e0d,e1d⟩|exact Br.out _ (Rd.out _ DM.out _)|exact QQ)
    (first|(go_at_call 161;refine kf.mono ?_;rintro r w2⟨rfl,rfl,J0⟩;have Sw:=Q0a J0;clear J0)|(go_at_call 158;refine(Sw.out (wr.alloc (.cells #[.int .i64 x,.int .i64 s] 173)).drew (wr.heap.size+1) (by simp) BQ.out.drew).mono ?_;rintro r w3⟨v,rfl,hv,hk,Z2,k1,k2,k3,st⟩;have QQ:=Ff.out _ _ _ DM.out hk k3 st;have Ra:=Q0a (D6.out _ _ _ k2 k1 k3 st);have HV:=Q0a hv;clear hv hk k1 k2 k3 st))
   obtain⟨q1,q2⟩:=Ra.out;have Q1:=Q0a q1;have Q2:=Q0a q2;have VE:(0:Int)<=(v:Int):=by omega
   have Ib:(v:Int)<=1:=by have:=HV.out;omega
   clear q1 q2 Ra Sw QQ Ff Rd Br DM BQ CC kf d0 d1 e0 e1 e0d e1d;go_wp2_with fail;go_roundg (n-(k+1))
   case measure=>have:=Cg.out;omega
   case rel=>exact⟨k+1,Z2,by go_num,by rw[Q1.out];simp;exact Go.IntWalk.i64_in _ (by omega),by have:=Cg.out;omega,Q2.out⟩
  ·obtain rfl:k=n:=by have:=Cg.out;omega
   have HR:Hid (((Q1e Z.av (l.take k)).2=(Q1e Z.av l).2)/\J0i Z fr N K M l w wr):=by
    have h1:l.take k=l:=by rw[<- HN.out,J7m]
    have h2:=hI.av;rw[h1] at h2;exact⟨by rw[h1],Z1,hI.ok,h2,hI.same,hI.st⟩
   rw[HR.out.1];clear hI AC;go_wp2_with fail
   (try go_ret);exact⟨rfl,HR.out.2⟩
theorem Z0b{l:List Pl}{tb:Nat->TB}{h:Nat}{p:Pl}(hp:pget l 1 h=some p)(hn:(tb (h%256)).Nil)(h' s:Nat):Q0f (l.set (h%256) {p with st:=2}) tb h' s=Q0f l tb h' s:=by
 obtain⟨hi,KE,_⟩:=pget_some.1 hp;by_cases e:h'%256=h%256
 ·have z:∀l',Q0f l' tb h' s=none:=fun l'=>by
   unfold Q0f;split
   ·split
    ·rename_i hc;rw[e];exact hn.2 s hc.2
    ·rfl
   ·rfl
  rw[z,z]
 ·unfold Q0f;rw[Q0A _ hi,if_neg e]
theorem SP.Ok.doom{Z:SP}{fr:List Nat}{N K:Nat}{M:Int}(ok:Z.Ok fr N K M){x:Nat}{p:Pl}(hp:pget Z.S.l 1 x=some p)(h0:x≠0)(hk:kids Z.S.l x=[])(hn:∀s:Nat,Z.av.en x s=none)(Aq:∀(h s:Nat) (c:Nat×Nat),Z.av.en h s=some c->c.1≠x){rv:OV}(BR:ovOk rv (Z.S.ts.length+1)) :
  (Z.setS (Z.S.doomed x p rv) Z.tb).Ok fr N K M/\(Z.setS (Z.S.doomed x p rv) Z.tb).av=Z.av:=by
 have BT:(Z.tb (x%256)).Nil:=by
  obtain⟨hi,_,Ap⟩:=pget_some.1 hp;by_cases h2:p.kind=2
  ·refine TB.nil_of (ok.tpi.full _ (J6i _ (by omega))) fun s hs=>?_
   have:=av_none.1 (hn s)
   rwa [Q0g hp h2 hs] at this
  ·exact ok.tpi.nil _ p hi (fun h=>h2 h.2)
 have PO:∀h' s e,Q0f Z.S.l Z.tb h' s=some e->e.h≠x:=fun h' s e he=>Aq h' s (e.h,e.r) (Q9y he)
 refine⟨⟨ok.core.doomed hp h0 hk (ok.tpi.spare ok.core hp BT) BR,ok.tpi.doomed ok.core hp BT rv,ok.fpi.doomed hp BT PO,ok.fo,ok.next⟩,?_⟩;show(⟨fun h s=>(Q0f (Z.S.l.set (x%256) {p with st:=2}) Z.tb h s).map Ent.c,Z.F.N⟩:AV)=_;unfold SP.av avOf;congr 1;funext h s;rw[Z0b hp BT]
def Zmb(l:List Pl)(A:List Nat)(l':List Pl):Prop:=∀y,pget l' 2 y=if y∈A then(pget l 1 y).map (fun p=>{p with st:=2}) else pget l 2 y
theorem J1s{l:List Pl}{x:Nat}{p:Pl}(hp:pget l 1 x=some p):Zmb l [x] (l.set (x%256) {p with st:=2}):=fun y=>by
 obtain⟨hi,hn,hs⟩:=pget_some.1 hp;rw[Q0A _ hi];by_cases e:y%256=x%256
 ·rw[if_pos e];by_cases ey:y=x
  ·subst ey;rw[if_pos ⟨hn,rfl⟩,if_pos (by simp),hp];rfl
  ·rw[if_neg (fun h:_/\_=>ey (h.1.symm.trans hn)),if_neg (fun h:y∈[x]=>ey (J5j.1 h))];cases h2:pget l 2 y with
   | none=>rfl
   | some q=>exact absurd (Q0S h2 hp e).1 ey
 ·rw[if_neg e,if_neg];intro h;rw[J5j] at h;exact e (by rw[h])
def J1t(l:List Pl)(L:List Nat):Prop:=∀A x B,L=A++x::B->∃q,pget l 1 x=some q/\x≠0/\x∉A/\∀y∈kids l x,y∈A
theorem Z7h{l:List Pl}{N:Nat}(t:Tre l N){h:Nat}{p:Pl}(hp:pget l 1 h=some p)(h0:h≠0):J1t l (Q0M l N h++[h]):=fun A x B e=>by
 by_cases hk:p.kind=1
 ·by_cases hB:B=[]
  ·subst hB;obtain⟨e1,e2⟩:=List.append_inj' e rfl;obtain rfl:h=x:=by simpa using e2
   subst e1;refine⟨p,hp,h0,fun hm=>((Q2I t).1 hm).2 rfl,fun y hy=>?_⟩;obtain⟨p1,q1,a1,a2,a3,a4,a5⟩:=(Q0R t.len).1 hy;rw[hp] at a1;cases a1;refine Z5V t hp hk a3 a4 ?_ (.inl a5);intro e;subst e;rw[hp] at a3;cases a3;have:=t.rise y p hp a4 hk;omega
  ·obtain⟨B',b,rfl⟩:∃B' b,B=B'++[b]:=⟨B.dropLast,B.getLast hB,(List.dropLast_concat_getLast hB).symm⟩
   have e':Q0M l N h++[h]=(A++x::B')++[b]:=by rw[e];simp
   obtain⟨e1,e2⟩:=List.append_inj' e' rfl;obtain⟨q,q1,q2,q3,q4,q5,q6,_⟩:=Z5U t hp hk e1;exact⟨q,q1,q3,fun hm=>q5 x hm rfl,q6⟩
 ·have hu:Q0M l N h=[]:=(Q9e t).2 (Q4D fun q hq=>by rw[hp] at hq;cases hq;exact hk);rw[hu] at e;have:A=[]/\x=h/\B=[]:=by
   cases A with
   | nil=>simp at e;exact⟨rfl,e.1.symm,e.2⟩
   | cons a r=>simp at e
  obtain⟨rfl,rfl,rfl⟩:=this;refine⟨p,hp,h0,by simp,fun y hy=>?_⟩;rw[Q4D fun q hq=>by rw[hp] at hq;cases hq;exact hk] at hy;cases hy
def Z4d(l:List Pl)(A:List Nat):List Pl:=A.foldl (fun l x=>match pget l 1 x with|some p=>l.set (x%256) {p with st:=2}|none=>l) l
theorem Q7T{l:List Pl}{A:List Nat}{x:Nat}{p:Pl}(h:pget (Z4d l A) 1 x=some p):Z4d l (A++[x])=(Z4d l A).set (x%256) {p with st:=2}:=by
 unfold Z4d at h ⊢;rw[List.foldl_append];show(match pget _ 1 x with|some p=>_|none=>_)=_;rw[h]
structure KillI(Z:SP)(fr:List Nat)(N K:Nat)(M:Int)(A:List Nat)(Z1:SP):Prop where
 ok:Z1.Ok fr N K M
 s:Z1.s=Z.s
 c:Z1.S.c=Z.S.c
 t:Z1.S.t=Z.S.t
 g:Z1.S.g=Z.S.g
 f:Z1.F.f=Z.F.f
 nx:Z1.F.next=Z.F.next
 qn:Z1.S.P.q.next=Z.S.P.q.next
 per:Z1.S.period=Z.S.period
 now:Z1.S.now=Z.S.now
 same:SameP Z.S.P Z1.S.P
 acc:Z1.S.P.q.E.map En.id=Z.S.P.q.E.map En.id
 l:Z1.S.l=Z4d Z.S.l A
 live:Dmd Z.S.l A Z1.S.l
 zomb:Zmb Z.S.l A Z1.S.l
 ts:Z1.S.ts=Z.S.ts++A.map fun x=>(x,Z.S.now+Z.S.period)
 less:Lesser Z.av Z1.av Z.F.next
 out:∀x∈A,(∀s:Nat,Z1.av.en x s=none)/\∀(h s:Nat) (c:Nat×Nat),Z1.av.en h s=some c->c.1≠x
theorem KillI.start{Z:SP}{fr:List Nat}{N K:Nat}{M:Int}(ok:Z.Ok fr N K M):KillI Z fr N K M [] Z:=
 ⟨ok,rfl,rfl,rfl,rfl,rfl,rfl,rfl,rfl,rfl,SameP.refl _,rfl,rfl,Dmd.nil _,fun y=>by simp,by simp,Lesser.refl ok.avOk,fun x h=>by cases h⟩
theorem KillI.next{Z Z1 Z2 Z3:SP}{fr:List Nat}{N K:Nat}{M:Int}{A:List Nat}(hlz:Z.S.l.length<=256)(I:KillI Z fr N K M A Z1){x:Nat}{q p:Pl}(hq:pget Z.S.l 1 x=some q)(h0:x≠0)(hA:x∉A)(hk:∀y∈kids Z.S.l x,y∈A)
  (ok2:Z2.Ok fr N K M) (w2:Z2.av=(Q1V Z1.F.next x Z1.av (Q0q Z1.S.l Z1.tb x)).1) (s2:SameZ Z1 Z2) (ok3:Z3.Ok fr N K M) (w3:Z3.av=(Q1e Z2.av (Q3b Z2.S.l Z2.tb x)).1) (s3:SameZ Z2 Z3) :
  (pget Z3.S.l 1 x=some q/\kids Z3.S.l x=[])/\∀{rv:OV},pget Z3.S.l 1 x=some p->ovOk rv (Z3.S.ts.length+1)->KillI Z fr N K M (A++[x]) (Z3.setS (Z3.S.doomed x p rv) Z3.tb):=by
 have l2:=s2.alt.l;have l3:=s3.alt.l;have Ac:=I.ok.core.inv.len;have Bh:pget Z1.S.l 1 x=some q:=by rw[I.live x,if_neg hA];exact hq
 have IZ:pget Z3.S.l 1 x=some q:=by rw[l3,l2];exact Bh
 have FY:kids Z3.S.l x=[]:=by rw[l3,l2];exact Dmd.none_left hlz (by omega) I.live hk
 refine⟨⟨IZ,FY⟩,fun {rv} hp BR=>?_⟩;obtain⟨e1,e2⟩:=Z7g (a:=Z1.av) (l:=Z1.S.l) (tb:=Z1.tb) (N:=Z1.F.N) (x:=x) rfl I.ok.avOk;rw[<- w2,I.nx] at e1;rw[<- w2] at e2;have k2:=ok2.avOk;rw[s2.nx,I.nx] at k2;obtain⟨e3,e4⟩:=Q6Q (Q3b Z2.S.l Z2.tb x) k2;rw[<- w3] at e3 e4;have hn:∀s:Nat,Z3.av.en x s=none:=fun s=>e3.none (e2 s)
 have Aq:∀(h s:Nat) (c:Nat×Nat),Z3.av.en h s=some c->c.1≠x:=fun h s c hc hx=>by
  rcases e3.en h s with h1|h1
  ·rw[h1] at hc;cases hc
  ·rw[h1] at hc;obtain⟨e,he,rfl⟩:=Q3v hc;obtain⟨r,r1,r2,r3,_⟩:=Q3M he;have hm:((h:Int),(s:Int))∈Q3b Z2.S.l Z2.tb x:=mem_holdL.2 ⟨h,(Q3g (by rw[ok2.core.inv.len];omega)).2 ⟨r,r1⟩,s,rfl,r3,e,he,hx⟩;rw[e4 h s hm] at h1;rw[<- h1] at hc;cases hc
 obtain⟨d1,d2⟩:=ok3.doom hp h0 FY hn Aq BR;have EL:Dmd Z3.S.l [x] (Z3.S.doomed x p rv).l:=J0Z hp;have TM:Zmb Z3.S.l [x] (Z3.S.doomed x p rv).l:=J1s hp;have Ke:Dmd Z.S.l A Z3.S.l:=by rw[l3,l2];exact I.live
 have V4:Zmb Z.S.l A Z3.S.l:=by rw[l3,l2];exact I.zomb
 have M6:Lesser Z.av Z3.av Z.F.next:=(I.less.trans e1).trans e3;refine⟨d1,?_,?_,?_,?_,?_,?_,?_,?_,?_,?_,?_,?_,Ke.step EL,fun y=>?_,?_,by rw[d2];exact M6,fun y hy=>?_⟩
 ·exact s3.s.trans (s2.s.trans I.s)
 ·exact s3.alt.c.trans (s2.alt.c.trans I.c)
 ·exact s3.alt.t.trans (s2.alt.t.trans I.t)
 ·exact s3.alt.g.trans (s2.alt.g.trans I.g)
 ·exact s3.f.trans (s2.f.trans I.f)
 ·exact s3.nx.trans (s2.nx.trans I.nx)
 ·exact s3.alt.next.trans (s2.alt.next.trans I.qn)
 ·exact s3.alt.per.trans (s2.alt.per.trans I.per)
 ·exact s3.alt.now.trans (s2.alt.now.trans I.now)
 ·exact(I.same.trans s2.alt.same).trans s3.alt.same
 ·exact s3.alt.ids.trans (s2.alt.ids.trans I.acc)
 ·have e:Z3.S.l=Z4d Z.S.l A:=l3.trans (l2.trans I.l);rw[Q7T (p:=p) (by rw[<- e];exact hp),<- e];rfl
 ·show pget (Z3.S.doomed x p rv).l 2 y=_;rw[TM y,V4 y,Ke y];by_cases ey:y=x
  ·subst ey;simp[hA]
  ·by_cases hy:y∈A <;> simp[ey,hy]
 ·show Z3.S.ts++[(x,Z3.S.now+Z3.S.period)]=_;rw[s3.alt.ts,s2.alt.ts,I.ts,s3.alt.now,s2.alt.now,I.now,s3.alt.per,s2.alt.per,I.per];simp
 ·rw[d2];rcases J3Q.1 hy with hy|hy
  ·obtain⟨o1,o2⟩:=I.out y hy;have LJ:Lesser Z1.av Z3.av Z.F.next:=e1.trans e3;refine⟨fun s=>LJ.none (o1 s),fun h s c hc=>?_⟩;rcases LJ.en h s with h1|h1
   ·rw[h1] at hc;cases hc
   ·rw[h1] at hc;exact o2 h s c hc
  ·rw[J5j] at hy;subst hy;exact⟨hn,Aq⟩
open Go.Sort (Holds putRow holds_putRow holds_ahead putRow_self reverseLoop swp size_swp)
theorem Z1h(blk cap:Nat)(d:Array Nat)(w:World)(hH:Holds encH w blk 0 d)(Be:d.size<=65536) :
  Calls prog 208 #[.slice (some ⟨blk,0,none⟩) d.size cap] w fun e w'=>e=.returned (.tuple #[])/\∃n,w'=putRow encH (Go.Sort.ahead w n) blk 0 d.reverse:=by
 go_enter func208,ntmps208;go_wp2_with fail
 go_loopg [2,3] d.size (fun k s2 s3 wr=>∃(i jn:Nat) (jz:Int) (dk:Array Nat) (n:Nat),s2=.int .i64 i/\s3=.int .i64 jz/\((i:Int)<jz->jz=jn/\jn<d.size)/\(¬(i:Int)<jz->¬i<jn)/\jn-i<=k /\
  dk.size=d.size/\wr=putRow encH (Go.Sort.ahead w n) blk 0 dk/\reverseLoop i jn dk=reverseLoop 0 (d.size-1) d)
 case atStart=>exact⟨0,d.size-1,(d.size:Int)-1,d,0,rfl,rfl,fun h=>⟨by omega,by omega⟩,fun h=>by omega,by omega,rfl,(putRow_self encH w blk 0 d hH).symm,rfl⟩
 case round =>
  obtain⟨i,jn,jz,dk,n,rfl,rfl,h1,h2,hk,FP,GT,GK⟩:=hrel;by_cases Ab:(i:Int)<jz
  ·obtain⟨rfl,NM⟩:=h1 Ab;have Fj:i<jn:=by omega
   have JP:Holds encH wr blk 0 dk:=by rw[GT];exact holds_putRow encH _ blk 0 d dk (holds_ahead encH w n blk 0 d hH) FP
   obtain⟨ci,fi⟩:=JP i (by omega);obtain⟨cj,fj⟩:=JP jn (by omega);have A:Go.Aside (wr=putRow encH (Go.Sort.ahead w n) blk 0 dk):=GT;have SW:Hid (((wr.setCell ⟨blk,i,none⟩ (.int .u32 (dk[jn]!:Int))).setCell ⟨blk,jn,none⟩ (.int .u32 (dk[i]!:Int))).drew=putRow encH (Go.Sort.ahead w (n+1)) blk 0 (swp dk i jn)):=by
    have:=swap_world encH (off:=0) (i:=i) (j:=jn) (by omega) (by omega) GT rfl rfl;rw[J5G,J5G] at this;exact this
   clear GT JP hH h1 h2;go_wp2_with fail;rw[J5G] at ci fi cj fj;unfold encH at ci cj;go_region
   all_goals
    go_wp2_with fail;go_roundg (jn-1-(i+1))
    case measure=>omega
    case rel =>
     rw[reverseLoop,if_pos Fj] at GK;exact⟨i+1,jn-1,(jn:Int)-1,swp dk i jn,n+1,by go_num,by go_num,fun h=>⟨by omega,by omega⟩,fun h=>by omega,J3b _,by rw[size_swp];exact FP,
      (by have Kr:=SW.out;first|exact Kr|(simp only[getElem!_pos dk jn (by omega)] at Kr;exact Kr)),GK⟩
  ·have DA:=h2 Ab;go_wp2_with fail
   first|go_end0|skip
   refine⟨rfl,n,?_⟩;rw[reverseLoop,if_neg DA] at GK;rw[<- Go.Lib.reverseLoop_reverse,<- GK]
end Go.Proofs.YtfidemmgofcnmaaGreatDoor
namespace Go.Proofs.YtfidemmgofcnmaaGreatDoor
open Go.RowKit Go.Proofs.Tryz
theorem Z9u(l:List Pl)(hl:l.length<=256)(x:Nat):(kids l x).length<=256:=by
 unfold kids;split
 ·split
  ·unfold Z7O;refine J3c (J5r _ _) ?_;have:=Q2A l 1 l.length;unfold allL;omega
  ·simp
 ·simp
structure UndI(l:List Pl)(N x:Nat)(ws os:List Nat):Prop where
 eq:os++rest l N ws=pre l N x
theorem UndI.start(l:List Pl)(N x:Nat):UndI l N x [x] []:=⟨by simp[rest]⟩
theorem UndI.step{l:List Pl}{N x y:Nat}{ws os:List Nat}(t:Tre l N)(u:UndI l N x (ws++[y]) os):UndI l N x (ws++kids l y) (os++[y])/\(rest l N (ws++kids l y)).length<(rest l N (ws++[y])).length:=by
 have h:=u.eq;rw[Q8I t] at h ⊢;exact⟨⟨by rw[J4c];exact h⟩,by simp⟩
theorem UndI.len{l:List Pl}{N x:Nat}{ws os:List Nat}(t:Tre l N)(u:UndI l N x ws os):ws.length<=256/\os.length<=256:=by
 have h1:=congrArg List.length u.eq;have h2:=Z4C t x;have h3:=Z7R l N ws;rw[J3M] at h1;omega
theorem UndI.name{l:List Pl}{N x y:Nat}{ws os:List Nat}(t:Tre l N)(ok:LOk l)(hx:x<4294967296)(u:UndI l N x (ws++[y]) os):y<4294967296:=by
 have hy:y∈pre l N x:=by
  rw[<- u.eq,Q8I t];simp
 rcases Q5B t hy with rfl|⟨_,q,hq⟩
 ·exact hx
 ·obtain⟨a1,a2,_⟩:=pget_some.1 hq;have:=(ok.2 q (J5q a1)).2;unfold nm at a2;omega
theorem UndI.done{l:List Pl}{N x:Nat}{os:List Nat}(t:Tre l N)(u:UndI l N x [] os):os.reverse=Q0M l N x++[x]:=by
 have h:=u.eq;rw[show rest l N []=[] from rfl,J5i,Q4C t] at h;rw[h];simp
theorem OutH.single(w:World)(x:Nat):OutH w (w.alloc (.cells #[.int .u32 x] 58)) (.slice (some ⟨w.heap.size,0,none⟩) 1 1) [x]:=
 ⟨⟨rfl,.inr ⟨w.heap.size,1,#[.int .u32 x],rfl,J3b _,Cells.new w 58 [.int .u32 x],J3b 1,(by decide:1<=maxLen),rfl,rfl⟩⟩,(Below.refl _ _).alloc (J3b _) _⟩
theorem Two.start(w:World)(x:Nat):Two w (w.alloc (.cells #[.int .u32 x] 58)) (.slice (some ⟨w.heap.size,0,none⟩) 1 1) [x] (.slice none 0 0) []:=
 ⟨OutH.single w x,(OutH.nil w).alloc _,fun b _ h=>by simp[Value.ownBlock] at h⟩
theorem Two.drew{w wr:World}{v u:Value}{L M:List Nat}(h:Two w wr v L u M):Two w wr.drew v L u M:=h.below (Below.refl _ _).drew
theorem Z2w(w:World)(y:Nat):IsHs w.heap.size [y] (some ⟨w.heap.size,0,none⟩) (w.alloc (.cells #[.int .u32 y] 58)):=⟨fun j x hj=>by
 match j,hj with
 | 0,hj =>
  cases hj
  exact⟨_,rfl,J3b _,by simp,(Cells.new w 58 [.int .u32 y]).cell 0 _ rfl⟩
 | k+1,hj=>cases hj⟩
theorem Z4e{w:World}{S:CO}{fr:List Nat}{N K:Nat}(h:Sep w S.hl)(ok:S.Ok fr N K){x:Nat}(hx:x<4294967296) :
  Calls prog 162 #[.pointer (some ⟨S.c,0,none⟩),.int .u32 x] w (NewHs w (Q0M S.l S.P.q.next.toNat x)):=by
 have tre:=ok.inv.tree;have lok:=ok.inv.lok;have HM:Hid (∀(w1:World) (y:Nat),Below w.heap.size w w1->y<4294967296->Calls prog 207 #[.pointer (some ⟨S.c,0,none⟩),.int .u32 y] w1 (NewHs w1 (kids S.l y))):=fun w1 y hb hy=>Q9x (h.grown hb).sep ok hy
 generalize S.P.q.next.toNat=M at *
 have IN:=Q0a tre;have JE:=Q0a lok;have HX:=Q0a hx;have HS:=Q0a (Two.start w x);clear h ok tre lok hx;go_enter func162,ntmps162;go_wp2_with fail
 go_loopg [5,6] (pre S.l M x).length (fun gk ov wv wr=>∃ws os,Two w wr wv ws ov os/\UndI S.l M x ws os/\(rest S.l M ws).length<=gk)
 case atStart=>exact⟨[x],[],HS.out,UndI.start _ _ _,by have:=(UndI.start S.l M x).eq;rw[J5m] at this;rw[this];exact J3b _⟩
 case round =>
  obtain⟨ws,os,C9,hu,EH⟩:=hrel;obtain⟨l1,l2⟩:=hu.len IN.out;have A7:ws=[]∨∃(ws':List Nat) (y:Nat),ws=ws'++[y]:=by
   rcases J7B ws with h|⟨a,b,h⟩
   ·exact .inl h
   ·exact .inr ⟨a,b,by rw[h,J7C]⟩
  rcases A7 with rfl|⟨ws',y,rfl⟩
  ·have BA:=hu.done IN.out;have Aa:os≠[]:=fun e=>by rw[e] at BA;simp at BA
   obtain⟨aw,cw,rfl⟩:=C9.1.shape;obtain⟨g,co,rfl⟩:=C9.2.1.shape1 Aa;obtain⟨_,_,_,_,KM,_⟩:=C9.2.1.parts;have D7:=Z1h g co os.toArray wr (Z0U C9.2.1) (by simp;omega);have AS:∀n,NewHs w (Q0M S.l M x) (.returned (.slice (some ⟨g,0,none⟩) (Q0M S.l M x).length co)) (Go.Sort.putRow encH (Go.Sort.ahead wr n) g 0 os.toArray.reverse):=fun n=>by
    have h1:=C9.2.1.reversed (k:=n);rw[BA] at h1;have h2:=h1.cut;exact⟨_,rfl,h2.1,h2.2⟩
   have Ac:os.length=(Q0M S.l M x).length+1:=by
    have:=congrArg List.length BA
    simpa using this
   have HF:=Q0a AS;rw[show os.toArray.size=os.length from rfl] at D7;rw[Ac] at D7 ⊢;have hm:(Q0M S.l M x).length<=256:=by omega
   have G9:(((Q0M S.l M x).length:Nat):Int)<=(co:Int):=by omega
   have A4:(Q0M S.l M x).length<=co:=by omega
   have hw:IntKind.i64.wrap ((Q0M S.l M x).length:Int)=((Q0M S.l M x).length:Int):=Go.IntWalk.i64_in _ (by omega);clear AS C9 hu EH BA Aa l1 l2 Ac;generalize (Q0M S.l M x).length=m at *
   generalize NewHs w (Q0M S.l M x)=Q at *
   go_wp2_with fail;refine D7.mono ?_;rintro r w1⟨rfl,n,rfl⟩;have HQ:=Q0a (HF.out n);clear D7 HF;generalize Go.Sort.putRow encH (Go.Sort.ahead wr n) g 0 os.toArray.reverse=w1 at *
   go_wp2_with fail
   (try go_ret);exact HQ.out
  ·obtain⟨g,cw,rfl⟩:=C9.1.shape1 (by simp);obtain⟨_,_,_,_,Sj,_⟩:=C9.1.parts;have A4:ws'.length<=cw:=by
    have:ws'.length+1<=cw:=by simpa using Sj
    omega
   have G9:((ws'.length:Nat):Int)<=(cw:Int):=by omega
   clear Sj;obtain⟨Ak,_,_⟩:=C9.1.cellAt (j:=ws'.length) (x:=y) (by simp);have hy:=hu.name IN.out JE.out HX.out;obtain⟨BL,Ab⟩:=hu.step IN.out;have hb:=C9.1.2;have Mk:=HM.out wr.drew y hb.drew hy;have DX:=Z9u S.l (by rw[JE.out.1];exact J3b _) y;have hl:ws'.length+1<=256:=by simpa using l1
   have Gs:Hid (∀w1 am cm,Below wr.drew.heap.size wr.drew w1->IsHs wr.drew.heap.size (kids S.l y) am w1->(am=none->cm=0)->∃v1 w2,(Builtin.append_ #[51,51] 51 #[.slice (some ⟨g,0,none⟩) ws'.length cw,.slice am (kids S.l y).length cm]).run prog w1=.ok v1 w2/\Two w w2 v1 (ws'++kids S.l y) u5 os):=fun w1 am cm Aw hi Pt=>by
    have t1:Two w w1 (.slice (some ⟨g,0,none⟩) ws'.length cw) ws' u5 os:=C9.cut.drew.below Aw;obtain⟨v1,w2,e1,e2,e3,e4⟩:=J1n (ty:=51) (a:=am) (cap:=cm) t1.1.1 hi Pt (by omega) t1.1.2.size;exact⟨v1,w2,e1,t1.app e2 e3 e4⟩
   have LC:Hid (∀w2 v1 L,Two w w2 v1 L u5 os->∃v2 w3,(Builtin.append_ #[51,51] 51 #[u5,.slice (some ⟨w2.heap.size,0,none⟩) 1 1]).run prog (w2.alloc (.cells #[.int .u32 y] 58))=.ok v2 w3/\Two w w3 v1 L v2 (os++[y])):=fun w2 v1 L t=>by
    have t1:=(t.alloc (.cells #[.int .u32 y] 58)).swap;obtain⟨v2,w3,e1,e2,e3,e4⟩:=Z6Q (ty:=51) (a:=some ⟨w2.heap.size,0,none⟩) (cap:=1) t1.1.1 (Z2w w2 y) (by simp;omega) t1.1.2.size;exact⟨v2,w3,e1,(t1.app e2 e3 e4).swap⟩
   have AL:=Q0a BL;have Vv:=Q0a (J3d Ab EH);have hw:IntKind.i64.wrap (ws'.length:Int)=(ws'.length:Int):=Go.IntWalk.i64_in _ (by omega);rw[show(ws'++[y]).length=ws'.length+1 by simp] at *
   clear C9 hu EH l1 l2 BL Ab hb DX hy;generalize NV:kids S.l y=kk at *
   generalize hn:ws'.length=n at *
   go_wp2_with fail
   go_region_law (first|(go_simp;go_at_call 207;refine Mk.mono ?_;intro r w1 Ct;obtain⟨am,cm,rfl,GE,IJ,F5⟩:=Ct.shape0;obtain⟨v1,w2,r1,r2⟩:=Gs.out w1 am cm GE IJ F5;clear F5;have HR:=Q0a r1;have JR:=Q0a r2;clear r1 r2 GE IJ Ct)|(refine Q0E rfl (.tmp 23) (.tmp 26) 51 51 rfl _ _ (by simp[Act.eval]) (by simp[Act.eval]) HR.out ?_))
   all_goals
    obtain⟨v2,w3,r3,r4⟩:=LC.out _ _ _ JR.out;have NE:=Q0a r4;clear r4;go_wp2_with (at_builtin;refine Lib.wpList_append_run _ rfl _ _ _ _ rfl _ _ rfl rfl _ _ r3 ?_);go_roundg (rest S.l M (ws'++kk)).length
    case measure=>exact Vv.out
    case rel=>exact⟨_,_,NE.out,AL.out,J3b _⟩
theorem Z4f{w w2:World}{S:CO}{fr:List Nat}{N K:Nat}(h:Sep w S.hl)(ok:S.Ok fr N K)(hK:K<=1048576){x:Nat}(hx:x<4294967296){p:Pl}(hp:pget S.l 1 x=some p)(h0:x≠0)(hk:kids S.l x=[])(hb:Below w.heap.size w w2) :
  w2.cell? ⟨S.c,1,none⟩=some (.pointer (some ⟨S.t,0,none⟩))/\Calls prog 209 #[.pointer (some ⟨S.t,0,none⟩),.int .u32 x] w2 fun r w3=>r=.returned (.int .i64 0)/\w3.cell? ⟨S.c,2,none⟩=some (.pointer (some ⟨S.g,0,none⟩))/\S.c<w3.heap.size /\
   Calls prog 210 #[.pointer (some ⟨S.g,0,none⟩),.slice (some ⟨w3.heap.size,0,none⟩) 1 1] (w3.alloc (.cells #[.int .i64 x] 3)) fun r w4=>∃z:Int,r=.returned (.int .i64 z)/\J1b S x w (.returned (.int .i64 0)) w4:=by
 have s2:=h.grown hb;have ET:=ok.now;refine⟨CO.c1 s2.sep,?_⟩;refine Calls.mono (Z3l (h:=S.ht) (CO.sT s2.sep) ok.inv.lok hx hp) ?_;rintro r w3⟨rfl,st⟩;have s3:=s2.trans (CO.stepL s2.sep _ st);refine⟨rfl,CO.c2 (S:=S.setL (S.l.set (x%256) {p with st:=2})) s3.sep,(CO.cells s3.sep).lt,?_⟩;have s4:=s3.trans (s3.sep.grown ((Below.refl _ w3).alloc (J3b _) (.cells #[.int .i64 x] 3)));refine Calls.mono (Z8V (CO.sG s4.sep) ok.ov ok.few ok.per.2 (by show S.now<=_;omega) ((Cells.new w3 3 [.int .i64 x]).cell 0 _ rfl)) ?_;rintro r w4⟨rv,rfl,BR,st4⟩;have s5:=s4.trans (CO.stepG s4.sep S.now rv (S.ts++[(x,S.now+S.period)]) st4)
 exact⟨_,rfl,.inr (.inr (.inr ⟨p,rv,hp,h0,hk,BR,rfl,s5⟩))⟩
theorem Z9v{w:World}{S:CO}{fr:List Nat}{N K:Nat}(h:Sep w S.hl)(ok:S.Ok fr N K)(hK:K<=1048576){x:Nat}(hx:x<4294967296){p:Pl}(hp:pget S.l 1 x=some p)(h0:x≠0)(hk:kids S.l x=[]) :
  Calls prog 165 #[.pointer (some ⟨S.c,0,none⟩),.int .u32 x] w (J1b S x w):=by
 have hO:Calls prog 49 #[.pointer (some ⟨S.c,0,none⟩),.int .u32 x,.int .i64 0] w (Told w (.tuple #[.agg #[.int .i64 (p.kind:Int),.int .i64 (p.at_:Int),.int .i64 (p.fac:Int)],.int .i64 0])):=Q2X h ok.inv.lok hx 0 hp (.inl rfl);have HM:Hid (∀w1,Below w.heap.size w w1->Calls prog 207 #[.pointer (some ⟨S.c,0,none⟩),.int .u32 x] w1 (NewHs w1 (kids S.l x))):=fun w1 hb=>Q9x (h.grown hb).sep ok hx
 rw[hk] at HM;have HC:Hid (∀w2,Below w.heap.size w w2->_):=fun w2 hb=>Z4f (w2:=w2) h ok hK hx hp h0 hk hb
 have Aw:(((x:Nat):Int)==0)=false:=by simp;omega
 have hw:IntKind.i64.wrap (x:Int)=(x:Int):=Go.IntWalk.i64_in _ (by omega);generalize J1b S x w=Q at *
 clear h ok hK hx hp h0 hk;go_enter func165,ntmps165;go_wp2_with fail;refine hO.mono ?_;rintro r w1⟨rfl,hb⟩;have L5:=hb.alloc hb.size (.cells #[.int .i64 (p.kind:Int),.int .i64 (p.at_:Int),.int .i64 (p.fac:Int)] 54);have hm:=HM.out _ L5;have HB:=Q0a L5;clear hb L5 hO HM;go_wp2_with fail;refine hm.mono ?_;intro r w2 hn;obtain⟨am,cm,rfl,GE,IJ⟩:=hn.shape;obtain⟨c1,J5⟩:=HC.out w2 (HB.out.trans (GE.mono (by have:=HB.out.size;omega)));clear hn GE IJ hm HB HC;go_wp2_with fail;refine J5.mono ?_;rintro r w3⟨rfl,c2,Ab,B7⟩;have HA:=Q0a B7;clear B7 J5 c1;go_wp2_with fail;refine HA.out.mono ?_
 rintro r w4⟨z,rfl,hx⟩;have HX:=Q0a hx;clear hx HA;go_wp2_with fail
 (try go_ret);exact HX.out
theorem Q4T{F:Fence}(hF:Hid (F=Fence.wide)){n:Nat}{P:Program}{c:Code}{Q:Exit->Act->World->Prop}{a:Act}{w:World}(h:c.wp P Q a w):c.wpIn F n P Q a w:=by
 have e:F=Fence.wide:=hF.out;subst e;exact wpIn_wide.2 h
structure J2t(g now x:Nat)(W:World)(J1:World->Prop):Prop where
 it:∃(b off len cap at_:Nat),W.cell? ⟨g,2,none⟩=some (.slice (some ⟨b,off,none⟩) (len+1) cap)/\len+1<=cap/\cap<=maxLen/\W.cell? ⟨b,off,none⟩=some (.int .i64 x)/\W.cell? ⟨b,off+1,none⟩=some (.int .i64 at_)/\at_<=now /\
  J1 (W.setCell ⟨g,2,none⟩ (.slice (if cap=1 then some ⟨b,off,none⟩ else some ⟨b,off+2,none⟩) len (cap-1)))
def Late(g now:Nat)(W:World):Prop:=(∃a cap,W.cell? ⟨g,2,none⟩=some (.slice a 0 cap))∨∃(b off len cap at_:Nat),W.cell? ⟨g,2,none⟩=some (.slice (some ⟨b,off,none⟩) (len+1) cap)/\W.cell? ⟨b,off+1,none⟩=some (.int .i64 at_)/\now<at_
theorem J2u(F:Fence)(hF:Hid (F=Fence.wide))(n:Nat)(hn:1<=n)(l bx g now D:Nat)(xs:Nat->Nat)(J J1:Nat->World->Prop)(W:World)
  (hread:∀k W,J k W->W.cell? ⟨bx,0,none⟩=some (.pointer (some ⟨g,0,none⟩))/\W.cell? ⟨g,1,none⟩=some (.int .i64 now)/\W.frozen? ⟨g,2,none⟩=false/\k<=D/\(k<D->J2t g now (xs k) W (J1 k))/\(k=D->Late g now W))
  (hd:∀k W m,J k W->J k (W.drewN m)) (GC:∀k W m,J1 k W->J1 k (W.drewN m))
  (hY:∀k W1,k<D->J1 k W1->YieldAt F (n-1) prog l #[.int .i64 (xs k:Int)] W1 fun e W'=>e=.returned (.bool true)/\J (k+1) W')
  (h0:J 0 W) :
  CallsIn F n prog 251 #[.func (.yield l) #[] #[],.pointer (some ⟨bx,0,none⟩)] W fun e W'=>(∃v,e=.returned v)/\J D W':=by
 have Fn:F.fn 251:=by rw[hF.out];trivial
 have Bb:∀(f:FuncId),(none:Option FuncId)=some f->F.fn f:=fun _ h=>nomatch h
 have Je:F.round=none:=by rw[hF.out];rfl
 have HR:=Q0a hread;have HD:=Q0a hd;have Tk:=Q0a GC;have HY:=Q0a hY;clear hread hd GC hY;refine callsIn_of_wp func251 rfl Fn ?_ Je;simp only[ntmps251,J5H,J3N,J5B,Nat.reduceAdd,Nat.reduceSub,Array.replicate_succ,Array.replicate_zero,List.push_toArray,List.append_toArray,J5m,J5n]
 gi_wp2
 gi_loopg [3] D (fun gk xv wr=>∃k:Nat,k+gk=D/\J k wr)
 case atStart=>exact⟨0,by omega,h0⟩
 case round =>
  clear h0;obtain⟨k,AC,hj⟩:=hrel;obtain⟨cb,c1,cf,Ws,Ab,Hr⟩:=HR.out k wr hj;have HJ:=Q0a hj;have BE:=Q0a AC;clear hj AC;by_cases hk:k<D
  ·obtain⟨b,off,len,cap,at_,c2,CM,BF,e0,e1,AA,MZ⟩:=(Ab hk).it;have ME:decide ((at_:Int)<=(now:Int))=true:=by rw[decide_eq_true_eq];omega
   have Cn:decide ((0:Int)<(len:Int)+1)=true:=by rw[decide_eq_true_eq];omega
   gi_wp2
   refine Q4T hF ?_
   go_quiet (fail)
   gi_wp2
   refine Q4T hF ?_;have DG:(1:Int)<=(len:Int)+1:=by omega
   have F8:(len:Int)+1<=(cap:Int):=by omega
   have Ld:len+1<=cap:=CM;have Wb:IntKind.i64.wrap (len:Int)=(len:Int):=Go.IntWalk.i64_in _ (by unfold maxLen at BF;omega);have Of:Hid (∀m,J1 k (((wr.drewN m).setCell ⟨g,2,none⟩ (.slice (if cap=1 then some ⟨b,off,none⟩ else some ⟨b,off+2,none⟩) len (cap-1))))):=fun m=>Tk.out k _ m MZ
   clear MZ ME Cn;by_cases A4:cap=1
   ·subst A4;obtain rfl:len=0:=by omega
    simp only[if_true] at Of;go_region;have Fr:=Of.out (nq+1);obtain⟨fn,tmps,assign,body,hy,LN⟩:=HY.out k _ hk Fr;have JC:=Q0a LN;clear LN Fr c1 cf e0 e1 c2 cb HJ
    gi_wp2_with fail
    refine JC.out.mono ?_;rintro e W4⟨rfl,M0⟩;have OG:=Q0a M0;clear M0 JC hy
    gi_wp2
    gi_roundg (D-(k+1))
    case measure=>have:=BE.out;omega
    case rel=>exact⟨k+1,by omega,OG.out⟩
   ·simp only[if_neg A4] at Of;go_region;have Fr:=Of.out (nq+1);obtain⟨fn,tmps,assign,body,hy,LN⟩:=HY.out k _ hk Fr;have JC:=Q0a LN;clear LN Fr c1 cf e0 e1 c2 cb HJ
    gi_wp2_with fail
    refine JC.out.mono ?_;rintro e W4⟨rfl,M0⟩;have OG:=Q0a M0;clear M0 JC hy
    gi_wp2
    gi_roundg (D-(k+1))
    case measure=>have:=BE.out;omega
    case rel=>exact⟨k+1,by omega,OG.out⟩
  ·obtain rfl:k=D:=by omega
   rcases Hr rfl with ⟨a0,cap,c2⟩|⟨b,off,len,cap,at_,c2,e1,AA⟩
   ·have Cn:decide ((0:Int)<0)=false:=by decide
    gi_wp2
    refine Q4T hF ?_
    go_quiet (fail)
    gi_wp2
    go_end0;exact⟨⟨_,rfl⟩,HD.out _ _ _ HJ.out⟩
   ·have ME:decide ((at_:Int)<=(now:Int))=false:=by rw[decide_eq_false_iff_not];omega
    have Cn:decide ((0:Int)<(len:Int)+1)=true:=by rw[decide_eq_true_eq];omega
    gi_wp2
    refine Q4T hF ?_
    go_quiet (fail)
    gi_wp2
    go_end0;exact⟨⟨_,rfl⟩,HD.out _ _ _ HJ.out⟩
end Go.Proofs.YtfidemmgofcnmaaGreatDoor

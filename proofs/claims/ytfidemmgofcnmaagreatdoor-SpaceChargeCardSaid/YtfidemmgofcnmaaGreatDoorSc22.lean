/- SpaceCharge returns true at every input. No condition. Part of its proof. -/
import Derived.Test.YtfidemmgofcnmaaGreatDoorSc21
set_option maxHeartbeats 8000000
set_option maxRecDepth 100000
set_option linter.unusedVariables false
namespace Go.Proofs.YtfidemmgofcnmaaGreatDoor
open Go.RowKit Go.Proofs.Tryz
def J1K (N:List (En Nd)) (sp sl:Int):Option (Int×Int):=match find N (ownN N sp sl) with
 | none=>none
 | some n=>(find N n.q.par).map fun m=>(m.q.sp,m.q.sl)
theorem Q3M (N:List (En Nd)) (sp sl:Int):(∃n∈N,n.q.sp=sp/\n.q.sl=sl)∨∀e∈N,(e.q.sp,e.q.sl)≠(sp,sl):=by
 by_cases h:∃n∈N,n.q.sp=sp/\n.q.sl=sl
 ·exact .inl h
 ·exact .inr fun e he hx=>h ⟨e,he,by simpa using hx⟩
section
variable {N:List (En Nd)} {next:Int}
end
def Q8i (m:Nat):Option (Nat×Nat)->Option (Nat×Nat)
 | none=>none
 | some c=>if less c.2 m=0 then none else some (c.1,less c.2 m)
def EnIs (a:AV):Prop:=∀n∈a.N,∃c,a.en n.q.sp.toNat n.q.sl.toNat=some c
theorem FPI.enIs {l:List Pl} {tb:Nat->TB} {N:List (En Nd)} (f:FPI l tb N):EnIs (avOf l tb N):=fun n hn=>by
 obtain⟨e,he⟩:=f.is n hn;exact⟨(e.h,e.r),Q9l he⟩
theorem Q5J {N:List (En Nd)} {next:Int} (ok:NOk N next) {n:En Nd} (hn:n∈N) (h s:Nat):ownN N (h:Int) (s:Int)=n.id↔n.q.sp=(h:Int)/\n.q.sl=(s:Int):=by
 constructor
 ·intro e;rcases Q3M N (h:Int) (s:Int) with ⟨c,hc,h1,h2⟩|Aq
  ·have:=Q1L ok hc;rw [h1,h2,e] at this;have Ot:c=n:=by
    have a1:=Q0l ok.ids hc;have a2:=Q0l ok.ids hn;rw [<- this,a2] at a1;exact (J3x a1).symm
   subst Ot;exact⟨h1,h2⟩
  ·have:=(Q1s ok).2 Aq;rw [this] at e;have:=ok.rng n hn;omega
 ·rintro⟨h1,h2⟩;have:=Q1L ok hn;rw [h1,h2] at this;exact this
section
variable {m:Nat} {a:AV} {next:Int}
structure J2s (m:Nat) (a:AV) (next:Int) (id:Int):Prop where
 ok:NOk (weak1 m a id).1.N next
 is:EnIs (weak1 m a id).1
 en:∀h s:Nat,(weak1 m a id).1.en h s=if ownN a.N (h:Int) (s:Int)=id then Q8i m (a.en h s) else a.en h s
 old:∀x n,x≠id->find a.N x=some n->∃n',find (weak1 m a id).1.N x=some n'/\n'.q.sp=n.q.sp/\n'.q.sl=n.q.sl/\n'.id=n.id
 new:∀x n',find (weak1 m a id).1.N x=some n'->∃n,find a.N x=some n/\n'.q.sp=n.q.sp/\n'.q.sl=n.q.sl
 own:∀h s:Nat,ownN (weak1 m a id).1.N (h:Int) (s:Int)=if (weak1 m a id).2=true/\ownN a.N (h:Int) (s:Int)=id then 0 else ownN a.N (h:Int) (s:Int)
 gone:(weak1 m a id).2=true↔∃n c,find a.N id=some n/\a.en n.q.sp.toNat n.q.sl.toNat=some c/\less c.2 m=0
theorem Q9G (ok:NOk a.N next) (is:EnIs a) {id:Int} {n:En Nd} (hf:find a.N id=some n):J2s m a next id:=by
 obtain⟨hn,hid⟩:=Q0b hf;obtain⟨c,hc⟩:=is n hn;have GJ:=ok.sm n hn;have Ki:((n.q.sp.toNat:Nat):Int)=n.q.sp:=by omega
 have Eh:((n.q.sl.toNat:Nat):Int)=n.q.sl:=by omega
 have hw:=Q2D (m:=m) (a:=a) hf Ki.symm Eh.symm hc;have Ah:∀h s:Nat,ownN a.N (h:Int) (s:Int)=id↔(h=n.q.sp.toNat/\s=n.q.sl.toNat):=fun h s=>by
  have:=Q5J ok hn h s;rw [hid] at this;rw [this];omega
 by_cases h0:less c.2 m=0
 ·rw [if_pos h0] at hw;have Fh:find a.N n.id=some n:=by rw [hid];exact hf
  have hN:(weak1 m a id).1.N=Q0C a.N n n.q.ks.length:=by rw [hw]
  have Bh:NOk (Q0C a.N n n.q.ks.length) next:=ok.lift Fh;have Az:∀{x},x∈Q0C a.N n n.q.ks.length->∃c∈a.N,c.id≠n.id/\x={c with q:=Q0t n n.q.ks.length c}:=fun {x} hx=>by
   obtain⟨c,hc,rfl⟩:=Q1r hx;obtain⟨h1,h2⟩:=(Q2C ok.ids n.id c).1 hc;exact⟨c,h1,h2,rfl⟩
  have AX:∀h s:Nat,(weak1 m a id).1.en h s=if ownN a.N (h:Int) (s:Int)=id then Q8i m (a.en h s) else a.en h s:=fun h s=>by
   rw [hw];show setA a.en n.q.sp.toNat n.q.sl.toNat none h s=_;unfold setA;by_cases e:h=n.q.sp.toNat/\s=n.q.sl.toNat
   ·rw [if_pos e,if_pos ((Ah h s).2 e),e.1,e.2,hc];unfold Q8i;simp only;rw [if_pos h0]
   ·rw [if_neg e,if_neg (fun x=>e ((Ah h s).1 x))]
  refine⟨by rw [hN];exact Bh,?_,AX,?_,?_,?_,?_⟩
  ·rw [hw];intro x hx;obtain⟨d,hd,Aa,rfl⟩:=Az hx;obtain⟨cd,DL⟩:=is d hd;refine⟨cd,?_⟩;simp only [Q1E];rw [Q5c (Z0v ok hd hn Aa)];exact DL
  ·intro x d hx hd;refine⟨{d with q:=Q0t n n.q.ks.length d},by rw [hN,Q3G ok,if_neg (by rw [hid];exact hx),hd];rfl,?_,?_,rfl⟩ <;> simp only [Q1E]
  ·intro x d' Eo;rw [hN,Q3G ok] at Eo;split at Eo
   ·cases Eo
   ·cases hd:find a.N x with
    | none=>rw [hd] at Eo;cases Eo
    | some d =>
     rw [hd] at Eo;simp only [J4o,J2N] at Eo;subst Eo;exact⟨d,rfl,by simp only [Q1E],by simp only [Q1E]⟩
  ·intro h s;rw [hw];simp only [true_and];by_cases e:ownN a.N (h:Int) (s:Int)=id
   ·rw [if_pos e];obtain⟨e1,e2⟩:=(Ah h s).1 e;refine (Q1s Bh).2 fun d hd hx=>?_
    obtain⟨c',Bd,Aa,rfl⟩:=Az hd;simp only [Q1E,Prod.mk.injEq] at hx;exact Aa (by rw [Q4d ok Bd hn (by rw [hx.1];omega) (by rw [hx.2];omega)])
   ·rw [if_neg e];rcases Q3M a.N (h:Int) (s:Int) with ⟨d,hd,e1,e2⟩|Aq
    ·have Aa:d.id≠n.id:=fun x=>e (by
      have:=Q1L ok hd;rw [e1,e2] at this;rw [this,x,hid])
     have hm:({d with q:=Q0t n n.q.ks.length d}:En Nd)∈Q0C a.N n n.q.ks.length:=by
      unfold Q0C mapE;exact J2E.2 ⟨d,(Q2C ok.ids n.id d).2 ⟨hd,Aa⟩,rfl⟩
     have q1:=Q1L Bh hm;have q2:=Q1L ok hd;simp only [Q1E] at q1;rw [e1,e2] at q1 q2;rw [q1,q2]
    ·rw [(Q1s ok).2 Aq];refine (Q1s Bh).2 fun d hd hx=>?_
     obtain⟨c',Bd,_,rfl⟩:=Az hd;simp only [Q1E] at hx;exact Aq c' Bd hx
  ·rw [hw];simp only [true_iff];exact⟨n,c,hf,hc,h0⟩
 ·rw [if_neg h0] at hw;have hN:(weak1 m a id).1.N=a.N:=by rw [hw]
  have AX:∀h s:Nat,(weak1 m a id).1.en h s=if ownN a.N (h:Int) (s:Int)=id then Q8i m (a.en h s) else a.en h s:=fun h s=>by
   rw [hw];show setA a.en n.q.sp.toNat n.q.sl.toNat _ h s=_;unfold setA;by_cases e:h=n.q.sp.toNat/\s=n.q.sl.toNat
   ·rw [if_pos e,if_pos ((Ah h s).2 e),e.1,e.2,hc];unfold Q8i;simp only;rw [if_neg h0]
   ·rw [if_neg e,if_neg (fun x=>e ((Ah h s).1 x))]
  refine⟨by rw [hN];exact ok,?_,AX,?_,?_,?_,?_⟩
  ·rw [hw];intro x hx;show ∃c',setA a.en n.q.sp.toNat n.q.sl.toNat _ x.q.sp.toNat x.q.sl.toNat=some c';unfold setA;split
   ·exact⟨_,rfl⟩
   ·exact is x hx
  ·intro x d hx hd;exact⟨d,by rw [hN];exact hd,rfl,rfl,rfl⟩
  ·intro x d' Eo;rw [hN] at Eo;exact⟨d',Eo,rfl,rfl⟩
  ·intro h s;rw [hw];simp
  ·rw [hw]
   constructor
   ·intro h;simp at h
   ·rintro⟨n2,c2,h1,h2,h3⟩;rw [hf] at h1;cases h1;rw [hc] at h2;cases h2;exact absurd h3 h0
end
inductive AddsM (x y:Nat) (A:Nat->Mv) (a0:AV) (nx:Int):Nat->AV->Prop
 | zero:AddsM x y A a0 nx 0 a0
 | succ (k:Nat) (a:AV) (c:Nat×Nat) (b:Nat):AddsM x y A a0 nx k a->a.en x (A k).src.toNat=some c->a.en y (A k).dst.toNat=none ->
   AddsM x y A a0 nx (k+1) ⟨setA a.en y (A k).dst.toNat (some (c.1,c.2&&&(A k).r.toNat)),addN a.N (ownN a.N (x:Int) (A k).src) (nx+k+1) b (y:Int) (A k).dst⟩
inductive Q4j (x:Nat) (A:Nat->Mv) (a0:AV):Nat->AV->Prop
 | zero:Q4j x A a0 0 a0
 | skip (k:Nat) (a:AV):Q4j x A a0 k a->(A k).g=false->Q4j x A a0 (k+1) a
 | lift (k:Nat) (a a':AV):Q4j x A a0 k a->(A k).g=true->weak1 15 a (ownN a.N (x:Int) (A k).src)=(a',true)->Q4j x A a0 (k+1) a'
def MovedZ (Z:SP) (fr:List Nat) (N K:Nat) (M:Int) (x y n:Nat) (A:Nat->Mv) (w w':World):Prop:=∃a Z',AddsM x y A Z.av Z.F.next n a/\Q4j x A a n Z'.av/\Z'.Ok fr N K (M+n)/\SameN Z Z'/\Z'.F.next=Z.F.next+n/\Step Z.hl Z'.hl w w'
structure MvB (Z:SP) (p1 p2:Pl) (g1 x g2 y B1 B2 n:Nat) (A:Nat->Mv) (a0:Option Addr) (W:World):Prop where
 t1:TblZ Z p1 g1 W
 t2:TblZ Z p2 g2 W
 b1:AsideV Z.hl [.pointer (some ⟨g1,0,none⟩),.int .u32 x,.int .i64 (p1.fac:Int)] (some ⟨B1,0,none⟩) W
 b2:AsideV Z.hl [.pointer (some ⟨g2,0,none⟩),.int .u32 y,.int .i64 (p2.fac:Int)] (some ⟨B2,0,none⟩) W
 mv:AsideM Z.hl n A a0 W
theorem MvB.step {Z Z':SP} {p1 p2:Pl} {g1 x g2 y B1 B2 n:Nat} {A:Nat->Mv} {a0:Option Addr} {W W':World} (h:MvB Z p1 p2 g1 x g2 y B1 B2 n A a0 W) (st:Step Z.hl Z'.hl W W') (hp:Z'.S.P.p=Z.S.P.p):MvB Z' p1 p2 g1 x g2 y B1 B2 n A a0 W':=
 ⟨h.t1.step st hp,h.t2.step st hp,h.b1.step st,h.b2.step st,h.mv.step st⟩
def Box3 (B g x:Nat) (f:Int) (W:World):Prop:=W.cell? ⟨B,0,none⟩=some (.pointer (some ⟨g,0,none⟩))/\W.cell? ⟨B,1,none⟩=some (.int .u32 x)/\W.cell? ⟨B,2,none⟩=some (.int .i64 f)
def Q2e (g x:Nat) (f:Int):Value:=.agg #[.pointer (some ⟨g,0,none⟩),.int .u32 x,.int .i64 f]
theorem MvB.box {Z:SP} {p1 p2:Pl} {g1 x g2 y B1 B2 n:Nat} {A:Nat->Mv} {a0:Option Addr} {W:World} (h:MvB Z p1 p2 g1 x g2 y B1 B2 n A a0 W):Box3 B1 g1 x (p1.fac:Int) W/\Box3 B2 g2 y (p2.fac:Int) W/\IsMv W a0 n A:=
 ⟨⟨h.b1.at 0 _ rfl,h.b1.at 1 _ rfl,h.b1.at 2 _ rfl⟩,⟨h.b2.at 0 _ rfl,h.b2.at 1 _ rfl,h.b2.at 2 _ rfl⟩,h.mv.1⟩
theorem Q2F {w:World} {H:HL} (hs:Sep w H) (T:TypeId) (cs:List Value):AsideV H cs (some ⟨w.heap.size,0,none⟩) (w.alloc (.cells cs.toArray T)):=fun j v hj =>
 ⟨w.heap.size,rfl,fun hk=>by have:=hs.lt hk;omega,by simp,(Cells.new w T cs).cell j v hj⟩
def mixT (t0 t1:TB) (A:Nat->Mv) (k:Nat):TB:={t1 with en:=fun s=>if (List.range k).any (fun i=>decide (s=(A i).dst.toNat))=true then t1.en s else t0.en s}
theorem Q3m (t0 t1:TB) (A:Nat->Mv) (k s:Nat):((mixT t0 t1 A k).en s=t1.en s/\∃i,i<k/\s=(A i).dst.toNat)∨((mixT t0 t1 A k).en s=t0.en s/\∀i,i<k->s≠(A i).dst.toNat):=by
 unfold mixT;simp only;cases h:(List.range k).any (fun i=>decide (s=(A i).dst.toNat)) with
 | true =>
  obtain⟨i,hi,he⟩:=J7b.1 h;exact .inl ⟨by simp,i,J2P.1 hi,by simpa using he⟩
 | false =>
  refine .inr ⟨by simp,fun i hi he=>?_⟩;have:=J7c.1 h i (J2P.2 hi);simp [he] at this
section
variable {Z:SP} {fr:List Nat} {N K:Nat} {M:Int} {x y n:Nat} {p1 p2:Pl} {A:Nat->Mv}
structure SetP (Z:SP) (x y:Nat) (A:Nat->Mv) (t1:TB) (k:Nat) (F':FO):Prop where
 ok:F'.Ok
 f:F'.f=Z.F.f
 nx:F'.next=Z.F.next+k
 fpi:FPI Z.S.l (updT Z.tb (y%256) (mixT (Z.tb (y%256)) t1 A k)) F'.N
 av:AddsM x y A Z.av Z.F.next k (avOf Z.S.l (updT Z.tb (y%256) (mixT (Z.tb (y%256)) t1 A k)) F'.N)
theorem SetP.start (ok:Z.Ok fr N K M) (t1:TB):SetP Z x y A t1 0 Z.F:=by
 have DS:∀h s,Q0f Z.S.l (updT Z.tb (y%256) (mixT (Z.tb (y%256)) t1 A 0)) h s=Q0f Z.S.l Z.tb h s:=fun h s=>by
  unfold Q0f;split
  ·split
   ·by_cases e:h%256=y%256
    ·rw [e,updT_same];rcases Q3m (Z.tb (y%256)) t1 A 0 s with ⟨_,i,hi,_⟩|⟨h1,_⟩
     ·omega
     ·exact h1
    ·rw [Q0X e]
   ·rfl
  ·rfl
 refine⟨ok.fo,rfl,by omega,ok.fpi.same2 DS fun h s e he q hq=>⟨q,hq,rfl⟩,?_⟩;have:avOf Z.S.l (updT Z.tb (y%256) (mixT (Z.tb (y%256)) t1 A 0)) Z.F.N=Z.av:=by
  unfold SP.av avOf;congr 1;funext h s;rw [DS]
 rw [this];exact .zero
theorem SetP.src (An:AllFit Z.av.en x y n A) {t1:TB} {k:Nat} (CW:k<n) (AY:pget Z.S.l 1 x=some p1) (A0:p1.kind=2) (A4:pget Z.S.l 1 y=some p2) (A2:p2.kind=2) {F':FO} (P:SetP Z x y A t1 k F') :
  ∃e0 e,Q0f Z.S.l Z.tb x (A k).src.toNat=some e0/\Q0f Z.S.l (updT Z.tb (y%256) (mixT (Z.tb (y%256)) t1 A k)) x (A k).src.toNat=some e/\e=e0/\Q0f Z.S.l (updT Z.tb (y%256) (mixT (Z.tb (y%256)) t1 A k)) y (A k).dst.toNat=none:=by
 have hf:=(An k CW).1;obtain⟨c,hc,_⟩:=hf.full;obtain⟨e0,DB,rfl⟩:=Q3k hc;have BV:=hf.src;have FK:=hf.dst;refine⟨e0,e0,DB,?_,rfl,?_⟩
 ·rw [Q0g AY A0 (by omega)] at DB ⊢;by_cases e:x%256=y%256
  ·rw [e] at DB ⊢;rw [updT_same];rcases Q3m (Z.tb (y%256)) t1 A k (A k).src.toNat with ⟨_,i,hi,hs⟩|⟨h1,_⟩
   ·exfalso;have DC:=av_none.1 (An i (by omega)).1.free;rw [Q0g A4 A2 (by have:=(An i (by omega)).1.dst;omega),<- hs,DB] at DC;cases DC
   ·rw [h1];exact DB
  ·rw [Q0X e];exact DB
 ·have DC:=av_none.1 hf.free;rw [Q0g A4 A2 (by omega)] at DC ⊢;rw [updT_same];rcases Q3m (Z.tb (y%256)) t1 A k (A k).dst.toNat with ⟨_,i,hi,hs⟩|⟨h1,_⟩
  ·exact absurd hs (An.dst CW (by omega) (by omega))
  ·rw [h1];exact DC
theorem Q6R:∀r,r<16->∀m,m<16->(r&&&m)&&&r=r&&&m:=by decide
theorem Q6y:∀r,r<16->∀m,m<16->r&&&m<=15:=by decide
theorem SetP.next (ok:Z.Ok fr N K M) (An:AllFit Z.av.en x y n A) {S1:CO} {t1:TB} {own:Int} (L:LaidP Z fr N K x y own A 0 n S1 t1) {k:Nat} (CW:k<n) (AY:pget Z.S.l 1 x=some p1) (A0:p1.kind=2) (A4:pget Z.S.l 1 y=some p2) (A2:p2.kind=2) {F' F2:FO} (P:SetP Z x y A t1 k F')
  (Ad:Z1N F' (ownN F'.N (x:Int) (A k).src) (y:Int) (A k).dst F2):SetP Z x y A t1 (k+1) F2:=by
 obtain⟨e0,e,DB,he,rfl,AS⟩:=SetP.src An CW AY A0 A4 A2 P;have hf:=(An k CW).1;have BV:=hf.src;have FK:=hf.dst;have ML:=hf.r;obtain⟨c,hc,C0,RJ⟩:=hf.full;obtain⟨e',AM,FC⟩:=Q3k hc;rw [DB] at AM;cases AM;subst FC;obtain⟨c2,nd,h1,h2⟩:=L.new k (by omega) CW;rw [hc] at h1;cases h1;obtain⟨b,hN⟩:=Ad.N;have Cq:((A k).src.toNat:Int)=(A k).src:=by omega
 have G7:((A k).dst.toNat:Int)=(A k).dst:=by omega
 have AE:=ok.fpi.cap _ _ _ DB
 -- the table with one more
 have ht:∀s,(mixT (Z.tb (y%256)) t1 A (k+1)).en s=if s=(A k).dst.toNat then some ⟨e.h,e.r&&&(A k).r.toNat,nd⟩ else (updT Z.tb (y%256) (mixT (Z.tb (y%256)) t1 A k) (y%256)).en s:=fun s=>by
  rw [updT_same];by_cases es:s=(A k).dst.toNat
  ·rw [if_pos es,es];rcases Q3m (Z.tb (y%256)) t1 A (k+1) (A k).dst.toNat with ⟨h3,_⟩|⟨_,h3⟩
   ·rw [h3,h2]
   ·exact absurd rfl (h3 k (by omega))
  ·rw [if_neg es];rcases Q3m (Z.tb (y%256)) t1 A (k+1) s with ⟨h3,i,hi,hs⟩|⟨h3,h4⟩
   ·rcases Q3m (Z.tb (y%256)) t1 A k s with ⟨h5,_⟩|⟨_,h6⟩
    ·rw [h3,h5]
    ·have:i=k:=by
      refine Classical.byContradiction fun Aa=>h6 i (by omega) hs
     rw [this] at hs;exact absurd hs es
   ·rcases Q3m (Z.tb (y%256)) t1 A k s with ⟨_,i,hi,hs⟩|⟨h5,_⟩
    ·exact absurd hs (h4 i (by omega))
    ·rw [h3,h5]
 obtain⟨nn,El,q1,q2,q3,q4⟩:=P.fpi.own P.ok.n he;rw [Cq] at q2 q3;have A5:e.r<16:=by have:=AE.r;omega
 have QJ:(A k).r.toNat<16:=by omega
 have Uw:=Q6y e.r A5 (A k).r.toNat QJ;have LL:=Q6R e.r A5 (A k).r.toNat QJ;have Pg:Q6O Z.S.l (A k).dst.toNat ⟨e.h,e.r&&&(A k).r.toNat,nd⟩:=by
  obtain⟨q,hq,U4⟩:=AE.live;refine⟨⟨q,hq,U4.trans ?_⟩,by simp only at RJ ⊢;omega⟩;have SG:=hf.side;simp only [decide_eq_decide] at SG
  constructor <;> intro h <;> omega
 have GN:=P.fpi.add (p:=p2) P.ok.n A4 A2 (s:=(A k).dst.toNat) (by omega) AS (t':=mixT (Z.tb (y%256)) t1 A (k+1)) ht Pg (par:=ownN F'.N (x:Int) (A k).src) b
  (.inr ⟨nn,e,by rw [q3];exact q4,by unfold Q0M;rw [q1,q2,J3F];exact he,rfl,LL⟩)
 rw [Q1c,G7] at GN;rw [<- hN] at GN;have DP:=Q6q F'.N F2.N A4 A2 (by omega:(A k).dst.toNat<256) ht;rw [Q1c] at DP;refine⟨Ad.ok,by rw [Ad.f];exact P.f,by rw [Ad.next,P.nx];omega,GN,?_⟩;rw [DP,hN,P.nx];exact AddsM.succ k _ (e.h,e.r) b P.av (by show (Q0f _ _ _ _).map Ent.c=_;rw [he];rfl) (by show (Q0f _ _ _ _).map Ent.c=_;rw [AS];rfl)
theorem SetP.done (ok:Z.Ok fr N K M) {S1:CO} {t1:TB} {own:Int} (L:LaidP Z fr N K x y own A 0 n S1 t1) {F':FO} (P:SetP Z x y A t1 n F') :
  ((Z.setF F').setS S1 (updT Z.tb (y%256) t1)).Ok fr N K (M+n)/\SameN Z ((Z.setF F').setS S1 (updT Z.tb (y%256) t1))/\AddsM x y A Z.av Z.F.next n ((Z.setF F').setS S1 (updT Z.tb (y%256) t1)).av:=by
 have DS:∀h s,Q0f S1.l (updT Z.tb (y%256) t1) h s=Q0f Z.S.l (updT Z.tb (y%256) (mixT (Z.tb (y%256)) t1 A n)) h s:=fun h s=>by
  unfold Q0f;rw [L.alt.l];split
  ·split
   ·by_cases e:h%256=y%256
    ·rw [e,updT_same,updT_same];rcases Q3m (Z.tb (y%256)) t1 A n s with ⟨h1,_⟩|⟨h1,h2⟩
     ·rw [h1]
     ·rw [h1,L.old s fun i _ hi=>h2 i hi]
    ·rw [Q0X e,Q0X e]
   ·rfl
  ·rfl
 have DP:((Z.setF F').setS S1 (updT Z.tb (y%256) t1)).av=avOf Z.S.l (updT Z.tb (y%256) (mixT (Z.tb (y%256)) t1 A n)) F'.N:=by
  show (⟨fun h s=>(Q0f S1.l (updT Z.tb (y%256) t1) h s).map Ent.c,F'.N⟩:AV)=_;unfold avOf;congr 1;funext h s;rw [DS]
 refine⟨⟨L.ok,L.tpi,?_,P.ok,by show F'.next<=_;rw [P.nx];have:=ok.next;omega⟩,⟨rfl,L.alt.alt0,P.f⟩,by rw [DP];exact P.av⟩;exact P.fpi.same2 DS fun h s e he q hq=>⟨q,by show pget S1.l 1 e.h=_;rw [L.alt.l];exact hq,rfl⟩
theorem LaidP.src (AY:pget Z.S.l 1 x=some p1) (A0:p1.kind=2) (A4:pget Z.S.l 1 y=some p2) (A2:p2.kind=2) (An:AllFit Z.av.en x y n A) {j k:Nat} (CW:k<=n) {own:Int} {S1:CO} {t1:TB} (L:LaidP Z fr N K x y own A j k S1 t1) {i:Nat} (hi:i<n) :
  ∃e,Q0f Z.S.l Z.tb x (A i).src.toNat=some e/\(updT Z.tb (y%256) t1 (x%256)).en (A i).src.toNat=some e/\(updT Z.tb (y%256) t1 (x%256)).at' (A i).src=some e/\Z.av.en x (A i).src.toNat=some (e.h,e.r):=by
 have hf:=(An i hi).1;have BV:=hf.src;obtain⟨c,hc,_⟩:=hf.full;obtain⟨e,he,rfl⟩:=Q3k hc;have h2:(updT Z.tb (y%256) t1 (x%256)).en (A i).src.toNat=some e:=by
  have AM:=he;rw [Q0g AY A0 (by omega)] at AM;by_cases exy:x%256=y%256
  ·rw [exy] at AM ⊢;rw [updT_same,L.old _ fun q h1 h2 e2=>?_]
   ·exact AM
   ·have DC:=av_none.1 (An q (by omega)).1.free;rw [Q0g A4 A2 (by have:=(An q (by omega)).1.dst;omega),<- e2,AM] at DC;cases DC
  ·rw [Q0X exy];exact AM
 refine⟨e,he,h2,?_,hc⟩;unfold TB.at';rw [if_pos BV];exact h2
end
structure J1L (s g1 x g2 y:Nat) (f1 f2:Int) (B1 B2:Nat) (a0:Option Addr) (n cap:Nat) (A:Nat->Mv) (V:Nat->Int) (R:Nat->World->Prop) (B:Int->Nat->Nat->World->Prop) (Q:Int->World->Prop):Prop where
 held:∀k W,R k W->Box3 B1 g1 x f1 W/\Box3 B2 g2 y f2 W/\IsMv W a0 n A
 heldB:∀er k j W,B er k j W->Box3 B1 g1 x f1 W/\Box3 B2 g2 y f2 W/\IsMv W a0 n A
 rel:∀k W W',R k W->Below W.heap.size W W'->R k W'
 relB:∀er k j W W',B er k j W->Below W.heap.size W W'->B er k j W'
 fits:∀i W,i<n->R 0 W->Calls prog 97 #[Q2e g1 x f1,Q2e g2 y f2,(A i).agg,.slice a0 i cap] W (Told W (.int .i64 (V i)))
 bad:∀i W,i<n->R 0 W->V i≠0->(∀j,j<i->V j=0)->Q (V i) W
 capK:∀k W,(∀j,j<n->V j=0)->k<n->R k W->∃a b:Int,∃c:Bool,Calls prog 93 #[Q2e g1 x f1,.int .i64 (A k).src] W (Told W (.tuple #[.agg #[.int .u32 a,.int .i64 b],.bool c])) /\
  ∀W',R k W'->Calls prog 98 #[.pointer (some ⟨s,0,none⟩),Q2e g2 y f2,.int .i64 (A k).dst,.agg #[.int .u32 a,.int .i64 (bits .and .i64 b (A k).r)]] W' fun rv w5=>∃er:Int,rv=.returned (.int .i64 er)/\((er=0/\R (k+1) w5)∨(er≠0/\B er k 0 w5))
 bare:∀er k j W,j<k->B er k j W->Calls prog 99 #[.pointer (some ⟨s,0,none⟩),Q2e g2 y f2,.int .i64 (A j).dst] W fun rv w'=>rv=.returned (.tuple #[])/\B er k (j+1) w'
 back:∀er k W,B er k k W->Q er W
 settle:∀W,(∀j,j<n->V j=0)->R n W->Calls prog 100 #[.pointer (some ⟨s,0,none⟩),Q2e g1 x f1,Q2e g2 y f2,.slice a0 n cap] W fun rv w'=>rv=.returned (.tuple #[])/\Q 0 w'
theorem Q6z {w:World} {s x y:Nat} {v:Value} {e:Int} (he:e≠0) (hS:Calls prog 90 #[.pointer (some ⟨s,0,none⟩),.int .u32 x] w (Told w (.tuple #[.agg #[.pointer none,.int .u32 0,.int .i64 0],.int .i64 e]))) :
  Calls prog 39 #[.pointer (some ⟨s,0,none⟩),.int .u32 x,.int .u32 y,v] w (Told w (.int .i64 e)):=by
 have FI:(e != 0)=true:=by simpa using he
 have HB:Hid (∀w1,Below w.heap.size w w1->∀o,Below w.heap.size w (w1.alloc o)):=fun w1 hb o=>hb.alloc hb.size o
 go_enter func39,ntmps39;go_wp2_with fail;refine hS.mono ?_;rintro rv w1 ⟨rfl,hb⟩;have HW:=Q0a (HB.out w1 hb);clear hb HB hS;go_wp2_with fail
 first|exact⟨rfl,HW.out _⟩|(go_ret;exact⟨rfl,HW.out _⟩)
theorem Q6A {w:World} {s x y g:Nat} {v:Value} {e f:Int} (he:e≠0) (hS:Calls prog 90 #[.pointer (some ⟨s,0,none⟩),.int .u32 x] w fun r w'=>∃g:Nat,r=.returned (.tuple #[.agg #[.pointer (some ⟨g,0,none⟩),.int .u32 x,.int .i64 f],.int .i64 0])/\Below w.heap.size w w')
  (hT:∀W,Below w.heap.size w W->Calls prog 90 #[.pointer (some ⟨s,0,none⟩),.int .u32 y] W (Told W (.tuple #[.agg #[.pointer none,.int .u32 0,.int .i64 0],.int .i64 e]))) :
  Calls prog 39 #[.pointer (some ⟨s,0,none⟩),.int .u32 x,.int .u32 y,v] w (Told w (.int .i64 e)):=by
 have FI:(e != 0)=true:=by simpa using he
 have HB:Hid (∀w1,Below w.heap.size w w1->∀o,Below w.heap.size w (w1.alloc o)):=fun w1 hb o=>hb.alloc hb.size o
 have HT:=Q0a hT;clear hT;go_enter func39,ntmps39;go_wp2_with fail;refine hS.mono ?_;rintro rv w1 ⟨g',rfl,hb⟩;have kt:=HT.out _ (HB.out w1 hb (.cells #[.pointer (some ⟨g',0,none⟩),.int .u32 x,.int .i64 f] 191));have N8:=Q0a (HB.out w1 hb (.cells #[.pointer (some ⟨g',0,none⟩),.int .u32 x,.int .i64 f] 191));clear hb hS HT;go_wp2_with fail;refine kt.mono ?_;rintro rv w2 ⟨rfl,Ag⟩;have HW:=Q0a (HB.out w2 (N8.out.trans (Ag.mono N8.out.size)));clear Ag HB kt;go_wp2_with fail
 first|exact⟨rfl,HW.out _⟩|(go_ret;exact⟨rfl,HW.out _⟩)
theorem Z3t {w:World} {s x y:Nat} {a0:Option Addr} {n cap:Nat} {A:Nat->Mv} {V:Nat->Int} {Q:Int->World->Prop} (hm:n<=4611686018427387904) (AE:n<=cap)
  (h:Calls prog 90 #[.pointer (some ⟨s,0,none⟩),.int .u32 x] w fun rv w1=>∃(g1:Nat) (f1:Int),rv=.returned (.tuple #[.agg #[.pointer (some ⟨g1,0,none⟩),.int .u32 x,.int .i64 f1],.int .i64 0]) /\
   Calls prog 90 #[.pointer (some ⟨s,0,none⟩),.int .u32 y] (w1.alloc (.cells #[.pointer (some ⟨g1,0,none⟩),.int .u32 x,.int .i64 f1] 191)) fun rv w2=>∃(g2:Nat) (f2:Int),rv=.returned (.tuple #[.agg #[.pointer (some ⟨g2,0,none⟩),.int .u32 y,.int .i64 f2],.int .i64 0]) /\
    ∃R B,J1L s g1 x g2 y f1 f2 w1.heap.size w2.heap.size a0 n cap A V R B Q/\R 0 (w2.alloc (.cells #[.pointer (some ⟨g2,0,none⟩),.int .u32 y,.int .i64 f2] 191))) :
  Calls prog 39 #[.pointer (some ⟨s,0,none⟩),.int .u32 x,.int .u32 y,.slice a0 n cap] w fun rv w'=>∃er:Int,rv=.returned (.int .i64 er)/\Q er w':=by
 go_enter func39,ntmps39;go_wp2_with fail;refine h.mono ?_;clear h;rintro rv w1 ⟨g1,f1,rfl,h⟩;go_wp2_with fail;refine h.mono ?_;clear h;rintro rv w2 ⟨g2,f2,rfl,R,B,hM,hR⟩;have HM:=Q0a hM;have HR:=Q0a hR;clear hM hR;generalize hB1:w1.heap.size=B1 at *
 generalize K5:w2.heap.size=B2 at *
 go_wp2_with fail
 go_loopw [42] (fun iv wr=>∃k:Nat,k<=n/\iv=.int .i64 k/\(∀j,j<k->V j=0)/\R 0 wr) (fun iv _=>n-(intOf iv).toNat)
 case atStart=>exact⟨0,J4C _,rfl,by intro j hj;omega,HR.out⟩
 case round =>
  obtain⟨k,hk,rfl,A3,hr⟩:=hrel;have Hp:=Q0a A3;have Ez:=Q0a hr;clear A3 hr HR;by_cases Ab:k<n
  ·obtain⟨⟨p0,p1,p2⟩,⟨o0,o1,o2⟩,BR⟩:=HM.out.held 0 _ Ez.out;obtain⟨g,off,rfl,_,hc,_⟩:=BR k Ab;have c0:wr.cell? ⟨g,off+k*4,none⟩=some (.int .i64 (A k).src):=hc 0 _ rfl;have c1:wr.cell? ⟨g,off+k*4+1,none⟩=some (.int .i64 (A k).dst):=hc 1 _ rfl;have c2:wr.cell? ⟨g,off+k*4+2,none⟩=some (.int .i64 (A k).r):=hc 2 _ rfl;have c3:wr.cell? ⟨g,off+k*4+3,none⟩=some (.bool (A k).g):=hc 3 _ rfl;clear hc BR p0 p1 p2 o0 o1 o2;go_wp2_with fail;have HS:Hid (∀W,Below (wr.alloc (.cells #[.int .i64 (A k).src,.int .i64 (A k).dst,.int .i64 (A k).r,.bool (A k).g] 90)).heap.size (wr.alloc (.cells #[.int .i64 (A k).src,.int .i64 (A k).dst,.int .i64 (A k).r,.bool (A k).g] 90)) W->R 0 W/\(W.cell? ⟨B1,0,none⟩=some (.pointer (some ⟨g1,0,none⟩))/\W.cell? ⟨B1,1,none⟩=some (.int .u32 x)/\W.cell? ⟨B1,2,none⟩=some (.int .i64 f1)/\W.cell? ⟨B2,0,none⟩=some (.pointer (some ⟨g2,0,none⟩))/\W.cell? ⟨B2,1,none⟩=some (.int .u32 y)/\W.cell? ⟨B2,2,none⟩=some (.int .i64 f2)/\W.cell? ⟨wr.heap.size,0,none⟩=some (.int .i64 (A k).src)/\W.cell? ⟨wr.heap.size,1,none⟩=some (.int .i64 (A k).dst)/\W.cell? ⟨wr.heap.size,2,none⟩=some (.int .i64 (A k).r)/\W.cell? ⟨wr.heap.size,3,none⟩=some (.bool (A k).g))):=fun W hb=>by
    have hr:=HM.out.rel 0 _ _ Ez.out (Q0e hb);obtain⟨⟨p0,p1,p2⟩,⟨o0,o1,o2⟩,_⟩:=HM.out.held 0 _ hr;have hc:=(Cells.new wr 90 [.int .i64 (A k).src,.int .i64 (A k).dst,.int .i64 (A k).r,.bool (A k).g]).same (hb.block _ (by simp));exact⟨hr,p0,p1,p2,o0,o1,o2,hc.cell 0 _ rfl,hc.cell 1 _ rfl,hc.cell 2 _ rfl,hc.cell 3 _ rfl⟩
   have hD:=HS.out _ (Below.refl _ _).drew;have kf:=HM.out.fits k _ Ab hD.1;have hE:=(HS.out _ (Below.refl _ _)).2;have hF:=hD.2;unfold Q2e Mv.agg at kf;have Bs:(0:Int)<=(k:Int):=by omega
   have A0:(k:Int)<=(cap:Int):=by omega
   have A2:(k:Int)<=(n:Int):=by omega
   clear hD c0 c1 c2 c3
   go_region_held3 (fun W=>W.cell? ⟨B1,0,none⟩=some (.pointer (some ⟨g1,0,none⟩))/\W.cell? ⟨B1,1,none⟩=some (.int .u32 x)/\W.cell? ⟨B1,2,none⟩=some (.int .i64 f1)/\W.cell? ⟨B2,0,none⟩=some (.pointer (some ⟨g2,0,none⟩))/\W.cell? ⟨B2,1,none⟩=some (.int .u32 y)/\W.cell? ⟨B2,2,none⟩=some (.int .i64 f2)/\W.cell? ⟨wr.heap.size,0,none⟩=some (.int .i64 (A k).src)/\W.cell? ⟨wr.heap.size,1,none⟩=some (.int .i64 (A k).dst)/\W.cell? ⟨wr.heap.size,2,none⟩=some (.int .i64 (A k).r)/\W.cell? ⟨wr.heap.size,3,none⟩=some (.bool (A k).g)) (first|exact hE|exact hF|exact hG)
    (first|(go_at_call 97;refine kf.mono ?_;rintro rv w3 ⟨rfl,Ar⟩;have hH:=HS.out w3 ((Below.refl _ _).drew.trans (Ar.mono (J2y _)));have Qy:=Q0a hH.1;have hG:=hH.2;clear hH Ar))
   clear hE hF hG HS kf;by_cases hv:V k=0
   ·have HV:=Q0a hv;have Ia:(V k != 0)=false:=by simp [hv]
    have Uo:Hid (∀j,j<k+1->V j=0):=fun j hj=>by
     by_cases e:j=k
     ·rw [e];exact hv
     ·exact Hp.out j (by omega)
    clear hv;generalize V k=e at *
    obtain rfl:e=0:=HV.out;go_wp2_with fail;go_roundw
    case rel =>
     exact⟨k+1,by omega,by go_num,Uo.out,Qy.out⟩
    case measure=>simp [intOf];omega
   ·have Ia:(V k != 0)=true:=by simp [hv]
    have HX:=Q0a (HM.out.bad k _ Ab Qy.out hv Hp.out);generalize V k=e at *
    go_wp2_with fail
    first|exact⟨_,rfl,HX.out⟩|(go_ret;exact⟨_,rfl,HX.out⟩)
  ·obtain rfl:k=n:=by omega
   have HR:=Q0a Ez.out;clear Ez;go_wp2_with fail
   go_loopw [60] (fun iv wr=>∃i:Nat,i<=k/\iv=.int .i64 i/\R i wr) (fun iv _=>k-(intOf iv).toNat)
   case atStart=>exact⟨0,J4C _,rfl,HR.out⟩
   case round =>
    obtain⟨i,hi,rfl,hr⟩:=hrel;have Ez:=Q0a hr;clear hr HR;by_cases Ab:i<k
    ·obtain⟨⟨p0,p1,p2⟩,⟨o0,o1,o2⟩,BR⟩:=HM.out.held i _ Ez.out;obtain⟨g,off,rfl,_,hc,_⟩:=BR i Ab;have c0:wr.cell? ⟨g,off+i*4,none⟩=some (.int .i64 (A i).src):=hc 0 _ rfl;have c1:wr.cell? ⟨g,off+i*4+1,none⟩=some (.int .i64 (A i).dst):=hc 1 _ rfl;have c2:wr.cell? ⟨g,off+i*4+2,none⟩=some (.int .i64 (A i).r):=hc 2 _ rfl;have c3:wr.cell? ⟨g,off+i*4+3,none⟩=some (.bool (A i).g):=hc 3 _ rfl;clear hc BR p0 p1 p2 o0 o1 o2;have HS:Hid (∀W,Below (wr.alloc (.cells #[.int .i64 (A i).src,.int .i64 (A i).dst,.int .i64 (A i).r,.bool (A i).g] 90)).heap.size (wr.alloc (.cells #[.int .i64 (A i).src,.int .i64 (A i).dst,.int .i64 (A i).r,.bool (A i).g] 90)) W->R i W/\(W.cell? ⟨B1,0,none⟩=some (.pointer (some ⟨g1,0,none⟩))/\W.cell? ⟨B1,1,none⟩=some (.int .u32 x)/\W.cell? ⟨B1,2,none⟩=some (.int .i64 f1)/\W.cell? ⟨B2,0,none⟩=some (.pointer (some ⟨g2,0,none⟩))/\W.cell? ⟨B2,1,none⟩=some (.int .u32 y)/\W.cell? ⟨B2,2,none⟩=some (.int .i64 f2)/\W.cell? ⟨wr.heap.size,0,none⟩=some (.int .i64 (A i).src)/\W.cell? ⟨wr.heap.size,1,none⟩=some (.int .i64 (A i).dst)/\W.cell? ⟨wr.heap.size,2,none⟩=some (.int .i64 (A i).r)/\W.cell? ⟨wr.heap.size,3,none⟩=some (.bool (A i).g))):=fun W hb=>by
      have hr:=HM.out.rel i _ _ Ez.out (Q0e hb);obtain⟨⟨p0,p1,p2⟩,⟨o0,o1,o2⟩,_⟩:=HM.out.held i _ hr;have hc:=(Cells.new wr 90 [.int .i64 (A i).src,.int .i64 (A i).dst,.int .i64 (A i).r,.bool (A i).g]).same (hb.block _ (by simp));exact⟨hr,p0,p1,p2,o0,o1,o2,hc.cell 0 _ rfl,hc.cell 1 _ rfl,hc.cell 2 _ rfl,hc.cell 3 _ rfl⟩
     obtain⟨Iz,p0,p1,p2,o0,o1,o2,m0,m1,m2,m3⟩:=HS.out _ (Below.refl _ _);obtain⟨ca,cb,cs,kc,LM⟩:=HM.out.capK i _ Hp.out Ab Iz;have M3:=Q0a LM;clear LM Iz;unfold Q2e at kc;go_wp2_with fail;refine kc.mono ?_;rintro rv w3 ⟨rfl,Ar⟩;have GU:=Q0a Ar;clear kc Ar p0 p1 p2 o0 o1 o2 m0 m1 m2 m3;obtain⟨Vl,-,-,-,-,-,-,-,-,m2,-⟩:=HS.out (w3.alloc (.cells #[.int .u32 ca,.int .i64 cb] 72)) (GU.out.alloc GU.out.size _);clear Vl;obtain⟨KP,p0,p1,p2,o0,o1,o2,m0,m1,m2',m3⟩:=HS.out (w3.alloc (.cells #[.int .u32 ca,.int .i64 (bits .and .i64 cb (A i).r)] 72)) (GU.out.alloc GU.out.size _);have kl:=M3.out _ KP
     unfold Q2e at kl;clear KP M3;go_wp2_with fail;refine kl.mono ?_;clear kl p0 p1 p2 o0 o1 o2 m0 m1 m2 m2' m3 HS GU;rintro rv w5 ⟨er,rfl,⟨rfl,GZ⟩|⟨Aa,AL⟩⟩
     ·have KC:=Q0a GZ;clear GZ;go_wp2_with fail;go_roundw
      case rel=>exact⟨i+1,by omega,by go_num,KC.out⟩
      case measure=>simp [intOf];omega
     ·have Br:(er != 0)=true:=by simp [Aa]
      have Ey:=Q0a AL;have B5:(0:Int)<=(i:Int):=by omega
      have FU:(i:Int)<=(cap:Int):=by omega
      have E6:(i:Int)<=(k:Int):=by omega
      clear AL c0 c1 c2 c3;go_wp2_with fail
      go_loopg [90] i (fun gk iv wl=>∃j:Nat,iv=.int .i64 j/\j+gk=i/\B er i j wl)
      case atStart=>exact⟨0,rfl,by omega,Ey.out⟩
      case round =>
       obtain⟨j,rfl,IF,Sa⟩:=hrel;have Sn:=Q0a IF;have L8:=Q0a Sa;clear IF Sa Ey;by_cases RA:j<i
       ·obtain⟨⟨p0,p1,p2⟩,⟨o0,o1,o2⟩,BR⟩:=HM.out.heldB er i j _ L8.out;obtain⟨g',off',Gs,_,hc,_⟩:=BR j (by omega);cases Gs;have c0:wr.cell? ⟨g,off+j*4,none⟩=some (.int .i64 (A j).src):=hc 0 _ rfl;have c1:wr.cell? ⟨g,off+j*4+1,none⟩=some (.int .i64 (A j).dst):=hc 1 _ rfl;have c2:wr.cell? ⟨g,off+j*4+2,none⟩=some (.int .i64 (A j).r):=hc 2 _ rfl;have c3:wr.cell? ⟨g,off+j*4+3,none⟩=some (.bool (A j).g):=hc 3 _ rfl;have CX:=Q0a (HM.out.relB er i j _ _ L8.out ((Below.refl wr.heap.size wr).alloc (J2y _) (.cells #[.int .i64 (A j).src,.int .i64 (A j).dst,.int .i64 (A j).r,.bool (A j).g] 90)));have kb:=HM.out.bare er i j _ RA CX.out
        unfold Q2e at kb;clear hc BR p0 p1 p2 o0 o1 o2;obtain⟨-,⟨o0,o1,o2⟩,-⟩:=HM.out.heldB er i j _ CX.out;go_wp2_with fail;refine kb.mono ?_;rintro rv w7 ⟨rfl,F5⟩;have FV:=Q0a F5;clear F5 kb c0 c1 c2 c3 o0 o1 o2 CX L8;go_wp2_with fail;go_roundg (i-(j+1))
        case measure=>have:=Sn.out;omega
        case rel=>exact⟨j+1,by go_num,by omega,FV.out⟩
       ·obtain rfl:j=i:=by have:=Sn.out;omega
        have HX:=Q0a (HM.out.back er j _ L8.out);clear L8;go_wp2_with fail
        first|exact⟨_,rfl,HX.out⟩|(go_ret;exact⟨_,rfl,HX.out⟩)
    ·obtain rfl:i=k:=by omega
     obtain⟨⟨p0,p1,p2⟩,⟨o0,o1,o2⟩,BR⟩:=HM.out.held i _ Ez.out;have ks:=HM.out.settle _ Hp.out Ez.out;unfold Q2e at ks;clear BR;go_wp2_with fail;refine ks.mono ?_;rintro rv w7 ⟨rfl,hq⟩;have HX:=Q0a hq;clear hq ks p0 p1 p2 o0 o1 o2 Ez;go_wp2_with fail
     first|exact⟨_,rfl,HX.out⟩|(go_ret;exact⟨_,rfl,HX.out⟩)
structure SetW (s g1 x g2 y:Nat) (f1 f2:Int) (F B1 B2:Nat) (a0:Option Addr) (n:Nat) (A:Nat->Mv) (R1 R2 RL:Nat->World->Prop) (Q:World->Prop):Prop where
 held1:∀k W,R1 k W->Box3 B1 g1 x f1 W/\Box3 B2 g2 y f2 W/\IsMv W a0 n A/\W.cell? ⟨s,1,none⟩=some (.pointer (some ⟨F,0,none⟩))
 rel1:∀k W W',R1 k W->Below W.heap.size W W'->R1 k W'
 node1:∀k W,k<n->R1 k W->∃id:Int,(∀W',Below W.heap.size W W'->Calls prog 156 #[.pointer (some ⟨s,0,none⟩),Q2e g1 x f1,.int .i64 (A k).src] W' (Told W' (.int .i64 id))) /\
  ∀W',Below W.heap.size W W'->Calls prog 105 #[.pointer (some ⟨F,0,none⟩),.int .i64 id,.int .i64 y,.int .i64 (A k).dst] W' fun rv w5=>(∃a b:Value,rv=.returned (.tuple #[a,b]))/\(∀b,W.heap.size<=b->b<W'.heap.size->w5.heap[b]?=W'.heap[b]?)/\R1 (k+1) w5
 mid:∀W,R1 n W->R2 0 W
 held2:∀k W,R2 k W->Box3 B1 g1 x f1 W/\Box3 B2 g2 y f2 W/\IsMv W a0 n A/\W.cell? ⟨s,1,none⟩=some (.pointer (some ⟨F,0,none⟩))
 rel2:∀k W W',R2 k W->Below W.heap.size W W'->R2 k W'
 skip:∀k W,k<n->(A k).g=false->R2 k W->R2 (k+1) W
 node2:∀k W,k<n->(A k).g=true->R2 k W->∃id:Int,(∀W',Below W.heap.size W W'->Calls prog 156 #[.pointer (some ⟨s,0,none⟩),Q2e g1 x f1,.int .i64 (A k).src] W' (Told W' (.int .i64 id))) /\
  ∀W',Below W.heap.size W W'->Calls prog 174 #[.pointer (some ⟨F,0,none⟩),.int .i64 id] W' fun rv w5=>(∃v,rv=.returned v)/\(∀b,W.heap.size<=b->b<W'.heap.size->w5.heap[b]?=W'.heap[b]?)/\RL k w5
 heldL:∀k W,RL k W->Box3 B1 g1 x f1 W/\Box3 B2 g2 y f2 W/\IsMv W a0 n A/\W.cell? ⟨s,1,none⟩=some (.pointer (some ⟨F,0,none⟩))
 relL:∀k W W',RL k W->Below W.heap.size W W'->RL k W'
 bare:∀k W,k<n->RL k W->Calls prog 99 #[.pointer (some ⟨s,0,none⟩),Q2e g1 x f1,.int .i64 (A k).src] W fun rv w5=>rv=.returned (.tuple #[])/\R2 (k+1) w5
 last:∀W,R2 n W->Q W
theorem Q9H {w:World} {s g1 x g2 y:Nat} {f1 f2:Int} {F:Nat} {a0:Option Addr} {n cap:Nat} {A:Nat->Mv} {R1 R2 RL:Nat->World->Prop} {Q:World->Prop}
  (hW:SetW s g1 x g2 y f1 f2 F w.heap.size (w.heap.size+1) a0 n A R1 R2 RL Q) (hm:n<=4611686018427387904) (hy:y<4294967296)
  (h0:R1 0 ((w.alloc (.cells #[.pointer (some ⟨g1,0,none⟩),.int .u32 x,.int .i64 f1] 191)).alloc (.cells #[.pointer (some ⟨g2,0,none⟩),.int .u32 y,.int .i64 f2] 191))) :
  Calls prog 100 #[.pointer (some ⟨s,0,none⟩),Q2e g1 x f1,Q2e g2 y f2,.slice a0 n cap] w fun rv w'=>rv=.returned (.tuple #[])/\Q w':=by
 have HW:=Q0a hW;have HR:=Q0a h0;clear hW h0;unfold Q2e;go_enter func100,ntmps100;go_wp2_with fail;generalize hB1:w.heap.size=B1 at *
 have LT:IntKind.i64.wrap (y:Int)=(y:Int):=Go.IntWalk.i64_in _ (by omega)
 go_loopg [14] n (fun gk iv wl=>∃k:Nat,iv=.int .i64 k/\k+gk=n/\R1 k wl)
 case atStart=>exact⟨0,rfl,by omega,HR.out⟩
 case round =>
  obtain⟨k,rfl,AH,hr⟩:=hrel;have Cv:=Q0a AH;have Ez:=Q0a hr;clear AH hr HR;by_cases Ab:k<n
  ·obtain⟨⟨p0,p1,p2⟩,⟨o0,o1,o2⟩,BR,Ct⟩:=HW.out.held1 k _ Ez.out;obtain⟨g,off,rfl,_,hc,_⟩:=BR k Ab;have c0:wr.cell? ⟨g,off+k*4,none⟩=some (.int .i64 (A k).src):=hc 0 _ rfl;have c1:wr.cell? ⟨g,off+k*4+1,none⟩=some (.int .i64 (A k).dst):=hc 1 _ rfl;have c2:wr.cell? ⟨g,off+k*4+2,none⟩=some (.int .i64 (A k).r):=hc 2 _ rfl;have c3:wr.cell? ⟨g,off+k*4+3,none⟩=some (.bool (A k).g):=hc 3 _ rfl;clear hc BR p0 p1 p2 o0 o1 o2 Ct;have SR:(0:Int)<=(y:Int):=by omega
   have UQ:(y:Int)<4294967296:=by omega
   go_wp2_with fail;have BL:Hid (∀W5:World,R1 (k+1) W5->Cells W5 wr.heap.size 90 [.int .i64 (A k).src,.int .i64 (A k).dst,.int .i64 (A k).r,.bool (A k).g]->(W5.cell? ⟨s,1,none⟩=some (.pointer (some ⟨F,0,none⟩))/\W5.cell? ⟨B1,0,none⟩=some (.pointer (some ⟨g1,0,none⟩))/\W5.cell? ⟨B1,1,none⟩=some (.int .u32 x)/\W5.cell? ⟨B1,2,none⟩=some (.int .i64 f1)/\W5.cell? ⟨B1+1,1,none⟩=some (.int .u32 y)/\W5.cell? ⟨wr.heap.size,0,none⟩=some (.int .i64 (A k).src)/\W5.cell? ⟨wr.heap.size,1,none⟩=some (.int .i64 (A k).dst))):=fun W5 hr hc=>by
    obtain⟨⟨p0,p1,p2⟩,⟨o0,o1,o2⟩,_,Ct⟩:=HW.out.held1 (k+1) _ hr;exact⟨Ct,p0,p1,p2,o1,hc.cell 0 _ rfl,hc.cell 1 _ rfl⟩
   have Da:=Q0a (Cells.new wr 90 [.int .i64 (A k).src,.int .i64 (A k).dst,.int .i64 (A k).r,.bool (A k).g]);have B4:Hid (∀W,Below (wr.alloc (.cells #[.int .i64 (A k).src,.int .i64 (A k).dst,.int .i64 (A k).r,.bool (A k).g] 90)).heap.size (wr.alloc (.cells #[.int .i64 (A k).src,.int .i64 (A k).dst,.int .i64 (A k).r,.bool (A k).g] 90)) W->Below wr.heap.size wr W/\(W.cell? ⟨s,1,none⟩=some (.pointer (some ⟨F,0,none⟩))/\W.cell? ⟨B1,0,none⟩=some (.pointer (some ⟨g1,0,none⟩))/\W.cell? ⟨B1,1,none⟩=some (.int .u32 x)/\W.cell? ⟨B1,2,none⟩=some (.int .i64 f1)/\W.cell? ⟨B1+1,1,none⟩=some (.int .u32 y)/\W.cell? ⟨wr.heap.size,0,none⟩=some (.int .i64 (A k).src)/\W.cell? ⟨wr.heap.size,1,none⟩=some (.int .i64 (A k).dst))):=fun W hb=>by
    have Ak:=Q0e hb;have hr:=HW.out.rel1 k _ _ Ez.out Ak;obtain⟨⟨p0,p1,p2⟩,⟨o0,o1,o2⟩,_,Ct⟩:=HW.out.held1 k _ hr;have hc:=(Cells.new wr 90 [.int .i64 (A k).src,.int .i64 (A k).dst,.int .i64 (A k).r,.bool (A k).g]).same (hb.block _ (by simp));exact⟨Ak,Ct,p0,p1,p2,o1,hc.cell 0 _ rfl,hc.cell 1 _ rfl⟩
   obtain⟨id,Ej,Bz⟩:=HW.out.node1 k _ Ab Ez.out;have Ec:=Q0a Ej;have Dh:=Q0a Bz;have hE:=(B4.out _ (Below.refl _ _)).2;have hD:=(B4.out _ (Below.refl _ _).drew)
   have kn:=Ec.out _ hD.1;have hF:=hD.2;unfold Q2e at kn;clear Ej Bz c0 c1 c2 c3 hD
   go_region_held3 (fun W=>W.cell? ⟨s,1,none⟩=some (.pointer (some ⟨F,0,none⟩))/\W.cell? ⟨B1,0,none⟩=some (.pointer (some ⟨g1,0,none⟩))/\W.cell? ⟨B1,1,none⟩=some (.int .u32 x)/\W.cell? ⟨B1,2,none⟩=some (.int .i64 f1)/\W.cell? ⟨B1+1,1,none⟩=some (.int .u32 y)/\W.cell? ⟨wr.heap.size,0,none⟩=some (.int .i64 (A k).src)/\W.cell? ⟨wr.heap.size,1,none⟩=some (.int .i64 (A k).dst)) (first|exact hE|exact hF|exact hG|exact KI)
    (first|(go_at_call 156;refine kn.mono ?_;rintro rv w3 ⟨rfl,Ar⟩;have hH:=B4.out w3 ((Below.refl _ _).drew.trans (Ar.mono (J2y _)));have ka:=Dh.out w3 hH.1;have hG:=hH.2;have JR:=Q0a (Da.out.same (Ar.block _ (by simp)));clear hH Ar)|(go_at_call 105;refine ka.mono ?_;rintro rv w5 ⟨⟨ra,rb,rfl⟩,Lx,GZ⟩;have KI:=BL.out w5 GZ (JR.out.same (Lx _ (J2y _) JR.out.lt));have KC:=Q0a GZ;clear GZ Lx))
   clear hE hF hG KI B4 Ec Dh ka BL Da JR;go_wp2_with fail;go_roundg (n-(k+1))
   case measure=>have:=Cv.out;omega
   case rel=>exact⟨k+1,by go_num,by omega,KC.out⟩
  ·obtain rfl:k=n:=by have:=Cv.out;omega
   have CX:=Q0a (HW.out.mid _ Ez.out);clear Ez;go_wp2_with fail
   go_loopg [36] k (fun gk iv wl=>∃i:Nat,iv=.int .i64 i/\i+gk=k/\R2 i wl)
   case atStart=>exact⟨0,rfl,by omega,CX.out⟩
   case round =>
    obtain⟨i,rfl,IO,hr⟩:=hrel;have PG:=Q0a IO;have K4:=Q0a hr;clear IO hr CX;by_cases Ab:i<k
    ·obtain⟨-,-,BR,-⟩:=HW.out.held2 i _ K4.out;obtain⟨g,off,rfl,_,hc,_⟩:=BR i Ab;have c0:wr.cell? ⟨g,off+i*4,none⟩=some (.int .i64 (A i).src):=hc 0 _ rfl;have c1:wr.cell? ⟨g,off+i*4+1,none⟩=some (.int .i64 (A i).dst):=hc 1 _ rfl;have c2:wr.cell? ⟨g,off+i*4+2,none⟩=some (.int .i64 (A i).r):=hc 2 _ rfl;have c3:wr.cell? ⟨g,off+i*4+3,none⟩=some (.bool (A i).g):=hc 3 _ rfl;clear hc BR;have BI:Below wr.heap.size wr (wr.alloc (.cells #[.int .i64 (A i).src,.int .i64 (A i).dst,.int .i64 (A i).r,.bool (A i).g] 90)):=(Below.refl _ _).alloc (J2y _) _;by_cases hg:(A i).g=true
     ·have B4:Hid (∀W,Below (wr.alloc (.cells #[.int .i64 (A i).src,.int .i64 (A i).dst,.int .i64 (A i).r,.bool (A i).g] 90)).heap.size (wr.alloc (.cells #[.int .i64 (A i).src,.int .i64 (A i).dst,.int .i64 (A i).r,.bool (A i).g] 90)) W->Below wr.heap.size wr W/\(W.cell? ⟨s,1,none⟩=some (.pointer (some ⟨F,0,none⟩))/\W.cell? ⟨B1,0,none⟩=some (.pointer (some ⟨g1,0,none⟩))/\W.cell? ⟨B1,1,none⟩=some (.int .u32 x)/\W.cell? ⟨B1,2,none⟩=some (.int .i64 f1)/\W.cell? ⟨wr.heap.size,0,none⟩=some (.int .i64 (A i).src))):=fun W hb=>by
       have Ak:=Q0e hb;have hr:=HW.out.rel2 i _ _ K4.out Ak;obtain⟨⟨p0,p1,p2⟩,_,_,Ct⟩:=HW.out.held2 i _ hr;have hc:=(Cells.new wr 90 [.int .i64 (A i).src,.int .i64 (A i).dst,.int .i64 (A i).r,.bool (A i).g]).same (hb.block _ (by simp));exact⟨Ak,Ct,p0,p1,p2,hc.cell 0 _ rfl⟩
      obtain⟨id,Ej,Jk⟩:=HW.out.node2 i _ Ab hg K4.out;have Ec:=Q0a Ej;have DQ:=Q0a Jk;have hE:=(B4.out _ (Below.refl _ _)).2;have hD:=(B4.out _ (Below.refl _ _).drew)
      have kn:=Ec.out _ hD.1;have hF:=hD.2;rw [hg] at c3;unfold Q2e at kn;clear Ej Jk hD BI;have Da:=Q0a (Cells.new wr 90 [.int .i64 (A i).src,.int .i64 (A i).dst,.int .i64 (A i).r,.bool (A i).g]);have BL:Hid (∀W5:World,RL i W5->Cells W5 wr.heap.size 90 [.int .i64 (A i).src,.int .i64 (A i).dst,.int .i64 (A i).r,.bool (A i).g]->(W5.cell? ⟨s,1,none⟩=some (.pointer (some ⟨F,0,none⟩))/\W5.cell? ⟨B1,0,none⟩=some (.pointer (some ⟨g1,0,none⟩))/\W5.cell? ⟨B1,1,none⟩=some (.int .u32 x)/\W5.cell? ⟨B1,2,none⟩=some (.int .i64 f1)/\W5.cell? ⟨wr.heap.size,0,none⟩=some (.int .i64 (A i).src))):=fun W5 hr hc=>by
       obtain⟨⟨p0,p1,p2⟩,_,_,Ct⟩:=HW.out.heldL i _ hr;exact⟨Ct,p0,p1,p2,hc.cell 0 _ rfl⟩
      have Em:Hid (∀W,RL i W->_):=fun W=>HW.out.bare i W Ab
      rw [hg] at B4 Da BL kn hE hF;have HG:=Q0a hg;clear hg;go_wp2_with fail
      go_region_held3 (fun W=>W.cell? ⟨s,1,none⟩=some (.pointer (some ⟨F,0,none⟩))/\W.cell? ⟨B1,0,none⟩=some (.pointer (some ⟨g1,0,none⟩))/\W.cell? ⟨B1,1,none⟩=some (.int .u32 x)/\W.cell? ⟨B1,2,none⟩=some (.int .i64 f1)/\W.cell? ⟨wr.heap.size,0,none⟩=some (.int .i64 (A i).src)) (first|exact hE|exact hF|exact hG|exact KI)
       (first|(go_at_call 156;refine kn.mono ?_;rintro rv w3 ⟨rfl,Ar⟩;have hH:=B4.out w3 ((Below.refl _ _).drew.trans (Ar.mono (J2y _)));have ka:=DQ.out w3 hH.1;have hG:=hH.2;have JR:=Q0a (Da.out.same (Ar.block _ (by simp)));clear hH Ar)|(go_at_call 174;refine ka.mono ?_;rintro rv w5 ⟨⟨v5,rfl⟩,Lx,GZ⟩;have KI:=BL.out w5 GZ (JR.out.same (Lx _ (J2y _) JR.out.lt));have KC:=Q0a GZ;clear GZ Lx))
      have kb:=Em.out w5 KC.out;unfold Q2e at kb;clear hE hF hG B4 Ec DQ ka BL Da JR KC;obtain⟨d0,d1,d2,d3,d4⟩:=KI;go_wp2_with fail;refine kb.mono ?_;rintro rv w7 ⟨rfl,RO⟩;have SO:=Q0a RO;clear RO kb d0 d1 d2 d3 d4 Em;go_wp2_with fail;go_roundg (k-(i+1))
      case measure=>have:=PG.out;omega
      case rel=>exact⟨i+1,by go_num,by omega,SO.out⟩
     ·have KJ:(A i).g=false:=by simpa using hg
      have HX:=Q0a (HW.out.rel2 _ _ _ (HW.out.skip i _ Ab KJ K4.out) BI);rw [KJ] at c3 HX;clear hg KJ BI K4;go_wp2_with fail;go_roundg (k-(i+1))
      case measure=>have:=PG.out;omega
      case rel=>exact⟨i+1,by go_num,by omega,HX.out⟩
    ·obtain rfl:i=k:=by have:=PG.out;omega
     have HX:=Q0a (HW.out.last _ K4.out);clear K4;go_wp2_with fail
     first|exact⟨rfl,HX.out⟩|(go_end0;exact⟨rfl,HX.out⟩)
end Go.Proofs.YtfidemmgofcnmaaGreatDoor

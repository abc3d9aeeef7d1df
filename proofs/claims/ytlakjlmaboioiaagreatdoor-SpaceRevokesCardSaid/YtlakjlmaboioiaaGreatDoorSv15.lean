/- SpaceRevokes returns true at every input. No condition. Part of its proof. -/
import Derived.Test.YtlakjlmaboioiaaGreatDoorSv10
import Derived.DeepKeys3
set_option linter.unusedVariables false
namespace Go.Proofs.YtlakjlmaboioiaaGreatDoor
open Go.RowKit Go.Proofs.Tryz
structure Ent where
 h:Nat
 r:Nat
 nd:Nat
def Ent.a (e:Ent):Nat:=e.h+1+4294967296*e.r
def Q0t:Option Ent->Nat
 | none=>0
 | some e=>e.a
def Q0V:Option Ent->Nat
 | none=>0
 | some e=>e.nd
theorem codeA_zero {o:Option Ent}:Q0t o=0↔o=none:=by
 cases o with
 | none=>simp [Q0t]
 | some e=>simp [Q0t,Ent.a]
structure TB where
 lf:Nat->Nat
 en:Nat->Option Ent
def TB.emp:TB:=⟨fun _=>0,fun _=>none⟩
structure TB.In (t:TB) (m:List Nat) (a:Nat):Prop where
 root:∀k,k<16->Q0u m (a+8*k)=t.lf k
 ent:∀s,s<256->t.lf (s/16)≠0->Q0u m (t.lf (s/16)+16*(s%16))=Q0t (t.en s)/\Q0u m (t.lf (s/16)+16*(s%16)+8)=Q0V (t.en s)
 hole:∀s,s<256->t.lf (s/16)=0->t.en s=Option.none
def TB.Full (t:TB):Prop:=∀k,k<16->t.lf k≠0->∃s,s<256/\s/16=k/\t.en s≠none
def TB.Nil (t:TB):Prop:=(∀k,k<16->t.lf k=0)/\∀s,s<256->t.en s=none
theorem TB.emp_nil:TB.emp.Nil:=⟨fun _ _=>rfl,fun _ _=>rfl⟩
theorem TB.In.kept {t:TB} {m m':List Nat} {a:Nat} (h:t.In m a) (k1:Kept m m' a 128) (k2:∀k,k<16->t.lf k≠0->Kept m m' (t.lf k) 256):t.In m' a:=by
 refine⟨fun k hk=>?_,fun s hs hl=>?_,h.hole⟩
 ·rw [(k1.sub (b:=a+8*k) (k:=8) (by omega) (by omega)).word];exact h.root k hk
 ·have:=k2 (s/16) (by omega) hl;rw [(this.sub (b:=t.lf (s/16)+16*(s%16)) (k:=8) (by omega) (by omega)).word,(this.sub (b:=t.lf (s/16)+16*(s%16)+8) (k:=8) (by omega) (by omega)).word];exact h.ent s hs hl
theorem TB.Nil.new {t:TB} (hn:t.Nil) {m:List Nat} {a:Nat} (h:∀j,a<=j->j<a+128->m[j]?=some 0):t.In m a:=by
 refine⟨fun k hk=>?_,fun s hs hl=>absurd (hn.1 (s/16) (by omega)) hl,fun s hs _=>hn.2 s hs⟩;have:(m.drop (a+8*k)).take 8=List.replicate 8 0:=by
  apply J3u
  intro j;rw [J3P,J3N];split
  ·rw [J4o];exact h _ (by omega) (by omega)
  ·rfl
 unfold Q0u;rw [this,hn.1 k hk];rfl
theorem TB.Nil.full {t:TB} (hn:t.Nil):t.Full:=fun k hk h=>absurd (hn.1 k hk) h
def TB.setE (t:TB) (s:Nat) (o:Option Ent):TB:={t with en:=fun x=>if x=s then o else t.en x}
def TB.setL (t:TB) (k a:Nat):TB:={t with lf:=fun x=>if x=k then a else t.lf x}
theorem TB.In.set {t:TB} {m m':List Nat} {a s:Nat} {o:Option Ent} (h:t.In m a) (hs:s<256) (hl:t.lf (s/16)≠0) (hk:∀b n,b+n<=t.lf (s/16)+16*(s%16)∨t.lf (s/16)+16*(s%16)+16<=b->Kept m m' b n)
  (ha:Q0u m' (t.lf (s/16)+16*(s%16))=Q0t o) (hb:Q0u m' (t.lf (s/16)+16*(s%16)+8)=Q0V o) (AB:a+128<=t.lf (s/16)∨t.lf (s/16)+256<=a)
  (EV:∀k,k<16->k≠s/16->t.lf k≠0->t.lf k+256<=t.lf (s/16)∨t.lf (s/16)+256<=t.lf k):(t.setE s o).In m' a:=by
 refine⟨fun k Bz=>?_,fun x hx CD=>?_,fun x hx CD=>?_⟩
 ·show Q0u m' _=t.lf k;rw [(hk (a+8*k) 8 (by omega)).word];exact h.root k Bz
 ·have EO:t.lf (x/16)≠0:=CD;show Q0u m' (t.lf (x/16)+_)=Q0t (if x=s then o else t.en x)/\Q0u m' (t.lf (x/16)+_+8)=Q0V (if x=s then o else t.en x);by_cases e:x=s
  ·subst e;rw [if_pos rfl];exact⟨ha,hb⟩
  ·rw [if_neg e];by_cases e2:x/16=s/16
   ·rw [e2] at EO ⊢;have Aa:x%16≠s%16:=by omega
    have h0:=h.ent x hx (by rw [e2];exact EO);rw [e2] at h0;rw [(hk (t.lf (s/16)+16*(x%16)) 8 (by omega)).word,(hk (t.lf (s/16)+16*(x%16)+8) 8 (by omega)).word];exact h0
   ·have:=EV (x/16) (by omega) e2 EO;rw [(hk (t.lf (x/16)+16*(x%16)) 8 (by omega)).word,(hk (t.lf (x/16)+16*(x%16)+8) 8 (by omega)).word];exact h.ent x hx EO
 ·have EO:t.lf (x/16)=0:=CD;show (if x=s then o else t.en x)=none;by_cases e:x=s
  ·subst e;exact absurd EO hl
  ·rw [if_neg e];exact h.hole x hx EO
theorem TB.In.grow {t:TB} {m m':List Nat} {a k L:Nat} (h:t.In m a) (hk:k<16) (hl:t.lf k=0) (hL:L≠0) (B6:Q0u m' (a+8*k)=L) (hz:∀j,L<=j->j<L+256->m'[j]?=some 0)
  (hr:∀x,x<16->x≠k->Kept m m' (a+8*x) 8) (EV:∀x,x<16->t.lf x≠0->Kept m m' (t.lf x) 256):(t.setL k L).In m' a:=by
 refine⟨fun x hx=>?_,fun s hs Fl=>?_,fun s hs Fl=>?_⟩
 ·show Q0u m' _=if x=k then L else t.lf x
  by_cases e:x=k
  ·subst e;rw [if_pos rfl];exact B6
  ·rw [if_neg e,(hr x hx e).word];exact h.root x hx
 ·show Q0u m' ((if s/16=k then L else t.lf (s/16))+_)=Q0t (t.en s)/\Q0u m' ((if s/16=k then L else t.lf (s/16))+_+8)=Q0V (t.en s);by_cases e:s/16=k
  ·rw [if_pos e];have hn:=h.hole s hs (by rw [e];exact hl);rw [hn];have zw:∀b,L<=b->b+8<=L+256->Q0u m' b=0:=fun b h1 h2=>by
    have:(m'.drop b).take 8=List.replicate 8 0:=by
     apply J3u
     intro j;rw [J3P,J3N];split
     ·rw [J4o];exact hz _ (by omega) (by omega)
     ·rfl
    unfold Q0u;rw [this];rfl
   exact⟨zw _ (by omega) (by omega),zw _ (by omega) (by omega)⟩
  ·rw [if_neg e];have EK:t.lf (s/16)≠0:=by
    have:(if s/16=k then L else t.lf (s/16))≠0:=Fl
    rwa [if_neg e] at this
   have:=EV (s/16) (by omega) EK;rw [(this.sub (b:=t.lf (s/16)+16*(s%16)) (k:=8) (by omega) (by omega)).word,(this.sub (b:=t.lf (s/16)+16*(s%16)+8) (k:=8) (by omega) (by omega)).word];exact h.ent s hs EK
 ·have EK:(if s/16=k then L else t.lf (s/16))=0:=Fl;show t.en s=none;by_cases e:s/16=k
  ·rw [if_pos e] at EK;exact absurd EK hL
  ·rw [if_neg e] at EK;exact h.hole s hs EK
theorem TB.In.drop {t:TB} {m m':List Nat} {a k:Nat} (h:t.In m a) (hk:k<16) (he:∀s,s<256->s/16=k->t.en s=none) (B6:Q0u m' (a+8*k)=0)
  (hr:∀x,x<16->x≠k->Kept m m' (a+8*x) 8) (EV:∀x,x<16->x≠k->t.lf x≠0->Kept m m' (t.lf x) 256):(t.setL k 0).In m' a:=by
 refine⟨fun x hx=>?_,fun s hs Fl=>?_,fun s hs Fl=>?_⟩
 ·show Q0u m' _=if x=k then 0 else t.lf x
  by_cases e:x=k
  ·subst e;rw [if_pos rfl];exact B6
  ·rw [if_neg e,(hr x hx e).word];exact h.root x hx
 ·have EH:(if s/16=k then 0 else t.lf (s/16))≠0:=Fl;have e:s/16≠k:=fun e=>EH (by rw [if_pos e])
  rw [if_neg e] at EH;show Q0u m' ((if s/16=k then 0 else t.lf (s/16))+_)=Q0t (t.en s)/\Q0u m' ((if s/16=k then 0 else t.lf (s/16))+_+8)=Q0V (t.en s);rw [if_neg e];have:=EV (s/16) (by omega) e EH;rw [(this.sub (b:=t.lf (s/16)+16*(s%16)) (k:=8) (by omega) (by omega)).word,(this.sub (b:=t.lf (s/16)+16*(s%16)+8) (k:=8) (by omega) (by omega)).word];exact h.ent s hs EH
 ·have EH:(if s/16=k then 0 else t.lf (s/16))=0:=Fl;show t.en s=none;by_cases e:s/16=k
  ·exact he s hs e
  ·rw [if_neg e] at EH;exact h.hole s hs EH
def TB.lvs (t:TB):List Nat:=(List.range 16).filterMap fun k=>if t.lf k=0 then none else some (t.lf k)
def TB.nds (t:TB):List Nat:=(List.range 256).filterMap fun s=>(t.en s).map Ent.nd
def TB.cost (t:TB):Int:=256*(t.lvs.length:Int)+48*(t.nds.length:Int)
theorem mem_lvs {t:TB} {a:Nat}:a∈t.lvs↔∃k,k<16/\t.lf k=a/\a≠0:=by
 unfold TB.lvs;simp only [J2a,J2b]
 constructor
 ·rintro⟨k,hk,h⟩;split at h
  ·cases h
  ·rename_i h0;cases h;exact⟨k,hk,rfl,h0⟩
 ·rintro⟨k,hk,rfl,h0⟩;exact⟨k,hk,by rw [if_neg h0]⟩
theorem mem_nds {t:TB} {a:Nat}:a∈t.nds↔∃s e,s<256/\t.en s=some e/\e.nd=a:=by
 unfold TB.nds;simp only [J2a,J2b]
 constructor
 ·rintro⟨s,hs,h⟩;obtain⟨e,h1,h2⟩:=J5J.1 h;exact⟨s,e,hs,h1,h2⟩
 ·rintro⟨s,e,hs,h1,h2⟩;exact⟨s,hs,by rw [h1,<- h2];rfl⟩
theorem Q4D {α β:Type} {f g:α->Option β}:∀{l:List α},(∀x∈l,f x=g x)->l.filterMap f=l.filterMap g
 | [],_=>rfl
 | x::r,h=>by rw [J1Y,J1Y,h x (by simp),Q4D (l:=r) fun y hy=>h y (by simp [hy])]
theorem Q8a {α β:Type} (f g:Nat->Option β) (n i:Nat) (hi:i<n) (h:∀j,j<n->j≠i->g j=f j):∃A B,(List.range n).filterMap f=A++(f i).toList++B/\(List.range n).filterMap g=A++(g i).toList++B:=by
 have e:List.range n=List.range i++i::(List.range' (i+1) (n-(i+1))):=by
  rw [List.range_eq_range',List.range_eq_range'];have h1:List.range' 0 n=List.range' 0 i++List.range' i (n-i):=by
   have:=List.range'_append (s:=0) (m:=i) (n:=n-i) (step:=1);simp only [Nat.one_mul,J4q] at this;rw [this];congr 1;omega
  rw [h1];congr 1;have:n-i=(n-(i+1))+1:=by omega
  rw [this,List.range'_succ]
 have s1:∀(f:Nat->Option β),(List.range n).filterMap f=(List.range i).filterMap f++(f i).toList++(List.range' (i+1) (n-(i+1))).filterMap f:=fun f=>by
  rw [e,J1X,J1Y];cases f i <;> simp
 refine⟨(List.range i).filterMap f,(List.range' (i+1) (n-(i+1))).filterMap f,s1 f,?_⟩;rw [s1 g];have c1:(List.range i).filterMap g=(List.range i).filterMap f:=Q4D fun j hj=>h j (by have:=J2b.1 hj;omega) (by have:=J2b.1 hj;omega)
 have c2:(List.range' (i+1) (n-(i+1))).filterMap g=(List.range' (i+1) (n-(i+1))).filterMap f:=Q4D fun j hj=>by
  have:=List.mem_range'_1.1 hj;exact h j (by omega) (by omega)
 rw [c1,c2]
theorem TB.nds_set {t:TB} {s:Nat} (hs:s<256) {e:Ent} (h0:t.en s=none):(t.setE s (some e)).nds.Perm (e.nd::t.nds):=by
 obtain⟨A,B,e1,e2⟩:=Q8a (α:=Nat) (fun s=>(t.en s).map Ent.nd) (fun x=>((t.setE s (some e)).en x).map Ent.nd) 256 s hs (fun j _ hj=>by simp [TB.setE,hj]);unfold TB.nds;rw [e1,e2];simp only [TB.setE,if_true,h0,J3A,Option.map_none,J5K,J5L,J3S];rw [J2M];exact J5q
theorem TB.nds_clr {t:TB} {s:Nat} (hs:s<256) {e:Ent} (h0:t.en s=some e):t.nds.Perm (e.nd::(t.setE s none).nds):=by
 obtain⟨A,B,e1,e2⟩:=Q8a (α:=Nat) (fun s=>(t.en s).map Ent.nd) (fun x=>((t.setE s none).en x).map Ent.nd) 256 s hs (fun j _ hj=>by simp [TB.setE,hj]);unfold TB.nds;rw [e1,e2];simp only [TB.setE,if_true,h0,J3A,Option.map_none,J5K,J5L,J3S];rw [J2M];exact J5q
theorem TB.nds_same {t:TB} {s:Nat} (hs:s<256) {e e':Ent} (h0:t.en s=some e) (hn:e'.nd=e.nd):(t.setE s (some e')).nds=t.nds:=by
 unfold TB.nds;refine Q4D fun x _=>?_
 by_cases h:x=s
 ·subst h;simp [TB.setE,h0,hn]
 ·simp [TB.setE,h]
theorem TB.lvs_new {t:TB} {k a:Nat} (hk:k<16) (h0:t.lf k=0) (ha:a≠0):(t.setL k a).lvs.Perm (a::t.lvs):=by
 obtain⟨A,B,e1,e2⟩:=Q8a (α:=Nat) (fun k=>if t.lf k=0 then none else some (t.lf k)) (fun x=>if (t.setL k a).lf x=0 then none else some ((t.setL k a).lf x)) 16 k hk (fun j _ hj=>by simp [TB.setL,hj]);unfold TB.lvs;rw [e1,e2];simp only [TB.setL,if_true,h0,if_neg ha,J5K,J5L,J3S];rw [J2M];exact J5q
theorem TB.lvs_drop {t:TB} {k:Nat} (hk:k<16) (h0:t.lf k≠0):t.lvs.Perm (t.lf k::(t.setL k 0).lvs):=by
 obtain⟨A,B,e1,e2⟩:=Q8a (α:=Nat) (fun k=>if t.lf k=0 then none else some (t.lf k)) (fun x=>if (t.setL k 0).lf x=0 then none else some ((t.setL k 0).lf x)) 16 k hk (fun j _ hj=>by simp [TB.setL,hj]);unfold TB.lvs;rw [e1,e2];simp only [TB.setL,if_true,if_neg h0,J5K,J5L,J3S];rw [J2M];exact J5q
theorem TB.Nil.lists {t:TB} (hn:t.Nil):t.lvs=[]/\t.nds=[]/\t.cost=0:=by
 have h1:t.lvs=[]:=by
  apply J5M.2
  intro a ha;obtain⟨k,hk,e,h0⟩:=mem_lvs.1 ha;rw [hn.1 k hk] at e;exact h0 e.symm
 have h2:t.nds=[]:=by
  apply J5M.2
  intro a ha;obtain⟨s,e,hs,h,_⟩:=mem_nds.1 ha;rw [hn.2 s hs] at h;cases h
 refine⟨h1,h2,?_⟩;unfold TB.cost;rw [h1,h2];rfl
theorem TB.nil_of {t:TB} (hf:t.Full) (h:∀s,s<256->t.en s=none):t.Nil:=by
 refine⟨fun k hk=>?_,h⟩
 apply Classical.byContradiction
 intro h0;obtain⟨s,hs,_,Aa⟩:=hf k hk h0;exact Aa (h s hs)
theorem TB.cost_nn (t:TB):0<=t.cost:=by unfold TB.cost;omega
def xcP (tb:Nat->TB) (id:Int) (i:Nat) (o:Option Pl):Int:=match o with
 | some p=>if (p.fac:Int)=id then (tb i).cost else 0
 | none=>0
def xcOf (l:List Pl) (tb:Nat->TB) (id:Int):Int:=((List.range 256).map fun i=>xcP tb id i l[i]?).sum
def Q3j (tb:Nat->TB):List Nat:=(List.range 256).flatMap fun i=>(tb i).lvs
def Q4c (tb:Nat->TB):List Nat:=(List.range 256).flatMap fun i=>(tb i).nds
structure TPI (S:CO) (tb:Nat->TB):Prop where
 tin:∀(i:Nat) (p:Pl),S.l[i]?=some p->p.st=1->p.kind=2->(tb i).In S.P.a.mem p.at_
 full:∀i,i<256->(tb i).Full
 nil:∀(i:Nat) (p:Pl),S.l[i]?=some p->¬(p.st=1/\p.kind=2)->(tb i).Nil
 lvs:(Q3j tb).Perm (S.P.usedOf 7)
 nds:(Q4c tb).Perm (S.P.usedOf 6)
 xc:∀id,S.xc id=xcOf S.l tb id
theorem Q3k {n:Nat} {f g:Nat->Int} (h:∀i,i<n->f i=g i):((List.range n).map f).sum=((List.range n).map g).sum:=by
 congr 1;exact J3V fun i hi=>h i (J2b.1 hi)
theorem Q7f {l l':List Pl} {tb tb':Nat->TB} {id:Int} (h:∀i,i<256->xcP tb id i l[i]?=xcP tb' id i l'[i]?):xcOf l tb id=xcOf l' tb' id:=Q3k h
theorem Z1I {l:List Pl} {tb:Nat->TB} {i:Nat} {q:Pl} (hi:i<l.length) (hn:(tb i).Nil) (id:Int):xcOf (l.set i q) tb id=xcOf l tb id:=by
 refine Q7f fun j hj=>?_
 by_cases e:i=j
 ·subst e;have h0:=(TB.Nil.lists hn).2.2;have hp:∀o,xcP tb id i o=0:=fun o=>by
   unfold xcP;cases o with
   | none=>rfl
   | some p=>simp only [h0];split <;> rfl
  rw [hp,hp]
 ·rw [J5t e]
theorem Q2R:Q0c 7=256:=rfl
theorem Q5e:Q0c 6=48:=rfl
theorem Z5W:costK 2=128:=rfl
theorem TPI.leaf {S:CO} {tb:Nat->TB} (t:TPI S tb) {i k:Nat} (hi:i<256) (hk:k<16) (h:(tb i).lf k≠0):(tb i).lf k∈S.P.usedOf 7:=by
 refine t.lvs.mem_iff.1 (J2l.2 ⟨i,J2b.2 hi,mem_lvs.2 ⟨k,hk,rfl,h⟩⟩)
theorem Q1r {l:List Pl} (hl:l.length=256) {i:Nat} {p:Pl} (h:l[i]?=some p):i<256:=by
 have:=(J2c.1 h).1;omega
theorem TPI.tin_kept {S:CO} {tb:Nat->TB} (hl:S.l.length=256) (t:TPI S tb) {m:List Nat} (k1:∀(i:Nat) (p:Pl),S.l[i]?=some p->p.st=1->p.kind=2->Kept S.P.a.mem m p.at_ 128) (k2:∀a,a∈S.P.usedOf 7->Kept S.P.a.mem m a 256) {i:Nat} {p:Pl} (hi:S.l[i]?=some p) (h1:p.st=1) (h2:p.kind=2):(tb i).In m p.at_:=
 (t.tin i p hi h1 h2).kept (k1 i p hi h1 h2) fun k hk Aa=>k2 _ (t.leaf (Q1r hl hi) hk Aa)
theorem TPI.tried {S:CO} {tb:Nat->TB} {fr:List Nat} {N K:Nat} (ok:S.Ok fr N K) (t:TPI S tb) {P':PL} (h:Tried S.P fr S.l P'):TPI (S.setP P') tb:=by
 refine⟨fun i p hi h1 h2=>?_,t.full,t.nil,t.lvs.trans (h.used 7).symm,t.nds.trans (h.used 6).symm,t.xc⟩;refine t.tin_kept ok.inv.len (fun j q hj q1 q2=>?_) (fun a ha=>h.memH 7 a (by omega) ha) hi h1 h2;have:=h.mem q (J4a hj) (Pl.is_iff.2 (.inl q1));rw [q2] at this;exact this
theorem TPI.made {S:CO} {tb:Nat->TB} {fr fr':List Nat} {N K:Nat} (ok:S.Ok fr N K) (t:TPI S tb) {f p:Pl} {e:En Fa} {n a x i:Nat} {lim:Int} {P':PL} (m:MadeOk S fr f e n a lim x i p P' fr') (hi:S.l[i]?=some p) (hp:p.st=0):TPI (S.made f n a x i p P') tb:=by
 have An:=Q1r ok.inv.len hi;have Ch:=t.nil i p hi (by omega);have Ab:i<S.l.length:=(J2c.1 hi).1;refine⟨fun j q hj q1 q2=>?_,t.full,fun j q hj hq=>?_,t.lvs.trans (m.high 7 (by omega)).symm,t.nds.trans (m.high 6 (by omega)).symm,fun id=>?_⟩
 ·have Bj:(S.l.set i ⟨n,a,f.own,1,p.age,x⟩)[j]?=some q:=hj;by_cases e:i=j
  ·subst e;rw [J5B Ab] at Bj;cases Bj;have Tw:n=2:=q2;refine Ch.new fun y h1 h2=>m.zero (by omega) y h1 ?_
   rw [Tw,Z5W];exact h2
  ·rw [J5t e] at Bj;refine t.tin_kept ok.inv.len (fun k r hk r1 r2=>?_) (fun b hb=>m.memH 7 b (by omega) hb) Bj q1 q2;have:=m.kept r (J4a hk) (Pl.is_iff.2 (.inl r1));rw [r2] at this;exact this
 ·have Bj:(S.l.set i ⟨n,a,f.own,1,p.age,x⟩)[j]?=some q:=hj;by_cases e:i=j
  ·subst e;exact Ch
  ·rw [J5t e] at Bj;exact t.nil j q Bj hq
 ·show S.xc id=xcOf (S.l.set i _) tb id;rw [Z1I Ab Ch,t.xc]
theorem TPI.spare {S:CO} {tb:Nat->TB} {fr:List Nat} {N K:Nat} (ok:S.Ok fr N K) (t:TPI S tb) {h:Nat} {p:Pl} (hp:pget S.l 1 h=some p) (hn:(tb (h%256)).Nil):S.Spare h p:=by
 obtain⟨hi,_,_⟩:=pget_some.1 hp;intro id Aa;rw [t.xc] at Aa
 -- some place has what counts
 have RG:∃j,j<256/\xcP tb id j S.l[j]?≠0:=by
  apply Classical.byContradiction
  intro Aq
  apply Aa
  have h0:xcOf S.l tb id=((List.range 256).map fun _=>(0:Int)).sum:=Q3k fun j hj=>Classical.byContradiction fun h=>Aq ⟨j,hj,h⟩
  rw [h0];have z:∀l:List Nat,(l.map fun _=>(0:Int)).sum=0:=fun l=>by
   induction l with
   | nil=>rfl
   | cons a r ih=>rw [J1O,J5y,ih];rfl
  exact z _
 obtain⟨j,hj,hx⟩:=RG;unfold xcP at hx;cases hl:S.l[j]? with
 | none=>rw [hl] at hx;exact absurd rfl hx
 | some r =>
  rw [hl] at hx;simp only at hx;split at hx
  ·rename_i hf;have DS:¬(tb j).Nil:=fun h=>hx (TB.Nil.lists h).2.2
   have BT:r.st=1/\r.kind=2:=Classical.byContradiction fun h=>DS (t.nil j r hl h)
   have Bt:h%256≠j:=fun e=>DS (by rw [<- e];exact hn)
   exact⟨r,J4a (i:=j) (by rw [J5t Bt];exact hl),BT.1,hf⟩
  ·exact absurd rfl hx
theorem TPI.doomed {S:CO} {tb:Nat->TB} {fr:List Nat} {N K:Nat} (ok:S.Ok fr N K) (t:TPI S tb) {h:Nat} {p:Pl} (hp:pget S.l 1 h=some p) (hn:(tb (h%256)).Nil) (rv:OV):TPI (S.doomed h p rv) tb:=by
 obtain⟨hi,_,_⟩:=pget_some.1 hp;have Ab:h%256<S.l.length:=(J2c.1 hi).1;refine⟨fun j q hj q1 q2=>?_,t.full,fun j q hj hq=>?_,t.lvs,t.nds,fun id=>?_⟩
 ·have Bj:(S.l.set (h%256) {p with st:=2})[j]?=some q:=hj;by_cases e:h%256=j
  ·subst e;rw [J5B Ab] at Bj;cases Bj;cases q1
  ·rw [J5t e] at Bj;exact t.tin j q Bj q1 q2
 ·have Bj:(S.l.set (h%256) {p with st:=2})[j]?=some q:=hj;by_cases e:h%256=j
  ·subst e;exact hn
  ·rw [J5t e] at Bj;exact t.nil j q Bj hq
 ·show S.xc id=xcOf (S.l.set (h%256) _) tb id;rw [Z1I Ab hn,t.xc]
theorem TPI.ticked {S S':CO} {tb:Nat->TB} {D:List Nat} (hl:S.l.length=256) (GW:S'.l.length=256) (t:TPI S tb) (BT:∀x,pget S'.l 1 x=pget S.l 1 x) (Ay:S'.P.a.mem=S.P.a.mem) (hhigh:∀j,6<=j->(S'.P.usedOf j).Perm (S.P.usedOf j)) (hxc:S'.xc=S.xc):TPI S' tb:=by
 have fwd:∀(i:Nat) (p:Pl),S.l[i]?=some p->p.st=1->S'.l[i]?=some p:=fun i p hi h1=>by
  have An:=Q1r hl hi;have:pget S.l 1 (nm i p)=some p:=pget_some.2 ⟨by rw [Q1x An];exact hi,by rw [Q1x An],h1⟩;rw [<- BT] at this;have:=(pget_some.1 this).1
  rwa [Q1x An] at this
 have bwd:∀(i:Nat) (p:Pl),S'.l[i]?=some p->p.st=1->S.l[i]?=some p:=fun i p hi h1=>by
  have An:=Q1r GW hi;have:pget S'.l 1 (nm i p)=some p:=pget_some.2 ⟨by rw [Q1x An];exact hi,by rw [Q1x An],h1⟩;rw [BT] at this;have:=(pget_some.1 this).1
  rwa [Q1x An] at this
 have same:∀i,i<256->(tb i).Nil∨S'.l[i]?=S.l[i]?:=fun i hi=>by
  have hp:S.l[i]?=some (S.l[i]'(by omega)):=J4d _;by_cases h:(S.l[i]'(by omega)).st=1/\(S.l[i]'(by omega)).kind=2
  ·right;rw [fwd i _ hp h.1,hp]
  ·exact .inl (t.nil i _ hp h)
 refine⟨fun i p hi h1 h2=>?_,t.full,fun i p hi h=>?_,t.lvs.trans (hhigh 7 (by omega)).symm,t.nds.trans (hhigh 6 (by omega)).symm,fun id=>?_⟩
 ·rw [Ay];exact t.tin i p (bwd i p hi h1) h1 h2
 ·rcases same i (Q1r GW hi) with hn|e
  ·exact hn
  ·rw [e] at hi;exact t.nil i p hi h
 ·rw [hxc,t.xc];refine Q7f fun i hi=>?_
  rcases same i hi with hn|e
  ·have h0:=(TB.Nil.lists hn).2.2;have hp:∀o,xcP tb id i o=0:=fun o=>by
    unfold xcP;cases o with
    | none=>rfl
    | some p=>simp only [h0];split <;> rfl
   rw [hp,hp]
  ·rw [e]
def CO.paid (S:CO) (P':PL) (own:Int) (d:Int):CO:={S with P:=P',xc:=fun id=>if id=own then S.xc id+d else S.xc id}
theorem TreI.pay {E:List (En Fa)} {l:List Pl} {xc:Int->Int} (t:TreI E l xc) (Ae:E.Pairwise (fun a b=>a.id≠b.id)) {own:Int} {e:En Fa} (hf:find E own=some e) (d:Int):TreI (upd E own {e.q with charged:=e.q.charged+d}) l (fun id=>if id=own then xc id+d else xc id):=by
 have GS:∀a,Q1P (upd E own {e.q with charged:=e.q.charged+d}) a=Q1P E a:=fun a=>Q1L Ae hf _ _ rfl
 have FJ:∀a,Q1Q (upd E own {e.q with charged:=e.q.charged+d}) a=Q1Q E a:=fun a=>Q1L Ae hf _ _ rfl
 refine⟨by rw [Q1q];exact t.ids,fun p hp As=>?_,fun p hp As hk x hx=>?_,fun id x hx=>?_,fun id x hx=>?_⟩
 ·obtain⟨y,hy⟩:=t.fac p hp As;exact Q1a _ hy
 ·obtain⟨y,hy,h1,h2⟩:=Q0p _ hf hx;have:=t.par p hp As hk y hy;by_cases hid:(p.own:Int)=own
  ·obtain⟨rfl,e2⟩:=h1 hid;rw [e2];exact this
  ·rw [h2 hid];exact this
 ·obtain⟨y,hy,h1,h2⟩:=Q0p _ hf hx;have:=t.charged id y hy;by_cases hid:id=own
  ·obtain⟨rfl,e2⟩:=h1 hid;rw [e2,if_pos hid];show y.q.charged+d=_;omega
  ·rw [h2 hid,if_neg hid];exact this
 ·obtain⟨y,hy,h1,h2⟩:=Q0p _ hf hx;have:=t.given id y hy;rw [GS,FJ];by_cases hid:id=own
  ·obtain⟨rfl,e2⟩:=h1 hid;rw [e2];exact this
  ·rw [h2 hid];exact this
theorem CO.Ok.paid {S:CO} {fr:List Nat} {N K:Nat} (ok:S.Ok fr N K) {P':PL} {own:Int} {e:En Fa} {d:Int} (Bi:P'.Ok fr) (he:find S.P.q.E own=some e) (hE:P'.q={S.P.q with E:=upd S.P.q.E own {e.q with charged:=e.q.charged+d}}) (hu:∀j,1<=j->j<=5->P'.usedOf j=S.P.usedOf j) (hw:∀b∈S.P.usedOf 1,Q0u P'.a.mem b=Q0u S.P.a.mem b)
  (DS:0<=S.xc own+d) (BT:S.xc own+d≠0->∃p∈S.l,p.st=1/\(p.fac:Int)=own):(S.paid P' own d).Ok fr N K:=by
 have v:=ok.inv;refine⟨⟨v.len,v.st,v.mem.same Bi hu hw,?_,?_⟩,ok.per,ok.due,ok.ord,ok.ov,?_,ok.now,ok.age⟩
 ·show TreI P'.q.E S.l _;rw [hE];exact v.tre.pay v.mem.pool.q.ids he d
 ·refine⟨v.que.root,v.que.live,fun id=>?_,v.que.nd,v.que.has,v.que.ord⟩;show 0<=(if id=own then S.xc id+d else S.xc id)/\((if id=own then S.xc id+d else S.xc id)≠0->_);split
  ·rename_i h;subst h;exact⟨DS,BT⟩
  ·exact v.que.xc id
 ·show P'.q.next<=N;rw [hE];exact ok.next
theorem CO.Ok.stored {S:CO} {fr:List Nat} {N K:Nat} (ok:S.Ok fr N K) {m:List Nat} (hl:m.length=S.P.a.mem.length) (hb:∀b∈m,b<256) (hw:∀b∈S.P.usedOf 1,Q0u m b=Q0u S.P.a.mem b):(S.setP (S.P.setA m)).Ok fr N K:=by
 have v:=ok.inv;exact⟨⟨v.len,v.st,v.mem.same (PL.ok_setA v.mem.pool hl hb) (fun _ _ _=>rfl) hw,v.tre,v.que⟩,ok.per,ok.due,ok.ord,ok.ov,ok.next,ok.now,ok.age⟩
structure TPX (S:CO) (tb:Nat->TB) (own:Int) (xl xn:List Nat):Prop where
 tin:∀(i:Nat) (p:Pl),S.l[i]?=some p->p.st=1->p.kind=2->(tb i).In S.P.a.mem p.at_
 nil:∀(i:Nat) (p:Pl),S.l[i]?=some p->¬(p.st=1/\p.kind=2)->(tb i).Nil
 lvs:(xl++Q3j tb).Perm (S.P.usedOf 7)
 nds:(xn++Q4c tb).Perm (S.P.usedOf 6)
 xc:∀id,S.xc id=xcOf S.l tb id+if id=own then 256*(xl.length:Int)+48*(xn.length:Int) else 0
theorem TPI.x {S:CO} {tb:Nat->TB} (t:TPI S tb) (own:Int):TPX S tb own [] []:=⟨t.tin,t.nil,t.lvs,t.nds,fun id=>by rw [t.xc];simp⟩
theorem TPX.done {S:CO} {tb:Nat->TB} {own:Int} (t:TPX S tb own [] []) (hf:∀i,i<256->(tb i).Full):TPI S tb:=⟨t.tin,hf,t.nil,t.lvs,t.nds,fun id=>by rw [t.xc];simp⟩
theorem TPX.leaf {S:CO} {tb:Nat->TB} {own:Int} {xl xn:List Nat} (t:TPX S tb own xl xn) {i k:Nat} (hi:i<256) (hk:k<16) (h:(tb i).lf k≠0):(tb i).lf k∈S.P.usedOf 7:=
 t.lvs.mem_iff.1 (J2G _ (J2l.2 ⟨i,J2b.2 hi,mem_lvs.2 ⟨k,hk,rfl,h⟩⟩))
theorem TPX.tin_kept {S:CO} {tb:Nat->TB} {own:Int} {xl xn:List Nat} (hl:S.l.length=256) (t:TPX S tb own xl xn) {m:List Nat} (k1:∀(i:Nat) (p:Pl),S.l[i]?=some p->p.st=1->p.kind=2->Kept S.P.a.mem m p.at_ 128) (k2:∀a,a∈S.P.usedOf 7->Kept S.P.a.mem m a 256) {i:Nat} {p:Pl} (hi:S.l[i]?=some p) (h1:p.st=1) (h2:p.kind=2):(tb i).In m p.at_:=
 (t.tin i p hi h1 h2).kept (k1 i p hi h1 h2) fun k hk Aa=>k2 _ (t.leaf (Q1r hl hi) hk Aa)
theorem Q1I {S:CO} {fr:List Nat} {N K:Nat} (ok:S.Ok fr N K) {i:Nat} {p:Pl} (hi:S.l[i]?=some p) (h1:p.st=1) (h2:p.kind=2):p.at_∈S.P.usedOf 2:=by
 have:=ok.inv.mem.used (J4a hi) (Pl.is_iff.2 (.inl h1)) (by omega)
 rwa [h2] at this
theorem GotM.kept {P P':PL} {fr fr':List Nat} {own:Int} {k a:Nat} (g:GotM P fr own k a P' fr') (ok:P.Ok fr) {j b:Nat} (hb:b∈P.usedOf j):Kept P.a.mem P'.a.mem b (Q0c j):=by
 have:=(g.apart ok).1 j b hb;rw [g.mem];exact Q1D (by rw [J1V];exact g.room.1) (by rw [J1V];omega)
theorem Z9e:∀{l:List Int},(∀x∈l,0<=x)->0<=l.sum
 | [],_=>J5Q _
 | x::r,h=>by
  have:=Z9e (l:=r) fun y hy=>h y (by simp [hy])
  have:=h x (by simp);rw [J5y];omega
theorem Z0s (l:List Pl) (tb:Nat->TB) (id:Int):0<=xcOf l tb id:=by
 refine Z9e fun x hx=>?_
 obtain⟨i,_,rfl⟩:=J1R.1 hx;unfold xcP;split
 ·split
  ·exact TB.cost_nn _
  ·exact J5Q _
 ·exact J5Q _
section
variable {S:CO} {fr:List Nat} {N K:Nat} {tb:Nat->TB} {own:Int} {xl xn:List Nat}
theorem TPX.got {n a:Nat} {P':PL} (ok:S.Ok fr N K) (t:TPX S tb own xl xn) (hn:n=6∨n=7) (g:GetOk S.P fr own n a P') (Ag:∃p∈S.l,p.st=1/\(p.fac:Int)=own) :
  (S.paid P' own ((Q0c n:Nat):Int)).Ok fr N K/\TPX (S.paid P' own ((Q0c n:Nat):Int)) tb own (if n=7 then a::xl else xl) (if n=6 then a::xn else xn):=by
 have gm:=g.gotM ok.inv.mem.pool;have DO:costK n=Q0c n:=Q1R (by omega);obtain⟨e,q1,q2,q3⟩:=g.q;have U6:=(ok.inv.que.xc own).1;refine⟨ok.paid g.ok q1 q3 (fun j h1 h5=>g.other j (by omega)) (fun b hb=>?_) (by omega) (fun _=>Ag),?_,t.nil,?_,?_,fun id=>?_⟩
 ·have:=gm.kept ok.inv.mem.pool hb;exact (this.sub (b:=b) (k:=8) (J1L _) (by show b+8<=b+64;omega)).word
 ·intro i p hi h1 h2;refine t.tin_kept ok.inv.len (fun j q hj q1 q2=>?_) (fun b hb=>gm.kept ok.inv.mem.pool hb) hi h1 h2;exact gm.kept ok.inv.mem.pool (Q1I ok hj q1 q2)
 ·show (_++Q3j tb).Perm (P'.usedOf 7);by_cases h7:n=7
  ·subst h7;rw [if_pos rfl];exact (List.Perm.cons a t.lvs).trans (gm.used (by omega)).symm
  ·rw [if_neg h7,g.other 7 (by omega)];exact t.lvs
 ·show (_++Q4c tb).Perm (P'.usedOf 6);by_cases h6:n=6
  ·subst h6;rw [if_pos rfl];exact (List.Perm.cons a t.nds).trans (gm.used (by omega)).symm
  ·rw [if_neg h6,g.other 6 (by omega)];exact t.nds
 ·show (if id=own then S.xc id+_ else S.xc id)=xcOf S.l tb id+_;by_cases hid:id=own
  ·subst hid;rw [if_pos rfl,t.xc,if_pos rfl,if_pos rfl];rcases hn with rfl|rfl
   ·simp [Q5e];omega
   ·simp [Q2R];omega
  ·rw [if_neg hid,t.xc,if_neg hid,if_neg hid]
theorem TPX.put {n a:Nat} {P':PL} (ok:S.Ok fr N K) (hn:n=6∨n=7) (t:TPX S tb own (if n=7 then a::xl else xl) (if n=6 then a::xn else xn)) (g:PutOk S.P fr own n a P') (Ag:∃p∈S.l,p.st=1/\(p.fac:Int)=own) :
  (S.paid P' own (-((Q0c n:Nat):Int))).Ok fr N K/\TPX (S.paid P' own (-((Q0c n:Nat):Int))) tb own xl xn:=by
 have bm:=g.backM ok.inv.mem.pool;obtain⟨e,q1,q2,q3⟩:=g.q;have Ay:P'.a.mem=S.P.a.mem:=by rw [g.aa]
 have L8:P'.q={S.P.q with E:=upd S.P.q.E own {e.q with charged:=e.q.charged + -((Q0c n:Nat):Int)}}:=by rw [q3,Int.sub_eq_add_neg]
 have U6:=Z0s S.l tb own;have IL:=t.xc own;rw [if_pos rfl] at IL;refine⟨ok.paid g.ok q1 L8 (fun j h1 h5=>g.other j (by omega)) (fun b hb=>by rw [Ay]) ?_ (fun _=>Ag),?_,t.nil,?_,?_,fun id=>?_⟩
 ·rcases hn with rfl|rfl
  ·simp [Q5e] at IL ⊢;omega
  ·simp [Q2R] at IL ⊢;omega
 ·intro i p hi h1 h2;show (tb i).In P'.a.mem p.at_;rw [Ay];exact t.tin i p hi h1 h2
 ·show (xl++Q3j tb).Perm (P'.usedOf 7);by_cases h7:n=7
  ·subst h7;have h1:=t.lvs;rw [if_pos rfl] at h1;exact J5z (h1.trans (bm.used (by omega)))
  ·have h1:=t.lvs;rw [if_neg h7] at h1;rw [g.other 7 (by omega)];exact h1
 ·show (xn++Q4c tb).Perm (P'.usedOf 6);by_cases h6:n=6
  ·subst h6;have h1:=t.nds;rw [if_pos rfl] at h1;exact J5z (h1.trans (bm.used (by omega)))
  ·have h1:=t.nds;rw [if_neg h6] at h1;rw [g.other 6 (by omega)];exact h1
 ·show (if id=own then S.xc id+_ else S.xc id)=xcOf S.l tb id+_;have hx:=t.xc id;by_cases hid:id=own
  ·subst hid;rw [if_pos rfl] at hx ⊢;rw [hx,if_pos rfl];rcases hn with rfl|rfl
   ·simp [Q5e];omega
   ·simp [Q2R];omega
  ·rw [if_neg hid] at hx ⊢;rw [hx,if_neg hid]
end
def updT (tb:Nat->TB) (i:Nat) (t:TB):Nat->TB:=fun j=>if j=i then t else tb j
theorem updT_same (tb:Nat->TB) (i:Nat) (t:TB):updT tb i t i=t:=by unfold updT;rw [if_pos rfl]
theorem Q0W {tb:Nat->TB} {i j:Nat} {t:TB} (h:j≠i):updT tb i t j=tb j:=by unfold updT;rw [if_neg h]
theorem Z1J (i:Nat) (hi:i<256):∃A B,List.range 256=A++i::B/\(∀j∈A,j≠i)/\∀j∈B,j≠i:=by
 have hm:i∈List.range 256:=J2b.2 hi;obtain⟨A,B,e⟩:=J5R hm;have AG:(List.range 256).Nodup:=J5G;rw [e] at AG;obtain⟨h1,h2,h3⟩:=J2F.1 AG;exact⟨A,B,e,fun j hj=>h3 j hj i (by simp),fun j hj h=>(J2I.1 h2).1 (h ▸ hj)⟩
theorem Q4E (f:TB->List Nat) (tb:Nat->TB) {i:Nat} (hi:i<256) (t:TB):∃A B,(List.range 256).flatMap (fun j=>f (tb j))=A++f (tb i)++B/\(List.range 256).flatMap (fun j=>f (updT tb i t j))=A++f t++B:=by
 obtain⟨A,B,e,h1,h2⟩:=Z1J i hi;refine⟨A.flatMap fun j=>f (tb j),B.flatMap fun j=>f (tb j),by rw [e];simp,?_⟩;have g1:A.flatMap (fun j=>f (updT tb i t j))=A.flatMap fun j=>f (tb j):=by
  rw [J5S,J5S];congr 1;exact J3V fun j hj=>by rw [Q0W (h1 j hj)]
 have g2:B.flatMap (fun j=>f (updT tb i t j))=B.flatMap fun j=>f (tb j):=by
  rw [J5S,J5S];congr 1;exact J3V fun j hj=>by rw [Q0W (h2 j hj)]
 rw [e,J2t,J2i,g1,g2,updT_same];simp
theorem Q8T {l:List Pl} {tb:Nat->TB} {i:Nat} (hi:i<256) {p:Pl} (hp:l[i]?=some p) (t:TB) (id:Int):xcOf l (updT tb i t) id=xcOf l tb id+if (p.fac:Int)=id then t.cost-(tb i).cost else 0:=by
 obtain⟨A,B,e,h1,h2⟩:=Z1J i hi;unfold xcOf;rw [e];simp only [J5p,J1O,J5A,J5y];have g1:A.map (fun j=>xcP (updT tb i t) id j l[j]?)=A.map fun j=>xcP tb id j l[j]?:=J3V fun j hj=>by unfold xcP;rw [Q0W (h1 j hj)]
 have g2:B.map (fun j=>xcP (updT tb i t) id j l[j]?)=B.map fun j=>xcP tb id j l[j]?:=J3V fun j hj=>by unfold xcP;rw [Q0W (h2 j hj)]
 rw [g1,g2];have e1:∀tb',xcP tb' id i l[i]?=if (p.fac:Int)=id then (tb' i).cost else 0:=fun tb'=>by unfold xcP;rw [hp]
 rw [e1,e1,updT_same];split <;> omega
end Go.Proofs.YtlakjlmaboioiaaGreatDoor
namespace Go.Proofs.YtlakjlmaboioiaaGreatDoor
open Go.Proofs.Tryz
structure Fst3 (kd:Int->List Int) (rk:Int->Nat):Prop where
 dn:∀h x,x∈kd h->rk x<rk h
 one:∀a b x,x∈kd a->x∈kd b->a=b
 nd:∀h,(kd h).Nodup
def preG (kd:Int->List Int):Nat->Int->List Int
 | 0,h=>[h]
 | n+1,h=>h::(kd h).reverse.flatMap (preG kd n)
section
variable {kd:Int->List Int} {rk:Int->Nat}
theorem Q6f {f g:Int->List Int}:∀{L:List Int},(∀x∈L,f x=g x)->L.flatMap f=L.flatMap g
 | [],_=>rfl
 | x::r,h=>by rw [J2i,J2i,h x (by simp),Q6f (L:=r) fun y hy=>h y (by simp [hy])]
theorem Fst3.leaf (t:Fst3 kd rk) {h:Int} (hr:rk h=0):kd h=[]:=by
 cases hk:kd h with
 | nil=>rfl
 | cons x r =>
  have:=t.dn h x (by rw [hk];simp);omega
theorem Q6g (t:Fst3 kd rk):∀n m h,rk h<=n->rk h<=m->preG kd n h=preG kd m h:=by
 intro n
 induction n with
 | zero =>
  intro m h h1 h2;have hk:=t.leaf (J2j.1 h1);cases m with
  | zero=>rfl
  | succ m=>simp [preG,hk]
 | succ n ih =>
  intro m h h1 h2;cases m with
  | zero =>
   have hk:=t.leaf (J2j.1 h2);simp [preG,hk]
  | succ m =>
   simp only [preG];congr 1;refine Q6f fun x hx=>?_
   have:=t.dn h x (J2k.1 hx);exact ih m x (by omega) (by omega)
def preT (kd:Int->List Int) (rk:Int->Nat) (h:Int):List Int:=preG kd (rk h) h
theorem Z0t (t:Fst3 kd rk) (h:Int):preT kd rk h=h::(kd h).reverse.flatMap (preT kd rk):=by
 have:preT kd rk h=preG kd (rk h+1) h:=Q6g t _ _ h (J1L _) (by omega);rw [this];simp only [preG];congr 1;refine Q6f fun x hx=>?_
 have:=t.dn h x (J2k.1 hx);exact Q6g t _ _ x (by omega) (J1L _)
def Q0x (kd:Int->List Int) (rk:Int->Nat) (h:Int):List Int:=(preT kd rk h).tail.reverse
theorem Q3F (t:Fst3 kd rk) (h:Int):preT kd rk h=h::(Q0x kd rk h).reverse:=by
 unfold Q0x;rw [J2y,Z0t t h];rfl
inductive Dn (kd:Int->List Int):Int->Int->Prop where
 | here (h:Int):Dn kd h h
 | down (h k x:Int):k∈kd h->Dn kd k x->Dn kd h x
theorem Dn.trans {h k x:Int} (a:Dn kd h k) (b:Dn kd k x):Dn kd h x:=by
 induction a with
 | here=>exact b
 | down h k y hk _ ih=>exact .down h k x hk (ih b)
theorem Dn.rank (t:Fst3 kd rk) {h x:Int} (a:Dn kd h x):rk x<=rk h/\(x=h∨rk x<rk h):=by
 induction a with
 | here=>exact⟨J1L _,.inl rfl⟩
 | down h k y hk _ ih =>
  have:=t.dn h k hk;have:=ih.1;exact⟨by omega,.inr (by omega)⟩
theorem Q5I (t:Fst3 kd rk):∀n h x,rk h<=n->(x∈preG kd n h↔Dn kd h x):=by
 intro n
 induction n with
 | zero =>
  intro h x hn;have hk:=t.leaf (J2j.1 hn);simp only [preG,J3T]
  constructor
  ·rintro rfl;exact .here _
  ·intro d;cases d with
   | here=>rfl
   | down _ k _ hm _=>rw [hk] at hm;cases hm
 | succ n ih =>
  intro h x hn;simp only [preG,J1Q,J2l,J2k]
  constructor
  ·rintro (rfl|⟨k,hk,hx⟩)
   ·exact .here _
   ·have:=t.dn h k hk;exact .down h k x hk ((ih k x (by omega)).1 hx)
  ·intro d;cases d with
   | here=>exact .inl rfl
   | down _ k _ hm hd =>
    have:=t.dn h k hm;exact .inr ⟨k,hm,(ih k x (by omega)).2 hd⟩
theorem Z1K (t:Fst3 kd rk) {h x:Int}:x∈preT kd rk h↔Dn kd h x:=Q5I t _ h x (J1L _)
theorem Dn.line (t:Fst3 kd rk) {a x:Int} (h:Dn kd a x):∀{b:Int},Dn kd b x->Dn kd a b∨Dn kd b a:=by
 -- the last step down to x
 have last:∀{a x:Int},Dn kd a x->x=a∨∃z,Dn kd a z/\x∈kd z:=by
  intro a x h
  induction h with
  | here=>exact .inl rfl
  | down h k y hk _ ih =>
   rcases ih with rfl|⟨z,h1,h2⟩
   ·exact .inr ⟨h,.here _,hk⟩
   ·exact .inr ⟨z,.down h k z hk h1,h2⟩
 have key:∀n a b x,rk a-rk x<=n->Dn kd a x->Dn kd b x->Dn kd a b∨Dn kd b a:=by
  intro n
  induction n with
  | zero =>
   intro a b x hn h k;rcases (h.rank t).2 with rfl|Ab
   ·exact .inr k
   ·omega
  | succ n ih =>
   intro a b x hn h k;rcases last h with rfl|⟨z,h1,h2⟩
   ·exact .inr k
   ·rcases last k with rfl|⟨z',k1,k2⟩
    ·exact .inl h
    ·have:z=z':=t.one z z' x h2 k2;subst this;have:=t.dn z x h2;have:=(h1.rank t).1;exact ih a b z (by omega) h1 k1
 intro b k;exact key _ a b x (J1L _) h k
theorem Dn.last {a x:Int} (h:Dn kd a x):x=a∨∃z,Dn kd a z/\x∈kd z:=by
 induction h with
 | here=>exact .inl rfl
 | down h k y hk _ ih =>
  rcases ih with rfl|⟨z,h1,h2⟩
  ·exact .inr ⟨h,.here _,hk⟩
  ·exact .inr ⟨z,.down h k z hk h1,h2⟩
theorem Q7g (t:Fst3 kd rk) {h a b x:Int} (ha:a∈kd h) (hb:b∈kd h) (Aa:a≠b) (h1:Dn kd a x) (h2:Dn kd b x):False:=by
 have no:∀{a b:Int},a∈kd h->b∈kd h->a≠b->¬Dn kd a b:=by
  intro a b ha hb Aa d;rcases d.last with e|⟨z,d1,d2⟩
  ·exact Aa e.symm
  ·have:z=h:=t.one z h b d2 hb;subst this;have:=(d1.rank t).1;have:=t.dn z a ha;omega
 rcases h1.line t h2 with h|h
 ·exact no ha hb Aa h
 ·exact no hb ha Aa.symm h
theorem Z5X (t:Fst3 kd rk):∀n h,rk h<=n->(preG kd n h).Pairwise (fun a b=>a≠b/\¬Dn kd b a):=by
 intro n
 induction n with
 | zero=>intro h _;simp [preG]
 | succ n ih =>
  intro h hn;simp only [preG,J2m,J2n];refine⟨fun b hb=>?_,fun x hx=>?_,?_⟩
  ·obtain⟨k,hk,Ak⟩:=J2l.1 hb;have hk:=J2k.1 hk;have h1:=t.dn h k hk;have hd:=(Q5I t n k b (by omega)).1 Ak;have h2:=(hd.rank t).1;refine⟨fun e=>by subst e;omega,fun d=>?_⟩;have:=(d.rank t).1;omega
  ·have:=t.dn h x (J2k.1 hx);exact ih x (by omega)
  ·rw [J2o];refine (t.nd h).imp_of_mem ?_;intro x1 x2 m1 m2 Aa a ha b hb;have r1:=t.dn h x1 m1;have r2:=t.dn h x2 m2;have d1:=(Q5I t n x2 a (by omega)).1 ha;have d2:=(Q5I t n x1 b (by omega)).1 hb;refine⟨?_,fun d=>?_⟩
   ·rintro rfl;exact Q7g t m1 m2 Aa d2 d1
   ·exact Q7g t m1 m2 Aa (d2.trans d) d1
theorem Q6h (t:Fst3 kd rk) (h:Int):(preT kd rk h).Pairwise (fun a b=>a≠b/\¬Dn kd b a):=Z5X t _ h (J1L _)
theorem Q1V (t:Fst3 kd rk) {h x:Int}:x∈Q0x kd rk h↔Dn kd h x/\x≠h:=by
 have e:=Q3F t h;have hp:=Q6h t h;rw [e] at hp;obtain⟨h1,_⟩:=J2m.1 hp;have hm:x∈preT kd rk h↔x=h∨x∈Q0x kd rk h:=by rw [e];simp
 rw [<- Z1K t,hm]
 constructor
 ·intro hx;exact⟨.inr hx,fun e=>(h1 x (by simpa using hx)).1 e.symm⟩
 ·rintro⟨h|h,Aa⟩
  ·exact absurd h Aa
  ·exact h
theorem Q5f (t:Fst3 kd rk) (h:Int):(Q0x kd rk h).Pairwise (fun a b=>a≠b/\¬Dn kd a b):=by
 have hp:=Q6h t h;rw [Q3F t h] at hp;have:=(J2m.1 hp).2;rw [J2o] at this;exact this.imp fun ⟨h1,h2⟩=>⟨h1.symm,h2⟩
def Q8U (kd:Int->List Int) (rk:Int->Nat) (ws:List Int):List Int:=ws.reverse.flatMap (preT kd rk)
theorem Z2X (t:Fst3 kd rk) (ws:List Int) (x:Int):Q8U kd rk (ws++[x])=x::Q8U kd rk (ws++kd x):=by
 unfold Q8U;rw [J2r,J2r,J2s,J2t,J2t,J2u,Z0t t x];rfl
theorem Z5Y (kd:Int->List Int) (rk:Int->Nat) (t:Fst3 kd rk) (ws:List Int):ws.length<=(Q8U kd rk ws).length:=by
 unfold Q8U;have:∀w:List Int,w.length<=(w.flatMap (preT kd rk)).length:=by
  intro w
  induction w with
  | nil=>simp
  | cons x r ih =>
   rw [J2i,J2v,J2w];have:0<(preT kd rk x).length:=by rw [Z0t t x];simp
   omega
 simpa using this ws.reverse
end
open Go.RowKit
abbrev SKV:=List ((Int×Int)×Value)
def Q2u (p:Int×Int):Value:=.agg #[.int .i64 p.1,.int .i64 p.2]
def Q3P (kv:SKV) (p:Int×Int):Option Value:=(kv.find? fun q=>decide (q.1=p)).map Prod.snd
def delS (kv:SKV) (p:Int×Int):SKV:=kv.filter fun q=>decide (q.1≠p)
def Q3l (w:World) (m:Nat) (kv:SKV):Prop:=MapIs w m (kv.map fun q=>(Q2u q.1,q.2))
def Q1J (P:Program) (K:TypeId) (p:Int×Int):Prop:=∃l,keyOf P K (Q2u p)=some l
theorem Z5Z {p q:Int×Int} (h:Q2u p=Q2u q):p=q:=by
 unfold Q2u at h;simp at h;exact Prod.ext h.1 h.2
theorem Z6a:∀{kv:SKV} {p:Int×Int} {v:Value} {j:Nat},kv.Pairwise (fun a b=>a.1≠b.1)->kv[j]?=some (p,v)->Q3P kv p=some v/\kv.eraseIdx j=delS kv p
 | [],_,_,_,_,h=>by simp at h
 | q::r,p,v,0,hn,h=>by
  simp at h;subst h;obtain⟨h1,_⟩:=J2m.1 hn;refine⟨by simp [Q3P],?_⟩;unfold delS;rw [J3Z (by simp)]
  symm
  rw [List.eraseIdx_zero,List.tail_cons,J5T];intro a ha;have:=h1 a ha;simp;exact fun e=>this e.symm
 | q::r,p,v,j+1,hn,h=>by
  rw [J4Y] at h;obtain⟨h1,h2⟩:=J2m.1 hn;obtain⟨i1,i2⟩:=Z6a h2 h;have Aa:q.1≠p:=h1 _ (J4a h);refine⟨?_,?_⟩
  ·unfold Q3P at i1 ⊢;rw [List.find?_cons_of_neg (by simpa using Aa)];exact i1
  ·unfold delS at i2 ⊢;rw [J3Y (by simpa using Aa),J5U,i2]
theorem map_erase {α β:Type} (f:α->β):∀(l:List α) (j:Nat),(l.eraseIdx j).map f=(l.map f).eraseIdx j
 | [],_=>by simp
 | _::_,0=>rfl
 | x::r,j+1=>by rw [J5U,J1O,J1O,J5U,map_erase f r j]
theorem Q8V {kv:SKV} {p:Int×Int} (h:∀q∈kv,q.1≠p):Q3P kv p=none/\delS kv p=kv:=by
 refine⟨?_,?_⟩
 ·unfold Q3P;rw [J3F.2 (fun q hq=>by simpa using h q hq)];rfl
 ·unfold delS;rw [J5T];intro q hq
  simpa using h q hq
section
variable {P:Program} {K V:TypeId} {T:TypeId}
theorem Q6i (law:WideMaps.KeyLaw P K) (w:World) {es:List MapEntry} {kv:SKV} (hr:es.map (fun e=>(e.key,e.val))=kv.map fun q=>(Q2u q.1,q.2)) (hn:kv.Pairwise (fun a b=>a.1≠b.1)) (hk:∀q∈kv,Q1J P K q.1) {p:Int×Int} (hp:Q1J P K p) :
  ((Instr.findKey K (Q2u p) es).run P w=.ok none w/\Q3P kv p=none/\delS kv p=kv/\∀e∈es,e.key≠Q2u p) ∨
  ∃j v,(Instr.findKey K (Q2u p) es).run P w=.ok (some (j,v)) w/\Q3P kv p=some v/\j<es.length/\(es.eraseIdx j).map (fun e=>(e.key,e.val))=(delS kv p).map fun q=>(Q2u q.1,q.2):=by
 obtain⟨l,hl⟩:=hp;have AP:∀e∈es,∃l,keyOf P K e.key=some l:=fun e he=>by
  have hm:(e.key,e.val)∈kv.map fun q=>(Q2u q.1,q.2):=by rw [<- hr];exact J1R.2 ⟨e,he,rfl⟩
  obtain⟨q,hq,e1⟩:=J1R.1 hm;have:Q2u q.1=e.key:=((Prod.mk.injEq _ _ _ _).mp e1).1;rw [<- this];exact hk q hq
 rcases law.find w hl es AP with ⟨h1,h2⟩|⟨j,e,h1,h2,h3⟩
 ·left;have Aq:∀q∈kv,q.1≠p:=fun q hq e=>by
   have hm:(Q2u q.1,q.2)∈es.map fun e=>(e.key,e.val):=by rw [hr];exact J1R.2 ⟨q,hq,rfl⟩
   obtain⟨x,hx,e1⟩:=J1R.1 hm;exact h2 x hx (by rw [((Prod.mk.injEq _ _ _ _).mp e1).1,e])
  exact⟨h1,(Q8V Aq).1,(Q8V Aq).2,h2⟩
 ·right;have hj:j<es.length:=(J2c.1 h2).1;have Nm:(kv.map fun q=>(Q2u q.1,q.2))[j]?=some (e.key,e.val):=by rw [<- hr,J3x,h2];rfl
  rw [J3x] at Nm;obtain⟨q,hq,e1⟩:=J5J.1 Nm;obtain⟨e2,e3⟩:=(Prod.mk.injEq _ _ _ _).mp e1;have Lo:q.1=p:=Z5Z (e2.trans h3);have TO:kv[j]?=some (p,e.val):=by rw [hq,<- Lo,<- e3]
  obtain⟨f1,f2⟩:=Z6a hn TO;refine⟨j,e.val,h1,f1,hj,?_⟩;rw [<- f2,map_erase,map_erase,hr]
theorem Q6j {w:World} {m:Nat} {kv:SKV} (h:Q3l w m kv) (law:WideMaps.KeyLaw P K) (hn:kv.Pairwise (fun a b=>a.1≠b.1)) (hk:∀q∈kv,Q1J P K q.1) {p:Int×Int} (hp:Q1J P K p) (ok:Bool) (z:Value) (hT:P.underlying T=some (.map K V)) (hz:(zeroValue V).run P w=.ok z w) :
  (Instr.lookup T (.map (some m)) (Q2u p) ok).run P w=.ok (if ok then .tuple #[(Q3P kv p).getD z,.bool (Q3P kv p).isSome] else (Q3P kv p).getD z) w:=by
 obtain⟨es,Ai,hb,hs,hr⟩:=h;have hc:=fun em=>law.check w em hp.choose_spec
 unfold Instr.lookup;rcases Q6i law w hr hn hk hp with ⟨hf,hl,_,_⟩|⟨j,v,hf,hl,_,_⟩
 ·cases ok <;> simp [run_underlying hT,Result.andThen,Go.MapKept.run_getObj_map hb,hc,hf,hl,hz]
 ·cases ok <;> simp [run_underlying hT,Result.andThen,Go.MapKept.run_getObj_map hb,hc,hf,hl]
theorem Q4F {w:World} {m:Nat} {kv:SKV} (h:Q3l w m kv) (law:WideMaps.KeyLaw P K) (hn:kv.Pairwise (fun a b=>a.1≠b.1)) (hk:∀q∈kv,Q1J P K q.1) {p:Int×Int} (hp:Q1J P K p) (u:Value) (Aq:Q3P kv p=none) (hT:P.underlying T=some (.map K V)) :
  ∃w',(Instr.mapUpdate T (.map (some m)) (Q2u p) u).run P w=.ok () w'/\Q3l w' m (kv++[(p,u)])/\w.grownBy w' (some m):=by
 obtain⟨es,Ai,hb,hs,hr⟩:=h;have hc:=fun em=>law.check w em hp.choose_spec
 have CX:∀o,w.grownBy {w with heap:=w.heap.setIfInBounds m o} (some m):=fun o=>⟨rfl,rfl,rfl,by simp,fun k _ Aa=>by
  have:m≠k:=fun e=>Aa (by rw [e])
  simp [this]⟩
 have Ab:=lt_of_block hb;unfold Instr.mapUpdate;rcases Q6i law w hr hn hk hp with ⟨hf,hl,_,Aa⟩|⟨j,v,hf,hl,_,_⟩
 ·refine⟨{w with heap:=w.heap.setIfInBounds m (.map (es.push {key:=Q2u p,val:=u,born:=Ai}) (Ai+1))},?_,?_,CX _⟩
  ·simp [run_underlying hT,Result.andThen,Go.MapKept.run_getObj_map hb,hc,hf,Go.MapKept.run_setObj_map _ hb]
  ·refine⟨es.push {key:=Q2u p,val:=u,born:=Ai},Ai+1,by simp [Ab],Go.MapKept.stamped_push hs (fun x hx=>Aa x (by simpa using hx)),?_⟩;simp [hr]
 ·rw [Aq] at hl;cases hl
theorem Q6k {w:World} {m:Nat} {kv:SKV} (h:Q3l w m kv) (law:WideMaps.KeyLaw P K) (hn:kv.Pairwise (fun a b=>a.1≠b.1)) (hk:∀q∈kv,Q1J P K q.1) {p:Int×Int} (hp:Q1J P K p) (t1 t2:TypeId) (hT:P.underlying T=some (.map K V)) :
  ∃w',(Builtin.delete_ #[T,t1] t2 #[.map (some m),Q2u p]).run P w=.ok (.tuple #[]) w'/\Q3l w' m (delS kv p)/\w.grownBy w' (some m):=by
 obtain⟨es,Ai,hb,hs,hr⟩:=h;have hc:=fun em=>law.check w em hp.choose_spec
 have CX:∀o,w.grownBy {w with heap:=w.heap.setIfInBounds m o} (some m):=fun o=>⟨rfl,rfl,rfl,by simp,fun k _ Aa=>by
  have:m≠k:=fun e=>Aa (by rw [e])
  simp [this]⟩
 have Ab:=lt_of_block hb;unfold Builtin.delete_;rcases Q6i law w hr hn hk hp with ⟨hf,hl,hd,Aa⟩|⟨j,v,hf,hl,hj,hd⟩
 ·refine⟨{w with heap:=w.heap.setIfInBounds m (.map es Ai)},?_,?_,CX _⟩
  ·simp [run_underlying hT,Result.andThen,Go.MapKept.run_getObj_map hb,hc,hf,Go.MapKept.run_setObj_map _ hb]
  ·refine⟨_,_,by simp [Ab],hs,?_⟩;rw [hd];exact hr
 ·refine⟨{w with heap:=w.heap.setIfInBounds m (.map (es.eraseIdxIfInBounds j) Ai)},?_,?_,CX _⟩
  ·simp [run_underlying hT,Result.andThen,Go.MapKept.run_getObj_map hb,hc,hf,Go.MapKept.run_setObj_map _ hb]
  ·refine⟨es.eraseIdxIfInBounds j,Ai,by simp [Ab],Go.MapKept.stamped_erase hs _,?_⟩;rw [<- hd];have:j<es.size:=by simpa using hj
   simp [Array.eraseIdxIfInBounds,this]
end
end Go.Proofs.YtlakjlmaboioiaaGreatDoor

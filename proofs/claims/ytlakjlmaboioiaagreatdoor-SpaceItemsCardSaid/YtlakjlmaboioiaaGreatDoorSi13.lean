/- SpaceItems returns true at every input. No condition. Part of its proof. -/
import Derived.Test.YtlakjlmaboioiaaGreatDoorSi01
import Derived.Test.YtlakjlmaboioiaaGreatDoorSi08
import Derived.Test.YtlakjlmaboioiaaGreatDoorSi10
import Derived.Test.YtlakjlmaboioiaaGreatDoorSi03
import Derived.DeepKeys3
set_option linter.unusedVariables false
namespace Go.Proofs.YtlakjlmaboioiaaGreatDoor
open Go.RowKit Go.Proofs.Tryz
structure Ent where
 h:Nat
 r:Nat
 nd:Nat
def Ent.a (e:Ent):Nat:=e.h+1+4294967296*e.r
def Q0q:Option Ent->Nat
 | none=>0
 | some e=>e.a
def Q0P:Option Ent->Nat
 | none=>0
 | some e=>e.nd
theorem codeA_zero {o:Option Ent}:Q0q o=0↔o=none:=by
 cases o with
 | none=>simp [Q0q]
 | some e=>simp [Q0q,Ent.a]
structure TB where
 lf:Nat->Nat
 en:Nat->Option Ent
def TB.emp:TB:=⟨fun _=>0,fun _=>none⟩
structure TB.In (t:TB) (m:List Nat) (a:Nat):Prop where
 root:∀k,k<16->Q0s m (a+8*k)=t.lf k
 ent:∀s,s<256->t.lf (s/16)≠0->Q0s m (t.lf (s/16)+16*(s%16))=Q0q (t.en s)/\Q0s m (t.lf (s/16)+16*(s%16)+8)=Q0P (t.en s)
 hole:∀s,s<256->t.lf (s/16)=0->t.en s=Option.none
def TB.Full (t:TB):Prop:=∀k,k<16->t.lf k≠0->∃s,s<256/\s/16=k/\t.en s≠none
def TB.Nil (t:TB):Prop:=(∀k,k<16->t.lf k=0)/\∀s,s<256->t.en s=none
theorem TB.emp_nil:TB.emp.Nil:=⟨fun _ _=>rfl,fun _ _=>rfl⟩
theorem TB.In.kept {t:TB} {m m':List Nat} {a:Nat} (h:t.In m a) (k1:Kept m m' a 128) (k2:∀k,k<16->t.lf k≠0->Kept m m' (t.lf k) 256):t.In m' a:=by
 refine⟨fun k hk=>?_,fun s hs hl=>?_,h.hole⟩
 ·rw [(k1.sub (b:=a+8*k) (k:=8) (by omega) (by omega)).word];exact h.root k hk
 ·have:=k2 (s/16) (by omega) hl;rw [(this.sub (b:=t.lf (s/16)+16*(s%16)) (k:=8) (by omega) (by omega)).word,(this.sub (b:=t.lf (s/16)+16*(s%16)+8) (k:=8) (by omega) (by omega)).word];exact h.ent s hs hl
theorem TB.Nil.new {t:TB} (hn:t.Nil) {m:List Nat} {a:Nat} (h:∀j,a<=j->j<a+128->m[j]?=some 0):t.In m a:=by
 refine⟨fun k hk=>?_,fun s hs hl=>absurd (hn.1 (s/16) (by omega)) hl,fun s hs _=>hn.2 s hs⟩;have:(m.drop (a+8*k)).take 8=List.replicate 8 0:=by
  apply J2a
  intro j;rw [J2v,J2t];split
  ·rw [J2U];exact h _ (by omega) (by omega)
  ·rfl
 unfold Q0s;rw [this,hn.1 k hk];rfl
theorem TB.Nil.full {t:TB} (hn:t.Nil):t.Full:=fun k hk h=>absurd (hn.1 k hk) h
def TB.setE (t:TB) (s:Nat) (o:Option Ent):TB:={t with en:=fun x=>if x=s then o else t.en x}
def TB.setL (t:TB) (k a:Nat):TB:={t with lf:=fun x=>if x=k then a else t.lf x}
theorem TB.In.set {t:TB} {m m':List Nat} {a s:Nat} {o:Option Ent} (h:t.In m a) (hs:s<256) (hl:t.lf (s/16)≠0) (hk:∀b n,b+n<=t.lf (s/16)+16*(s%16)∨t.lf (s/16)+16*(s%16)+16<=b->Kept m m' b n)
  (ha:Q0s m' (t.lf (s/16)+16*(s%16))=Q0q o) (hb:Q0s m' (t.lf (s/16)+16*(s%16)+8)=Q0P o) (hat:a+128<=t.lf (s/16)∨t.lf (s/16)+256<=a)
  (hlf:∀k,k<16->k≠s/16->t.lf k≠0->t.lf k+256<=t.lf (s/16)∨t.lf (s/16)+256<=t.lf k):(t.setE s o).In m' a:=by
 refine⟨fun k hk'=>?_,fun x hx hxl=>?_,fun x hx hxl=>?_⟩
 ·show Q0s m' _=t.lf k;rw [(hk (a+8*k) 8 (by omega)).word];exact h.root k hk'
 ·have hxl':t.lf (x/16)≠0:=hxl;show Q0s m' (t.lf (x/16)+_)=Q0q (if x=s then o else t.en x)/\Q0s m' (t.lf (x/16)+_+8)=Q0P (if x=s then o else t.en x);by_cases e:x=s
  ·subst e;rw [if_pos rfl];exact⟨ha,hb⟩
  ·rw [if_neg e];by_cases e2:x/16=s/16
   ·rw [e2] at hxl' ⊢;have hne:x%16≠s%16:=by omega
    have h0:=h.ent x hx (by rw [e2];exact hxl');rw [e2] at h0;rw [(hk (t.lf (s/16)+16*(x%16)) 8 (by omega)).word,(hk (t.lf (s/16)+16*(x%16)+8) 8 (by omega)).word];exact h0
   ·have:=hlf (x/16) (by omega) e2 hxl';rw [(hk (t.lf (x/16)+16*(x%16)) 8 (by omega)).word,(hk (t.lf (x/16)+16*(x%16)+8) 8 (by omega)).word];exact h.ent x hx hxl'
 ·have hxl':t.lf (x/16)=0:=hxl;show (if x=s then o else t.en x)=none;by_cases e:x=s
  ·subst e;exact absurd hxl' hl
  ·rw [if_neg e];exact h.hole x hx hxl'
theorem TB.In.grow {t:TB} {m m':List Nat} {a k L:Nat} (h:t.In m a) (hk:k<16) (hl:t.lf k=0) (hL:L≠0) (hroot:Q0s m' (a+8*k)=L) (hz:∀j,L<=j->j<L+256->m'[j]?=some 0)
  (hr:∀x,x<16->x≠k->Kept m m' (a+8*x) 8) (hlf:∀x,x<16->t.lf x≠0->Kept m m' (t.lf x) 256):(t.setL k L).In m' a:=by
 refine⟨fun x hx=>?_,fun s hs hsl=>?_,fun s hs hsl=>?_⟩
 ·show Q0s m' _=if x=k then L else t.lf x
  by_cases e:x=k
  ·subst e;rw [if_pos rfl];exact hroot
  ·rw [if_neg e,(hr x hx e).word];exact h.root x hx
 ·show Q0s m' ((if s/16=k then L else t.lf (s/16))+_)=Q0q (t.en s)/\Q0s m' ((if s/16=k then L else t.lf (s/16))+_+8)=Q0P (t.en s);by_cases e:s/16=k
  ·rw [if_pos e];have hn:=h.hole s hs (by rw [e];exact hl);rw [hn];have zw:∀b,L<=b->b+8<=L+256->Q0s m' b=0:=fun b h1 h2=>by
    have:(m'.drop b).take 8=List.replicate 8 0:=by
     apply J2a
     intro j;rw [J2v,J2t];split
     ·rw [J2U];exact hz _ (by omega) (by omega)
     ·rfl
    unfold Q0s;rw [this];rfl
   exact⟨zw _ (by omega) (by omega),zw _ (by omega) (by omega)⟩
  ·rw [if_neg e];have hsl':t.lf (s/16)≠0:=by
    have:(if s/16=k then L else t.lf (s/16))≠0:=hsl
    rwa [if_neg e] at this
   have:=hlf (s/16) (by omega) hsl';rw [(this.sub (b:=t.lf (s/16)+16*(s%16)) (k:=8) (by omega) (by omega)).word,(this.sub (b:=t.lf (s/16)+16*(s%16)+8) (k:=8) (by omega) (by omega)).word];exact h.ent s hs hsl'
 ·have hsl':(if s/16=k then L else t.lf (s/16))=0:=hsl;show t.en s=none;by_cases e:s/16=k
  ·rw [if_pos e] at hsl';exact absurd hsl' hL
  ·rw [if_neg e] at hsl';exact h.hole s hs hsl'
theorem TB.In.drop {t:TB} {m m':List Nat} {a k:Nat} (h:t.In m a) (hk:k<16) (he:∀s,s<256->s/16=k->t.en s=none) (hroot:Q0s m' (a+8*k)=0)
  (hr:∀x,x<16->x≠k->Kept m m' (a+8*x) 8) (hlf:∀x,x<16->x≠k->t.lf x≠0->Kept m m' (t.lf x) 256):(t.setL k 0).In m' a:=by
 refine⟨fun x hx=>?_,fun s hs hsl=>?_,fun s hs hsl=>?_⟩
 ·show Q0s m' _=if x=k then 0 else t.lf x
  by_cases e:x=k
  ·subst e;rw [if_pos rfl];exact hroot
  ·rw [if_neg e,(hr x hx e).word];exact h.root x hx
 ·have hsl0:(if s/16=k then 0 else t.lf (s/16))≠0:=hsl;have e:s/16≠k:=fun e=>hsl0 (by rw [if_pos e])
  rw [if_neg e] at hsl0;show Q0s m' ((if s/16=k then 0 else t.lf (s/16))+_)=Q0q (t.en s)/\Q0s m' ((if s/16=k then 0 else t.lf (s/16))+_+8)=Q0P (t.en s);rw [if_neg e];have:=hlf (s/16) (by omega) e hsl0;rw [(this.sub (b:=t.lf (s/16)+16*(s%16)) (k:=8) (by omega) (by omega)).word,(this.sub (b:=t.lf (s/16)+16*(s%16)+8) (k:=8) (by omega) (by omega)).word];exact h.ent s hs hsl0
 ·have hsl0:(if s/16=k then 0 else t.lf (s/16))=0:=hsl;show t.en s=none;by_cases e:s/16=k
  ·exact he s hs e
  ·rw [if_neg e] at hsl0;exact h.hole s hs hsl0
def TB.lvs (t:TB):List Nat:=(List.range 16).filterMap fun k=>if t.lf k=0 then none else some (t.lf k)
def TB.nds (t:TB):List Nat:=(List.range 256).filterMap fun s=>(t.en s).map Ent.nd
def TB.cost (t:TB):Int:=256*(t.lvs.length:Int)+48*(t.nds.length:Int)
theorem mem_lvs {t:TB} {a:Nat}:a∈t.lvs↔∃k,k<16/\t.lf k=a/\a≠0:=by
 unfold TB.lvs;simp only [J0I,J0J]
 constructor
 ·rintro⟨k,hk,h⟩;split at h
  ·cases h
  ·rename_i h0;cases h;exact⟨k,hk,rfl,h0⟩
 ·rintro⟨k,hk,rfl,h0⟩;exact⟨k,hk,by rw [if_neg h0]⟩
theorem mem_nds {t:TB} {a:Nat}:a∈t.nds↔∃s e,s<256/\t.en s=some e/\e.nd=a:=by
 unfold TB.nds;simp only [J0I,J0J]
 constructor
 ·rintro⟨s,hs,h⟩;obtain⟨e,h1,h2⟩:=J4k.1 h;exact⟨s,e,hs,h1,h2⟩
 ·rintro⟨s,e,hs,h1,h2⟩;exact⟨s,hs,by rw [h1,<- h2];rfl⟩
theorem Q4g {α β:Type} {f g:α->Option β}:∀{l:List α},(∀x∈l,f x=g x)->l.filterMap f=l.filterMap g
 | [],_=>rfl
 | x::r,h=>by rw [J0G,J0G,h x (by simp),Q4g (l:=r) fun y hy=>h y (by simp [hy])]
theorem Q7r {α β:Type} (f g:Nat->Option β) (n i:Nat) (hi:i<n) (h:∀j,j<n->j≠i->g j=f j):∃A B,(List.range n).filterMap f=A++(f i).toList++B/\(List.range n).filterMap g=A++(g i).toList++B:=by
 have e:List.range n=List.range i++i::(List.range' (i+1) (n-(i+1))):=by
  rw [List.range_eq_range',List.range_eq_range'];have h1:List.range' 0 n=List.range' 0 i++List.range' i (n-i):=by
   have:=List.range'_append (s:=0) (m:=i) (n:=n-i) (step:=1);simp only [Nat.one_mul,J2W] at this;rw [this];congr 1;omega
  rw [h1];congr 1;have:n-i=(n-(i+1))+1:=by omega
  rw [this,List.range'_succ]
 have s1:∀(f:Nat->Option β),(List.range n).filterMap f=(List.range i).filterMap f++(f i).toList++(List.range' (i+1) (n-(i+1))).filterMap f:=fun f=>by
  rw [e,J0F,J0G];cases f i <;> simp
 refine⟨(List.range i).filterMap f,(List.range' (i+1) (n-(i+1))).filterMap f,s1 f,?_⟩;rw [s1 g];have c1:(List.range i).filterMap g=(List.range i).filterMap f:=Q4g fun j hj=>h j (by have:=J0J.1 hj;omega) (by have:=J0J.1 hj;omega)
 have c2:(List.range' (i+1) (n-(i+1))).filterMap g=(List.range' (i+1) (n-(i+1))).filterMap f:=Q4g fun j hj=>by
  have:=List.mem_range'_1.1 hj;exact h j (by omega) (by omega)
 rw [c1,c2]
theorem TB.nds_set {t:TB} {s:Nat} (hs:s<256) {e:Ent} (h0:t.en s=none):(t.setE s (some e)).nds.Perm (e.nd::t.nds):=by
 obtain⟨A,B,e1,e2⟩:=Q7r (α:=Nat) (fun s=>(t.en s).map Ent.nd) (fun x=>((t.setE s (some e)).en x).map Ent.nd) 256 s hs (fun j _ hj=>by simp [TB.setE,hj]);unfold TB.nds;rw [e1,e2];simp only [TB.setE,if_true,h0,J2g,Option.map_none,J4l,J4m,J2y];rw [J1s];exact J3T
theorem TB.nds_clr {t:TB} {s:Nat} (hs:s<256) {e:Ent} (h0:t.en s=some e):t.nds.Perm (e.nd::(t.setE s none).nds):=by
 obtain⟨A,B,e1,e2⟩:=Q7r (α:=Nat) (fun s=>(t.en s).map Ent.nd) (fun x=>((t.setE s none).en x).map Ent.nd) 256 s hs (fun j _ hj=>by simp [TB.setE,hj]);unfold TB.nds;rw [e1,e2];simp only [TB.setE,if_true,h0,J2g,Option.map_none,J4l,J4m,J2y];rw [J1s];exact J3T
theorem TB.nds_same {t:TB} {s:Nat} (hs:s<256) {e e':Ent} (h0:t.en s=some e) (hn:e'.nd=e.nd):(t.setE s (some e')).nds=t.nds:=by
 unfold TB.nds;refine Q4g fun x _=>?_
 by_cases h:x=s
 ·subst h;simp [TB.setE,h0,hn]
 ·simp [TB.setE,h]
theorem TB.lvs_new {t:TB} {k a:Nat} (hk:k<16) (h0:t.lf k=0) (ha:a≠0):(t.setL k a).lvs.Perm (a::t.lvs):=by
 obtain⟨A,B,e1,e2⟩:=Q7r (α:=Nat) (fun k=>if t.lf k=0 then none else some (t.lf k)) (fun x=>if (t.setL k a).lf x=0 then none else some ((t.setL k a).lf x)) 16 k hk (fun j _ hj=>by simp [TB.setL,hj]);unfold TB.lvs;rw [e1,e2];simp only [TB.setL,if_true,h0,if_neg ha,J4l,J4m,J2y];rw [J1s];exact J3T
theorem TB.lvs_drop {t:TB} {k:Nat} (hk:k<16) (h0:t.lf k≠0):t.lvs.Perm (t.lf k::(t.setL k 0).lvs):=by
 obtain⟨A,B,e1,e2⟩:=Q7r (α:=Nat) (fun k=>if t.lf k=0 then none else some (t.lf k)) (fun x=>if (t.setL k 0).lf x=0 then none else some ((t.setL k 0).lf x)) 16 k hk (fun j _ hj=>by simp [TB.setL,hj]);unfold TB.lvs;rw [e1,e2];simp only [TB.setL,if_true,if_neg h0,J4l,J4m,J2y];rw [J1s];exact J3T
theorem TB.Nil.lists {t:TB} (hn:t.Nil):t.lvs=[]/\t.nds=[]/\t.cost=0:=by
 have h1:t.lvs=[]:=by
  apply J4n.2
  intro a ha;obtain⟨k,hk,e,h0⟩:=mem_lvs.1 ha;rw [hn.1 k hk] at e;exact h0 e.symm
 have h2:t.nds=[]:=by
  apply J4n.2
  intro a ha;obtain⟨s,e,hs,h,_⟩:=mem_nds.1 ha;rw [hn.2 s hs] at h;cases h
 refine⟨h1,h2,?_⟩;unfold TB.cost;rw [h1,h2];rfl
theorem TB.nil_of {t:TB} (hf:t.Full) (h:∀s,s<256->t.en s=none):t.Nil:=by
 refine⟨fun k hk=>?_,h⟩
 apply Classical.byContradiction
 intro h0;obtain⟨s,hs,_,hne⟩:=hf k hk h0;exact hne (h s hs)
theorem TB.cost_nn (t:TB):0<=t.cost:=by unfold TB.cost;omega
def xcP (tb:Nat->TB) (id:Int) (i:Nat) (o:Option Pl):Int:=match o with
 | some p=>if (p.fac:Int)=id then (tb i).cost else 0
 | none=>0
def xcOf (l:List Pl) (tb:Nat->TB) (id:Int):Int:=((List.range 256).map fun i=>xcP tb id i l[i]?).sum
def Q2L (tb:Nat->TB):List Nat:=(List.range 256).flatMap fun i=>(tb i).lvs
def Q3F (tb:Nat->TB):List Nat:=(List.range 256).flatMap fun i=>(tb i).nds
structure TPI (S:CO) (tb:Nat->TB):Prop where
 tin:∀(i:Nat) (p:Pl),S.l[i]?=some p->p.st=1->p.kind=2->(tb i).In S.P.a.mem p.at_
 full:∀i,i<256->(tb i).Full
 nil:∀(i:Nat) (p:Pl),S.l[i]?=some p->¬(p.st=1/\p.kind=2)->(tb i).Nil
 lvs:(Q2L tb).Perm (S.P.usedOf 7)
 nds:(Q3F tb).Perm (S.P.usedOf 6)
 xc:∀id,S.xc id=xcOf S.l tb id
theorem Q2M {n:Nat} {f g:Nat->Int} (h:∀i,i<n->f i=g i):((List.range n).map f).sum=((List.range n).map g).sum:=by
 congr 1;exact J2B fun i hi=>h i (J0J.1 hi)
theorem Z1S {l l':List Pl} {tb tb':Nat->TB} {id:Int} (h:∀i,i<256->xcP tb id i l[i]?=xcP tb' id i l'[i]?):xcOf l tb id=xcOf l' tb' id:=Q2M h
theorem Z0G {l:List Pl} {tb:Nat->TB} {i:Nat} {q:Pl} (hi:i<l.length) (hn:(tb i).Nil) (id:Int):xcOf (l.set i q) tb id=xcOf l tb id:=by
 refine Z1S fun j hj=>?_
 by_cases e:i=j
 ·subst e;have h0:=(TB.Nil.lists hn).2.2;have hp:∀o,xcP tb id i o=0:=fun o=>by
   unfold xcP;cases o with
   | none=>rfl
   | some p=>simp only [h0];split <;> rfl
  rw [hp,hp]
 ·rw [J3W e]
theorem Q2r:Q0c 7=256:=rfl
theorem Q4F:Q0c 6=48:=rfl
theorem Z4E:costK 2=128:=rfl
theorem TPI.leaf {S:CO} {tb:Nat->TB} (t:TPI S tb) {i k:Nat} (hi:i<256) (hk:k<16) (h:(tb i).lf k≠0):(tb i).lf k∈S.P.usedOf 7:=by
 refine t.lvs.mem_iff.1 (J0T.2 ⟨i,J0J.2 hi,mem_lvs.2 ⟨k,hk,rfl,h⟩⟩)
theorem Q1A {l:List Pl} (hl:l.length=256) {i:Nat} {p:Pl} (h:l[i]?=some p):i<256:=by
 have:=(J0K.1 h).1;omega
theorem TPI.tin_kept {S:CO} {tb:Nat->TB} (hl:S.l.length=256) (t:TPI S tb) {m:List Nat} (k1:∀(i:Nat) (p:Pl),S.l[i]?=some p->p.st=1->p.kind=2->Kept S.P.a.mem m p.at_ 128) (k2:∀a,a∈S.P.usedOf 7->Kept S.P.a.mem m a 256) {i:Nat} {p:Pl} (hi:S.l[i]?=some p) (h1:p.st=1) (h2:p.kind=2):(tb i).In m p.at_:=
 (t.tin i p hi h1 h2).kept (k1 i p hi h1 h2) fun k hk hne=>k2 _ (t.leaf (Q1A hl hi) hk hne)
theorem TPI.tried {S:CO} {tb:Nat->TB} {fr:List Nat} {N K:Nat} (ok:S.Ok fr N K) (t:TPI S tb) {P':PL} (h:Tried S.P fr S.l P'):TPI (S.setP P') tb:=by
 refine⟨fun i p hi h1 h2=>?_,t.full,t.nil,t.lvs.trans (h.used 7).symm,t.nds.trans (h.used 6).symm,t.xc⟩;refine t.tin_kept ok.inv.len (fun j q hj q1 q2=>?_) (fun a ha=>h.memH 7 a (by omega) ha) hi h1 h2;have:=h.mem q (J2G hj) (Pl.is_iff.2 (.inl q1));rw [q2] at this;exact this
theorem TPI.made {S:CO} {tb:Nat->TB} {fr fr':List Nat} {N K:Nat} (ok:S.Ok fr N K) (t:TPI S tb) {f p:Pl} {e:En Fa} {n a x i:Nat} {lim:Int} {P':PL} (m:MadeOk S fr f e n a lim x i p P' fr') (hi:S.l[i]?=some p) (hp:p.st=0):TPI (S.made f n a x i p P') tb:=by
 have hi256:=Q1A ok.inv.len hi;have hnil:=t.nil i p hi (by omega);have hlt:i<S.l.length:=(J0K.1 hi).1;refine⟨fun j q hj q1 q2=>?_,t.full,fun j q hj hq=>?_,t.lvs.trans (m.high 7 (by omega)).symm,t.nds.trans (m.high 6 (by omega)).symm,fun id=>?_⟩
 ·have hj':(S.l.set i ⟨n,a,f.own,1,p.age,x⟩)[j]?=some q:=hj;by_cases e:i=j
  ·subst e;rw [J4e hlt] at hj';cases hj';have q2':n=2:=q2;refine hnil.new fun y h1 h2=>m.zero (by omega) y h1 ?_
   rw [q2',Z4E];exact h2
  ·rw [J3W e] at hj';refine t.tin_kept ok.inv.len (fun k r hk r1 r2=>?_) (fun b hb=>m.memH 7 b (by omega) hb) hj' q1 q2;have:=m.kept r (J2G hk) (Pl.is_iff.2 (.inl r1));rw [r2] at this;exact this
 ·have hj':(S.l.set i ⟨n,a,f.own,1,p.age,x⟩)[j]?=some q:=hj;by_cases e:i=j
  ·subst e;exact hnil
  ·rw [J3W e] at hj';exact t.nil j q hj' hq
 ·show S.xc id=xcOf (S.l.set i _) tb id;rw [Z0G hlt hnil,t.xc]
theorem TPI.spare {S:CO} {tb:Nat->TB} {fr:List Nat} {N K:Nat} (ok:S.Ok fr N K) (t:TPI S tb) {h:Nat} {p:Pl} (hp:pget S.l 1 h=some p) (hn:(tb (h%256)).Nil):S.Spare h p:=by
 obtain⟨hi,_,_⟩:=pget_some.1 hp;intro id hne;rw [t.xc] at hne
 -- some place has what counts
 have hex:∃j,j<256/\xcP tb id j S.l[j]?≠0:=by
  apply Classical.byContradiction
  intro hno
  apply hne
  have h0:xcOf S.l tb id=((List.range 256).map fun _=>(0:Int)).sum:=Q2M fun j hj=>Classical.byContradiction fun h=>hno ⟨j,hj,h⟩
  rw [h0];have z:∀l:List Nat,(l.map fun _=>(0:Int)).sum=0:=fun l=>by
   induction l with
   | nil=>rfl
   | cons a r ih=>rw [J0w,J4b,ih];rfl
  exact z _
 obtain⟨j,hj,hx⟩:=hex;unfold xcP at hx;cases hl:S.l[j]? with
 | none=>rw [hl] at hx;exact absurd rfl hx
 | some r =>
  rw [hl] at hx;simp only at hx;split at hx
  ·rename_i hf;have hnn:¬(tb j).Nil:=fun h=>hx (TB.Nil.lists h).2.2
   have hlive:r.st=1/\r.kind=2:=Classical.byContradiction fun h=>hnn (t.nil j r hl h)
   have hne2:h%256≠j:=fun e=>hnn (by rw [<- e];exact hn)
   exact⟨r,J2G (i:=j) (by rw [J3W hne2];exact hl),hlive.1,hf⟩
  ·exact absurd rfl hx
theorem TPI.doomed {S:CO} {tb:Nat->TB} {fr:List Nat} {N K:Nat} (ok:S.Ok fr N K) (t:TPI S tb) {h:Nat} {p:Pl} (hp:pget S.l 1 h=some p) (hn:(tb (h%256)).Nil) (rv:OV):TPI (S.doomed h p rv) tb:=by
 obtain⟨hi,_,_⟩:=pget_some.1 hp;have hlt:h%256<S.l.length:=(J0K.1 hi).1;refine⟨fun j q hj q1 q2=>?_,t.full,fun j q hj hq=>?_,t.lvs,t.nds,fun id=>?_⟩
 ·have hj':(S.l.set (h%256) {p with st:=2})[j]?=some q:=hj;by_cases e:h%256=j
  ·subst e;rw [J4e hlt] at hj';cases hj';cases q1
  ·rw [J3W e] at hj';exact t.tin j q hj' q1 q2
 ·have hj':(S.l.set (h%256) {p with st:=2})[j]?=some q:=hj;by_cases e:h%256=j
  ·subst e;exact hn
  ·rw [J3W e] at hj';exact t.nil j q hj' hq
 ·show S.xc id=xcOf (S.l.set (h%256) _) tb id;rw [Z0G hlt hn,t.xc]
def CO.paid (S:CO) (P':PL) (own:Int) (d:Int):CO:={S with P:=P',xc:=fun id=>if id=own then S.xc id+d else S.xc id}
theorem TreI.pay {E:List (En Fa)} {l:List Pl} {xc:Int->Int} (t:TreI E l xc) (hids:E.Pairwise (fun a b=>a.id≠b.id)) {own:Int} {e:En Fa} (hf:find E own=some e) (d:Int):TreI (upd E own {e.q with charged:=e.q.charged+d}) l (fun id=>if id=own then xc id+d else xc id):=by
 have hgs:∀a,Q3w (upd E own {e.q with charged:=e.q.charged+d}) a=Q3w E a:=fun a=>Q4B hids hf _ _ rfl
 have hkc:∀a,Q3x (upd E own {e.q with charged:=e.q.charged+d}) a=Q3x E a:=fun a=>Q4B hids hf _ _ rfl
 refine⟨by rw [Q2b];exact t.ids,fun p hp his=>?_,fun p hp his hk x hx=>?_,fun id x hx=>?_,fun id x hx=>?_⟩
 ·obtain⟨y,hy⟩:=t.fac p hp his;exact Q1R _ hy
 ·obtain⟨y,hy,h1,h2⟩:=Q0I _ hf hx;have:=t.par p hp his hk y hy;by_cases hid:(p.own:Int)=own
  ·obtain⟨rfl,e2⟩:=h1 hid;rw [e2];exact this
  ·rw [h2 hid];exact this
 ·obtain⟨y,hy,h1,h2⟩:=Q0I _ hf hx;have:=t.charged id y hy;by_cases hid:id=own
  ·obtain⟨rfl,e2⟩:=h1 hid;rw [e2,if_pos hid];show y.q.charged+d=_;omega
  ·rw [h2 hid,if_neg hid];exact this
 ·obtain⟨y,hy,h1,h2⟩:=Q0I _ hf hx;have:=t.given id y hy;rw [hgs,hkc];by_cases hid:id=own
  ·obtain⟨rfl,e2⟩:=h1 hid;rw [e2];exact this
  ·rw [h2 hid];exact this
theorem CO.Ok.paid {S:CO} {fr:List Nat} {N K:Nat} (ok:S.Ok fr N K) {P':PL} {own:Int} {e:En Fa} {d:Int} (hok:P'.Ok fr) (he:find S.P.q.E own=some e) (hE:P'.q={S.P.q with E:=upd S.P.q.E own {e.q with charged:=e.q.charged+d}}) (hu:∀j,1<=j->j<=5->P'.usedOf j=S.P.usedOf j) (hw:∀b∈S.P.usedOf 1,Q0s P'.a.mem b=Q0s S.P.a.mem b)
  (hnn:0<=S.xc own+d) (hlive:S.xc own+d≠0->∃p∈S.l,p.st=1/\(p.fac:Int)=own):(S.paid P' own d).Ok fr N K:=by
 have v:=ok.inv;refine⟨⟨v.len,v.st,v.mem.same hok hu hw,?_,?_⟩,ok.per,ok.due,ok.ord,ok.ov,?_,ok.now,ok.age⟩
 ·show TreI P'.q.E S.l _;rw [hE];exact v.tre.pay v.mem.pool.q.ids he d
 ·refine⟨v.que.root,v.que.live,fun id=>?_,v.que.nd,v.que.has,v.que.ord⟩;show 0<=(if id=own then S.xc id+d else S.xc id)/\((if id=own then S.xc id+d else S.xc id)≠0->_);split
  ·rename_i h;subst h;exact⟨hnn,hlive⟩
  ·exact v.que.xc id
 ·show P'.q.next<=N;rw [hE];exact ok.next
theorem CO.Ok.stored {S:CO} {fr:List Nat} {N K:Nat} (ok:S.Ok fr N K) {m:List Nat} (hl:m.length=S.P.a.mem.length) (hb:∀b∈m,b<256) (hw:∀b∈S.P.usedOf 1,Q0s m b=Q0s S.P.a.mem b):(S.setP (S.P.setA m)).Ok fr N K:=by
 have v:=ok.inv;exact⟨⟨v.len,v.st,v.mem.same (PL.ok_setA v.mem.pool hl hb) (fun _ _ _=>rfl) hw,v.tre,v.que⟩,ok.per,ok.due,ok.ord,ok.ov,ok.next,ok.now,ok.age⟩
structure TPX (S:CO) (tb:Nat->TB) (own:Int) (xl xn:List Nat):Prop where
 tin:∀(i:Nat) (p:Pl),S.l[i]?=some p->p.st=1->p.kind=2->(tb i).In S.P.a.mem p.at_
 nil:∀(i:Nat) (p:Pl),S.l[i]?=some p->¬(p.st=1/\p.kind=2)->(tb i).Nil
 lvs:(xl++Q2L tb).Perm (S.P.usedOf 7)
 nds:(xn++Q3F tb).Perm (S.P.usedOf 6)
 xc:∀id,S.xc id=xcOf S.l tb id+if id=own then 256*(xl.length:Int)+48*(xn.length:Int) else 0
theorem TPI.x {S:CO} {tb:Nat->TB} (t:TPI S tb) (own:Int):TPX S tb own [] []:=⟨t.tin,t.nil,t.lvs,t.nds,fun id=>by rw [t.xc];simp⟩
theorem TPX.done {S:CO} {tb:Nat->TB} {own:Int} (t:TPX S tb own [] []) (hf:∀i,i<256->(tb i).Full):TPI S tb:=⟨t.tin,hf,t.nil,t.lvs,t.nds,fun id=>by rw [t.xc];simp⟩
theorem TPX.leaf {S:CO} {tb:Nat->TB} {own:Int} {xl xn:List Nat} (t:TPX S tb own xl xn) {i k:Nat} (hi:i<256) (hk:k<16) (h:(tb i).lf k≠0):(tb i).lf k∈S.P.usedOf 7:=
 t.lvs.mem_iff.1 (J1m _ (J0T.2 ⟨i,J0J.2 hi,mem_lvs.2 ⟨k,hk,rfl,h⟩⟩))
theorem TPX.tin_kept {S:CO} {tb:Nat->TB} {own:Int} {xl xn:List Nat} (hl:S.l.length=256) (t:TPX S tb own xl xn) {m:List Nat} (k1:∀(i:Nat) (p:Pl),S.l[i]?=some p->p.st=1->p.kind=2->Kept S.P.a.mem m p.at_ 128) (k2:∀a,a∈S.P.usedOf 7->Kept S.P.a.mem m a 256) {i:Nat} {p:Pl} (hi:S.l[i]?=some p) (h1:p.st=1) (h2:p.kind=2):(tb i).In m p.at_:=
 (t.tin i p hi h1 h2).kept (k1 i p hi h1 h2) fun k hk hne=>k2 _ (t.leaf (Q1A hl hi) hk hne)
theorem Q1w {S:CO} {fr:List Nat} {N K:Nat} (ok:S.Ok fr N K) {i:Nat} {p:Pl} (hi:S.l[i]?=some p) (h1:p.st=1) (h2:p.kind=2):p.at_∈S.P.usedOf 2:=by
 have:=ok.inv.mem.used (J2G hi) (Pl.is_iff.2 (.inl h1)) (by omega)
 rwa [h2] at this
theorem GotM.kept {P P':PL} {fr fr':List Nat} {own:Int} {k a:Nat} (g:GotM P fr own k a P' fr') (ok:P.Ok fr) {j b:Nat} (hb:b∈P.usedOf j):Kept P.a.mem P'.a.mem b (Q0c j):=by
 have:=(g.apart ok).1 j b hb;rw [g.mem];exact Q1p (by rw [J0D];exact g.room.1) (by rw [J0D];omega)
theorem Z7O:∀{l:List Int},(∀x∈l,0<=x)->0<=l.sum
 | [],_=>J4r _
 | x::r,h=>by
  have:=Z7O (l:=r) fun y hy=>h y (by simp [hy])
  have:=h x (by simp);rw [J4b];omega
theorem Q9r (l:List Pl) (tb:Nat->TB) (id:Int):0<=xcOf l tb id:=by
 refine Z7O fun x hx=>?_
 obtain⟨i,_,rfl⟩:=J0z.1 hx;unfold xcP;split
 ·split
  ·exact TB.cost_nn _
  ·exact J4r _
 ·exact J4r _
section
variable {S:CO} {fr:List Nat} {N K:Nat} {tb:Nat->TB} {own:Int} {xl xn:List Nat}
theorem TPX.got {n a:Nat} {P':PL} (ok:S.Ok fr N K) (t:TPX S tb own xl xn) (hn:n=6∨n=7) (g:GetOk S.P fr own n a P') (hown:∃p∈S.l,p.st=1/\(p.fac:Int)=own) :
  (S.paid P' own ((Q0c n:Nat):Int)).Ok fr N K/\TPX (S.paid P' own ((Q0c n:Nat):Int)) tb own (if n=7 then a::xl else xl) (if n=6 then a::xn else xn):=by
 have gm:=g.gotM ok.inv.mem.pool;have hck:costK n=Q0c n:=Q1B (by omega);obtain⟨e,q1,q2,q3⟩:=g.q;have hxn:=(ok.inv.que.xc own).1;refine⟨ok.paid g.ok q1 q3 (fun j h1 h5=>g.other j (by omega)) (fun b hb=>?_) (by omega) (fun _=>hown),?_,t.nil,?_,?_,fun id=>?_⟩
 ·have:=gm.kept ok.inv.mem.pool hb;exact (this.sub (b:=b) (k:=8) (J0t _) (by show b+8<=b+64;omega)).word
 ·intro i p hi h1 h2;refine t.tin_kept ok.inv.len (fun j q hj q1 q2=>?_) (fun b hb=>gm.kept ok.inv.mem.pool hb) hi h1 h2;exact gm.kept ok.inv.mem.pool (Q1w ok hj q1 q2)
 ·show (_++Q2L tb).Perm (P'.usedOf 7);by_cases h7:n=7
  ·subst h7;rw [if_pos rfl];exact (List.Perm.cons a t.lvs).trans (gm.used (by omega)).symm
  ·rw [if_neg h7,g.other 7 (by omega)];exact t.lvs
 ·show (_++Q3F tb).Perm (P'.usedOf 6);by_cases h6:n=6
  ·subst h6;rw [if_pos rfl];exact (List.Perm.cons a t.nds).trans (gm.used (by omega)).symm
  ·rw [if_neg h6,g.other 6 (by omega)];exact t.nds
 ·show (if id=own then S.xc id+_ else S.xc id)=xcOf S.l tb id+_;by_cases hid:id=own
  ·subst hid;rw [if_pos rfl,t.xc,if_pos rfl,if_pos rfl];rcases hn with rfl|rfl
   ·simp [Q4F];omega
   ·simp [Q2r];omega
  ·rw [if_neg hid,t.xc,if_neg hid,if_neg hid]
theorem TPX.put {n a:Nat} {P':PL} (ok:S.Ok fr N K) (hn:n=6∨n=7) (t:TPX S tb own (if n=7 then a::xl else xl) (if n=6 then a::xn else xn)) (g:PutOk S.P fr own n a P') (hown:∃p∈S.l,p.st=1/\(p.fac:Int)=own) :
  (S.paid P' own (-((Q0c n:Nat):Int))).Ok fr N K/\TPX (S.paid P' own (-((Q0c n:Nat):Int))) tb own xl xn:=by
 have bm:=g.backM ok.inv.mem.pool;obtain⟨e,q1,q2,q3⟩:=g.q;have hmem:P'.a.mem=S.P.a.mem:=by rw [g.aa]
 have hq3:P'.q={S.P.q with E:=upd S.P.q.E own {e.q with charged:=e.q.charged + -((Q0c n:Nat):Int)}}:=by rw [q3,Int.sub_eq_add_neg]
 have hxn:=Q9r S.l tb own;have hxo:=t.xc own;rw [if_pos rfl] at hxo;refine⟨ok.paid g.ok q1 hq3 (fun j h1 h5=>g.other j (by omega)) (fun b hb=>by rw [hmem]) ?_ (fun _=>hown),?_,t.nil,?_,?_,fun id=>?_⟩
 ·rcases hn with rfl|rfl
  ·simp [Q4F] at hxo ⊢;omega
  ·simp [Q2r] at hxo ⊢;omega
 ·intro i p hi h1 h2;show (tb i).In P'.a.mem p.at_;rw [hmem];exact t.tin i p hi h1 h2
 ·show (xl++Q2L tb).Perm (P'.usedOf 7);by_cases h7:n=7
  ·subst h7;have h1:=t.lvs;rw [if_pos rfl] at h1;exact J4c (h1.trans (bm.used (by omega)))
  ·have h1:=t.lvs;rw [if_neg h7] at h1;rw [g.other 7 (by omega)];exact h1
 ·show (xn++Q3F tb).Perm (P'.usedOf 6);by_cases h6:n=6
  ·subst h6;have h1:=t.nds;rw [if_pos rfl] at h1;exact J4c (h1.trans (bm.used (by omega)))
  ·have h1:=t.nds;rw [if_neg h6] at h1;rw [g.other 6 (by omega)];exact h1
 ·show (if id=own then S.xc id+_ else S.xc id)=xcOf S.l tb id+_;have hx:=t.xc id;by_cases hid:id=own
  ·subst hid;rw [if_pos rfl] at hx ⊢;rw [hx,if_pos rfl];rcases hn with rfl|rfl
   ·simp [Q4F];omega
   ·simp [Q2r];omega
  ·rw [if_neg hid] at hx ⊢;rw [hx,if_neg hid]
end
def updT (tb:Nat->TB) (i:Nat) (t:TB):Nat->TB:=fun j=>if j=i then t else tb j
theorem updT_same (tb:Nat->TB) (i:Nat) (t:TB):updT tb i t i=t:=by unfold updT;rw [if_pos rfl]
theorem Q0Q {tb:Nat->TB} {i j:Nat} {t:TB} (h:j≠i):updT tb i t j=tb j:=by unfold updT;rw [if_neg h]
theorem Z0H (i:Nat) (hi:i<256):∃A B,List.range 256=A++i::B/\(∀j∈A,j≠i)/\∀j∈B,j≠i:=by
 have hm:i∈List.range 256:=J0J.2 hi;obtain⟨A,B,e⟩:=List.append_of_mem hm;have hnd:(List.range 256).Nodup:=J4j;rw [e] at hnd;obtain⟨h1,h2,h3⟩:=J1l.1 hnd;exact⟨A,B,e,fun j hj=>h3 j hj i (by simp),fun j hj h=>(J1o.1 h2).1 (h ▸ hj)⟩
theorem Q4h (f:TB->List Nat) (tb:Nat->TB) {i:Nat} (hi:i<256) (t:TB):∃A B,(List.range 256).flatMap (fun j=>f (tb j))=A++f (tb i)++B/\(List.range 256).flatMap (fun j=>f (updT tb i t j))=A++f t++B:=by
 obtain⟨A,B,e,h1,h2⟩:=Z0H i hi;refine⟨A.flatMap fun j=>f (tb j),B.flatMap fun j=>f (tb j),by rw [e];simp,?_⟩;have g1:A.flatMap (fun j=>f (updT tb i t j))=A.flatMap fun j=>f (tb j):=by
  rw [J4s,J4s];congr 1;exact J2B fun j hj=>by rw [Q0Q (h1 j hj)]
 have g2:B.flatMap (fun j=>f (updT tb i t j))=B.flatMap fun j=>f (tb j):=by
  rw [J4s,J4s];congr 1;exact J2B fun j hj=>by rw [Q0Q (h2 j hj)]
 rw [e,J1b,J0Q,g1,g2,updT_same];simp
theorem Q8d {l:List Pl} {tb:Nat->TB} {i:Nat} (hi:i<256) {p:Pl} (hp:l[i]?=some p) (t:TB) (id:Int):xcOf l (updT tb i t) id=xcOf l tb id+if (p.fac:Int)=id then t.cost-(tb i).cost else 0:=by
 obtain⟨A,B,e,h1,h2⟩:=Z0H i hi;unfold xcOf;rw [e];simp only [J3S,J0w,J4d,J4b];have g1:A.map (fun j=>xcP (updT tb i t) id j l[j]?)=A.map fun j=>xcP tb id j l[j]?:=J2B fun j hj=>by unfold xcP;rw [Q0Q (h1 j hj)]
 have g2:B.map (fun j=>xcP (updT tb i t) id j l[j]?)=B.map fun j=>xcP tb id j l[j]?:=J2B fun j hj=>by unfold xcP;rw [Q0Q (h2 j hj)]
 rw [g1,g2];have e1:∀tb',xcP tb' id i l[i]?=if (p.fac:Int)=id then (tb' i).cost else 0:=fun tb'=>by unfold xcP;rw [hp]
 rw [e1,e1,updT_same];split <;> omega
end Go.Proofs.YtlakjlmaboioiaaGreatDoor
namespace Go.Proofs.YtlakjlmaboioiaaGreatDoor
open Go.Proofs.Tryz
structure Fst3 (kd:Int->List Int) (rk:Int->Nat):Prop where
 dn:∀h x,x∈kd h->rk x<rk h
 one:∀a b x,x∈kd a->x∈kd b->a=b
 nd:∀h,(kd h).Nodup
def preG (kd:Int->List Int):Nat->Int->List Int
 | 0,h=>[h]
 | n+1,h=>h::(kd h).reverse.flatMap (preG kd n)
section
variable {kd:Int->List Int} {rk:Int->Nat}
theorem Q5A {f g:Int->List Int}:∀{L:List Int},(∀x∈L,f x=g x)->L.flatMap f=L.flatMap g
 | [],_=>rfl
 | x::r,h=>by rw [J0Q,J0Q,h x (by simp),Q5A (L:=r) fun y hy=>h y (by simp [hy])]
theorem Fst3.leaf (t:Fst3 kd rk) {h:Int} (hr:rk h=0):kd h=[]:=by
 cases hk:kd h with
 | nil=>rfl
 | cons x r =>
  have:=t.dn h x (by rw [hk];simp);omega
theorem Q5B (t:Fst3 kd rk):∀n m h,rk h<=n->rk h<=m->preG kd n h=preG kd m h:=by
 intro n
 induction n with
 | zero =>
  intro m h h1 h2;have hk:=t.leaf (J0R.1 h1);cases m with
  | zero=>rfl
  | succ m=>simp [preG,hk]
 | succ n ih =>
  intro m h h1 h2;cases m with
  | zero =>
   have hk:=t.leaf (J0R.1 h2);simp [preG,hk]
  | succ m =>
   simp only [preG];congr 1;refine Q5A fun x hx=>?_
   have:=t.dn h x (J0S.1 hx);exact ih m x (by omega) (by omega)
def preT (kd:Int->List Int) (rk:Int->Nat) (h:Int):List Int:=preG kd (rk h) h
theorem Q9s (t:Fst3 kd rk) (h:Int):preT kd rk h=h::(kd h).reverse.flatMap (preT kd rk):=by
 have:preT kd rk h=preG kd (rk h+1) h:=Q5B t _ _ h (J0t _) (by omega);rw [this];simp only [preG];congr 1;refine Q5A fun x hx=>?_
 have:=t.dn h x (J0S.1 hx);exact Q5B t _ _ x (by omega) (J0t _)
def Q0B (kd:Int->List Int) (rk:Int->Nat) (h:Int):List Int:=(preT kd rk h).tail.reverse
theorem Q3g (t:Fst3 kd rk) (h:Int):preT kd rk h=h::(Q0B kd rk h).reverse:=by
 unfold Q0B;rw [J1f,Q9s t h];rfl
inductive Dn (kd:Int->List Int):Int->Int->Prop where
 | here (h:Int):Dn kd h h
 | down (h k x:Int):k∈kd h->Dn kd k x->Dn kd h x
theorem Dn.trans {h k x:Int} (a:Dn kd h k) (b:Dn kd k x):Dn kd h x:=by
 induction a with
 | here=>exact b
 | down h k y hk _ ih=>exact .down h k x hk (ih b)
theorem Dn.rank (t:Fst3 kd rk) {h x:Int} (a:Dn kd h x):rk x<=rk h/\(x=h∨rk x<rk h):=by
 induction a with
 | here=>exact⟨J0t _,.inl rfl⟩
 | down h k y hk _ ih =>
  have:=t.dn h k hk;have:=ih.1;exact⟨by omega,.inr (by omega)⟩
theorem Q5e (t:Fst3 kd rk):∀n h x,rk h<=n->(x∈preG kd n h↔Dn kd h x):=by
 intro n
 induction n with
 | zero =>
  intro h x hn;have hk:=t.leaf (J0R.1 hn);simp only [preG,J2z]
  constructor
  ·rintro rfl;exact .here _
  ·intro d;cases d with
   | here=>rfl
   | down _ k _ hm _=>rw [hk] at hm;cases hm
 | succ n ih =>
  intro h x hn;simp only [preG,J0y,J0T,J0S]
  constructor
  ·rintro (rfl|⟨k,hk,hx⟩)
   ·exact .here _
   ·have:=t.dn h k hk;exact .down h k x hk ((ih k x (by omega)).1 hx)
  ·intro d;cases d with
   | here=>exact .inl rfl
   | down _ k _ hm hd =>
    have:=t.dn h k hm;exact .inr ⟨k,hm,(ih k x (by omega)).2 hd⟩
theorem Z0I (t:Fst3 kd rk) {h x:Int}:x∈preT kd rk h↔Dn kd h x:=Q5e t _ h x (J0t _)
theorem Dn.line (t:Fst3 kd rk) {a x:Int} (h:Dn kd a x):∀{b:Int},Dn kd b x->Dn kd a b∨Dn kd b a:=by
 -- the last step down to x
 have last:∀{a x:Int},Dn kd a x->x=a∨∃z,Dn kd a z/\x∈kd z:=by
  intro a x h
  induction h with
  | here=>exact .inl rfl
  | down h k y hk _ ih =>
   rcases ih with rfl|⟨z,h1,h2⟩
   ·exact .inr ⟨h,.here _,hk⟩
   ·exact .inr ⟨z,.down h k z hk h1,h2⟩
 have key:∀n a b x,rk a-rk x<=n->Dn kd a x->Dn kd b x->Dn kd a b∨Dn kd b a:=by
  intro n
  induction n with
  | zero =>
   intro a b x hn h k;rcases (h.rank t).2 with rfl|hlt
   ·exact .inr k
   ·omega
  | succ n ih =>
   intro a b x hn h k;rcases last h with rfl|⟨z,h1,h2⟩
   ·exact .inr k
   ·rcases last k with rfl|⟨z',k1,k2⟩
    ·exact .inl h
    ·have:z=z':=t.one z z' x h2 k2;subst this;have:=t.dn z x h2;have:=(h1.rank t).1;exact ih a b z (by omega) h1 k1
 intro b k;exact key _ a b x (J0t _) h k
theorem Dn.last {a x:Int} (h:Dn kd a x):x=a∨∃z,Dn kd a z/\x∈kd z:=by
 induction h with
 | here=>exact .inl rfl
 | down h k y hk _ ih =>
  rcases ih with rfl|⟨z,h1,h2⟩
  ·exact .inr ⟨h,.here _,hk⟩
  ·exact .inr ⟨z,.down h k z hk h1,h2⟩
theorem Q6I (t:Fst3 kd rk) {h a b x:Int} (ha:a∈kd h) (hb:b∈kd h) (hne:a≠b) (h1:Dn kd a x) (h2:Dn kd b x):False:=by
 have no:∀{a b:Int},a∈kd h->b∈kd h->a≠b->¬Dn kd a b:=by
  intro a b ha hb hne d;rcases d.last with e|⟨z,d1,d2⟩
  ·exact hne e.symm
  ·have:z=h:=t.one z h b d2 hb;subst this;have:=(d1.rank t).1;have:=t.dn z a ha;omega
 rcases h1.line t h2 with h|h
 ·exact no ha hb hne h
 ·exact no hb ha hne.symm h
theorem Z4F (t:Fst3 kd rk):∀n h,rk h<=n->(preG kd n h).Pairwise (fun a b=>a≠b/\¬Dn kd b a):=by
 intro n
 induction n with
 | zero=>intro h _;simp [preG]
 | succ n ih =>
  intro h hn;simp only [preG,J0U,J0V];refine⟨fun b hb=>?_,fun x hx=>?_,?_⟩
  ·obtain⟨k,hk,hb'⟩:=J0T.1 hb;have hk:=J0S.1 hk;have h1:=t.dn h k hk;have hd:=(Q5e t n k b (by omega)).1 hb';have h2:=(hd.rank t).1;refine⟨fun e=>by subst e;omega,fun d=>?_⟩;have:=(d.rank t).1;omega
  ·have:=t.dn h x (J0S.1 hx);exact ih x (by omega)
  ·rw [J0W];refine (t.nd h).imp_of_mem ?_;intro x1 x2 m1 m2 hne a ha b hb;have r1:=t.dn h x1 m1;have r2:=t.dn h x2 m2;have d1:=(Q5e t n x2 a (by omega)).1 ha;have d2:=(Q5e t n x1 b (by omega)).1 hb;refine⟨?_,fun d=>?_⟩
   ·rintro rfl;exact Q6I t m1 m2 hne d2 d1
   ·exact Q6I t m1 m2 hne (d2.trans d) d1
theorem Q5C (t:Fst3 kd rk) (h:Int):(preT kd rk h).Pairwise (fun a b=>a≠b/\¬Dn kd b a):=Z4F t _ h (J0t _)
theorem Q6J (t:Fst3 kd rk) {h x:Int}:x∈Q0B kd rk h↔Dn kd h x/\x≠h:=by
 have e:=Q3g t h;have hp:=Q5C t h;rw [e] at hp;obtain⟨h1,_⟩:=J0U.1 hp;have hm:x∈preT kd rk h↔x=h∨x∈Q0B kd rk h:=by rw [e];simp
 rw [<- Z0I t,hm]
 constructor
 ·intro hx;exact⟨.inr hx,fun e=>(h1 x (by simpa using hx)).1 e.symm⟩
 ·rintro⟨h|h,hne⟩
  ·exact absurd h hne
  ·exact h
theorem Z1T (t:Fst3 kd rk) (h:Int):(Q0B kd rk h).Pairwise (fun a b=>a≠b/\¬Dn kd a b):=by
 have hp:=Q5C t h;rw [Q3g t h] at hp;have:=(J0U.1 hp).2;rw [J0W] at this;exact this.imp fun ⟨h1,h2⟩=>⟨h1.symm,h2⟩
def Q8e (kd:Int->List Int) (rk:Int->Nat) (ws:List Int):List Int:=ws.reverse.flatMap (preT kd rk)
theorem Z1U (t:Fst3 kd rk) (ws:List Int) (x:Int):Q8e kd rk (ws++[x])=x::Q8e kd rk (ws++kd x):=by
 unfold Q8e;rw [J0Z,J0Z,J1a,J1b,J1b,J1c,Q9s t x];rfl
theorem Z4G (kd:Int->List Int) (rk:Int->Nat) (t:Fst3 kd rk) (ws:List Int):ws.length<=(Q8e kd rk ws).length:=by
 unfold Q8e;have:∀w:List Int,w.length<=(w.flatMap (preT kd rk)).length:=by
  intro w
  induction w with
  | nil=>simp
  | cons x r ih =>
   rw [J0Q,J1d,J1e];have:0<(preT kd rk x).length:=by rw [Q9s t x];simp
   omega
 simpa using this ws.reverse
end
open Go.RowKit
abbrev SKV:=List ((Int×Int)×Value)
def Q1W (p:Int×Int):Value:=.agg #[.int .i64 p.1,.int .i64 p.2]
def Q3r (kv:SKV) (p:Int×Int):Option Value:=(kv.find? fun q=>decide (q.1=p)).map Prod.snd
def delS (kv:SKV) (p:Int×Int):SKV:=kv.filter fun q=>decide (q.1≠p)
def Q2N (w:World) (m:Nat) (kv:SKV):Prop:=MapIs w m (kv.map fun q=>(Q1W q.1,q.2))
def Q1x (P:Program) (K:TypeId) (p:Int×Int):Prop:=∃l,keyOf P K (Q1W p)=some l
theorem Z4H {p q:Int×Int} (h:Q1W p=Q1W q):p=q:=by
 unfold Q1W at h;simp at h;exact Prod.ext h.1 h.2
theorem Z4I:∀{kv:SKV} {p:Int×Int} {v:Value} {j:Nat},kv.Pairwise (fun a b=>a.1≠b.1)->kv[j]?=some (p,v)->Q3r kv p=some v/\kv.eraseIdx j=delS kv p
 | [],_,_,_,_,h=>by simp at h
 | q::r,p,v,0,hn,h=>by
  simp at h;subst h;obtain⟨h1,_⟩:=J0U.1 hn;refine⟨by simp [Q3r],?_⟩;unfold delS;rw [J2F (by simp)]
  symm
  rw [List.eraseIdx_zero,List.tail_cons,J4t];intro a ha;have:=h1 a ha;simp;exact fun e=>this e.symm
 | q::r,p,v,j+1,hn,h=>by
  rw [J3D] at h;obtain⟨h1,h2⟩:=J0U.1 hn;obtain⟨i1,i2⟩:=Z4I h2 h;have hne:q.1≠p:=h1 _ (J2G h);refine⟨?_,?_⟩
  ·unfold Q3r at i1 ⊢;rw [List.find?_cons_of_neg (by simpa using hne)];exact i1
  ·unfold delS at i2 ⊢;rw [J2E (by simpa using hne),J4u,i2]
theorem map_erase {α β:Type} (f:α->β):∀(l:List α) (j:Nat),(l.eraseIdx j).map f=(l.map f).eraseIdx j
 | [],_=>by simp
 | _::_,0=>rfl
 | x::r,j+1=>by rw [J4u,J0w,J0w,J4u,map_erase f r j]
theorem Q8f {kv:SKV} {p:Int×Int} (h:∀q∈kv,q.1≠p):Q3r kv p=none/\delS kv p=kv:=by
 refine⟨?_,?_⟩
 ·unfold Q3r;rw [J2l.2 (fun q hq=>by simpa using h q hq)];rfl
 ·unfold delS;rw [J4t];intro q hq
  simpa using h q hq
section
variable {P:Program} {K V:TypeId} {T:TypeId}
theorem Q5D (law:WideMaps.KeyLaw P K) (w:World) {es:List MapEntry} {kv:SKV} (hr:es.map (fun e=>(e.key,e.val))=kv.map fun q=>(Q1W q.1,q.2)) (hn:kv.Pairwise (fun a b=>a.1≠b.1)) (hk:∀q∈kv,Q1x P K q.1) {p:Int×Int} (hp:Q1x P K p) :
  ((Instr.findKey K (Q1W p) es).run P w=.ok none w/\Q3r kv p=none/\delS kv p=kv/\∀e∈es,e.key≠Q1W p) ∨
  ∃j v,(Instr.findKey K (Q1W p) es).run P w=.ok (some (j,v)) w/\Q3r kv p=some v/\j<es.length/\(es.eraseIdx j).map (fun e=>(e.key,e.val))=(delS kv p).map fun q=>(Q1W q.1,q.2):=by
 obtain⟨l,hl⟩:=hp;have hall:∀e∈es,∃l,keyOf P K e.key=some l:=fun e he=>by
  have hm:(e.key,e.val)∈kv.map fun q=>(Q1W q.1,q.2):=by rw [<- hr];exact J0z.2 ⟨e,he,rfl⟩
  obtain⟨q,hq,e1⟩:=J0z.1 hm;have:Q1W q.1=e.key:=((Prod.mk.injEq _ _ _ _).mp e1).1;rw [<- this];exact hk q hq
 rcases law.find w hl es hall with ⟨h1,h2⟩|⟨j,e,h1,h2,h3⟩
 ·left;have hno:∀q∈kv,q.1≠p:=fun q hq e=>by
   have hm:(Q1W q.1,q.2)∈es.map fun e=>(e.key,e.val):=by rw [hr];exact J0z.2 ⟨q,hq,rfl⟩
   obtain⟨x,hx,e1⟩:=J0z.1 hm;exact h2 x hx (by rw [((Prod.mk.injEq _ _ _ _).mp e1).1,e])
  exact⟨h1,(Q8f hno).1,(Q8f hno).2,h2⟩
 ·right;have hj:j<es.length:=(J0K.1 h2).1;have hkj:(kv.map fun q=>(Q1W q.1,q.2))[j]?=some (e.key,e.val):=by rw [<- hr,J2d,h2];rfl
  rw [J2d] at hkj;obtain⟨q,hq,e1⟩:=J4k.1 hkj;obtain⟨e2,e3⟩:=(Prod.mk.injEq _ _ _ _).mp e1;have hqp:q.1=p:=Z4H (e2.trans h3);have hq2:kv[j]?=some (p,e.val):=by rw [hq,<- hqp,<- e3]
  obtain⟨f1,f2⟩:=Z4I hn hq2;refine⟨j,e.val,h1,f1,hj,?_⟩;rw [<- f2,map_erase,map_erase,hr]
theorem Q5E {w:World} {m:Nat} {kv:SKV} (h:Q2N w m kv) (law:WideMaps.KeyLaw P K) (hn:kv.Pairwise (fun a b=>a.1≠b.1)) (hk:∀q∈kv,Q1x P K q.1) {p:Int×Int} (hp:Q1x P K p) (ok:Bool) (z:Value) (hT:P.underlying T=some (.map K V)) (hz:(zeroValue V).run P w=.ok z w) :
  (Instr.lookup T (.map (some m)) (Q1W p) ok).run P w=.ok (if ok then .tuple #[(Q3r kv p).getD z,.bool (Q3r kv p).isSome] else (Q3r kv p).getD z) w:=by
 obtain⟨es,clock,hb,hs,hr⟩:=h;have hc:=fun em=>law.check w em hp.choose_spec
 unfold Instr.lookup;rcases Q5D law w hr hn hk hp with ⟨hf,hl,_,_⟩|⟨j,v,hf,hl,_,_⟩
 ·cases ok <;> simp [run_underlying hT,Result.andThen,Go.MapKept.run_getObj_map hb,hc,hf,hl,hz]
 ·cases ok <;> simp [run_underlying hT,Result.andThen,Go.MapKept.run_getObj_map hb,hc,hf,hl]
theorem Q4i {w:World} {m:Nat} {kv:SKV} (h:Q2N w m kv) (law:WideMaps.KeyLaw P K) (hn:kv.Pairwise (fun a b=>a.1≠b.1)) (hk:∀q∈kv,Q1x P K q.1) {p:Int×Int} (hp:Q1x P K p) (u:Value) (hno:Q3r kv p=none) (hT:P.underlying T=some (.map K V)) :
  ∃w',(Instr.mapUpdate T (.map (some m)) (Q1W p) u).run P w=.ok () w'/\Q2N w' m (kv++[(p,u)])/\w.grownBy w' (some m):=by
 obtain⟨es,clock,hb,hs,hr⟩:=h;have hc:=fun em=>law.check w em hp.choose_spec
 have hgr:∀o,w.grownBy {w with heap:=w.heap.setIfInBounds m o} (some m):=fun o=>⟨rfl,rfl,rfl,by simp,fun k _ hne=>by
  have:m≠k:=fun e=>hne (by rw [e])
  simp [this]⟩
 have hlt:=lt_of_block hb;unfold Instr.mapUpdate;rcases Q5D law w hr hn hk hp with ⟨hf,hl,_,hne⟩|⟨j,v,hf,hl,_,_⟩
 ·refine⟨{w with heap:=w.heap.setIfInBounds m (.map (es.push {key:=Q1W p,val:=u,born:=clock}) (clock+1))},?_,?_,hgr _⟩
  ·simp [run_underlying hT,Result.andThen,Go.MapKept.run_getObj_map hb,hc,hf,Go.MapKept.run_setObj_map _ hb]
  ·refine⟨es.push {key:=Q1W p,val:=u,born:=clock},clock+1,by simp [hlt],Go.MapKept.stamped_push hs (fun x hx=>hne x (by simpa using hx)),?_⟩;simp [hr]
 ·rw [hno] at hl;cases hl
theorem Q5F {w:World} {m:Nat} {kv:SKV} (h:Q2N w m kv) (law:WideMaps.KeyLaw P K) (hn:kv.Pairwise (fun a b=>a.1≠b.1)) (hk:∀q∈kv,Q1x P K q.1) {p:Int×Int} (hp:Q1x P K p) (t1 t2:TypeId) (hT:P.underlying T=some (.map K V)) :
  ∃w',(Builtin.delete_ #[T,t1] t2 #[.map (some m),Q1W p]).run P w=.ok (.tuple #[]) w'/\Q2N w' m (delS kv p)/\w.grownBy w' (some m):=by
 obtain⟨es,clock,hb,hs,hr⟩:=h;have hc:=fun em=>law.check w em hp.choose_spec
 have hgr:∀o,w.grownBy {w with heap:=w.heap.setIfInBounds m o} (some m):=fun o=>⟨rfl,rfl,rfl,by simp,fun k _ hne=>by
  have:m≠k:=fun e=>hne (by rw [e])
  simp [this]⟩
 have hlt:=lt_of_block hb;unfold Builtin.delete_;rcases Q5D law w hr hn hk hp with ⟨hf,hl,hd,hne⟩|⟨j,v,hf,hl,hj,hd⟩
 ·refine⟨{w with heap:=w.heap.setIfInBounds m (.map es clock)},?_,?_,hgr _⟩
  ·simp [run_underlying hT,Result.andThen,Go.MapKept.run_getObj_map hb,hc,hf,Go.MapKept.run_setObj_map _ hb]
  ·refine⟨_,_,by simp [hlt],hs,?_⟩;rw [hd];exact hr
 ·refine⟨{w with heap:=w.heap.setIfInBounds m (.map (es.eraseIdxIfInBounds j) clock)},?_,?_,hgr _⟩
  ·simp [run_underlying hT,Result.andThen,Go.MapKept.run_getObj_map hb,hc,hf,Go.MapKept.run_setObj_map _ hb]
  ·refine⟨es.eraseIdxIfInBounds j,clock,by simp [hlt],Go.MapKept.stamped_erase hs _,?_⟩;rw [<- hd];have:j<es.size:=by simpa using hj
   simp [Array.eraseIdxIfInBounds,this]
end
end Go.Proofs.YtlakjlmaboioiaaGreatDoor

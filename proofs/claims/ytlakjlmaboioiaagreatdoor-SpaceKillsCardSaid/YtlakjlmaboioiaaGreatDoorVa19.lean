/- What the laws of spaces share is proved. No condition. Part of a proof. -/
import Derived.Test.YtlakjlmaboioiaaGreatDoorVa18
set_option maxHeartbeats 4000000
set_option maxRecDepth 100000
set_option linter.unusedVariables false
namespace Go.Proofs.YtlakjlmaboioiaaGreatDoor
open Go.RowKit Go.Proofs.Tryz
structure Alt0 (S S':CO):Prop where
 c:S'.c=S.c
 t:S'.t=S.t
 l:S'.l=S.l
 g:S'.g=S.g
 per:S'.period=S.period
 now:S'.now=S.now
 rv:S'.rv=S.rv
 ts:S'.ts=S.ts
 same:SameP S.P S'.P
 next:S'.P.q.next=S.P.q.next
 acc:∀id e,find S.P.q.E id=some e->∃e',find S'.P.q.E id=some e'/\e'.q={e.q with charged:=e'.q.charged}
 ids:S'.P.q.E.map En.id=S.P.q.E.map En.id
 kept:∀r∈S.l,r.is=true->r.kind≠2->Kept S.P.a.mem S'.P.a.mem r.at_ (costK r.kind)
theorem Alt.alt0 {S S':CO} {own:Int} (h:Alt S S' own):Alt0 S S':=⟨h.c,h.t,h.l,h.g,h.per,h.now,h.rv,h.ts,h.same,h.next,fun id e he=>by
 obtain⟨e',a,b,_⟩:=h.acc id e he;exact⟨e',a,b⟩,h.ids,h.kept⟩
theorem Alt0.refl (S:CO):Alt0 S S:=(Alt.refl S 0).alt0
theorem Alt0.trans {S S1 S2:CO} (h:Alt0 S S1) (k:Alt0 S1 S2):Alt0 S S2:=by
 refine⟨k.c.trans h.c,k.t.trans h.t,k.l.trans h.l,k.g.trans h.g,k.per.trans h.per,k.now.trans h.now,k.rv.trans h.rv,k.ts.trans h.ts,h.same.trans k.same,k.next.trans h.next,fun id e he=>?_,k.ids.trans h.ids,fun r hr hi hk=>?_⟩
 ·obtain⟨e1,a1,a2⟩:=h.acc id e he;obtain⟨e2,b1,b2⟩:=k.acc id e1 a1;refine⟨e2,b1,?_⟩;rw [b2,a2]
 ·exact (h.kept r hr hi hk).trans (k.kept r (by rw [h.l];exact hr) hi hk)
structure SP where
 s:Nat
 S:CO
 tb:Nat->TB
 F:FO
def SP.head (Z:SP):Nat×(Obj->Prop):=(Z.s,isC 152 [ptr Z.S.c,ptr Z.F.f])
def SP.hl (Z:SP):HL:=Z.head::(Z.S.hl++Z.F.hl)
structure SP.Ok (Z:SP) (fr:List Nat) (N K:Nat) (M:Int):Prop where
 core:Z.S.Ok fr N K
 tpi:TPI Z.S Z.tb
 fpi:FPI Z.S.l Z.tb Z.F.N
 fo:Z.F.Ok
 next:Z.F.next<=M
def SP.av (Z:SP):AV:=avOf Z.S.l Z.tb Z.F.N
structure SameN (Z Z':SP):Prop where
 s:Z'.s=Z.s
 alt:Alt0 Z.S Z'.S
 f:Z'.F.f=Z.F.f
theorem SameN.refl (Z:SP):SameN Z Z:=⟨rfl,Alt0.refl _,rfl⟩
theorem SameN.trans {Z Z1 Z2:SP} (h:SameN Z Z1) (k:SameN Z1 Z2):SameN Z Z2:=⟨k.s.trans h.s,h.alt.trans k.alt,k.f.trans h.f⟩
structure SameZ (Z Z':SP):Prop extends SameN Z Z' where
 nx:Z'.F.next=Z.F.next
theorem SameZ.refl (Z:SP):SameZ Z Z:=⟨SameN.refl Z,rfl⟩
theorem SameZ.trans {Z Z1 Z2:SP} (h:SameZ Z Z1) (k:SameZ Z1 Z2):SameZ Z Z2:=⟨h.toSameN.trans k.toSameN,k.nx.trans h.nx⟩
def SP.setS (Z:SP) (S:CO) (tb:Nat->TB):SP:={Z with S:=S,tb:=tb}
def SP.setF (Z:SP) (F:FO):SP:={Z with F:=F}
theorem SP.permS (Z:SP):Z.hl.Perm (Z.S.hl++(Z.head::Z.F.hl)):=by
 unfold SP.hl;exact J5L.symm
theorem SP.permF (Z:SP):Z.hl.Perm (Z.F.hl++(Z.head::Z.S.hl)):=by
 unfold SP.hl;refine (List.Perm.cons _ J4U).trans ?_;exact J5L.symm
section
variable {w:World} {Z:SP}
theorem SP.sS (h:Sep w Z.hl):Sep w Z.S.hl:=h.part Z.permS
theorem SP.sF (h:Sep w Z.hl):Sep w Z.F.hl:=h.part Z.permF
theorem SP.cells (h:Sep w Z.hl):Cells w Z.s 152 [ptr Z.S.c,ptr Z.F.f]:=h.cells (by simp [SP.hl,SP.head])
theorem SP.c0 (h:Sep w Z.hl):w.cell? ⟨Z.s,0,none⟩=some (.pointer (some ⟨Z.S.c,0,none⟩)):=(SP.cells h).cell 0 _ rfl
theorem SP.c1 (h:Sep w Z.hl):w.cell? ⟨Z.s,1,none⟩=some (.pointer (some ⟨Z.F.f,0,none⟩)):=(SP.cells h).cell 1 _ rfl
end
theorem SP.stepS {w w':World} {Z:SP} (h:Sep w Z.hl) (S':CO) (tb':Nat->TB) (e:S'.c=Z.S.c) (s:Step Z.S.hl S'.hl w w'):Step Z.hl (Z.setS S' tb').hl w w':=by
 have hp:=(Z.setS S' tb').permS;have e1:(Z.setS S' tb').head=Z.head:=by unfold SP.head SP.setS;rw [e]
 rw [e1] at hp;exact Step.lift Z.permS hp h s
theorem SP.stepF {w w':World} {Z:SP} (h:Sep w Z.hl) (F':FO) (e:F'.f=Z.F.f) (s:Step Z.F.hl F'.hl w w'):Step Z.hl (Z.setF F').hl w w':=by
 have hp:=(Z.setF F').permF;have e1:(Z.setF F').head=Z.head:=by unfold SP.head SP.setF;rw [e]
 rw [e1] at hp;exact Step.lift Z.permF hp h s
theorem SP.Ok.mono {Z:SP} {fr:List Nat} {N N' K K':Nat} {M M':Int} (ok:Z.Ok fr N K M) (h1:N<=N') (h2:K<=K') (h3:M<=M'):Z.Ok fr N' K' M':=⟨ok.core.mono h1 h2,ok.tpi,ok.fpi,ok.fo,by have:=ok.next;omega⟩
theorem FPI.rights {l:List Pl} {tb:Nat->TB} {N:List (En Nd)} (f:FPI l tb N) {h s:Nat} {x:Nat×Nat} (hx:(avOf l tb N).en h s=some x):1<=x.2/\x.2<16:=by
 unfold avOf at hx;simp only at hx;cases he:Q0f l tb h s with
 | none=>rw [he] at hx;cases hx
 | some e =>
  rw [he] at hx;cases hx;have:=(f.cap h s e he).r;exact⟨this.1,by show e.r<16;omega⟩
theorem FPI.task {l:List Pl} {tb:Nat->TB} {N:List (En Nd)} (f:FPI l tb N) {next:Int} (ok:NOk N next) {n:En Nd} (hn:n∈N):∃(h s:Nat) (p:Pl) (e:Ent),n.q.sp=(h:Int)/\n.q.sl=(s:Int)/\h<4294967296/\s<256/\pget l 1 h=some p/\p.kind=2/\(tb (h%256)).en s=some e/\Q0f l tb h s=some e:=by
 obtain⟨e,he⟩:=f.is n hn;have hs:=ok.sm n hn;unfold Q0I at he;obtain⟨p,p1,p2,p3,p4⟩:=Q1C he;exact⟨n.q.sp.toNat,n.q.sl.toNat,p,e,by omega,by omega,by omega,p3,p1,p2,p4,he⟩
theorem FPI.own {l:List Pl} {tb:Nat->TB} {N:List (En Nd)} (f:FPI l tb N) {next:Int} (ok:NOk N next) {h s:Nat} {e:Ent} (he:Q0f l tb h s=some e):∃n∈N,n.q.sp=(h:Int)/\n.q.sl=(s:Int)/\ownN N (h:Int) (s:Int)=n.id/\find N n.id=some n:=by
 obtain⟨n,h1,h2,h3⟩:=f.has h s e he;refine⟨n,h1,h2,h3,?_,Q0g ok.ids h1⟩;rw [<- h2,<- h3];exact Q1k ok h1
theorem FPI.free {l:List Pl} {tb:Nat->TB} {N:List (En Nd)} (f:FPI l tb N) {next:Int} (ok:NOk N next) {h s:Nat} (he:Q0f l tb h s=none):ownN N (h:Int) (s:Int)=0:=by
 refine (Q1v ok).2 fun n hn hx=>?_
 obtain⟨e,h2⟩:=f.is n hn;simp only [Prod.mk.injEq] at hx;unfold Q0I at h2;rw [hx.1,hx.2,J3m,J3m,he] at h2;cases h2
theorem FPI.few {l:List Pl} {tb:Nat->TB} {N:List (En Nd)} (f:FPI l tb N) {next:Int} (ok:NOk N next) {h s:Nat} {p:Pl} (hp:pget l 1 h=some p) (hs:s<256) (he:Q0f l tb h s=none):N.length<65536:=by
 have key:∀n∈N,∃p s,pget l 1 n.q.sp.toNat=some p/\n.q.sl=((s:Nat):Int)/\s<256:=fun n hn=>by
  obtain⟨h',s',p',e',h1,h2,_,h3,h4,_⟩:=f.task ok hn;exact⟨p',s',by rw [h1,J3m];exact h4,h2,h3⟩
 have Pn:∀n∈N,n.q.sp.toNat%256*256+n.q.sl.toNat<65536:=fun n hn=>by
  obtain⟨p',s',_,h2,h3⟩:=key n hn;omega
 have inj:∀a∈N,∀b∈N,a.q.sp.toNat%256*256+a.q.sl.toNat=b.q.sp.toNat%256*256+b.q.sl.toNat->a=b:=fun a ha b hb hc=>by
  obtain⟨pa,sa,a1,a2,a3⟩:=key a ha;obtain⟨pb,sb,b1,b2,b3⟩:=key b hb;have e1:a.q.sp.toNat%256=b.q.sp.toNat%256:=by omega
  obtain⟨e2,_,_⟩:=Q0Q a1 b1 e1;have Gu:=ok.sm a ha;have Al:=ok.sm b hb;exact Q4j ok ha hb (by omega) (by omega)
 have nd:(N.map fun n=>n.q.sp.toNat%256*256+n.q.sl.toNat).Nodup:=by
  refine J2M.2 ?_;refine (List.Pairwise.and_mem.1 ok.ids).imp ?_;rintro a b ⟨ha,hb,Dh⟩ hc;exact Dh (by rw [inj a ha b hb hc])
 have DO:h%256*256+s∉N.map fun n=>n.q.sp.toNat%256*256+n.q.sl.toNat:=fun hm=>by
  obtain⟨n,hn,hc⟩:=J2n.1 hm;obtain⟨p',s',h1,h2,h3⟩:=key n hn;have e1:n.q.sp.toNat%256=h%256:=by omega
  obtain⟨e2,_,_⟩:=Q0Q h1 hp e1;obtain⟨e,h4⟩:=f.is n hn;unfold Q0I at h4;rw [e2,show n.q.sl.toNat=s by omega,he] at h4;cases h4
 have Qe:∀B,(∀x∈(h%256*256+s)::N.map fun n=>n.q.sp.toNat%256*256+n.q.sl.toNat,x<B)->((h%256*256+s)::N.map fun n=>n.q.sp.toNat%256*256+n.q.sl.toNat).length<=B:=fun B hB=>Q4u B _ (J3d.2 ⟨DO,nd⟩) hB
 have:=Qe 65536 fun x hx=>by
  rcases J2m.1 hx with rfl|hx
  ·omega
  ·obtain⟨n,hn,rfl⟩:=J2n.1 hx;exact Pn n hn
 rw [J2S,J3Q] at this;omega
structure TurnP (S:CO) (fr:List Nat) (N K:Nat) (tb:Nat->TB) (own:Int) (i s:Nat) (o:Option Ent) (S':CO) (t':TB):Prop where
 ok:S'.Ok fr N K
 tpi:TPI S' (updT tb i t')
 en:∀x,t'.en x=if x=s then o else (tb i).en x
 lf:∀k,(tb i).lf k=0∨t'.lf k=0∨t'.lf k=(tb i).lf k
 alt:Alt S S' own
def J1B (S:CO) (fr:List Nat) (N K:Nat) (tb:Nat->TB) (own:Int) (i s:Nat) (o:Option Ent) (w w':World):Prop:=∃S' t',TurnP S fr N K tb own i s o S' t'/\Step S.hl S'.hl w w'
theorem Q6B {l:List Pl} {tb:Nat->TB} (N N':List (En Nd)) {h s:Nat} {p:Pl} (hp:pget l 1 h=some p) (hk:p.kind=2) (hs:s<256) {t':TB} {o:Option Ent} (ht:∀x,t'.en x=if x=s then o else (tb (h%256)).en x) :
  avOf l (updT tb (h%256) t') N'=⟨setA (avOf l tb N).en h s (o.map Ent.c),N'⟩:=by
 unfold avOf setA;congr 1;funext h' s';rw [Q3I hp hk hs ht];split <;> rfl
theorem Q9B {l:List Pl} {tb:Nat->TB} {N:List (En Nd)} {h s:Nat} {e:Ent} (he:Q0f l tb h s=some e):(avOf l tb N).en h s=some (e.h,e.r):=by
 unfold avOf;simp only [he];rfl
theorem av_none {l:List Pl} {tb:Nat->TB} {N:List (En Nd)} {h s:Nat}:(avOf l tb N).en h s=none↔Q0f l tb h s=none:=by
 unfold avOf;simp
theorem Q3r {l:List Pl} {tb:Nat->TB} {N:List (En Nd)} {h s:Nat} {x:Nat×Nat} (hx:(avOf l tb N).en h s=some x):∃e,Q0f l tb h s=some e/\x=(e.h,e.r):=by
 unfold avOf at hx;simp only at hx;cases he:Q0f l tb h s with
 | none=>rw [he] at hx;cases hx
 | some e=>rw [he] at hx;cases hx;exact⟨e,rfl,rfl⟩
theorem Q2H {m:Nat} {a:AV} {id:Int} {n:En Nd} (hf:find a.N id=some n) {h s:Nat} (h1:n.q.sp=(h:Int)) (h2:n.q.sl=(s:Int)) {x:Nat×Nat} (hx:a.en h s=some x) :
  weak1 m a id=if less x.2 m=0 then (⟨setA a.en h s none,Q0C a.N n n.q.ks.length⟩,true) else (⟨setA a.en h s (some (x.1,less x.2 m)),a.N⟩,false):=by
 unfold weak1;rw [hf];simp only [h1,h2,J3m,hx]
section
variable {Z:SP} {fr:List Nat} {N K:Nat} {M:Int}
theorem SP.Ok.weakened (ok:Z.Ok fr N K M) {id:Int} {n:En Nd} (hf:find Z.F.N id=some n) {h s:Nat} {p:Pl} {e:Ent} (h1:n.q.sp=(h:Int)) (h2:n.q.sl=(s:Int)) (hp:pget Z.S.l 1 h=some p) (hk:p.kind=2) (hs:s<256) (he:Q0f Z.S.l Z.tb h s=some e) {m:Nat} (hm:m<16) (h0:less e.r m≠0)
  (hd:Q3J m Z.av [] id) {S':CO} {t':TB} (T:TurnP Z.S fr N K Z.tb (p.fac:Int) (h%256) s (some ⟨e.h,less e.r m,e.nd⟩) S' t') :
  (Z.setS S' (updT Z.tb (h%256) t')).Ok fr N K M/\weak1 m Z.av id=((Z.setS S' (updT Z.tb (h%256) t')).av,false)/\SameZ Z (Z.setS S' (updT Z.tb (h%256) t')):=by
 have hr:=(ok.fpi.cap h s e he).r;obtain⟨a1,a2,a3⟩:=Q5P e.r (by omega) m hm;have hl:=T.alt.l;have E8:=Q6B Z.F.N Z.F.N hp hk hs T.en;refine⟨⟨T.ok,T.tpi,?_,ok.fo,ok.next⟩,?_,⟨⟨rfl,T.alt.alt0,rfl⟩,rfl⟩⟩
 ·show FPI S'.l _ Z.F.N;rw [hl];refine ok.fpi.weak ok.fo.n hp hk hs he T.en rfl ⟨by show 1<=less e.r m;omega,by show less e.r m<=15;omega⟩ a2 fun c hc d FH e1 e2 x hx=>?_
  -- d is the node itself
  obtain⟨d1,d2⟩:=Q0b FH;obtain⟨n1,n2⟩:=Q0b hf;have TP:d=n:=Q4j ok.fo.n d1 n1 (by rw [e1,h1]) (by rw [e2,h2]);subst TP;obtain⟨q1,q2⟩:=ok.fo.n.par c hc;have Be:c.q.par=d.id:=d2.symm;obtain⟨pp,p1,p2⟩:=q2 (by have:=ok.fo.n.rng d n1;omega);rw [FH] at p1;cases p1;have Us:=ok.fpi.up c hc d FH x e hx (by
   unfold Q0I;rw [h1,h2,J3m,J3m];exact he)
  have Xd:1<=x.r/\x.r<=15:=by
   obtain⟨ch,cs,cp,ce,c1,c2,c3,c4,c5,c6,c7,c8⟩:=ok.fpi.task ok.fo.n hc;unfold Q0I at hx;rw [c1,c2,J3m,J3m,c8] at hx;cases hx;exact (ok.fpi.cap _ _ _ c8).r
  rcases hd d hf c.id p2 with hz|hz
  ·cases hz
  ·have F1:=hz c (Q0g ok.fo.n.ids hc) (x.h,x.r) (Q9B hx);exact Z8L x.r (by omega) e.r (by omega) m hm Us.2 F1
 ·rw [Q2H (a:=Z.av) hf h1 h2 (Q9B he)];simp only;rw [if_neg h0];congr 1;show _=avOf S'.l (updT Z.tb (h%256) t') Z.F.N;rw [hl,E8];rfl
theorem SP.Ok.lifted (ok:Z.Ok fr N K M) {id:Int} {n:En Nd} (hf:find Z.F.N id=some n) {h s:Nat} {p:Pl} {e:Ent} (h1:n.q.sp=(h:Int)) (h2:n.q.sl=(s:Int)) (hp:pget Z.S.l 1 h=some p) (hk:p.kind=2) (hs:s<256) (he:Q0f Z.S.l Z.tb h s=some e) {m:Nat} (h0:less e.r m=0)
  {S':CO} {t':TB} (T:TurnP Z.S fr N K Z.tb (p.fac:Int) (h%256) s none S' t') {F':FO} (hF:F'.N=Q0C Z.F.N n n.q.ks.length) (EH:F'.Ok) (Jo:F'.next=Z.F.next) (Gs:F'.f=Z.F.f) :
  ((Z.setF F').setS S' (updT Z.tb (h%256) t')).Ok fr N K M/\weak1 m Z.av id=(((Z.setF F').setS S' (updT Z.tb (h%256) t')).av,true)/\SameZ Z ((Z.setF F').setS S' (updT Z.tb (h%256) t')):=by
 have hl:=T.alt.l;have E8:=Q6B Z.F.N F'.N hp hk hs T.en;obtain⟨n1,n2⟩:=Q0b hf;refine⟨⟨T.ok,T.tpi,?_,EH,by show F'.next<=M;rw [Jo];exact ok.next⟩,?_,⟨⟨rfl,T.alt.alt0,Gs⟩,Jo⟩⟩
 ·show FPI S'.l _ F'.N;rw [hl,hF];exact ok.fpi.lift ok.fo.n hp hk hs T.en (by rw [n2];exact hf) h1 h2
 ·rw [Q2H (a:=Z.av) hf h1 h2 (Q9B he)];simp only;rw [if_pos h0];congr 1;show _=avOf S'.l (updT Z.tb (h%256) t') F'.N;rw [hl,E8,hF];rfl
theorem SP.Ok.added (ok:Z.Ok fr N K M) {h s:Nat} {p:Pl} (hp:pget Z.S.l 1 h=some p) (hk:p.kind=2) (hs:s<256) (h0:Q0f Z.S.l Z.tb h s=none) {e:Ent} (hc:Q7b Z.S.l s e)
  {S':CO} {t':TB} (T:TurnP Z.S fr N K Z.tb (p.fac:Int) (h%256) s (some e) S' t') {par:Int} (Be:par=0∨∃m em,find Z.F.N par=some m/\Q0I Z.S.l Z.tb m=some em/\e.h=em.h/\e.r&&&em.r=e.r) {F':FO} (A:Z2b Z.F par (h:Int) (s:Int) F') :
  ((Z.setF F').setS S' (updT Z.tb (h%256) t')).Ok fr N K (M+1)/\SameN Z ((Z.setF F').setS S' (updT Z.tb (h%256) t'))/\((Z.setF F').setS S' (updT Z.tb (h%256) t')).av.en=setA Z.av.en h s (some (e.h,e.r))/\∃b,((Z.setF F').setS S' (updT Z.tb (h%256) t')).av.N=addN Z.F.N par (Z.F.next+1) b (h:Int) (s:Int):=by
 have hl:=T.alt.l;obtain⟨b,hN⟩:=A.N;have E8:=Q6B Z.F.N F'.N hp hk hs T.en;have GU:((Z.setF F').setS S' (updT Z.tb (h%256) t')).av=⟨setA Z.av.en h s ((some e).map Ent.c),F'.N⟩:=by
  show avOf S'.l (updT Z.tb (h%256) t') F'.N=_;rw [hl,E8];rfl
 refine⟨⟨T.ok,T.tpi,?_,A.ok,by show F'.next<=M+1;rw [A.next];have:=ok.next;omega⟩,⟨rfl,T.alt.alt0,A.f⟩,by rw [GU];rfl,b,by rw [GU];exact hN⟩;show FPI S'.l _ F'.N;rw [hl,hN];exact ok.fpi.add ok.fo.n hp hk hs h0 T.en hc b Be
end
theorem Q2V (w:World) (z:Int):Calls prog 75 #[.int .i64 z] w fun r w'=>r=.returned (.bool (decide (0<=z/\z<256)))/\w=w':=by
 by_cases h0:0<=z
 ·by_cases h1:z<256
  ·rw [decide_eq_true (show 0<=z/\z<256 from ⟨h0,h1⟩)];go_enter func75,ntmps75
   go_wp2
   go_ret;exact⟨rfl,rfl⟩
  ·rw [decide_eq_false (show ¬(0<=z/\z<256) from fun h=>h1 h.2)];have hd:decide (z<256)=false:=by simpa using h1
   go_enter func75,ntmps75
   go_wp2
   go_ret;exact⟨rfl,rfl⟩
 ·rw [decide_eq_false (show ¬(0<=z/\z<256) from fun h=>h0 h.1)];have hd:decide (0<=z)=false:=by simpa using h0
  go_enter func75,ntmps75
  go_wp2
  go_ret;exact⟨rfl,rfl⟩
theorem Q3M (w:World) (z:Int):Calls prog 76 #[.int .i64 z] w fun r w'=>r=.returned (.bool (decide (0<z/\z<=15)))/\w=w':=by
 by_cases h0:0<z
 ·by_cases h1:z<=15
  ·rw [decide_eq_true (show 0<z/\z<=15 from ⟨h0,h1⟩)];go_enter func76,ntmps76
   go_wp2
   go_ret;exact⟨rfl,rfl⟩
  ·rw [decide_eq_false (show ¬(0<z/\z<=15) from fun h=>h1 h.2)];have hd:decide (z<=15)=false:=by simpa using h1
   go_enter func76,ntmps76
   go_wp2
   go_ret;exact⟨rfl,rfl⟩
 ·rw [decide_eq_false (show ¬(0<z/\z<=15) from fun h=>h0 h.1)];have hd:decide (0<z)=false:=by simpa using h0
  go_enter func76,ntmps76
  go_wp2
  go_ret;exact⟨rfl,rfl⟩
theorem Q2I (w:World) (z:Int):Calls prog 77 #[.int .i64 z] w fun r w'=>r=.returned (.bool (decide (z<128)))/\w=w':=by
 go_enter func77,ntmps77
 go_wp2
 go_ret;exact⟨rfl,rfl⟩
theorem Z8U (h r:Nat) (hh:h<4294967295) (hr:r<16):bits .or .u64 ((h:Int)+1) ((r:Int)*4294967296)=(((⟨h,r,0⟩:Ent).a:Nat):Int):=by
 have e1:((h:Int)+1)=((h+1:Nat):Int):=by omega
 have e2:((r:Int)*4294967296)=((r*4294967296:Nat):Int):=by omega
 rw [e1,e2,u64_or_nat _ _ (by omega) (by omega)];unfold Ent.a;have:(h+1)|||(r*4294967296)=h+1+4294967296*r:=by
  rw [Nat.or_comm,nat_join 32 (r*4294967296) (h+1) (by omega) (by omega)];omega
 rw [this]
theorem J0J (h r:Nat) (hh:h<4294967295) (hr:r<16):bits .and .u64 ((((⟨h,r,0⟩:Ent).a:Nat):Int)) 4294967295=((h+1:Nat):Int):=by
 unfold Ent.a;have:=u64_and_nat (h+1+4294967296*r) 4294967295 (by omega) (by omega);rw [show ((4294967295:Nat):Int)=4294967295 from rfl] at this;rw [show (⟨h,r,0⟩:Ent).h=h from rfl,show (⟨h,r,0⟩:Ent).r=r from rfl,this,J3M _ 32];omega
theorem Z8V (h r:Nat) (hh:h<4294967295):(((⟨h,r,0⟩:Ent).a:Nat):Int)/4294967296=(r:Int):=by
 unfold Ent.a;show ((h+1+4294967296*r:Nat):Int)/4294967296=(r:Int);omega
theorem J1Y (e:Ent):e.a=(⟨e.h,e.r,0⟩:Ent).a:=rfl
def capV:Option Ent->Value
 | none=>.tuple #[.agg #[.int .u32 0,.int .i64 0],.bool false]
 | some e=>.tuple #[.agg #[.int .u32 (e.h:Int),.int .i64 (e.r:Int)],.bool true]
def Ent.Low (e:Ent):Prop:=e.h<4294967295/\e.r<16
theorem Q1w {w:World} {S:CO} {t:TB} {p:Pl} {g:Nat} (T:TT S t p g w) (x f z:Int) (Jx:∀e,t.at' z=some e->e.Low) :
  Calls prog 74 #[.agg #[.pointer (some ⟨g,0,none⟩),.int .u32 x,.int .i64 f],.int .i64 z] w (Told w (capV (t.at' z))):=by
 have Af:Below w.heap.size w ((w.alloc (.cells #[.pointer (some ⟨g,0,none⟩),.int .u32 x,.int .i64 f] 155)).alloc (.cells #[.int .u32 0,.int .i64 0] 35)):=((Below.refl _ _).alloc (J2h _) _).alloc (by simp) _;have kg:=Q3L (T.grown Af) z;have hA:=(Cells.new w 155 [.pointer (some ⟨g,0,none⟩),.int .u32 x,.int .i64 f]).alloc (.cells #[.int .u32 0,.int .i64 0] 35);have a0:=hA.cell 0 _ rfl;have HE:Hid (∀o,Below w.heap.size w ((w.alloc (.cells #[.pointer (some ⟨g,0,none⟩),.int .u32 x,.int .i64 f] 155)).alloc o)):=fun o=>((Below.refl _ _).alloc (J2h _) _).alloc (by simp) o
 cases ho:t.at' z with
 | none =>
  rw [ho] at kg;unfold getV Q0s Q0V at kg;simp only [capV];clear T Jx ho hA Af;go_enter func74,ntmps74;go_wp2_with fail;refine kg.mono ?_;rintro r w1 ⟨rfl,rfl⟩;go_wp2_with fail;refine bodyPost_ret (v:=.tuple #[.agg #[.int .u32 0,.int .i64 0],.bool false]) (by simp [results,results74,go_sem]) rfl ⟨rfl,HE.out _⟩
 | some e =>
  obtain⟨l1,l2⟩:=Jx e ho;rw [ho] at kg;simp only [getV,Q0s] at kg;simp only [capV];have h1:=J0J e.h e.r l1 l2;have h2:=Z8V e.h e.r l1;have Aa:((e.a:Nat):Int)≠0:=by unfold Ent.a;omega
  have Gt:(((e.a:Nat):Int)==0)=false:=by simpa using Aa
  rw [<- J1Y] at h1 h2;have Dg:(bits .and .u64 ((e.a:Nat):Int) 4294967295-1)%4294967296=(e.h:Int):=by rw [h1];omega
  have EV:((e.a:Nat):Int)/4294967296=(e.r:Int):=h2;have Um:=Q0a Dg;have V2:=Q0a EV;clear Dg EV h1 h2;have Ab:e.a<18446744073709551616:=by unfold Ent.a;omega
  generalize Q0V (some e)=cb at *
  generalize e.a=ca at *
  generalize e.h=eh at *
  generalize e.r=er at *
  have VI:(0:Int)<=(ca:Int):=by omega
  clear T Jx ho hA Af Aa;go_enter func74,ntmps74;go_wp2_with fail;refine kg.mono ?_;rintro r w1 ⟨rfl,rfl⟩;go_wp2_with fail;refine bodyPost_ret (v:=.tuple #[.agg #[.int .u32 eh,.int .i64 er],.bool true]) (by simp [results,results74,go_sem,Um.out,V2.out]) rfl ⟨rfl,HE.out _⟩
def TblZ (Z:SP) (p:Pl) (g:Nat) (w:World):Prop:=AsideV Z.hl [ptr Z.S.P.p,.int .i64 (p.fac:Int),.int .i64 (p.at_:Int)] (some ⟨g,0,none⟩) w
theorem SP.keyS {Z:SP} {b:Nat} (h:b∈keys Z.S.hl):b∈keys Z.hl:=(Z.permS.map Prod.fst).mem_iff.2 (by rw [J5K];exact J3c _ h)
theorem TblZ.c {Z:SP} {p:Pl} {g:Nat} {w:World} (h:TblZ Z p g w):TblC Z.S p g w:=fun j v hj=>by
 obtain⟨g',e,hk,hl,hc⟩:=h j v hj;exact⟨g',e,fun x=>hk (SP.keyS x),hl,hc⟩
theorem TblZ.step {Z Z':SP} {p:Pl} {g:Nat} {w w':World} (h:TblZ Z p g w) (st:Step Z.hl Z'.hl w w') (hp:Z'.S.P.p=Z.S.P.p):TblZ Z' p g w':=by
 unfold TblZ;rw [hp];exact AsideV.step h st
theorem TblZ.grown {Z:SP} {p:Pl} {g:Nat} {w w':World} (h:TblZ Z p g w) (hs:Sep w Z.hl) (hb:Below w.heap.size w w'):TblZ Z p g w':=h.step (hs.grown hb) rfl
theorem Q9C {w:World} {Z:SP} {fr:List Nat} {N K:Nat} (h:Sep w Z.hl) (ok:Z.S.Ok fr N K) {x:Nat} (hx:x<4294967296) {p:Pl} (hp:pget Z.S.l 1 x=some p) (hk:p.kind=2) :
  Calls prog 73 #[.pointer (some ⟨Z.s,0,none⟩),.int .u32 x] w fun r w'=>∃g:Nat,r=.returned (.tuple #[.agg #[.pointer (some ⟨g,0,none⟩),.int .u32 x,.int .i64 (p.fac:Int)],.int .i64 0])/\Below w.heap.size w w'/\TblZ Z p g w'/\w.heap.size<=g:=by
 have b1:Below w.heap.size w (w.alloc (.cells #[.pointer none,.int .u32 0,.int .i64 0] 155)):=(Below.refl _ _).alloc (J2h _) _;have s1:=(h.grown b1).sep;have c0:=SP.c0 s1;have hO:Calls prog 30 #[.pointer (some ⟨Z.S.c,0,none⟩),.int .u32 x,.int .i64 2] (w.alloc (.cells #[.pointer none,.int .u32 0,.int .i64 0] 155)) (Told (w.alloc (.cells #[.pointer none,.int .u32 0,.int .i64 0] 155)) (.tuple #[.agg #[.int .i64 (p.kind:Int),.int .i64 (p.at_:Int),.int .i64 (p.fac:Int)],.int .i64 0])):=Q1F (SP.sS s1) ok.inv.lok hx 2 hp (.inr (by omega));have hu:p.at_∈Z.S.P.usedOf 2:=Q1M ok (pget_some.1 hp).1 (pget_some.1 hp).2.2 hk
 have HC:Hid (∀w1,Below (w.alloc (.cells #[.pointer none,.int .u32 0,.int .i64 0] 155)).heap.size (w.alloc (.cells #[.pointer none,.int .u32 0,.int .i64 0] 155)) w1 ->
   ((w1.alloc (.cells #[.int .i64 (p.kind:Int),.int .i64 (p.at_:Int),.int .i64 (p.fac:Int)] 69)).cell? ⟨Z.s,0,none⟩=some (.pointer (some ⟨Z.S.c,0,none⟩))/\(w1.alloc (.cells #[.int .i64 (p.kind:Int),.int .i64 (p.at_:Int),.int .i64 (p.fac:Int)] 69)).cell? ⟨w1.heap.size,1,none⟩=some (.int .i64 (p.at_:Int))/\(w1.alloc (.cells #[.int .i64 (p.kind:Int),.int .i64 (p.at_:Int),.int .i64 (p.fac:Int)] 69)).cell? ⟨w1.heap.size,2,none⟩=some (.int .i64 (p.fac:Int))) /\
   ∀w2,Below (w1.alloc (.cells #[.int .i64 (p.kind:Int),.int .i64 (p.at_:Int),.int .i64 (p.fac:Int)] 69)).heap.size (w1.alloc (.cells #[.int .i64 (p.kind:Int),.int .i64 (p.at_:Int),.int .i64 (p.fac:Int)] 69)) w2 ->
    Calls prog 49 #[.pointer (some ⟨Z.S.c,0,none⟩)] w2 (fun r w'=>r=.returned (.pointer (some ⟨Z.S.P.p,0,none⟩))/\w2=w') /\
    Calls prog 161 #[.pointer (some ⟨Z.S.P.p,0,none⟩),.int .i64 (p.fac:Int),.int .i64 (p.at_:Int)] w2 (fun r w'=>(w'.cell? ⟨Z.s,0,none⟩=some (.pointer (some ⟨Z.S.c,0,none⟩))/\w'.cell? ⟨w1.heap.size,1,none⟩=some (.int .i64 (p.at_:Int))/\w'.cell? ⟨w1.heap.size,2,none⟩=some (.int .i64 (p.fac:Int)))/\∃g:Nat,r=.returned (.pointer (some ⟨g,0,none⟩))/\Cells w' w.heap.size 155 [.pointer none,.int .u32 0,.int .i64 0]/\(∀a b c,(((w'.setCell ⟨w.heap.size,0,none⟩ a).setCell ⟨w.heap.size,1,none⟩ b).setCell ⟨w.heap.size,2,none⟩ c).cell? ⟨Z.s,0,none⟩=some (.pointer (some ⟨Z.S.c,0,none⟩))/\(((w'.setCell ⟨w.heap.size,0,none⟩ a).setCell ⟨w.heap.size,1,none⟩ b).setCell ⟨w.heap.size,2,none⟩ c).cell? ⟨w1.heap.size,1,none⟩=some (.int .i64 (p.at_:Int))/\(((w'.setCell ⟨w.heap.size,0,none⟩ a).setCell ⟨w.heap.size,1,none⟩ b).setCell ⟨w.heap.size,2,none⟩ c).cell? ⟨w1.heap.size,2,none⟩=some (.int .i64 (p.fac:Int)))/\∀a b c,Below w.heap.size w (((w'.setCell ⟨w.heap.size,0,none⟩ a).setCell ⟨w.heap.size,1,none⟩ b).setCell ⟨w.heap.size,2,none⟩ c)/\TblZ Z p g (((w'.setCell ⟨w.heap.size,0,none⟩ a).setCell ⟨w.heap.size,1,none⟩ b).setCell ⟨w.heap.size,2,none⟩ c)/\w.heap.size<=g)):=fun w1 Av=>by
  have hR:=(Cells.new w 155 [.pointer none,.int .u32 0,.int .i64 0]).same (Av.block w.heap.size (by simp));have Nl:Below w.heap.size w w1:=Q0e Av;have Dz:=Nl.alloc Nl.size (.cells #[.int .i64 (p.kind:Int),.int .i64 (p.at_:Int),.int .i64 (p.fac:Int)] 69);have PS:=Cells.new w1 69 [.int .i64 (p.kind:Int),.int .i64 (p.at_:Int),.int .i64 (p.fac:Int)];have QD:w.heap.size<w1.heap.size:=by have:=Av.size;simp at this;omega
  have Vv:=hR.alloc (.cells #[.int .i64 (p.kind:Int),.int .i64 (p.at_:Int),.int .i64 (p.fac:Int)] 69);refine⟨⟨SP.c0 (h.grown Dz).sep,PS.cell 1 _ rfl,PS.cell 2 _ rfl⟩,fun w2 Af=>?_⟩;have Lt:Below w.heap.size w w2:=Dz.trans (Af.mono (by simp;omega));have s2:=(h.grown Lt).sep;refine⟨Q2e (SP.sS s2),(J0I (SP.sS s2) ok hu).mono ?_⟩;rintro r w' ⟨g,rfl,As,ht,hg⟩;have NW:=(PS.same (Af.block w1.heap.size (by simp))).same (As.block w1.heap.size (by have:=Af.size;simp at this;omega));have A5:Below w.heap.size w w':=Lt.trans (As.mono Lt.size);have TQ:=(Vv.same (Af.block w.heap.size (by simp;omega))).same (As.block w.heap.size (by have:=Af.size;simp at this;omega))
  refine⟨⟨SP.c0 (h.grown A5).sep,NW.cell 1 _ rfl,NW.cell 2 _ rfl⟩,g,rfl,TQ,fun a b c=>?_,fun a b c=>?_⟩
  ·have B9:∀(W:World) (i k j:Nat) (u:Value),k≠w.heap.size->(W.setCell ⟨w.heap.size,i,none⟩ u).cell? ⟨k,j,none⟩=W.cell? ⟨k,j,none⟩:=fun W i k j u hk=>World.cell?_of_block (Below.heap_setCell _ _ _ _ (by simpa using hk))
   have Fd:Z.s≠w.heap.size:=fun hx=>by
    have:=h.lt (b:=Z.s) (by simp [SP.hl,SP.head,keys]);omega
   have Dt:w1.heap.size≠w.heap.size:=by omega
   rw [B9 _ _ _ _ _ Fd,B9 _ _ _ _ _ Fd,B9 _ _ _ _ _ Fd,B9 _ _ _ _ _ Dt,B9 _ _ _ _ _ Dt,B9 _ _ _ _ _ Dt,B9 _ _ _ _ _ Dt,B9 _ _ _ _ _ Dt,B9 _ _ _ _ _ Dt];exact⟨SP.c0 (h.grown A5).sep,NW.cell 1 _ rfl,NW.cell 2 _ rfl⟩
  refine⟨((A5.setCell (J2h _) _).setCell (J2h _) _).setCell (J2h _) _,fun j v hj=>?_,by have:=Af.size;simp at this;omega⟩;obtain⟨g',e,_,hl,hc⟩:=ht j v hj;obtain rfl:g=g':=by cases e;rfl
  clear e;have Dm:w.heap.size<g:=by have:=Af.size;simp at this;omega
  refine⟨g,rfl,fun hk=>?_,by simpa using hl,?_⟩
  ·have:=s2.lt hk;omega
  ·have Aa:∀(W:World) (i:Nat) (u:Value),(W.setCell ⟨w.heap.size,i,none⟩ u).cell? ⟨g,j,none⟩=W.cell? ⟨g,j,none⟩:=fun W i u=>World.cell?_of_block (Below.heap_setCell _ _ _ _ (by simp;omega))
   rw [Aa,Aa,Aa];exact hc
 clear h ok hp hu b1 s1;have A2:((p.kind:Nat):Int)=2:=by omega
 rw [A2] at hO;simp only [A2] at HC;clear A2 hk;generalize p.at_=pa at *
 go_enter func73,ntmps73;go_wp2_with fail;refine hO.mono ?_;rintro r w1 ⟨rfl,Av⟩;obtain⟨⟨c1,c2,c3⟩,A6⟩:=HC.out w1 Av;have PD:=Q0a A6;have d1:(w1.alloc (.cells #[.int .i64 2,.int .i64 pa,.int .i64 (p.fac:Int)] 69)).drew.cell? ⟨Z.s,0,none⟩=some (.pointer (some ⟨Z.S.c,0,none⟩)):=c1;have d2:(w1.alloc (.cells #[.int .i64 2,.int .i64 pa,.int .i64 (p.fac:Int)] 69)).drew.cell? ⟨w1.heap.size,1,none⟩=some (.int .i64 pa):=c2;have d3:(w1.alloc (.cells #[.int .i64 2,.int .i64 pa,.int .i64 (p.fac:Int)] 69)).drew.cell? ⟨w1.heap.size,2,none⟩=some (.int .i64 (p.fac:Int)):=c3;clear Av A6 HC hO;go_wp2_with fail
 have CI:=(PD.out _ ((Below.refl _ _).drew)).1;have FN:=(PD.out _ ((Below.refl _ _).drew)).2;have JN:=Q0a FN;clear FN PD
 go_region_held3 (fun w'=>w'.cell? ⟨Z.s,0,none⟩=some (.pointer (some ⟨Z.S.c,0,none⟩))/\w'.cell? ⟨w1.heap.size,1,none⟩=some (.int .i64 pa)/\w'.cell? ⟨w1.heap.size,2,none⟩=some (.int .i64 (p.fac:Int))) (first|exact⟨c1,c2,c3⟩|exact⟨d1,d2,d3⟩|exact Ah|exact Db _ _ _)
  (first|(go_at_call 49;refine CI.mono ?_;rintro r w' ⟨rfl,rfl⟩)|(go_at_call 161;refine JN.out.mono ?_;rintro r w3 ⟨Ah,g,rfl,Aj,Db,hz⟩;have HZ:=Q0a hz;have e0:=Aj.cell 0 _ rfl;have e1:=Aj.cell 1 _ rfl;have e2:=Aj.cell 2 _ rfl;have f0:=Aj.free 0;have f1:=Aj.free 1;have f2:=Aj.free 2;have Ab:=Aj.lt;clear hz Aj JN))
 go_wp2_with fail;refine bodyPost_ret (v:=.tuple #[.agg #[.pointer (some ⟨g,0,none⟩),.int .u32 x,.int .i64 (p.fac:Int)],.int .i64 0]) (by simp [results,results73,go_sem,e0,e1,e2]) rfl ⟨g,rfl,HZ.out _ _ _⟩
theorem Q0U {w:World} {Z:SP} {fr:List Nat} {N K:Nat} (h:Sep w Z.hl) (ok:Z.S.Ok fr N K) {x:Nat} (hx:x<4294967296) {p:Pl} (hp:pget Z.S.l 1 x=some p) (hk:p.kind=2) :
  Calls prog 73 #[.pointer (some ⟨Z.s,0,none⟩),.int .u32 x] w fun r w'=>∃g:Nat,r=.returned (.tuple #[.agg #[.pointer (some ⟨g,0,none⟩),.int .u32 x,.int .i64 (p.fac:Int)],.int .i64 0])/\Below w.heap.size w w'/\TblZ Z p g w':=
 (Q9C h ok hx hp hk).mono fun r w' ⟨g,h1,h2,h3,_⟩=>⟨g,h1,h2,h3⟩
theorem Q7H {w:World} {Z:SP} (h:Sep w Z.hl) {x:Nat} {e:Int} (he:e≠0) (hO:Calls prog 30 #[.pointer (some ⟨Z.S.c,0,none⟩),.int .u32 x,.int .i64 2] (w.alloc (.cells #[.pointer none,.int .u32 0,.int .i64 0] 155)) (Told (w.alloc (.cells #[.pointer none,.int .u32 0,.int .i64 0] 155)) (.tuple #[.agg #[.int .i64 0,.int .i64 0,.int .i64 0],.int .i64 e]))) :
  Calls prog 73 #[.pointer (some ⟨Z.s,0,none⟩),.int .u32 x] w (Told w (.tuple #[.agg #[.pointer none,.int .u32 0,.int .i64 0],.int .i64 e])):=by
 have b1:Below w.heap.size w (w.alloc (.cells #[.pointer none,.int .u32 0,.int .i64 0] 155)):=(Below.refl _ _).alloc (J2h _) _;have c0:=SP.c0 (h.grown b1).sep;have Gt:(e==0)=false:=by simpa using he
 have HC:Hid (∀w1,Below (w.alloc (.cells #[.pointer none,.int .u32 0,.int .i64 0] 155)).heap.size (w.alloc (.cells #[.pointer none,.int .u32 0,.int .i64 0] 155)) w1->(∀o,Cells (w1.alloc o) w.heap.size 155 [.pointer none,.int .u32 0,.int .i64 0])/\∀o a b c,Below w.heap.size w ((((w1.alloc o).setCell ⟨w.heap.size,0,none⟩ a).setCell ⟨w.heap.size,1,none⟩ b).setCell ⟨w.heap.size,2,none⟩ c)):=fun w1 Av=>by
  have hR:=(Cells.new w 155 [.pointer none,.int .u32 0,.int .i64 0]).same (Av.block w.heap.size (by simp));exact⟨hR.alloc,fun o a b c=>((((Q0e Av).alloc (Q0e Av).size o).setCell (J2h _) _).setCell (J2h _) _).setCell (J2h _) _⟩
 clear h b1;go_enter func73,ntmps73;go_wp2_with fail;refine hO.mono ?_;rintro r w1 ⟨rfl,Av⟩;obtain⟨BW,hz⟩:=HC.out w1 Av;have Aj:=BW (.cells #[.int .i64 0,.int .i64 0,.int .i64 0] 69);have HZ:=Q0a hz;have e0:=Aj.cell 0 _ rfl;have e1:=Aj.cell 1 _ rfl;have e2:=Aj.cell 2 _ rfl;have f0:=Aj.free 0;have f1:=Aj.free 1;have f2:=Aj.free 2;have Ab:=Aj.lt;clear Av hz Aj BW HC hO;go_wp2_with fail;refine bodyPost_ret (v:=.tuple #[.agg #[.pointer none,.int .u32 0,.int .i64 0],.int .i64 e]) (by simp [results,results73,go_sem,e0,e1,e2]) rfl ⟨rfl,HZ.out _ _ _ _⟩
theorem Q0J {w:World} {Z:SP} {fr:List Nat} {N K:Nat} (h:Sep w Z.hl) (ok:Z.S.Ok fr N K) {x:Nat} (hx:x<4294967296) (e:Int) (hw:(pget Z.S.l 1 x=none/\e=8)∨∃p,pget Z.S.l 1 x=some p/\p.kind≠2/\e=10) :
  Calls prog 73 #[.pointer (some ⟨Z.s,0,none⟩),.int .u32 x] w (Told w (.tuple #[.agg #[.pointer none,.int .u32 0,.int .i64 0],.int .i64 e])):=by
 have s1:=(h.grown ((Below.refl w.heap.size w).alloc (J2h _) (.cells #[.pointer none,.int .u32 0,.int .i64 0] 155))).sep;rcases hw with ⟨hp,rfl⟩|⟨p,hp,hk,rfl⟩
 ·exact Q7H h (by decide) (Q3G (SP.sS s1) ok.inv.lok hx 2 hp)
 ·exact Q7H h (by decide) (Q2E (SP.sS s1) ok.inv.lok hx 2 hp (by decide) (by omega))
structure FO.New (q:FO):Prop where
 N:q.N=[]
 next:q.next=0
 ok:q.Ok
theorem Z8W {w:World} {H:HL} (h:Sep w H):Calls prog 72 #[] w fun r w'=>∃q:FO,r=.returned (.pointer (some ⟨q.f,0,none⟩))/\q.New/\Step H (q.hl++H) w w':=by
 have s1:=h.newMap;have s2:=s1.sep.newMap;have s3:=s2.sep.new 282 [.map (some w.heap.size),.map (some (w.alloc (.map #[] 0)).heap.size),.int .i64 0];have HQ:Hid (∃q:FO,q.f=((w.alloc (.map #[] 0)).alloc (.map #[] 0)).heap.size/\q.New/\Step H (q.hl++H) w (((w.alloc (.map #[] 0)).alloc (.map #[] 0)).alloc (.cells #[.map (some w.heap.size),.map (some (w.alloc (.map #[] 0)).heap.size),.int .i64 0] 282))):=by
  refine⟨⟨((w.alloc (.map #[] 0)).alloc (.map #[] 0)).heap.size,w.heap.size,(w.alloc (.map #[] 0)).heap.size,[],0,fun _=>none⟩,rfl,⟨rfl,rfl,⟨⟨List.Pairwise.nil,List.Pairwise.nil,J6l _,fun e h=>(by cases h),fun e h=>(by cases h),fun e h=>(by cases h),fun e h=>(by cases h),fun e h=>(by cases h),fun e h=>(by cases h)⟩,(by show (0:Int)<1099511627776;decide),fun e h=>(by cases h),J4j _⟩⟩,?_⟩;refine ((s1.trans s2).trans s3).perm (J5A _) ?_;refine Q1e fun a=>?_
  simp only [FO.hl,FO.head,hc_append,hc_cons,kvs,okv,isMI,isMS,J4N,J6j];simp only [J1p];omega
 clear h s1 s2 s3;have Bt:(w.alloc (.map #[] 0)).heap.size=w.heap.size+1:=by simp
 have Bp:((w.alloc (.map #[] 0)).alloc (.map #[] 0)).heap.size=w.heap.size+1+1:=by simp
 rw [Bt,Bp] at HQ;have Ly:=@run_makeMap prog;go_enter func72,ntmps72;go_wp2_with fail;obtain⟨q,e,h1,h2⟩:=HQ.out;have e2:Ending.returned (.pointer (some ⟨w.heap.size+1+1,0,none⟩))=Ending.returned (.pointer (some ⟨q.f,0,none⟩)):=by rw [e]
 first|exact⟨q,e2,h1,h2⟩|(go_ret;exact⟨q,e2,h1,h2⟩)
structure SP.New (Z:SP) (S:CO) (tb:Nat->TB):Prop where
 S:Z.S=S
 tb:Z.tb=tb
 F:Z.F.New
theorem Z2c {w:World} {S:CO} (h:Sep w S.hl) (tb:Nat->TB):Calls prog 17 #[.pointer (some ⟨S.c,0,none⟩)] w fun r w'=>∃Z:SP,r=.returned (.pointer (some ⟨Z.s,0,none⟩))/\Z.New S tb/\Step S.hl Z.hl w w':=by
 have kf:=Z8W h;have HQ:Hid (∀(q:FO) (w1:World),q.New->Step S.hl (q.hl++S.hl) w w1->∃Z:SP,Z.s=w1.heap.size/\Z.New S tb/\Step S.hl Z.hl w (w1.alloc (.cells #[.pointer (some ⟨S.c,0,none⟩),.pointer (some ⟨q.f,0,none⟩)] 152))):=fun q w1 hq st=>by
  refine⟨⟨w1.heap.size,S,tb,q⟩,rfl,⟨rfl,rfl,hq⟩,?_⟩;refine (st.trans (st.sep.new 152 [ptr S.c,ptr q.f])).perm (J5A _) ?_;refine Q1e fun a=>?_
  simp only [SP.hl,SP.head,hc_append,hc_cons];omega
 clear h;go_enter func17,ntmps17;go_wp2_with fail;refine kf.mono ?_;rintro r w1 ⟨q,rfl,hq,st⟩;obtain⟨Z,e,h1,h2⟩:=HQ.out q w1 hq st;have HZ:Hid (Z.New S tb/\Step S.hl Z.hl w (w1.alloc (.cells #[.pointer (some ⟨S.c,0,none⟩),.pointer (some ⟨q.f,0,none⟩)] 152))):=⟨h1,h2⟩
 clear hq st h1 h2 HQ kf;go_wp2_with fail;have e2:Ending.returned (.pointer (some ⟨w1.heap.size,0,none⟩))=Ending.returned (.pointer (some ⟨Z.s,0,none⟩)):=by rw [e]
 first|exact⟨Z,e2,HZ.out.1,HZ.out.2⟩|(go_ret;exact⟨Z,e2,HZ.out.1,HZ.out.2⟩)
theorem SP.New.ok {Z:SP} {S:CO} {tb:Nat->TB} (h:Z.New S tb) {fr:List Nat} {N K:Nat} (ok:S.Ok fr N K) (t:TPI S tb) (hn:∀i,i<256->(tb i).Nil):Z.Ok fr N K 0:=by
 have AZ:∀x s,Q0f S.l tb x s=none:=fun x s=>by
  unfold Q0f;split
  ·split
   ·rename_i hc;exact (hn _ (J5n _ (by omega))).2 s hc.2
   ·rfl
  ·rfl
 refine⟨by rw [h.S];exact ok,by rw [h.S,h.tb];exact t,?_,h.F.ok,by rw [h.F.next];exact J6l _⟩;rw [h.S,h.tb,h.F.N];exact⟨fun x s e he=>(by rw [AZ] at he;cases he),fun x s e he=>(by rw [AZ] at he;cases he),fun n hn=>(by cases hn),fun n hn=>by cases hn⟩
theorem TPI.emp {S:CO} {fr:List Nat} {N K:Nat} (ok:S.Ok fr N K) (h2:∀(i:Nat) (p:Pl),S.l[i]?=some p->¬(p.st=1/\p.kind=2)) (h7:S.P.usedOf 7=[]) (h6:S.P.usedOf 6=[]) (hx:∀id,S.xc id=0):TPI S fun _=>TB.emp:=by
 have l0:Q3k (fun _=>TB.emp)=[]:=by
  unfold Q3k;simp only [TB.emp_nil.lists.1];generalize List.range 256=L
  induction L with
  | nil=>rfl
  | cons a r ih=>rw [J2E,ih];rfl
 have n0:Q4i (fun _=>TB.emp)=[]:=by
  unfold Q4i;simp only [TB.emp_nil.lists.2.1];generalize List.range 256=L
  induction L with
  | nil=>rfl
  | cons a r ih=>rw [J2E,ih];rfl
 refine⟨fun i p hi h1 hk=>absurd ⟨h1,hk⟩ (h2 i p hi),fun i _=>TB.emp_nil.full,fun i p _ _=>TB.emp_nil,by rw [l0,h7],by rw [n0,h6],fun id=>?_⟩;rw [hx];unfold xcOf;have:∀i,xcP (fun _=>TB.emp) id i S.l[i]?=0:=fun i=>by
  unfold xcP;split
  ·split
   ·exact TB.emp_nil.lists.2.2
   ·rfl
  ·rfl
 simp only [this];generalize List.range 256=L
 induction L with
 | nil=>rfl
 | cons a r ih=>rw [J2k,J5T];omega
def J0K (Z:SP) (fr:List Nat) (N K:Nat) (own:Int) (i s:Nat) (o:Option Ent) (w w':World):Prop:=∃S' t',TurnP Z.S fr N K Z.tb own i s o S' t'/\Step Z.hl (Z.setS S' (updT Z.tb i t')).hl w w'
def WhyL (Z:SP) (fr:List Nat) (own:Int) (i s:Nat) (er:Int):Prop:=
 (er=5/\∃e,find Z.S.P.q.E own=some e/\Q0v e<48)∨(er=4/\NoRoom Z.S.P 6) ∨
 ∃a P1,GetOk Z.S.P fr own 6 a P1/\(Z.tb i).lf (s/16)=0/\((er=5/\∃e,find P1.q.E own=some e/\Q0v e<256)∨(er=4/\NoRoom P1 7))
def LayR (Z:SP) (fr:List Nat) (N K:Nat) (own:Int) (i s h r:Nat) (w:World) (er:Int) (w':World):Prop:=
 (er=0/\∃nd,J0K Z fr N K own i s (some ⟨h,r,nd⟩) w w')∨((er=4∨er=5)/\WhyL Z fr own i s er/\∃P',Tried Z.S.P fr Z.S.l P'/\Step Z.hl (Z.setS (Z.S.setP P') Z.tb).hl w w')
theorem Z2d {S:CO} {fr:List Nat} {N K:Nat} {tb:Nat->TB} {own:Int} {xl xn xn':List Nat} (ok:S.Ok fr N K) (t:TPX S tb own xl xn) {i s:Nat} {p:Pl} (hi:S.l[i]?=some p) (h1:p.st=1) (h2:p.kind=2) (Ak:(p.fac:Int)=own) (hs:s<256) {e:Ent} (hn:(xn'++((tb i).setE s (some e)).nds).Perm (xn++(tb i).nds))
  (hA:Q0s (some e)<18446744073709551616) (hB:Q0V (some e)<18446744073709551616) {w:World} {g:Nat} (AB:Sep w S.hl) (hg:TblC S p g w) :
  Calls prog 104 #[.pointer (some ⟨g,0,none⟩),.int .i64 s,.int .u64 (Q0s (some e):Nat),.int .u64 (Q0V (some e):Nat)] w (SetR S fr N K tb own xl xn' i s (some e) w):=by
 by_cases hl:(tb i).lf (s/16)=0
 ·obtain⟨ac,FQ⟩:=Q9w ok hi h1;rw [Ak] at FQ;exact Z8O ok t hi h1 h2 Ak hs hl FQ hn hA hB AB hg
 ·exact Z8N ok t hi h1 h2 Ak hs hl hn hA hB AB hg
theorem Put1.turn {S:CO} {fr:List Nat} {N K:Nat} {tb:Nat->TB} {own:Int} {i s:Nat} {o:Option Ent} {w w':World} (h:Put1 S fr N K tb own [] [] i s o w w') (hf:∀j,j<256->(tb j).Full):J1B S fr N K tb own i s o w w':=by
 obtain⟨S',t',ok,t,en,full,lf,al,st⟩:=h;refine⟨S',t',⟨ok,t.done fun j hj=>?_,en,lf,al⟩,st⟩;by_cases e:j=i
 ·subst e;rw [updT_same];exact full (hf j hj)
 ·rw [Q0W e];exact hf j hj
theorem TurnP.after {S S1:CO} {fr:List Nat} {N K:Nat} {tb:Nat->TB} {own:Int} {i s:Nat} {o:Option Ent} {S':CO} {t':TB} (al:Alt S S1 own) (h:TurnP S1 fr N K tb own i s o S' t'):TurnP S fr N K tb own i s o S' t':=⟨h.ok,h.tpi,h.en,h.lf,al.trans h.alt⟩
structure BoxL (Z:SP) (g x f h r B:Nat) (w:World):Prop where
 x:AsideV Z.hl [.pointer (some ⟨g,0,none⟩),.int .u32 x,.int .i64 f] (some ⟨B,0,none⟩) w
 c:AsideV Z.hl [.int .u32 h,.int .i64 r] (some ⟨B+1,0,none⟩) w
theorem BoxL.step {Z Z':SP} {g x f h r B:Nat} {w w':World} (b:BoxL Z g x f h r B w) (st:Step Z.hl Z'.hl w w'):BoxL Z' g x f h r B w':=⟨b.x.step st,b.c.step st⟩
theorem AsideV.at {H:HL} {cs:List Value} {b:Nat} {w:World} (h:AsideV H cs (some ⟨b,0,none⟩) w) (j:Nat) (v:Value) (hj:cs[j]?=some v):w.cell? ⟨b,j,none⟩=some v:=by
 obtain⟨g,e,_,_,hc⟩:=h j v hj;cases e;exact hc
def HeldL (Z:SP) (g f h r B:Nat) (w':World):Prop:=w'.cell? ⟨Z.s,0,none⟩=some (.pointer (some ⟨Z.S.c,0,none⟩))/\w'.cell? ⟨B,0,none⟩=some (.pointer (some ⟨g,0,none⟩))/\w'.cell? ⟨B,2,none⟩=some (.int .i64 f)/\w'.cell? ⟨B+1,0,none⟩=some (.int .u32 h)/\w'.cell? ⟨B+1,1,none⟩=some (.int .i64 r)
theorem BoxL.held {Z:SP} {g x f h r B:Nat} {w:World} (b:BoxL Z g x f h r B w) (hs:Sep w Z.hl):HeldL Z g f h r B w:=⟨SP.c0 hs,b.x.at 0 _ rfl,b.x.at 2 _ rfl,b.c.at 0 _ rfl,b.c.at 1 _ rfl⟩
theorem HeldL.grown {Z:SP} {g f h r B:Nat} {w w':World} (b:HeldL Z g f h r B w) (hb:Below w.heap.size w w'):HeldL Z g f h r B w':=by
 obtain⟨a1,a2,a3,a4,a5⟩:=b;have k:∀{p:Addr} {v:Value},w.cell? p=some v->w'.cell? p=some v:=fun {p v} e=>(hb.cell (World.block_lt_of_cell? w p e)).trans e
 exact⟨k a1,k a2,k a3,k a4,k a5⟩
theorem Z6x {w w1:World} {Z:SP} {fr:List Nat} {N K:Nat} (hs:Sep w Z.hl) (hb:Below w.heap.size w w1) (ok:Z.S.Ok fr N K) (t:TPI Z.S Z.tb) {i s x g B h r:Nat} {p:Pl} (hi:Z.S.l[i]?=some p) (h1:p.st=1) (h2:p.kind=2) (A9:s<256) (h0:(Z.tb i).en s=none) (hh:h<4294967295) (hr:r<16)
  (hg:TblZ Z p g w1) (BY:BoxL Z g x p.fac h r B w1) :
  Calls prog 65 #[.pointer (some ⟨Z.S.P.p,0,none⟩),.int .i64 (p.fac:Int),.int .i64 6] w1 fun rv w2=>HeldL Z g p.fac h r B w2/\∃a er:Int,rv=.returned (.tuple #[.int .i64 a,.int .i64 er]) /\
   (((er=4∨er=5)/\LayR Z fr N K p.fac i s h r w er w2) ∨
    ∃A:Nat,a=(A:Int)/\er=0/\A<=1073741824/\∀w3,Below w2.heap.size w2 w3 ->
    Calls prog 104 #[.pointer (some ⟨g,0,none⟩),.int .i64 s,.int .u64 ((⟨h,r,0⟩:Ent).a:Nat),.int .u64 A] w3 fun rv w4=>HeldL Z g p.fac h r B w4/\∃er:Int,rv=.returned (.int .i64 er) /\
     ((er=0/\LayR Z fr N K p.fac i s h r w 0 w4)∨((er=4∨er=5)/\∀w5,Below w4.heap.size w4 w5 ->
      Calls prog 49 #[.pointer (some ⟨Z.S.c,0,none⟩)] w5 (fun r w'=>r=.returned (.pointer (some ⟨Z.S.P.p,0,none⟩))/\w5=w') /\
      Calls prog 159 #[.pointer (some ⟨Z.S.P.p,0,none⟩),.int .i64 (p.fac:Int),.int .i64 6,.int .i64 A] w5 fun rv w6=>rv=.returned (.int .i64 0)/\HeldL Z g p.fac h r B w6/\LayR Z fr N K p.fac i s h r w er w6))):=by
 have s1:=(hs.grown hb).sep;have Oq:Q1i 6=48:=costs_67.1;have Bc:∃q∈Z.S.l,q.st=1/\(q.fac:Int)=(p.fac:Int):=⟨p,J4v hi,h1,rfl⟩
 have An:=Q1r ok.inv.len hi;refine (Q5K (CO.sP (SP.sS s1)) ok.inv.mem.pool (p.fac:Int) 6).mono ?_;rintro rv w2 Nm;have zstep:∀{P':PL},P'.p=Z.S.P.p->Step Z.S.P.hl P'.hl w1 w2->Step Z.hl (Z.setS (Z.S.setP P') Z.tb).hl w w2:=fun {P'} e st=>(hs.grown hb).trans (SP.stepS s1 _ _ rfl (CO.stepP (SP.sS s1) P' e st))
 rcases Nm with ⟨Dy,_⟩|⟨_,Ar,_⟩|⟨_,⟨e,he,AA⟩,rfl,st⟩|⟨n,ac,hk,Wd,Wp,FQ,IE,LU⟩
 ·rw [Oq] at Dy;omega
 ·obtain⟨e,he⟩:=Q9w ok hi h1;rw [Ar] at he;cases he
 ·have st':=zstep rfl st;refine⟨(BY.step (SP.stepS s1 _ _ rfl (CO.stepP (SP.sS s1) Z.S.P rfl st))).held st'.sep,0,5,rfl,.inl ⟨.inr rfl,.inr ⟨.inr rfl,.inl ⟨rfl,e,he,?_⟩,Z.S.P,Tried.refl ok.inv.mem.pool _,st'⟩⟩⟩;rw [Oq] at AA;exact AA
 ·obtain rfl:n=6:=by omega
  rcases LU with ⟨A,P1,rfl,g6,st⟩|⟨Ar,rfl,st⟩
  ·have GA:Step Z.hl (Z.setS (Z.S.setP P1) Z.tb).hl w w2:=zstep g6.p st;obtain⟨ok1,t1⟩:=TPX.got ok (t.x (p.fac:Int)) (.inl rfl) g6 Bc;rw [if_neg (by decide),if_pos rfl] at t1;have al1:=Alt.got ok g6;have st1:Step Z.hl (Z.setS (Z.S.paid P1 (p.fac:Int) ((Q0c 6:Nat):Int)) Z.tb).hl w w2:=GA;have Td:A∈P1.usedOf 6:=by
    obtain⟨X,Y,_,e2⟩:=g6.used;rw [e2];simp
   have U2:=Q0m ok1.inv.mem.pool Td;have GI:=Q0p ok1.inv.mem.pool;have Wo:A+Q0c 6<=P1.a.mem.length:=U2.1;have Px:P1.a.mem.length<=1073741824:=GI;have Da:BoxL (Z.setS (Z.S.paid P1 (p.fac:Int) ((Q0c 6:Nat):Int)) Z.tb) g x p.fac h r B w2:=BY.step (Z':=Z.setS (Z.S.paid P1 (p.fac:Int) ((Q0c 6:Nat):Int)) Z.tb) (SP.stepS s1 _ _ rfl (CO.stepP (SP.sS s1) P1 g6.p st));have Cz:TblZ (Z.setS (Z.S.paid P1 (p.fac:Int) ((Q0c 6:Nat):Int)) Z.tb) p g w2:=hg.step (Z':=Z.setS (Z.S.paid P1 (p.fac:Int) ((Q0c 6:Nat):Int)) Z.tb) (SP.stepS s1 _ _ rfl (CO.stepP (SP.sS s1) P1 g6.p st)) g6.p;refine⟨Da.held st1.sep,(A:Int),0,rfl,.inr ⟨A,rfl,rfl,by omega,fun w3 As=>?_⟩⟩
   have st3:=st1.trans (st1.sep.grown As);have KG:=(Cz.grown st1.sep As).c;have Jd:=Da.step (st1.sep.grown As);have CH:([]++((Z.tb i).setE s (some ⟨h,r,A⟩)).nds).Perm ([A]++(Z.tb i).nds):=TB.nds_set A9 (e:=⟨h,r,A⟩) h0;have Q3:Q0s (some (⟨h,r,A⟩:Ent))<18446744073709551616:=by
    show h+1+4294967296*r<_;omega
   refine (Z2d ok1 t1 (show (Z.S.paid P1 (p.fac:Int) ((Q0c 6:Nat):Int)).l[i]?=some p from hi) h1 h2 rfl A9 CH Q3 (by show A<_;omega) (SP.sS st3.sep) KG).mono ?_;rintro rv w4 (⟨rfl,Bo⟩|⟨FK,st,FW⟩)
   ·obtain⟨S',t',T,stt⟩:=Bo.turn t.full;have T0:=T.after al1;have stz:Step Z.hl (Z.setS S' (updT Z.tb i t')).hl w w4:=st3.trans (SP.stepS st3.sep S' (updT Z.tb i t') (T.alt.c) stt);refine⟨?_,0,rfl,.inl ⟨rfl,.inl ⟨rfl,A,S',t',T0,stz⟩⟩⟩;have A5:=Jd.step (SP.stepS st3.sep S' (updT Z.tb i t') T.alt.c stt);have:=A5.held stz.sep;exact⟨by rw [<- T0.alt.c];exact this.1,this.2⟩
   ·have st4:Step Z.hl (Z.setS (Z.S.paid P1 (p.fac:Int) ((Q0c 6:Nat):Int)) Z.tb).hl w w4:=st3.trans (SP.stepS st3.sep _ _ rfl st);have Nf:=Jd.step (SP.stepS st3.sep (Z.S.paid P1 (p.fac:Int) ((Q0c 6:Nat):Int)) Z.tb rfl st);have Aj:∃er:Int,rv=.returned (.int .i64 er)/\(er=4∨er=5)/\WhyL Z fr p.fac i s er:=by
     rcases FW with ⟨Ar,rfl⟩|⟨⟨e,he,AA⟩,rfl⟩
     ·exact⟨4,rfl,.inl rfl,.inr (.inr ⟨A,P1,g6,FK,.inr ⟨rfl,Ar⟩⟩)⟩
     ·exact⟨5,rfl,.inr rfl,.inr (.inr ⟨A,P1,g6,FK,.inl ⟨rfl,e,he,AA⟩⟩)⟩
    obtain⟨er,rfl,Co,hw⟩:=Aj;refine⟨Nf.held st4.sep,er,rfl,.inr ⟨Co,fun w5 AH=>?_⟩⟩;have st5:=st4.trans (st4.sep.grown AH);have OS:=Nf.step (st4.sep.grown AH);have km:=Q2e (SP.sS st5.sep);have Iy:(Z.S.paid P1 (p.fac:Int) ((Q0c 6:Nat):Int)).P.p=Z.S.P.p:=g6.p;refine⟨?_,?_⟩
    ·have:=km;rw [show ((Z.setS (Z.S.paid P1 (p.fac:Int) ((Q0c 6:Nat):Int)) Z.tb).S.P.p)=Z.S.P.p from g6.p] at this;exact this
    obtain⟨ac1,GY⟩:=Q9w ok1 (show (Z.S.paid P1 (p.fac:Int) ((Q0c 6:Nat):Int)).l[i]?=some p from hi) h1;have Nj:=t1.paid ok1 GY;rw [J4G,J6i] at Nj;obtain⟨c,hc⟩:=PL.cls ok1.inv.mem.pool (by omega:1<=6) (by omega);have kp:=Q4C (CO.sP (SP.sS st5.sep)) ok1.inv.mem.pool (p.fac:Int) GY 6 (by rw [Q5j];omega) c hc A (by rw [<- Q0T hc];exact Td) (by omega);rw [show ((Z.setS (Z.S.paid P1 (p.fac:Int) ((Q0c 6:Nat):Int)) Z.tb).S.P.p)=Z.S.P.p from g6.p] at kp;refine kp.mono ?_;rintro rv w6 ⟨rfl,P2,b6,stp⟩;have tr:Tried Z.S.P fr Z.S.l P2:=(g6.gotM ok.inv.mem.pool).back ok.inv.mem (b6.backM ok1.inv.mem.pool)
    have stz:Step Z.hl (Z.setS (Z.S.setP P2) Z.tb).hl w w6:=st5.trans (SP.stepS st5.sep _ _ rfl (CO.stepP (SP.sS st5.sep) P2 b6.p stp));have PV:=OS.step (Z':=Z.setS (Z.S.setP P2) Z.tb) (SP.stepS st5.sep _ _ rfl (CO.stepP (SP.sS st5.sep) P2 b6.p stp));exact⟨rfl,PV.held stz.sep,.inr ⟨Co,hw,P2,tr,stz⟩⟩
  ·have st':=zstep rfl st;exact⟨(BY.step (SP.stepS s1 _ _ rfl (CO.stepP (SP.sS s1) Z.S.P rfl st))).held st'.sep,0,4,rfl,.inl ⟨.inl rfl,.inr ⟨.inl rfl,.inr (.inl ⟨rfl,Ar⟩),Z.S.P,Tried.refl ok.inv.mem.pool _,st'⟩⟩⟩
theorem Q6C (w:World) (h r:Nat) (hh:h<4294967295) (hr:r<16):Calls prog 105 #[.agg #[.int .u32 h,.int .i64 r]] w (Told w (.int .u64 ((⟨h,r,0⟩:Ent).a:Nat))):=by
 have hn:=Z8U h r hh hr;have hA:=Cells.new w 35 [.int .u32 h,.int .i64 r];have a0:=hA.cell 0 _ rfl;have a1:=hA.cell 1 _ rfl;have hb:Below w.heap.size w (w.alloc (.cells #[.int .u32 h,.int .i64 r] 35)):=(Below.refl _ _).alloc (J2h _) _;have HB:=Q0a hb;have TW:(0:Int)<=(h:Int)/\(h:Int)<4294967295:=by omega
 have Kz:(0:Int)<=(r:Int)/\(r:Int)<16:=by omega
 obtain⟨q1,q2⟩:=TW;obtain⟨q3,q4⟩:=Kz;generalize ((⟨h,r,0⟩:Ent).a:Nat)=z at *
 clear hA hb hh hr;go_enter func105,ntmps105;go_wp2_with fail
 first|exact⟨rfl,HB.out⟩|(go_ret;exact⟨rfl,HB.out⟩)
theorem Q8x {w:World} {Z:SP} {fr:List Nat} {N K:Nat} (hs:Sep w Z.hl) (ok:Z.S.Ok fr N K) (t:TPI Z.S Z.tb) {i s x g h r:Nat} {p:Pl} (hi:Z.S.l[i]?=some p) (h1:p.st=1) (h2:p.kind=2) (A9:s<256) (h0:(Z.tb i).en s=none) (hh:h<4294967295) (hr:r<16) (hg:TblZ Z p g w) :
  Calls prog 78 #[.pointer (some ⟨Z.s,0,none⟩),.agg #[.pointer (some ⟨g,0,none⟩),.int .u32 x,.int .i64 (p.fac:Int)],.int .i64 s,.agg #[.int .u32 h,.int .i64 r]] w fun rv w'=>∃er:Int,rv=.returned (.int .i64 er)/\LayR Z fr N K p.fac i s h r w er w':=by
 have hb:Below w.heap.size w ((w.alloc (.cells #[.pointer (some ⟨g,0,none⟩),.int .u32 x,.int .i64 (p.fac:Int)] 155)).alloc (.cells #[.int .u32 h,.int .i64 r] 35)):=((Below.refl _ _).alloc (J2h _) _).alloc (by simp) _;have BY:BoxL Z g x p.fac h r w.heap.size ((w.alloc (.cells #[.pointer (some ⟨g,0,none⟩),.int .u32 x,.int .i64 (p.fac:Int)] 155)).alloc (.cells #[.int .u32 h,.int .i64 r] 35)):=by
  refine⟨fun j v hj=>⟨w.heap.size,rfl,fun hk=>by have:=hs.lt hk;omega,by simp;omega,?_⟩,fun j v hj=>⟨w.heap.size+1,rfl,fun hk=>by have:=hs.lt hk;omega,by simp,?_⟩⟩
  ·exact ((Cells.new w 155 [.pointer (some ⟨g,0,none⟩),.int .u32 x,.int .i64 (p.fac:Int)]).alloc _).cell j v hj
  ·have:=(Cells.new (w.alloc (.cells #[.pointer (some ⟨g,0,none⟩),.int .u32 x,.int .i64 (p.fac:Int)] 155)) 35 [.int .u32 h,.int .i64 r]).cell j v hj
   simpa using this
 have Kp:Hid (∀w1,Below ((w.alloc (.cells #[.pointer (some ⟨g,0,none⟩),.int .u32 x,.int .i64 (p.fac:Int)] 155)).alloc (.cells #[.int .u32 h,.int .i64 r] 35)).heap.size ((w.alloc (.cells #[.pointer (some ⟨g,0,none⟩),.int .u32 x,.int .i64 (p.fac:Int)] 155)).alloc (.cells #[.int .u32 h,.int .i64 r] 35)) w1->HeldL Z g p.fac h r w.heap.size w1/\Calls prog 49 #[.pointer (some ⟨Z.S.c,0,none⟩)] w1 (fun r w'=>r=.returned (.pointer (some ⟨Z.S.P.p,0,none⟩))/\w1=w')/\_):=fun w1 Av=>by
  have Al:Below w.heap.size w w1:=hb.trans (Av.mono (by simp;omega));have s0:=(hs.grown hb).sep;have Da:=BY.step (s0.grown Av);have s1:=(hs.grown Al).sep;exact⟨Da.held s1,Q2e (SP.sS s1),Z6x hs Al ok t hi h1 h2 A9 h0 hh hr (hg.grown hs Al) Da⟩
 have BT:=(Kp.out _ (Below.refl _ _)).1;have DI:=(Kp.out _ ((Below.refl _ _).drew)).1;have CI:=(Kp.out _ ((Below.refl _ _).drew)).2.1;have CX:=(Kp.out _ ((Below.refl _ _).drew)).2.2;have Dr:=Q0a CX;have JV:Hid (∀w,Calls prog 105 #[.agg #[.int .u32 h,.int .i64 r]] w (Told w (.int .u64 ((⟨h,r,0⟩:Ent).a:Nat)))):=fun w=>Q6C w h r hh hr
 clear Kp BY hb hs ok t hi h1 h2 h0 hg CX;generalize LayR Z fr N K p.fac i s h r w=Q at *
 unfold HeldL at BT DI;go_enter func78,ntmps78;go_wp2_with fail
 go_region_held3 (fun w'=>w'.cell? ⟨Z.s,0,none⟩=some (.pointer (some ⟨Z.S.c,0,none⟩))/\w'.cell? ⟨w.heap.size,0,none⟩=some (.pointer (some ⟨g,0,none⟩))/\w'.cell? ⟨w.heap.size,2,none⟩=some (.int .i64 (p.fac:Int))/\w'.cell? ⟨w.heap.size+1,0,none⟩=some (.int .u32 h)/\w'.cell? ⟨w.heap.size+1,1,none⟩=some (.int .i64 r)) (first|exact BT|exact DI|exact Ah)
  (first|(go_at_call 49;refine CI.mono ?_;rintro r w' ⟨rfl,rfl⟩)|(go_at_call 65;refine Dr.out.mono ?_;rintro r w2 ⟨Ah,a,er,rfl,hy⟩;have HY:=Q0a hy;clear hy Dr))
 rcases HY.out with ⟨Co,hq⟩|⟨A,rfl,rfl,hA,hy⟩
 ·have HQ:=Q0a hq;clear hq HY BT DI CI JV Ah;rcases Co with rfl|rfl
  all_goals
   go_wp2_with fail
   first|exact⟨_,rfl,HQ.out⟩|(go_ret;exact⟨_,rfl,HQ.out⟩)
 ·have HS:=Q0a hy;have L6:(0:Int)<=(A:Int):=by omega
  have Sl:(A:Int)<=1073741824:=by omega
  have Sk:IntKind.u64.wrap (A:Int)=(A:Int):=by rw [IntKind.wrap_u64];omega
  have Oa:IntKind.i64.wrap (A:Int)=(A:Int):=Go.IntWalk.i64_in _ (by omega);have EE:HeldL Z g p.fac h r w.heap.size w2.drew:=Ah;generalize ((⟨h,r,0⟩:Ent).a:Nat)=za at *
  clear hy HY BT DI CI hA;unfold HeldL at Ah EE;go_wp2_with fail
  go_region_held3 (fun w'=>w'.cell? ⟨Z.s,0,none⟩=some (.pointer (some ⟨Z.S.c,0,none⟩))/\w'.cell? ⟨w.heap.size,0,none⟩=some (.pointer (some ⟨g,0,none⟩))/\w'.cell? ⟨w.heap.size,2,none⟩=some (.int .i64 (p.fac:Int))/\w'.cell? ⟨w.heap.size+1,0,none⟩=some (.int .u32 h)/\w'.cell? ⟨w.heap.size+1,1,none⟩=some (.int .i64 r)) (first|exact Ah|exact EE|exact GT|exact Bs)
   (first|(go_at_call 105;refine (JV.out _).mono ?_;rintro r w3 ⟨rfl,As⟩;have GT:=HeldL.grown EE As;have D8:=Q0a As;clear As JV)|(go_at_call 104;refine (HS.out _ (((Below.refl w2.heap.size w2).drew).trans D8.out)).mono ?_;rintro r w4 ⟨Bs,er,rfl,hz⟩;have HZ:=Q0a hz;clear hz HS))
  rcases HZ.out with ⟨rfl,hq⟩|⟨Co,hy⟩
  ·have HQ:=Q0a hq;clear hq HZ Ah EE GT Bs;go_wp2_with fail
   first|exact⟨_,rfl,HQ.out⟩|(go_ret;exact⟨_,rfl,HQ.out⟩)
  ·have Nk:HeldL Z g p.fac h r w.heap.size w4.drew:=Bs;have CI:=(hy _ ((Below.refl _ _).drew)).1;have HP:=Q0a (hy _ ((Below.refl _ _).drew)).2;have Gt:(er==0)=false:=by rcases Co with rfl|rfl <;> rfl
   clear hy HZ Ah EE GT Co;unfold HeldL at Bs Nk;go_wp2_with fail
   go_region_held3 (fun w'=>w'.cell? ⟨Z.s,0,none⟩=some (.pointer (some ⟨Z.S.c,0,none⟩))/\w'.cell? ⟨w.heap.size,0,none⟩=some (.pointer (some ⟨g,0,none⟩))/\w'.cell? ⟨w.heap.size,2,none⟩=some (.int .i64 (p.fac:Int))/\w'.cell? ⟨w.heap.size+1,0,none⟩=some (.int .u32 h)/\w'.cell? ⟨w.heap.size+1,1,none⟩=some (.int .i64 r)) (first|exact Bs|exact Nk|exact Oq)
    (first|(go_at_call 49;refine CI.mono ?_;rintro r w' ⟨rfl,rfl⟩)|(go_at_call 159;refine HP.out.mono ?_;rintro r w6 ⟨rfl,Oq,hq⟩;have HQ:=Q0a hq;clear hq HP))
   go_wp2_with fail
   first|exact⟨_,rfl,HQ.out⟩|(go_ret;exact⟨_,rfl,HQ.out⟩)
end Go.Proofs.YtlakjlmaboioiaaGreatDoor

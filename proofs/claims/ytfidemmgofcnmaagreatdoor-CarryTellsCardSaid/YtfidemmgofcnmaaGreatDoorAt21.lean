/- What the laws of spaces share is proved. No condition. Part of a proof. -/
import Derived.Test.YtfidemmgofcnmaaGreatDoorAt20
set_option maxHeartbeats 8000000
set_option maxRecDepth 100000
set_option linter.unusedVariables false
namespace Go.Proofs.YtfidemmgofcnmaaGreatDoor
open Go.RowKit Go.Proofs.Tryz
def Z0d(o1 o2:Option Ent)(m:Mv)(cl:Bool):Int:=
 if ¬((0<=m.src/\m.src<256)/\(0<=m.dst/\m.dst<256)) then 2 else
 if ¬((0<m.r/\m.r<=15)/\decide (m.src<128)=decide (m.dst<128)) then 1 else
 match o1 with
 | none=>6
 | some e=>if e.r&&&4=0∨e.r&&&m.r.toNat=0 then 9 else if o2.isSome=true∨cl=true then 7 else 0
theorem Z7T(o1 o2:Option Ent)(m:Mv)(cl:Bool)(cb1:Int)(h:∀e,o1=some e->cb1=(e.r:Int)/\e.r<16) :
  J1a (decide (0<=m.src/\m.src<256)) (decide (0<=m.dst/\m.dst<256)) (decide (0<m.r/\m.r<=15)) (decide (m.src<128)) (decide (m.dst<128)) o1.isSome (bits .and .i64 cb1 4==0) (bits .and .i64 cb1 m.r==0) o2.isSome cl (Z0d o1 o2 m cl):=by
 unfold Z0d;by_cases a:0<=m.src/\m.src<256
 case neg=>rw[if_pos (fun h=>a h.1)];exact .inl ⟨decide_eq_false a,rfl⟩
 by_cases b:0<=m.dst/\m.dst<256
 case neg=>rw[if_pos (fun h=>b h.2)];exact .inr (.inl ⟨decide_eq_true a,decide_eq_false b,rfl⟩)
 rw[if_neg (fun h=>h ⟨a,b⟩)];by_cases c:0<m.r/\m.r<=15
 case neg=>rw[if_pos (fun h=>c h.1)];exact .inr (.inr (.inl ⟨decide_eq_true a,decide_eq_true b,decide_eq_false c,rfl⟩))
 by_cases d:decide (m.src<128)=decide (m.dst<128)
 case neg =>
  rw[if_pos (fun h=>d h.2)];refine .inr (.inr (.inr (.inl ⟨decide_eq_true a,decide_eq_true b,decide_eq_true c,?_,rfl⟩)));cases h1:decide (m.src<128) <;> cases h2:decide (m.dst<128) <;> simp_all
 rw[if_neg (fun h=>h ⟨c,d⟩)];have ha:=decide_eq_true a;have hb:=decide_eq_true b;have hc:=decide_eq_true c;cases ho:o1 with
 | none=>exact .inr (.inr (.inr (.inr (.inl ⟨ha,hb,hc,d,rfl,rfl⟩))))
 | some e =>
  obtain⟨rfl,hr⟩:=h e ho;obtain⟨k,hk⟩:∃k:Nat,m.r=(k:Int):=⟨m.r.toNat,by omega⟩
  have C6:k<16:=by omega
  have e1:bits .and .i64 (e.r:Int) 4=((e.r&&&4:Nat):Int):=Q4h e.r 4 hr (by omega);have e2:bits .and .i64 (e.r:Int) m.r=((e.r&&&k:Nat):Int):=by rw[hk];exact Q4h e.r k hr C6
  have e3:m.r.toNat=k:=by rw[hk];rfl
  rw[e1,e2,e3];dsimp only;by_cases z1:e.r&&&4=0
  ·rw[if_pos (.inl z1)];exact .inr (.inr (.inr (.inr (.inr (.inl ⟨ha,hb,hc,d,rfl,by simp[z1],rfl⟩)))))
  have q1:(((e.r&&&4:Nat):Int)==0)=false:=by simpa using z1
  by_cases z2:e.r&&&k=0
  ·rw[if_pos (.inr z2)];exact .inr (.inr (.inr (.inr (.inr (.inr (.inl ⟨ha,hb,hc,d,rfl,q1,by simp[z2],rfl⟩))))))
  have q2:(((e.r&&&k:Nat):Int)==0)=false:=by simpa using z2
  rw[if_neg (by rintro(h|h);exact z1 h;exact z2 h)];cases h2:o2.isSome with
  | true=>rw[if_pos (.inl rfl)];exact .inr (.inr (.inr (.inr (.inr (.inr (.inr (.inl ⟨ha,hb,hc,d,rfl,q1,q2,rfl,rfl⟩)))))))
  | false =>
   cases cl with
   | true=>rw[if_pos (.inr rfl)];exact .inr (.inr (.inr (.inr (.inr (.inr (.inr (.inr (.inl ⟨ha,hb,hc,d,rfl,q1,q2,rfl,rfl,rfl⟩))))))))
   | false=>rw[if_neg (by simp)];exact .inr (.inr (.inr (.inr (.inr (.inr (.inr (.inr (.inr ⟨ha,hb,hc,d,rfl,q1,q2,rfl,rfl,rfl⟩))))))))
theorem Z8M(o:Option Ent):∃a b:Int,capV o=.tuple #[.agg #[.int .u32 a,.int .i64 b],.bool o.isSome]/\∀e,o=some e->b=(e.r:Int):=by
 cases o with
 | none=>exact⟨0,0,rfl,by intro e h;cases h⟩
 | some e=>exact⟨_,_,rfl,by intro e' h;cases h;rfl⟩
theorem Z5w{w:World}{S:CO}{t1 t2:TB}{p1 p2:Pl}{g1 g2:Nat}(T1:TT S t1 p1 g1 w)(T2:TT S t2 p2 g2 w){m:Mv}(l1:∀e,t1.at' m.src=some e->e.Low)(l2:∀e,t2.at' m.dst=some e->e.Low)(x1 x2:Nat)(f1 f2:Int){a0:Option Addr}{len:Nat}{A:Nat->Mv}(hA:IsMv w a0 len A){n:Nat}(cap:Nat)(hn:n<=len)(hm:n<=4611686018427387904) :
  Calls prog 97 #[.agg #[.pointer (some ⟨g1,0,none⟩),.int .u32 x1,.int .i64 f1],.agg #[.pointer (some ⟨g2,0,none⟩),.int .u32 x2,.int .i64 f2],.agg #[.int .i64 m.src,.int .i64 m.dst,.int .i64 m.r,.bool m.g],.slice a0 n cap] w (Told w (.int .i64 (Z0d (t1.at' m.src) (t2.at' m.dst) m (Q1c A n m)))):=by
 obtain⟨ca1,cb1,v1,hr⟩:=Z8M (t1.at' m.src);obtain⟨ca2,cb2,v2,_⟩:=Z8M (t2.at' m.dst);refine Z2I (s1:=(t1.at' m.src).isSome) (s2:=(t2.at' m.dst).isSome) (cl:=Q1c A n m) (ca1:=ca1) (cb1:=cb1) (ca2:=ca2) (cb2:=cb2) (fun W hb=>?_) (fun W hb=>?_) (fun W b hb Aa h0 h1 h3=>Q7N (hA.below hb) cap hn hm m b Aa h0 h1 h3) (Z7T _ _ m _ cb1 fun e he=>⟨hr e he,(l1 e he).2⟩)
 ·have:=Q1s (T1.grown hb) (x1:Int) f1 m.src l1
  rwa [v1] at this
 ·have:=Q1s (T2.grown hb) (x2:Int) f2 m.dst l2
  rwa [v2] at this
def AsideM(H:HL)(n:Nat)(A:Nat->Mv)(a0:Option Addr)(w:World):Prop:=IsMv w a0 n A/\∀a:Addr,n≠0->a0=some a->a.block∉keys H
theorem AsideM.step{H H':HL}{n:Nat}{A:Nat->Mv}{a0:Option Addr}{w w':World}(h:AsideM H n A a0 w)(st:Step H H' w w'):AsideM H' n A a0 w':=by
 obtain⟨h1,h2⟩:=h;refine⟨fun j hj=>?_,fun a hn ha hk=>?_⟩
 ·obtain⟨g,off,rfl,hg,hc,hw⟩:=h1 j hj;have e:=st.chg.block g hg (h2 ⟨g,off,none⟩ (by omega) rfl);exact⟨g,off,rfl,J1G hg st.chg.size,fun i v hv=>(World.cell?_of_block (w:=w) e).trans (hc i v hv),hw⟩
 ·obtain⟨g,off,he,hg,_,_⟩:=h1 0 (by omega);rw[ha] at he;cases he;rcases st.new _ hk with h'|h'
  ·exact h2 _ hn ha h'
  ·simp at h';omega
theorem FPI.same2{l l':List Pl}{tb tb':Nat->TB}{N:List (En Nd)}(f:FPI l tb N)(he:∀h s,Q0g l' tb' h s=Q0g l tb h s)(hl:∀h s e,Q0g l tb h s=some e->∀q,pget l 1 e.h=some q->∃q',pget l' 1 e.h=some q'/\q'.kind=q.kind):FPI l' tb' N:=by
 have ho:∀n,Q0F l' tb' n=Q0F l tb n:=fun n=>he _ _
 refine⟨fun h s e x=>?_,fun h s e x=>?_,fun n hn=>?_,fun n hn m hm e e' x y=>?_⟩
 ·rw[he] at x;exact Q6R (f.cap h s e x) (hl h s e x)
 ·rw[he] at x;exact f.has h s e x
 ·rw[ho];exact f.is n hn
 ·rw[ho] at x y;exact f.up n hn m hm e e' x y
structure FitM(en:Nat->Nat->Option (Nat×Nat))(x y:Nat)(m:Mv):Prop where
 src:0<=m.src/\m.src<256
 dst:0<=m.dst/\m.dst<256
 r:0<m.r/\m.r<=15
 side:decide (m.src<128)=decide (m.dst<128)
 full:∃c,en x m.src.toNat=some c/\c.2&&&4≠0/\c.2&&&m.r.toNat≠0
 free:en y m.dst.toNat=none
theorem Z7U{l:List Pl}{tb:Nat->TB}{N:List (En Nd)}{x:Nat}{p:Pl}(hp:pget l 1 x=some p)(hk:p.kind=2){z:Int}(hz:0<=z/\z<256):((tb (x%256)).at' z).map Ent.c=(avOf l tb N).en x z.toNat:=by
 unfold TB.at' avOf;rw[if_pos hz];show _=(Q0g l tb x z.toNat).map Ent.c;rw[Q0h hp hk (by omega)]
theorem Z1g{l:List Pl}{tb:Nat->TB}{N:List (En Nd)}{x y:Nat}{p1 p2:Pl}(A9:pget l 1 x=some p1)(AE:p1.kind=2)(Ax:pget l 1 y=some p2)(Av:p2.kind=2){m:Mv}{cl:Bool} :
  Z0d ((tb (x%256)).at' m.src) ((tb (y%256)).at' m.dst) m cl=0↔FitM (avOf l tb N).en x y m/\cl=false:=by
 unfold Z0d;by_cases h1:(0<=m.src/\m.src<256)/\(0<=m.dst/\m.dst<256)
 ·rw[if_neg (fun h=>h h1)];have e1:=Z7U (tb:=tb) (N:=N) A9 AE h1.1;have e2:=Z7U (tb:=tb) (N:=N) Ax Av h1.2;by_cases h2:(0<m.r/\m.r<=15)/\decide (m.src<128)=decide (m.dst<128)
  ·rw[if_neg (fun h=>h h2)];cases ho:(tb (x%256)).at' m.src with
   | none =>
    rw[ho] at e1;refine⟨fun h=>by simp at h,fun h=>?_⟩;obtain⟨c,hc,_⟩:=h.1.full;rw[<- e1] at hc;cases hc
   | some e =>
    rw[ho] at e1;simp only;by_cases h3:e.r&&&4=0∨e.r&&&m.r.toNat=0
    ·rw[if_pos h3];refine⟨fun h=>by simp at h,fun h=>?_⟩;obtain⟨c,hc,h4,h5⟩:=h.1.full;rw[<- e1] at hc;cases hc;exact absurd h3 (by simp only[Ent.c] at h4 h5;omega)
    ·rw[if_neg h3];cases KH:(tb (y%256)).at' m.dst with
     | some e' =>
      rw[KH] at e2;refine⟨fun h=>by simp at h,fun h=>?_⟩;rw[h.1.free] at e2;cases e2
     | none =>
      rw[KH] at e2;cases cl with
      | true=>exact⟨fun h=>by simp at h,fun h=>absurd h.2 (by simp)⟩
      | false=>exact⟨fun _=>⟨⟨h1.1,h1.2,h2.1,h2.2,⟨_,e1.symm,by simp only[Ent.c];omega,by simp only[Ent.c];omega⟩,e2.symm⟩,rfl⟩,fun _=>by simp⟩
  ·rw[if_pos h2];exact⟨fun h=>by simp at h,fun h=>absurd ⟨h.1.r,h.1.side⟩ h2⟩
 ·rw[if_pos h1];exact⟨fun h=>by simp at h,fun h=>absurd ⟨h.1.src,h.1.dst⟩ h1⟩
def AllFit(en:Nat->Nat->Option (Nat×Nat))(x y n:Nat)(A:Nat->Mv):Prop:=∀i,i<n->FitM en x y (A i)/\Q1c A i (A i)=false
theorem AllFit.dst{en:Nat->Nat->Option (Nat×Nat)}{x y n:Nat}{A:Nat->Mv}(h:AllFit en x y n A){i j:Nat}(hi:i<n)(hj:j<n)(Ac:i≠j):(A i).dst.toNat≠(A j).dst.toNat:=by
 have key:∀{a b:Nat},b<n->a<b->(A a).dst≠(A b).dst:=fun {a b} hb EI=>by
  have hc:=(h b hb).2;unfold Q1c at hc;have:=J5O.1 hc a (J1U.2 EI);unfold Mv.clash at this;intro e;simp[e] at this
 have N4:=(h i hi).1.dst;have BN:=(h j hj).1.dst;intro e;have e':(A i).dst=(A j).dst:=by omega
 rcases Nat.lt_or_gt_of_ne Ac with hl|hl
 ·exact key hj hl e'
 ·exact key hi hl e'.symm
theorem AllFit.srcs{en:Nat->Nat->Option (Nat×Nat)}{x y n:Nat}{A:Nat->Mv}(h:AllFit en x y n A){i j:Nat}(hi:i<n)(hj:j<n)(Ac:i≠j)(hg:(A i).g=true):(A i).src.toNat≠(A j).src.toNat:=by
 have key:∀{a b:Nat},b<n->a<b->((A a).g=true∨(A b).g=true)->(A a).src≠(A b).src:=fun {a b} hb EI hor=>by
  have hc:=(h b hb).2;unfold Q1c at hc;have:=J5O.1 hc a (J1U.2 EI);unfold Mv.clash at this;intro e;rcases hor with h1|h1 <;> simp[e,h1] at this
 have N4:=(h i hi).1.src;have BN:=(h j hj).1.src;intro e;have e':(A i).src=(A j).src:=by omega
 rcases Nat.lt_or_gt_of_ne Ac with hl|hl
 ·exact key hj hl (.inl hg) e'
 ·exact key hi hl (.inr hg) e'.symm
structure LaidP(Z:SP)(fr:List Nat)(N K:Nat)(x y:Nat)(own:Int)(A:Nat->Mv)(j k:Nat)(S':CO)(t':TB):Prop where
 ok:S'.Ok fr N K
 tpi:TPI S' (updT Z.tb (y%256) t')
 alt:Alt Z.S S' own
 lf:∀q,q<16->(Z.tb (y%256)).lf q≠0->t'.lf q=(Z.tb (y%256)).lf q
 new:∀i,j<=i->i<k->∃c nd,Z.av.en x (A i).src.toNat=some c/\t'.en (A i).dst.toNat=some ⟨c.1,c.2&&&(A i).r.toNat,nd⟩
 old:∀s,(∀i,j<=i->i<k->s≠(A i).dst.toNat)->t'.en s=(Z.tb (y%256)).en s
theorem Q0Z(tb:Nat->TB)(i:Nat):updT tb i (tb i)=tb:=by
 funext j;unfold updT;split
 ·rename_i h;rw[h]
 ·rfl
section
variable {Z:SP} {fr:List Nat} {N K:Nat} {M:Int} {x y n:Nat} {p1 p2:Pl} {A:Nat->Mv}
theorem LaidP.start(ok:Z.Ok fr N K M)(own:Int):LaidP Z fr N K x y own A 0 0 Z.S (Z.tb (y%256)):=
 ⟨ok.core,by rw[Q0Z];exact ok.tpi,Alt.refl _ _,fun _ _ _=>rfl,fun i _ h=>by omega,fun _ _=>rfl⟩
theorem LaidP.lf_keep(hy:y%256<256)(hf:(Z.tb (y%256)).Full)(Ax:Z.S.l[y%256]?=some p2)(h1:p2.st=1)(h2:p2.kind=2){S1 S2:CO}{t1 t2:TB}{own:Int}(tp:TPI S2 (updT (updT Z.tb (y%256) t1) (y%256) t2))(hl:S2.l=Z.S.l)
  (Ca:∀s,(Z.tb (y%256)).en s≠none->t2.en s≠none) (hlf1:∀q,q<16->(Z.tb (y%256)).lf q≠0->t1.lf q=(Z.tb (y%256)).lf q) (F5:∀k,(updT Z.tb (y%256) t1 (y%256)).lf k=0∨t2.lf k=0∨t2.lf k=(updT Z.tb (y%256) t1 (y%256)).lf k):∀q,q<16->(Z.tb (y%256)).lf q≠0->t2.lf q=(Z.tb (y%256)).lf q:=by
 intro q hq h0;have e1:=hlf1 q hq h0;have h3:=F5 q;rw[updT_same,e1] at h3;rcases h3 with h|h|h
 ·exact absurd h h0
 ·exfalso;obtain⟨s,hs,PY,GM⟩:=hf q hq h0;have BU:=tp.tin (y%256) p2 (by rw[hl];exact Ax) h1 h2;rw[updT_same] at BU;exact Ca s GM (BU.hole s hs (by rw[PY];exact h))
 ·exact h
theorem LaidP.lay(ok:Z.Ok fr N K M)(Ax:pget Z.S.l 1 y=some p2)(Av:p2.kind=2)(Ah:AllFit Z.av.en x y n A){k:Nat}(CY:k<n){S1 S2:CO}{t1 t2:TB}(L:LaidP Z fr N K x y (p2.fac:Int) A 0 k S1 t1){c:Nat×Nat}(hc:Z.av.en x (A k).src.toNat=some c){nd:Nat}
  (T:TurnP S1 fr N K (updT Z.tb (y%256) t1) (p2.fac:Int) (y%256) (A k).dst.toNat (some ⟨c.1,c.2&&&(A k).r.toNat,nd⟩) S2 t2):LaidP Z fr N K x y (p2.fac:Int) A 0 (k+1) S2 t2:=by
 have Bz:∀z,t2.en z=if z=(A k).dst.toNat then some ⟨c.1,c.2&&&(A k).r.toNat,nd⟩ else t1.en z:=fun z=>by rw[T.en z,updT_same]
 have A7:∀i,i<n->(Z.tb (y%256)).en (A i).dst.toNat=none:=fun i hi=>by
  have h:=(Ah i hi).1;have:=av_none.1 h.free
  rwa [Q0h Ax Av (by have:=h.dst;omega)] at this
 have Ca:∀s,(Z.tb (y%256)).en s≠none->t2.en s≠none:=fun s hs=>by
  have LF:∀i,i<n->s≠(A i).dst.toNat:=fun i hi e=>hs (by rw[e];exact A7 i hi)
  rw[Bz s,if_neg (LF k CY),L.old s fun i _ hi=>LF i (by omega)];exact hs
 have al:=L.alt.trans T.alt;refine⟨T.ok,by have:=T.tpi;rwa [Q0U] at this,al,?_,fun i _ hi=>?_,fun s hs=>?_⟩
 ·exact LaidP.lf_keep (own:=(p2.fac:Int)) (S1:=S1) (J4D _ (by omega)) (ok.tpi.full _ (J4D _ (by omega))) (pget_some.1 Ax).1 (pget_some.1 Ax).2.2 Av T.tpi (by rw[al.l]) Ca L.lf T.lf
 ·by_cases e:i=k
  ·subst e;exact⟨c,nd,hc,by rw[Bz,if_pos rfl]⟩
  ·obtain⟨c',nd',h1,h2⟩:=L.new i (by omega) (by omega);exact⟨c',nd',h1,by rw[Bz,if_neg (Ah.dst (by omega) CY e)];exact h2⟩
 ·rw[Bz,if_neg (hs k (by omega) (by omega))];exact L.old s fun i h1 h2=>hs i h1 (by omega)
theorem LaidP.bare(ok:Z.Ok fr N K M)(Ax:pget Z.S.l 1 y=some p2)(Av:p2.kind=2)(Ah:AllFit Z.av.en x y n A){j k:Nat}(CY:k<=n)(hj:j<k){S1 S2:CO}{t1 t2:TB}(L:LaidP Z fr N K x y (p2.fac:Int) A j k S1 t1)
  (T:TurnP S1 fr N K (updT Z.tb (y%256) t1) (p2.fac:Int) (y%256) (A j).dst.toNat none S2 t2):LaidP Z fr N K x y (p2.fac:Int) A (j+1) k S2 t2:=by
 have Bz:∀z,t2.en z=if z=(A j).dst.toNat then none else t1.en z:=fun z=>by rw[T.en z,updT_same]
 have A7:∀i,i<n->(Z.tb (y%256)).en (A i).dst.toNat=none:=fun i hi=>by
  have h:=(Ah i hi).1;have:=av_none.1 h.free
  rwa [Q0h Ax Av (by have:=h.dst;omega)] at this
 have Ca:∀s,(Z.tb (y%256)).en s≠none->t2.en s≠none:=fun s hs=>by
  have LF:∀i,i<n->s≠(A i).dst.toNat:=fun i hi e=>hs (by rw[e];exact A7 i hi)
  rw[Bz s,if_neg (LF j (by omega)),L.old s fun i _ hi=>LF i (by omega)];exact hs
 have al:=L.alt.trans T.alt;refine⟨T.ok,by have:=T.tpi;rwa [Q0U] at this,al,?_,fun i h1 h2=>?_,fun s hs=>?_⟩
 ·exact LaidP.lf_keep (own:=(p2.fac:Int)) (S1:=S1) (J4D _ (by omega)) (ok.tpi.full _ (J4D _ (by omega))) (pget_some.1 Ax).1 (pget_some.1 Ax).2.2 Av T.tpi (by rw[al.l]) Ca L.lf T.lf
 ·obtain⟨c',nd',h3,h4⟩:=L.new i (by omega) h2;exact⟨c',nd',h3,by rw[Bz,if_neg (Ah.dst (by omega) (by omega) (by omega))];exact h4⟩
 ·rw[Bz];by_cases e:s=(A j).dst.toNat
  ·rw[if_pos e,e];exact(A7 j (by omega)).symm
  ·rw[if_neg e];refine L.old s fun i h1 h2=>?_
   by_cases e2:i=j
   ·rw[e2];exact e
   ·exact hs i (by omega) h2
theorem LaidP.tried{j k:Nat}{own:Int}{S1:CO}{t1:TB}(L:LaidP Z fr N K x y own A j k S1 t1){P':PL}(h:Tried S1.P fr S1.l P'):LaidP Z fr N K x y own A j k (S1.setP P') t1:=by
 refine⟨L.ok.tried h,L.tpi.tried L.ok h,L.alt.trans ?_,L.lf,L.new,L.old⟩;exact⟨rfl,rfl,rfl,rfl,rfl,rfl,rfl,rfl,h.same,by show P'.q.next=_;rw[h.q],fun id e he=>⟨e,by show find P'.q.E id=_;rw[h.q];exact he,rfl,fun _=>rfl⟩,by show P'.q.E.map En.id=_;rw[h.q],fun r hr AD _=>h.mem r hr AD⟩
def BackZ(Z:SP)(fr:List Nat)(N K:Nat)(y:Nat)(own:Int)(w w':World):Prop:=∃S' t',S'.Ok fr N K/\TPI S' (updT Z.tb (y%256) t')/\Alt Z.S S' own/\(∀q,q<16->t'.lf q=(Z.tb (y%256)).lf q)/\(∀s,t'.en s=(Z.tb (y%256)).en s)/\Step Z.hl (Z.setS S' (updT Z.tb (y%256) t')).hl w w'
theorem LaidP.back(ok:Z.Ok fr N K M)(Ax:pget Z.S.l 1 y=some p2)(Av:p2.kind=2){k:Nat}{own:Int}{S1:CO}{t1:TB}(L:LaidP Z fr N K x y own A k k S1 t1){w w':World}(st:Step Z.hl (Z.setS S1 (updT Z.tb (y%256) t1)).hl w w'):BackZ Z fr N K y own w w':=by
 have Bz:∀s,t1.en s=(Z.tb (y%256)).en s:=fun s=>L.old s fun i h1 h2=>by omega
 have hi:=(pget_some.1 Ax).1;have h1:=(pget_some.1 Ax).2.2;refine⟨S1,t1,L.ok,L.tpi,L.alt,fun q hq=>?_,Bz,st⟩;by_cases h0:(Z.tb (y%256)).lf q=0
 ·rw[h0];refine Classical.byContradiction fun Ac=>?_
  have Ev:=L.tpi.full (y%256) (J4D _ (by omega));rw[updT_same] at Ev;obtain⟨s,hs,PY,GM⟩:=Ev q hq Ac;rw[Bz s] at GM;exact GM ((ok.tpi.tin (y%256) p2 hi h1 Av).hole s hs (by rw[PY];exact h0))
 ·exact L.lf q hq h0
theorem BackZ.ok(ok:Z.Ok fr N K M){own:Int}{w w':World}(h:BackZ Z fr N K y own w w'):∃Z',Z'.Ok fr N K M/\Z'.av=Z.av/\SameZ Z Z'/\Step Z.hl Z'.hl w w':=by
 obtain⟨S',t',h1,h2,h3,h4,h5,h6⟩:=h;have Ed:∀h s,Q0g S'.l (updT Z.tb (y%256) t') h s=Q0g Z.S.l Z.tb h s:=fun h s=>by
  unfold Q0g;rw[h3.l];split
  ·split
   ·by_cases e:h%256=y%256
    ·rw[e,updT_same,h5]
    ·rw[Q0P e]
   ·rfl
  ·rfl
 refine⟨Z.setS S' (updT Z.tb (y%256) t'),⟨h1,h2,?_,ok.fo,ok.next⟩,?_,⟨⟨rfl,h3.alt0,rfl⟩,rfl⟩,h6⟩
 ·refine ok.fpi.same2 Ed fun h s e he q hq=>⟨q,?_,rfl⟩
  show pget S'.l 1 e.h=some q;rw[h3.l];exact hq
 ·show(⟨fun h s=>(Q0g S'.l (updT Z.tb (y%256) t') h s).map Ent.c,Z.F.N⟩:AV)=_;unfold SP.av avOf;congr 1;funext h s;rw[Ed]
end
inductive AddsM (x y:Nat) (A:Nat->Mv) (a0:AV) (nx:Int):Nat->AV->Prop
 | zero:AddsM x y A a0 nx 0 a0
 | succ (k:Nat) (a:AV) (c:Nat×Nat) (b:Nat):AddsM x y A a0 nx k a->a.en x (A k).src.toNat=some c->a.en y (A k).dst.toNat=none ->
   AddsM x y A a0 nx (k+1) ⟨setA a.en y (A k).dst.toNat (some (c.1,c.2&&&(A k).r.toNat)),addN a.N (ownN a.N (x:Int) (A k).src) (nx+k+1) b (y:Int) (A k).dst⟩
inductive Q2R (x:Nat) (A:Nat->Mv) (a0:AV):Nat->AV->Prop
 | zero:Q2R x A a0 0 a0
 | skip (k:Nat) (a:AV):Q2R x A a0 k a->(A k).g=false->Q2R x A a0 (k+1) a
 | lift (k:Nat) (a a':AV):Q2R x A a0 k a->(A k).g=true->Q1Q 15 a (ownN a.N (x:Int) (A k).src)=(a',true)->Q2R x A a0 (k+1) a'
def Q9a(Z:SP)(fr:List Nat)(N K:Nat)(M:Int)(x y n:Nat)(A:Nat->Mv)(w w':World):Prop:=∃a Z',AddsM x y A Z.av Z.F.next n a/\Q2R x A a n Z'.av/\Z'.Ok fr N K (M+n)/\SameN Z Z'/\Z'.F.next=Z.F.next+n/\Step Z.hl Z'.hl w w'
structure MvB(Z:SP)(p1 p2:Pl)(g1 x g2 y B1 B2 n:Nat)(A:Nat->Mv)(a0:Option Addr)(W:World):Prop where
 t1:TblZ Z p1 g1 W
 t2:TblZ Z p2 g2 W
 b1:AsideV Z.hl [.pointer (some ⟨g1,0,none⟩),.int .u32 x,.int .i64 (p1.fac:Int)] (some ⟨B1,0,none⟩) W
 b2:AsideV Z.hl [.pointer (some ⟨g2,0,none⟩),.int .u32 y,.int .i64 (p2.fac:Int)] (some ⟨B2,0,none⟩) W
 mv:AsideM Z.hl n A a0 W
theorem MvB.step{Z Z':SP}{p1 p2:Pl}{g1 x g2 y B1 B2 n:Nat}{A:Nat->Mv}{a0:Option Addr}{W W':World}(h:MvB Z p1 p2 g1 x g2 y B1 B2 n A a0 W)(st:Step Z.hl Z'.hl W W')(hp:Z'.S.P.p=Z.S.P.p):MvB Z' p1 p2 g1 x g2 y B1 B2 n A a0 W':=
 ⟨h.t1.step st hp,h.t2.step st hp,h.b1.step st,h.b2.step st,h.mv.step st⟩
def Box3(B g x:Nat)(f:Int)(W:World):Prop:=W.cell? ⟨B,0,none⟩=some (.pointer (some ⟨g,0,none⟩))/\W.cell? ⟨B,1,none⟩=some (.int .u32 x)/\W.cell? ⟨B,2,none⟩=some (.int .i64 f)
def Q1M(g x:Nat)(f:Int):Value:=.agg #[.pointer (some ⟨g,0,none⟩),.int .u32 x,.int .i64 f]
theorem MvB.box{Z:SP}{p1 p2:Pl}{g1 x g2 y B1 B2 n:Nat}{A:Nat->Mv}{a0:Option Addr}{W:World}(h:MvB Z p1 p2 g1 x g2 y B1 B2 n A a0 W):Box3 B1 g1 x (p1.fac:Int) W/\Box3 B2 g2 y (p2.fac:Int) W/\IsMv W a0 n A:=
 ⟨⟨h.b1.at 0 _ rfl,h.b1.at 1 _ rfl,h.b1.at 2 _ rfl⟩,⟨h.b2.at 0 _ rfl,h.b2.at 1 _ rfl,h.b2.at 2 _ rfl⟩,h.mv.1⟩
theorem Q3i{w:World}{H:HL}(hs:Sep w H)(T:TypeId)(cs:List Value):AsideV H cs (some ⟨w.heap.size,0,none⟩) (w.alloc (.cells cs.toArray T)):=fun j v hj =>
 ⟨w.heap.size,rfl,fun hk=>by have:=hs.lt hk;omega,by simp,(Cells.new w T cs).cell j v hj⟩
def mixT(t0 t1:TB)(A:Nat->Mv)(k:Nat):TB:={t1 with en:=fun s=>if (List.range k).any (fun i=>decide (s=(A i).dst.toNat))=true then t1.en s else t0.en s}
theorem Q2S(t0 t1:TB)(A:Nat->Mv)(k s:Nat):((mixT t0 t1 A k).en s=t1.en s/\∃i,i<k/\s=(A i).dst.toNat)∨((mixT t0 t1 A k).en s=t0.en s/\∀i,i<k->s≠(A i).dst.toNat):=by
 unfold mixT;simp only;cases h:(List.range k).any (fun i=>decide (s=(A i).dst.toNat)) with
 | true =>
  obtain⟨i,hi,he⟩:=List.any_eq_true.1 h;exact .inl ⟨by simp,i,J1U.1 hi,by simpa using he⟩
 | false =>
  refine .inr ⟨by simp,fun i hi he=>?_⟩;have:=J5O.1 h i (J1U.2 hi);simp[he] at this
section
variable {Z:SP} {fr:List Nat} {N K:Nat} {M:Int} {x y n:Nat} {p1 p2:Pl} {A:Nat->Mv}
structure SetP(Z:SP)(x y:Nat)(A:Nat->Mv)(t1:TB)(k:Nat)(F':FO):Prop where
 ok:F'.Ok
 f:F'.f=Z.F.f
 nx:F'.next=Z.F.next+k
 fpi:FPI Z.S.l (updT Z.tb (y%256) (mixT (Z.tb (y%256)) t1 A k)) F'.N
 av:AddsM x y A Z.av Z.F.next k (avOf Z.S.l (updT Z.tb (y%256) (mixT (Z.tb (y%256)) t1 A k)) F'.N)
theorem SetP.start(ok:Z.Ok fr N K M)(t1:TB):SetP Z x y A t1 0 Z.F:=by
 have Ed:∀h s,Q0g Z.S.l (updT Z.tb (y%256) (mixT (Z.tb (y%256)) t1 A 0)) h s=Q0g Z.S.l Z.tb h s:=fun h s=>by
  unfold Q0g;split
  ·split
   ·by_cases e:h%256=y%256
    ·rw[e,updT_same];rcases Q2S (Z.tb (y%256)) t1 A 0 s with ⟨_,i,hi,_⟩|⟨h1,_⟩
     ·omega
     ·exact h1
    ·rw[Q0P e]
   ·rfl
  ·rfl
 refine⟨ok.fo,rfl,by omega,ok.fpi.same2 Ed fun h s e he q hq=>⟨q,hq,rfl⟩,?_⟩;have:avOf Z.S.l (updT Z.tb (y%256) (mixT (Z.tb (y%256)) t1 A 0)) Z.F.N=Z.av:=by
  unfold SP.av avOf;congr 1;funext h s;rw[Ed]
 rw[this];exact .zero
theorem SetP.src(Ah:AllFit Z.av.en x y n A){t1:TB}{k:Nat}(CY:k<n)(A9:pget Z.S.l 1 x=some p1)(AE:p1.kind=2)(Ax:pget Z.S.l 1 y=some p2)(Av:p2.kind=2){F':FO}(P:SetP Z x y A t1 k F') :
  ∃e0 e,Q0g Z.S.l Z.tb x (A k).src.toNat=some e0/\Q0g Z.S.l (updT Z.tb (y%256) (mixT (Z.tb (y%256)) t1 A k)) x (A k).src.toNat=some e/\e=e0/\Q0g Z.S.l (updT Z.tb (y%256) (mixT (Z.tb (y%256)) t1 A k)) y (A k).dst.toNat=none:=by
 have hf:=(Ah k CY).1;obtain⟨c,hc,_⟩:=hf.full;obtain⟨e0,CN,rfl⟩:=Q7K hc;have BQ:=hf.src;have I9:=hf.dst;refine⟨e0,e0,CN,?_,rfl,?_⟩
 ·rw[Q0h A9 AE (by omega)] at CN ⊢;by_cases e:x%256=y%256
  ·rw[e] at CN ⊢;rw[updT_same];rcases Q2S (Z.tb (y%256)) t1 A k (A k).src.toNat with ⟨_,i,hi,hs⟩|⟨h1,_⟩
   ·exfalso;have C8:=av_none.1 (Ah i (by omega)).1.free;rw[Q0h Ax Av (by have:=(Ah i (by omega)).1.dst;omega),<- hs,CN] at C8;cases C8
   ·rw[h1];exact CN
  ·rw[Q0P e];exact CN
 ·have C8:=av_none.1 hf.free;rw[Q0h Ax Av (by omega)] at C8 ⊢;rw[updT_same];rcases Q2S (Z.tb (y%256)) t1 A k (A k).dst.toNat with ⟨_,i,hi,hs⟩|⟨h1,_⟩
  ·exact absurd hs (Ah.dst CY (by omega) (by omega))
  ·rw[h1];exact C8
theorem Q6t:∀r,r<16->∀m,m<16->(r&&&m)&&&r=r&&&m:=by decide
theorem Q5X:∀r,r<16->∀m,m<16->r&&&m<=15:=by decide
theorem SetP.next(ok:Z.Ok fr N K M)(Ah:AllFit Z.av.en x y n A){S1:CO}{t1:TB}{own:Int}(L:LaidP Z fr N K x y own A 0 n S1 t1){k:Nat}(CY:k<n)(A9:pget Z.S.l 1 x=some p1)(AE:p1.kind=2)(Ax:pget Z.S.l 1 y=some p2)(Av:p2.kind=2){F' F2:FO}(P:SetP Z x y A t1 k F')
  (Ad:Z0Y F' (ownN F'.N (x:Int) (A k).src) (y:Int) (A k).dst F2):SetP Z x y A t1 (k+1) F2:=by
 obtain⟨e0,e,CN,he,rfl,Bn⟩:=SetP.src Ah CY A9 AE Ax Av P;have hf:=(Ah k CY).1;have BQ:=hf.src;have I9:=hf.dst;have O5:=hf.r;obtain⟨c,hc,BC,KY⟩:=hf.full;obtain⟨e',AH,FR⟩:=Q7K hc;rw[CN] at AH;cases AH;subst FR;obtain⟨c2,nd,h1,h2⟩:=L.new k (by omega) CY;rw[hc] at h1;cases h1;obtain⟨b,hN⟩:=Ad.N;have Ce:((A k).src.toNat:Int)=(A k).src:=by omega
 have Gt:((A k).dst.toNat:Int)=(A k).dst:=by omega
 have AS:=ok.fpi.cap _ _ _ CN
 -- the table with one more
 have ht:∀s,(mixT (Z.tb (y%256)) t1 A (k+1)).en s=if s=(A k).dst.toNat then some ⟨e.h,e.r&&&(A k).r.toNat,nd⟩ else(updT Z.tb (y%256) (mixT (Z.tb (y%256)) t1 A k) (y%256)).en s:=fun s=>by
  rw[updT_same];by_cases es:s=(A k).dst.toNat
  ·rw[if_pos es,es];rcases Q2S (Z.tb (y%256)) t1 A (k+1) (A k).dst.toNat with ⟨h3,_⟩|⟨_,h3⟩
   ·rw[h3,h2]
   ·exact absurd rfl (h3 k (by omega))
  ·rw[if_neg es];rcases Q2S (Z.tb (y%256)) t1 A (k+1) s with ⟨h3,i,hi,hs⟩|⟨h3,h4⟩
   ·rcases Q2S (Z.tb (y%256)) t1 A k s with ⟨h5,_⟩|⟨_,h6⟩
    ·rw[h3,h5]
    ·have:i=k:=by
      refine Classical.byContradiction fun Ac=>h6 i (by omega) hs
     rw[this] at hs;exact absurd hs es
   ·rcases Q2S (Z.tb (y%256)) t1 A k s with ⟨_,i,hi,hs⟩|⟨h5,_⟩
    ·exact absurd hs (h4 i (by omega))
    ·rw[h3,h5]
 obtain⟨nn,GH,q1,q2,q3,q4⟩:=P.fpi.own P.ok.n he;rw[Ce] at q2 q3;have As:e.r<16:=by have:=AS.r;omega
 have RI:(A k).r.toNat<16:=by omega
 have Tm:=Q5X e.r As (A k).r.toNat RI;have LT:=Q6t e.r As (A k).r.toNat RI;have Oy:Q6q Z.S.l (A k).dst.toNat ⟨e.h,e.r&&&(A k).r.toNat,nd⟩:=by
  obtain⟨q,hq,MB⟩:=AS.live;refine⟨⟨q,hq,MB.trans ?_⟩,by simp only at KY ⊢;omega⟩;have TK:=hf.side;simp only[decide_eq_decide] at TK
  constructor <;> intro h <;> omega
 have GK:=P.fpi.add (p:=p2) P.ok.n Ax Av (s:=(A k).dst.toNat) (by omega) Bn (t':=mixT (Z.tb (y%256)) t1 A (k+1)) ht Oy (par:=ownN F'.N (x:Int) (A k).src) b
  (.inr ⟨nn,e,by rw[q3];exact q4,by unfold Q0F;rw[q1,q2,J2C];exact he,rfl,LT⟩)
 rw[Q0U,Gt] at GK;rw[<- hN] at GK;have Dh:=Q5N F'.N F2.N Ax Av (by omega:(A k).dst.toNat<256) ht;rw[Q0U] at Dh;refine⟨Ad.ok,by rw[Ad.f];exact P.f,by rw[Ad.next,P.nx];omega,GK,?_⟩;rw[Dh,hN,P.nx];exact AddsM.succ k _ (e.h,e.r) b P.av (by show(Q0g _ _ _ _).map Ent.c=_;rw[he];rfl) (by show(Q0g _ _ _ _).map Ent.c=_;rw[Bn];rfl)
theorem SetP.done(ok:Z.Ok fr N K M){S1:CO}{t1:TB}{own:Int}(L:LaidP Z fr N K x y own A 0 n S1 t1){F':FO}(P:SetP Z x y A t1 n F') :
  ((Z.setF F').setS S1 (updT Z.tb (y%256) t1)).Ok fr N K (M+n)/\SameN Z ((Z.setF F').setS S1 (updT Z.tb (y%256) t1))/\AddsM x y A Z.av Z.F.next n ((Z.setF F').setS S1 (updT Z.tb (y%256) t1)).av:=by
 have Ed:∀h s,Q0g S1.l (updT Z.tb (y%256) t1) h s=Q0g Z.S.l (updT Z.tb (y%256) (mixT (Z.tb (y%256)) t1 A n)) h s:=fun h s=>by
  unfold Q0g;rw[L.alt.l];split
  ·split
   ·by_cases e:h%256=y%256
    ·rw[e,updT_same,updT_same];rcases Q2S (Z.tb (y%256)) t1 A n s with ⟨h1,_⟩|⟨h1,h2⟩
     ·rw[h1]
     ·rw[h1,L.old s fun i _ hi=>h2 i hi]
    ·rw[Q0P e,Q0P e]
   ·rfl
  ·rfl
 have Dh:((Z.setF F').setS S1 (updT Z.tb (y%256) t1)).av=avOf Z.S.l (updT Z.tb (y%256) (mixT (Z.tb (y%256)) t1 A n)) F'.N:=by
  show(⟨fun h s=>(Q0g S1.l (updT Z.tb (y%256) t1) h s).map Ent.c,F'.N⟩:AV)=_;unfold avOf;congr 1;funext h s;rw[Ed]
 refine⟨⟨L.ok,L.tpi,?_,P.ok,by show F'.next<=_;rw[P.nx];have:=ok.next;omega⟩,⟨rfl,L.alt.alt0,P.f⟩,by rw[Dh];exact P.av⟩;exact P.fpi.same2 Ed fun h s e he q hq=>⟨q,by show pget S1.l 1 e.h=_;rw[L.alt.l];exact hq,rfl⟩
theorem LaidP.src(A9:pget Z.S.l 1 x=some p1)(AE:p1.kind=2)(Ax:pget Z.S.l 1 y=some p2)(Av:p2.kind=2)(Ah:AllFit Z.av.en x y n A){j k:Nat}(CY:k<=n){own:Int}{S1:CO}{t1:TB}(L:LaidP Z fr N K x y own A j k S1 t1){i:Nat}(hi:i<n) :
  ∃e,Q0g Z.S.l Z.tb x (A i).src.toNat=some e/\(updT Z.tb (y%256) t1 (x%256)).en (A i).src.toNat=some e/\(updT Z.tb (y%256) t1 (x%256)).at' (A i).src=some e/\Z.av.en x (A i).src.toNat=some (e.h,e.r):=by
 have hf:=(Ah i hi).1;have BQ:=hf.src;obtain⟨c,hc,_⟩:=hf.full;obtain⟨e,he,rfl⟩:=Q7K hc;have h2:(updT Z.tb (y%256) t1 (x%256)).en (A i).src.toNat=some e:=by
  have AH:=he;rw[Q0h A9 AE (by omega)] at AH;by_cases exy:x%256=y%256
  ·rw[exy] at AH ⊢;rw[updT_same,L.old _ fun q h1 h2 e2=>?_]
   ·exact AH
   ·have C8:=av_none.1 (Ah q (by omega)).1.free;rw[Q0h Ax Av (by have:=(Ah q (by omega)).1.dst;omega),<- e2,AH] at C8;cases C8
  ·rw[Q0P exy];exact AH
 refine⟨e,he,h2,?_,hc⟩;unfold TB.at';rw[if_pos BQ];exact h2
end
structure J1b(s g1 x g2 y:Nat)(f1 f2:Int)(B1 B2:Nat)(a0:Option Addr)(n cap:Nat)(A:Nat->Mv)(V:Nat->Int)(R:Nat->World->Prop)(B:Int->Nat->Nat->World->Prop)(Q:Int->World->Prop):Prop where
 held:∀k W,R k W->Box3 B1 g1 x f1 W/\Box3 B2 g2 y f2 W/\IsMv W a0 n A
 heldB:∀er k j W,B er k j W->Box3 B1 g1 x f1 W/\Box3 B2 g2 y f2 W/\IsMv W a0 n A
 rel:∀k W W',R k W->Below W.heap.size W W'->R k W'
 relB:∀er k j W W',B er k j W->Below W.heap.size W W'->B er k j W'
 fits:∀i W,i<n->R 0 W->Calls prog 97 #[Q1M g1 x f1,Q1M g2 y f2,(A i).agg,.slice a0 i cap] W (Told W (.int .i64 (V i)))
 bad:∀i W,i<n->R 0 W->V i≠0->(∀j,j<i->V j=0)->Q (V i) W
 capK:∀k W,(∀j,j<n->V j=0)->k<n->R k W->∃a b:Int,∃c:Bool,Calls prog 93 #[Q1M g1 x f1,.int .i64 (A k).src] W (Told W (.tuple #[.agg #[.int .u32 a,.int .i64 b],.bool c])) /\
  ∀W',R k W'->Calls prog 98 #[.pointer (some ⟨s,0,none⟩),Q1M g2 y f2,.int .i64 (A k).dst,.agg #[.int .u32 a,.int .i64 (bits .and .i64 b (A k).r)]] W' fun rv w5=>∃er:Int,rv=.returned (.int .i64 er)/\((er=0/\R (k+1) w5)∨(er≠0/\B er k 0 w5))
 bare:∀er k j W,j<k->B er k j W->Calls prog 99 #[.pointer (some ⟨s,0,none⟩),Q1M g2 y f2,.int .i64 (A j).dst] W fun rv w'=>rv=.returned (.tuple #[])/\B er k (j+1) w'
 back:∀er k W,B er k k W->Q er W
 settle:∀W,(∀j,j<n->V j=0)->R n W->Calls prog 100 #[.pointer (some ⟨s,0,none⟩),Q1M g1 x f1,Q1M g2 y f2,.slice a0 n cap] W fun rv w'=>rv=.returned (.tuple #[])/\Q 0 w'
theorem Q5Y{w:World}{s x y:Nat}{v:Value}{e:Int}(he:e≠0)(hS:Calls prog 90 #[.pointer (some ⟨s,0,none⟩),.int .u32 x] w (Told w (.tuple #[.agg #[.pointer none,.int .u32 0,.int .i64 0],.int .i64 e]))) :
  Calls prog 39 #[.pointer (some ⟨s,0,none⟩),.int .u32 x,.int .u32 y,v] w (Told w (.int .i64 e)):=by
 have GY:(e != 0)=true:=by simpa using he
 have HB:Hid (∀w1,Below w.heap.size w w1->∀o,Below w.heap.size w (w1.alloc o)):=fun w1 hb o=>hb.alloc hb.size o
 go_enter func39,ntmps39;go_wp2_with fail;refine hS.mono ?_;rintro rv w1⟨rfl,hb⟩;have HW:=Q0a (HB.out w1 hb);clear hb HB hS;go_wp2_with fail
 (try go_ret);exact⟨rfl,HW.out _⟩
theorem Q5Z{w:World}{s x y g:Nat}{v:Value}{e f:Int}(he:e≠0)(hS:Calls prog 90 #[.pointer (some ⟨s,0,none⟩),.int .u32 x] w fun r w'=>∃g:Nat,r=.returned (.tuple #[.agg #[.pointer (some ⟨g,0,none⟩),.int .u32 x,.int .i64 f],.int .i64 0])/\Below w.heap.size w w')
  (hT:∀W,Below w.heap.size w W->Calls prog 90 #[.pointer (some ⟨s,0,none⟩),.int .u32 y] W (Told W (.tuple #[.agg #[.pointer none,.int .u32 0,.int .i64 0],.int .i64 e]))) :
  Calls prog 39 #[.pointer (some ⟨s,0,none⟩),.int .u32 x,.int .u32 y,v] w (Told w (.int .i64 e)):=by
 have GY:(e != 0)=true:=by simpa using he
 have HB:Hid (∀w1,Below w.heap.size w w1->∀o,Below w.heap.size w (w1.alloc o)):=fun w1 hb o=>hb.alloc hb.size o
 have HT:=Q0a hT;clear hT;go_enter func39,ntmps39;go_wp2_with fail;refine hS.mono ?_;rintro rv w1⟨g',rfl,hb⟩;have kt:=HT.out _ (HB.out w1 hb (.cells #[.pointer (some ⟨g',0,none⟩),.int .u32 x,.int .i64 f] 191));have NF:=Q0a (HB.out w1 hb (.cells #[.pointer (some ⟨g',0,none⟩),.int .u32 x,.int .i64 f] 191));clear hb hS HT;go_wp2_with fail;refine kt.mono ?_;rintro rv w2⟨rfl,Ae⟩;have HW:=Q0a (HB.out w2 (NF.out.trans (Ae.mono NF.out.size)));clear Ae HB kt;go_wp2_with fail
 (try go_ret);exact⟨rfl,HW.out _⟩
theorem Z2J{w:World}{s x y:Nat}{a0:Option Addr}{n cap:Nat}{A:Nat->Mv}{V:Nat->Int}{Q:Int->World->Prop}(hm:n<=4611686018427387904)(AS:n<=cap)
  (h:Calls prog 90 #[.pointer (some ⟨s,0,none⟩),.int .u32 x] w fun rv w1=>∃(g1:Nat) (f1:Int),rv=.returned (.tuple #[.agg #[.pointer (some ⟨g1,0,none⟩),.int .u32 x,.int .i64 f1],.int .i64 0]) /\
   Calls prog 90 #[.pointer (some ⟨s,0,none⟩),.int .u32 y] (w1.alloc (.cells #[.pointer (some ⟨g1,0,none⟩),.int .u32 x,.int .i64 f1] 191)) fun rv w2=>∃(g2:Nat) (f2:Int),rv=.returned (.tuple #[.agg #[.pointer (some ⟨g2,0,none⟩),.int .u32 y,.int .i64 f2],.int .i64 0]) /\
    ∃R B,J1b s g1 x g2 y f1 f2 w1.heap.size w2.heap.size a0 n cap A V R B Q/\R 0 (w2.alloc (.cells #[.pointer (some ⟨g2,0,none⟩),.int .u32 y,.int .i64 f2] 191))) :
  Calls prog 39 #[.pointer (some ⟨s,0,none⟩),.int .u32 x,.int .u32 y,.slice a0 n cap] w fun rv w'=>∃er:Int,rv=.returned (.int .i64 er)/\Q er w':=by
 go_enter func39,ntmps39;go_wp2_with fail;refine h.mono ?_;clear h;rintro rv w1⟨g1,f1,rfl,h⟩;go_wp2_with fail;refine h.mono ?_;clear h;rintro rv w2⟨g2,f2,rfl,R,B,hM,hR⟩;have HM:=Q0a hM;have HR:=Q0a hR;clear hM hR;generalize J7:w1.heap.size=B1 at *
 generalize Fq:w2.heap.size=B2 at *
 go_wp2_with fail
 go_loopw [42] (fun iv wr=>∃k:Nat,k<=n/\iv=.int .i64 k/\(∀j,j<k->V j=0)/\R 0 wr) (fun iv _=>n-(intOf iv).toNat)
 case atStart=>exact⟨0,J3z _,rfl,by intro j hj;omega,HR.out⟩
 case round =>
  obtain⟨k,hk,rfl,Ay,hr⟩:=hrel;have Hp:=Q0a Ay;have E8:=Q0a hr;clear Ay hr HR;by_cases Aa:k<n
  ·obtain⟨⟨p0,p1,p2⟩,⟨o0,o1,o2⟩,BF⟩:=HM.out.held 0 _ E8.out;obtain⟨g,off,rfl,_,hc,_⟩:=BF k Aa;have c0:wr.cell? ⟨g,off+k*4,none⟩=some (.int .i64 (A k).src):=hc 0 _ rfl;have c1:wr.cell? ⟨g,off+k*4+1,none⟩=some (.int .i64 (A k).dst):=hc 1 _ rfl;have c2:wr.cell? ⟨g,off+k*4+2,none⟩=some (.int .i64 (A k).r):=hc 2 _ rfl;have c3:wr.cell? ⟨g,off+k*4+3,none⟩=some (.bool (A k).g):=hc 3 _ rfl;clear hc BF p0 p1 p2 o0 o1 o2;go_wp2_with fail;have HS:Hid (∀W,Below (wr.alloc (.cells #[.int .i64 (A k).src,.int .i64 (A k).dst,.int .i64 (A k).r,.bool (A k).g] 90)).heap.size (wr.alloc (.cells #[.int .i64 (A k).src,.int .i64 (A k).dst,.int .i64 (A k).r,.bool (A k).g] 90)) W->R 0 W/\(W.cell? ⟨B1,0,none⟩=some (.pointer (some ⟨g1,0,none⟩))/\W.cell? ⟨B1,1,none⟩=some (.int .u32 x)/\W.cell? ⟨B1,2,none⟩=some (.int .i64 f1)/\W.cell? ⟨B2,0,none⟩=some (.pointer (some ⟨g2,0,none⟩))/\W.cell? ⟨B2,1,none⟩=some (.int .u32 y)/\W.cell? ⟨B2,2,none⟩=some (.int .i64 f2)/\W.cell? ⟨wr.heap.size,0,none⟩=some (.int .i64 (A k).src)/\W.cell? ⟨wr.heap.size,1,none⟩=some (.int .i64 (A k).dst)/\W.cell? ⟨wr.heap.size,2,none⟩=some (.int .i64 (A k).r)/\W.cell? ⟨wr.heap.size,3,none⟩=some (.bool (A k).g))):=fun W hb=>by
    have hr:=HM.out.rel 0 _ _ E8.out (Q0b hb);obtain⟨⟨p0,p1,p2⟩,⟨o0,o1,o2⟩,_⟩:=HM.out.held 0 _ hr;have hc:=(Cells.new wr 90 [.int .i64 (A k).src,.int .i64 (A k).dst,.int .i64 (A k).r,.bool (A k).g]).same (hb.block _ (by simp));exact⟨hr,p0,p1,p2,o0,o1,o2,hc.cell 0 _ rfl,hc.cell 1 _ rfl,hc.cell 2 _ rfl,hc.cell 3 _ rfl⟩
   have hD:=HS.out _ (Below.refl _ _).drew;have kf:=HM.out.fits k _ Aa hD.1;have hE:=(HS.out _ (Below.refl _ _)).2;have hF:=hD.2;unfold Q1M Mv.agg at kf;have B4:(0:Int)<=(k:Int):=by omega
   have AE:(k:Int)<=(cap:Int):=by omega
   have Av:(k:Int)<=(n:Int):=by omega
   clear hD c0 c1 c2 c3
   go_region_held3 (fun W=>W.cell? ⟨B1,0,none⟩=some (.pointer (some ⟨g1,0,none⟩))/\W.cell? ⟨B1,1,none⟩=some (.int .u32 x)/\W.cell? ⟨B1,2,none⟩=some (.int .i64 f1)/\W.cell? ⟨B2,0,none⟩=some (.pointer (some ⟨g2,0,none⟩))/\W.cell? ⟨B2,1,none⟩=some (.int .u32 y)/\W.cell? ⟨B2,2,none⟩=some (.int .i64 f2)/\W.cell? ⟨wr.heap.size,0,none⟩=some (.int .i64 (A k).src)/\W.cell? ⟨wr.heap.size,1,none⟩=some (.int .i64 (A k).dst)/\W.cell? ⟨wr.heap.size,2,none⟩=some (.int .i64 (A k).r)/\W.cell? ⟨wr.heap.size,3,none⟩=some (.bool (A k).g)) (first|exact hE|exact hF|exact hG)
    (first|(go_at_call 97;refine kf.mono ?_;rintro rv w3⟨rfl,An⟩;have hH:=HS.out w3 ((Below.refl _ _).drew.trans (An.mono (J1E _)));have Rb:=Q0a hH.1;have hG:=hH.2;clear hH An))
   clear hE hF hG HS kf;by_cases hv:V k=0
   ·have HV:=Q0a hv;have KG:(V k != 0)=false:=by simp[hv]
    have TR:Hid (∀j,j<k+1->V j=0):=fun j hj=>by
     by_cases e:j=k
     ·rw[e];exact hv
     ·exact Hp.out j (by omega)
    clear hv;generalize V k=e at *
    obtain rfl:e=0:=HV.out;go_wp2_with fail;go_roundw
    case rel =>
     exact⟨k+1,by omega,by go_num,TR.out,Rb.out⟩
    case measure=>simp[intOf];omega
   ·have KG:(V k != 0)=true:=by simp[hv]
    have HX:=Q0a (HM.out.bad k _ Aa Rb.out hv Hp.out);generalize V k=e at *
    go_wp2_with fail
    (try go_ret);exact⟨_,rfl,HX.out⟩
  ·obtain rfl:k=n:=by omega
   have HR:=Q0a E8.out;clear E8;go_wp2_with fail
   go_loopw [60] (fun iv wr=>∃i:Nat,i<=k/\iv=.int .i64 i/\R i wr) (fun iv _=>k-(intOf iv).toNat)
   case atStart=>exact⟨0,J3z _,rfl,HR.out⟩
   case round =>
    obtain⟨i,hi,rfl,hr⟩:=hrel;have E8:=Q0a hr;clear hr HR;by_cases Aa:i<k
    ·obtain⟨⟨p0,p1,p2⟩,⟨o0,o1,o2⟩,BF⟩:=HM.out.held i _ E8.out;obtain⟨g,off,rfl,_,hc,_⟩:=BF i Aa;have c0:wr.cell? ⟨g,off+i*4,none⟩=some (.int .i64 (A i).src):=hc 0 _ rfl;have c1:wr.cell? ⟨g,off+i*4+1,none⟩=some (.int .i64 (A i).dst):=hc 1 _ rfl;have c2:wr.cell? ⟨g,off+i*4+2,none⟩=some (.int .i64 (A i).r):=hc 2 _ rfl;have c3:wr.cell? ⟨g,off+i*4+3,none⟩=some (.bool (A i).g):=hc 3 _ rfl;clear hc BF p0 p1 p2 o0 o1 o2;have HS:Hid (∀W,Below (wr.alloc (.cells #[.int .i64 (A i).src,.int .i64 (A i).dst,.int .i64 (A i).r,.bool (A i).g] 90)).heap.size (wr.alloc (.cells #[.int .i64 (A i).src,.int .i64 (A i).dst,.int .i64 (A i).r,.bool (A i).g] 90)) W->R i W/\(W.cell? ⟨B1,0,none⟩=some (.pointer (some ⟨g1,0,none⟩))/\W.cell? ⟨B1,1,none⟩=some (.int .u32 x)/\W.cell? ⟨B1,2,none⟩=some (.int .i64 f1)/\W.cell? ⟨B2,0,none⟩=some (.pointer (some ⟨g2,0,none⟩))/\W.cell? ⟨B2,1,none⟩=some (.int .u32 y)/\W.cell? ⟨B2,2,none⟩=some (.int .i64 f2)/\W.cell? ⟨wr.heap.size,0,none⟩=some (.int .i64 (A i).src)/\W.cell? ⟨wr.heap.size,1,none⟩=some (.int .i64 (A i).dst)/\W.cell? ⟨wr.heap.size,2,none⟩=some (.int .i64 (A i).r)/\W.cell? ⟨wr.heap.size,3,none⟩=some (.bool (A i).g))):=fun W hb=>by
      have hr:=HM.out.rel i _ _ E8.out (Q0b hb);obtain⟨⟨p0,p1,p2⟩,⟨o0,o1,o2⟩,_⟩:=HM.out.held i _ hr;have hc:=(Cells.new wr 90 [.int .i64 (A i).src,.int .i64 (A i).dst,.int .i64 (A i).r,.bool (A i).g]).same (hb.block _ (by simp));exact⟨hr,p0,p1,p2,o0,o1,o2,hc.cell 0 _ rfl,hc.cell 1 _ rfl,hc.cell 2 _ rfl,hc.cell 3 _ rfl⟩
     obtain⟨Hm,p0,p1,p2,o0,o1,o2,m0,m1,m2,m3⟩:=HS.out _ (Below.refl _ _);obtain⟨ca,cb,cs,kc,MF⟩:=HM.out.capK i _ Hp.out Aa Hm;have Lv:=Q0a MF;clear MF Hm;unfold Q1M at kc;go_wp2_with fail;refine kc.mono ?_;rintro rv w3⟨rfl,An⟩;have B7:=Q0a An;clear kc An p0 p1 p2 o0 o1 o2 m0 m1 m2 m3;obtain⟨IW,-,-,-,-,-,-,-,-,m2,-⟩:=HS.out (w3.alloc (.cells #[.int .u32 ca,.int .i64 cb] 72)) (B7.out.alloc B7.out.size _);clear IW;obtain⟨Ld,p0,p1,p2,o0,o1,o2,m0,m1,m2',m3⟩:=HS.out (w3.alloc (.cells #[.int .u32 ca,.int .i64 (bits .and .i64 cb (A i).r)] 72)) (B7.out.alloc B7.out.size _);have kl:=Lv.out _ Ld
     unfold Q1M at kl;clear Ld Lv;go_wp2_with fail;refine kl.mono ?_;clear kl p0 p1 p2 o0 o1 o2 m0 m1 m2 m2' m3 HS B7;rintro rv w5⟨er,rfl,⟨rfl,He⟩|⟨Ac,Au⟩⟩
     ·have La:=Q0a He;clear He;go_wp2_with fail;go_roundw
      case rel=>exact⟨i+1,by omega,by go_num,La.out⟩
      case measure=>simp[intOf];omega
     ·have Bk:(er != 0)=true:=by simp[Ac]
      have B6:=Q0a Au;have BB:(0:Int)<=(i:Int):=by omega
      have FX:(i:Int)<=(cap:Int):=by omega
      have EG:(i:Int)<=(k:Int):=by omega
      clear Au c0 c1 c2 c3;go_wp2_with fail
      go_loopg [90] i (fun gk iv wl=>∃j:Nat,iv=.int .i64 j/\j+gk=i/\B er i j wl)
      case atStart=>exact⟨0,rfl,by omega,B6.out⟩
      case round =>
       obtain⟨j,rfl,E7,RF⟩:=hrel;have Fx:=Q0a E7;have LE:=Q0a RF;clear E7 RF B6;by_cases FQ:j<i
       ·obtain⟨⟨p0,p1,p2⟩,⟨o0,o1,o2⟩,BF⟩:=HM.out.heldB er i j _ LE.out;obtain⟨g',off',H0,_,hc,_⟩:=BF j (by omega);cases H0;have c0:wr.cell? ⟨g,off+j*4,none⟩=some (.int .i64 (A j).src):=hc 0 _ rfl;have c1:wr.cell? ⟨g,off+j*4+1,none⟩=some (.int .i64 (A j).dst):=hc 1 _ rfl;have c2:wr.cell? ⟨g,off+j*4+2,none⟩=some (.int .i64 (A j).r):=hc 2 _ rfl;have c3:wr.cell? ⟨g,off+j*4+3,none⟩=some (.bool (A j).g):=hc 3 _ rfl;have DR:=Q0a (HM.out.relB er i j _ _ LE.out ((Below.refl wr.heap.size wr).alloc (J1E _) (.cells #[.int .i64 (A j).src,.int .i64 (A j).dst,.int .i64 (A j).r,.bool (A j).g] 90)));have kb:=HM.out.bare er i j _ FQ DR.out
        unfold Q1M at kb;clear hc BF p0 p1 p2 o0 o1 o2;obtain⟨-,⟨o0,o1,o2⟩,-⟩:=HM.out.heldB er i j _ DR.out;go_wp2_with fail;refine kb.mono ?_;rintro rv w7⟨rfl,Cl⟩;have Ir:=Q0a Cl;clear Cl kb c0 c1 c2 c3 o0 o1 o2 DR LE;go_wp2_with fail;go_roundg (i-(j+1))
        case measure=>have:=Fx.out;omega
        case rel=>exact⟨j+1,by go_num,by omega,Ir.out⟩
       ·obtain rfl:j=i:=by have:=Fx.out;omega
        have HX:=Q0a (HM.out.back er j _ LE.out);clear LE;go_wp2_with fail
        (try go_ret);exact⟨_,rfl,HX.out⟩
    ·obtain rfl:i=k:=by omega
     obtain⟨⟨p0,p1,p2⟩,⟨o0,o1,o2⟩,BF⟩:=HM.out.held i _ E8.out;have ks:=HM.out.settle _ Hp.out E8.out;unfold Q1M at ks;clear BF;go_wp2_with fail;refine ks.mono ?_;rintro rv w7⟨rfl,hq⟩;have HX:=Q0a hq;clear hq ks p0 p1 p2 o0 o1 o2 E8;go_wp2_with fail
     (try go_ret);exact⟨_,rfl,HX.out⟩
structure SetW(s g1 x g2 y:Nat)(f1 f2:Int)(F B1 B2:Nat)(a0:Option Addr)(n:Nat)(A:Nat->Mv)(R1 R2 RL:Nat->World->Prop)(Q:World->Prop):Prop where
 held1:∀k W,R1 k W->Box3 B1 g1 x f1 W/\Box3 B2 g2 y f2 W/\IsMv W a0 n A/\W.cell? ⟨s,1,none⟩=some (.pointer (some ⟨F,0,none⟩))
 rel1:∀k W W',R1 k W->Below W.heap.size W W'->R1 k W'
 node1:∀k W,k<n->R1 k W->∃id:Int,(∀W',Below W.heap.size W W'->Calls prog 156 #[.pointer (some ⟨s,0,none⟩),Q1M g1 x f1,.int .i64 (A k).src] W' (Told W' (.int .i64 id))) /\
  ∀W',Below W.heap.size W W'->Calls prog 105 #[.pointer (some ⟨F,0,none⟩),.int .i64 id,.int .i64 y,.int .i64 (A k).dst] W' fun rv w5=>(∃a b:Value,rv=.returned (.tuple #[a,b]))/\(∀b,W.heap.size<=b->b<W'.heap.size->w5.heap[b]?=W'.heap[b]?)/\R1 (k+1) w5
 mid:∀W,R1 n W->R2 0 W
 held2:∀k W,R2 k W->Box3 B1 g1 x f1 W/\Box3 B2 g2 y f2 W/\IsMv W a0 n A/\W.cell? ⟨s,1,none⟩=some (.pointer (some ⟨F,0,none⟩))
 rel2:∀k W W',R2 k W->Below W.heap.size W W'->R2 k W'
 skip:∀k W,k<n->(A k).g=false->R2 k W->R2 (k+1) W
 node2:∀k W,k<n->(A k).g=true->R2 k W->∃id:Int,(∀W',Below W.heap.size W W'->Calls prog 156 #[.pointer (some ⟨s,0,none⟩),Q1M g1 x f1,.int .i64 (A k).src] W' (Told W' (.int .i64 id))) /\
  ∀W',Below W.heap.size W W'->Calls prog 174 #[.pointer (some ⟨F,0,none⟩),.int .i64 id] W' fun rv w5=>(∃v,rv=.returned v)/\(∀b,W.heap.size<=b->b<W'.heap.size->w5.heap[b]?=W'.heap[b]?)/\RL k w5
 heldL:∀k W,RL k W->Box3 B1 g1 x f1 W/\Box3 B2 g2 y f2 W/\IsMv W a0 n A/\W.cell? ⟨s,1,none⟩=some (.pointer (some ⟨F,0,none⟩))
 relL:∀k W W',RL k W->Below W.heap.size W W'->RL k W'
 bare:∀k W,k<n->RL k W->Calls prog 99 #[.pointer (some ⟨s,0,none⟩),Q1M g1 x f1,.int .i64 (A k).src] W fun rv w5=>rv=.returned (.tuple #[])/\R2 (k+1) w5
 last:∀W,R2 n W->Q W
theorem Q9b{w:World}{s g1 x g2 y:Nat}{f1 f2:Int}{F:Nat}{a0:Option Addr}{n cap:Nat}{A:Nat->Mv}{R1 R2 RL:Nat->World->Prop}{Q:World->Prop}
  (hW:SetW s g1 x g2 y f1 f2 F w.heap.size (w.heap.size+1) a0 n A R1 R2 RL Q) (hm:n<=4611686018427387904) (hy:y<4294967296)
  (h0:R1 0 ((w.alloc (.cells #[.pointer (some ⟨g1,0,none⟩),.int .u32 x,.int .i64 f1] 191)).alloc (.cells #[.pointer (some ⟨g2,0,none⟩),.int .u32 y,.int .i64 f2] 191))) :
  Calls prog 100 #[.pointer (some ⟨s,0,none⟩),Q1M g1 x f1,Q1M g2 y f2,.slice a0 n cap] w fun rv w'=>rv=.returned (.tuple #[])/\Q w':=by
 have HW:=Q0a hW;have HR:=Q0a h0;clear hW h0;unfold Q1M;go_enter func100,ntmps100;go_wp2_with fail;generalize J7:w.heap.size=B1 at *
 have L1:IntKind.i64.wrap (y:Int)=(y:Int):=Go.IntWalk.i64_in _ (by omega)
 go_loopg [14] n (fun gk iv wl=>∃k:Nat,iv=.int .i64 k/\k+gk=n/\R1 k wl)
 case atStart=>exact⟨0,rfl,by omega,HR.out⟩
 case round =>
  obtain⟨k,rfl,BL,hr⟩:=hrel;have IO:=Q0a BL;have E8:=Q0a hr;clear BL hr HR;by_cases Aa:k<n
  ·obtain⟨⟨p0,p1,p2⟩,⟨o0,o1,o2⟩,BF,BY⟩:=HW.out.held1 k _ E8.out;obtain⟨g,off,rfl,_,hc,_⟩:=BF k Aa;have c0:wr.cell? ⟨g,off+k*4,none⟩=some (.int .i64 (A k).src):=hc 0 _ rfl;have c1:wr.cell? ⟨g,off+k*4+1,none⟩=some (.int .i64 (A k).dst):=hc 1 _ rfl;have c2:wr.cell? ⟨g,off+k*4+2,none⟩=some (.int .i64 (A k).r):=hc 2 _ rfl;have c3:wr.cell? ⟨g,off+k*4+3,none⟩=some (.bool (A k).g):=hc 3 _ rfl;clear hc BF p0 p1 p2 o0 o1 o2 BY;have VW:(0:Int)<=(y:Int):=by omega
   have VP:(y:Int)<4294967296:=by omega
   go_wp2_with fail;have BG:Hid (∀W5:World,R1 (k+1) W5->Cells W5 wr.heap.size 90 [.int .i64 (A k).src,.int .i64 (A k).dst,.int .i64 (A k).r,.bool (A k).g]->(W5.cell? ⟨s,1,none⟩=some (.pointer (some ⟨F,0,none⟩))/\W5.cell? ⟨B1,0,none⟩=some (.pointer (some ⟨g1,0,none⟩))/\W5.cell? ⟨B1,1,none⟩=some (.int .u32 x)/\W5.cell? ⟨B1,2,none⟩=some (.int .i64 f1)/\W5.cell? ⟨B1+1,1,none⟩=some (.int .u32 y)/\W5.cell? ⟨wr.heap.size,0,none⟩=some (.int .i64 (A k).src)/\W5.cell? ⟨wr.heap.size,1,none⟩=some (.int .i64 (A k).dst))):=fun W5 hr hc=>by
    obtain⟨⟨p0,p1,p2⟩,⟨o0,o1,o2⟩,_,BY⟩:=HW.out.held1 (k+1) _ hr;exact⟨BY,p0,p1,p2,o1,hc.cell 0 _ rfl,hc.cell 1 _ rfl⟩
   have D7:=Q0a (Cells.new wr 90 [.int .i64 (A k).src,.int .i64 (A k).dst,.int .i64 (A k).r,.bool (A k).g]);have BK:Hid (∀W,Below (wr.alloc (.cells #[.int .i64 (A k).src,.int .i64 (A k).dst,.int .i64 (A k).r,.bool (A k).g] 90)).heap.size (wr.alloc (.cells #[.int .i64 (A k).src,.int .i64 (A k).dst,.int .i64 (A k).r,.bool (A k).g] 90)) W->Below wr.heap.size wr W/\(W.cell? ⟨s,1,none⟩=some (.pointer (some ⟨F,0,none⟩))/\W.cell? ⟨B1,0,none⟩=some (.pointer (some ⟨g1,0,none⟩))/\W.cell? ⟨B1,1,none⟩=some (.int .u32 x)/\W.cell? ⟨B1,2,none⟩=some (.int .i64 f1)/\W.cell? ⟨B1+1,1,none⟩=some (.int .u32 y)/\W.cell? ⟨wr.heap.size,0,none⟩=some (.int .i64 (A k).src)/\W.cell? ⟨wr.heap.size,1,none⟩=some (.int .i64 (A k).dst))):=fun W hb=>by
    have Aj:=Q0b hb;have hr:=HW.out.rel1 k _ _ E8.out Aj;obtain⟨⟨p0,p1,p2⟩,⟨o0,o1,o2⟩,_,BY⟩:=HW.out.held1 k _ hr;have hc:=(Cells.new wr 90 [.int .i64 (A k).src,.int .i64 (A k).dst,.int .i64 (A k).r,.bool (A k).g]).same (hb.block _ (by simp));exact⟨Aj,BY,p0,p1,p2,o1,hc.cell 0 _ rfl,hc.cell 1 _ rfl⟩
   obtain⟨id,El,Bp⟩:=HW.out.node1 k _ Aa E8.out;have Ey:=Q0a El;have Df:=Q0a Bp;have hE:=(BK.out _ (Below.refl _ _)).2;have hD:=(BK.out _ (Below.refl _ _).drew)
   have kn:=Ey.out _ hD.1;have hF:=hD.2;unfold Q1M at kn;clear El Bp c0 c1 c2 c3 hD
   go_region_held3 (fun W=>W.cell? ⟨s,1,none⟩=some (.pointer (some ⟨F,0,none⟩))/\W.cell? ⟨B1,0,none⟩=some (.pointer (some ⟨g1,0,none⟩))/\W.cell? ⟨B1,1,none⟩=some (.int .u32 x)/\W.cell? ⟨B1,2,none⟩=some (.int .i64 f1)/\W.cell? ⟨B1+1,1,none⟩=some (.int .u32 y)/\W.cell? ⟨wr.heap.size,0,none⟩=some (.int .i64 (A k).src)/\W.cell? ⟨wr.heap.size,1,none⟩=some (.int .i64 (A k).dst)) (first|exact hE|exact hF|exact hG|exact Li)
    (first|(go_at_call 156;refine kn.mono ?_;rintro rv w3⟨rfl,An⟩;have hH:=BK.out w3 ((Below.refl _ _).drew.trans (An.mono (J1E _)));have ka:=Df.out w3 hH.1;have hG:=hH.2;have DZ:=Q0a (D7.out.same (An.block _ (by simp)));clear hH An)|(go_at_call 105;refine ka.mono ?_;rintro rv w5⟨⟨ra,rb,rfl⟩,Mp,He⟩;have Li:=BG.out w5 He (DZ.out.same (Mp _ (J1E _) DZ.out.lt));have La:=Q0a He;clear He Mp))
   clear hE hF hG Li BK Ey Df ka BG D7 DZ;go_wp2_with fail;go_roundg (n-(k+1))
   case measure=>have:=IO.out;omega
   case rel=>exact⟨k+1,by go_num,by omega,La.out⟩
  ·obtain rfl:k=n:=by have:=IO.out;omega
   have DR:=Q0a (HW.out.mid _ E8.out);clear E8;go_wp2_with fail
   go_loopg [36] k (fun gk iv wl=>∃i:Nat,iv=.int .i64 i/\i+gk=k/\R2 i wl)
   case atStart=>exact⟨0,rfl,by omega,DR.out⟩
   case round =>
    obtain⟨i,rfl,E5,hr⟩:=hrel;have OR:=Q0a E5;have JA:=Q0a hr;clear E5 hr DR;by_cases Aa:i<k
    ·obtain⟨-,-,BF,-⟩:=HW.out.held2 i _ JA.out;obtain⟨g,off,rfl,_,hc,_⟩:=BF i Aa;have c0:wr.cell? ⟨g,off+i*4,none⟩=some (.int .i64 (A i).src):=hc 0 _ rfl;have c1:wr.cell? ⟨g,off+i*4+1,none⟩=some (.int .i64 (A i).dst):=hc 1 _ rfl;have c2:wr.cell? ⟨g,off+i*4+2,none⟩=some (.int .i64 (A i).r):=hc 2 _ rfl;have c3:wr.cell? ⟨g,off+i*4+3,none⟩=some (.bool (A i).g):=hc 3 _ rfl;clear hc BF;have Bq:Below wr.heap.size wr (wr.alloc (.cells #[.int .i64 (A i).src,.int .i64 (A i).dst,.int .i64 (A i).r,.bool (A i).g] 90)):=(Below.refl _ _).alloc (J1E _) _;by_cases hg:(A i).g=true
     ·have BK:Hid (∀W,Below (wr.alloc (.cells #[.int .i64 (A i).src,.int .i64 (A i).dst,.int .i64 (A i).r,.bool (A i).g] 90)).heap.size (wr.alloc (.cells #[.int .i64 (A i).src,.int .i64 (A i).dst,.int .i64 (A i).r,.bool (A i).g] 90)) W->Below wr.heap.size wr W/\(W.cell? ⟨s,1,none⟩=some (.pointer (some ⟨F,0,none⟩))/\W.cell? ⟨B1,0,none⟩=some (.pointer (some ⟨g1,0,none⟩))/\W.cell? ⟨B1,1,none⟩=some (.int .u32 x)/\W.cell? ⟨B1,2,none⟩=some (.int .i64 f1)/\W.cell? ⟨wr.heap.size,0,none⟩=some (.int .i64 (A i).src))):=fun W hb=>by
       have Aj:=Q0b hb;have hr:=HW.out.rel2 i _ _ JA.out Aj;obtain⟨⟨p0,p1,p2⟩,_,_,BY⟩:=HW.out.held2 i _ hr;have hc:=(Cells.new wr 90 [.int .i64 (A i).src,.int .i64 (A i).dst,.int .i64 (A i).r,.bool (A i).g]).same (hb.block _ (by simp));exact⟨Aj,BY,p0,p1,p2,hc.cell 0 _ rfl⟩
      obtain⟨id,El,IP⟩:=HW.out.node2 i _ Aa hg JA.out;have Ey:=Q0a El;have Ez:=Q0a IP;have hE:=(BK.out _ (Below.refl _ _)).2;have hD:=(BK.out _ (Below.refl _ _).drew)
      have kn:=Ey.out _ hD.1;have hF:=hD.2;rw[hg] at c3;unfold Q1M at kn;clear El IP hD Bq;have D7:=Q0a (Cells.new wr 90 [.int .i64 (A i).src,.int .i64 (A i).dst,.int .i64 (A i).r,.bool (A i).g]);have BG:Hid (∀W5:World,RL i W5->Cells W5 wr.heap.size 90 [.int .i64 (A i).src,.int .i64 (A i).dst,.int .i64 (A i).r,.bool (A i).g]->(W5.cell? ⟨s,1,none⟩=some (.pointer (some ⟨F,0,none⟩))/\W5.cell? ⟨B1,0,none⟩=some (.pointer (some ⟨g1,0,none⟩))/\W5.cell? ⟨B1,1,none⟩=some (.int .u32 x)/\W5.cell? ⟨B1,2,none⟩=some (.int .i64 f1)/\W5.cell? ⟨wr.heap.size,0,none⟩=some (.int .i64 (A i).src))):=fun W5 hr hc=>by
       obtain⟨⟨p0,p1,p2⟩,_,_,BY⟩:=HW.out.heldL i _ hr;exact⟨BY,p0,p1,p2,hc.cell 0 _ rfl⟩
      have Ei:Hid (∀W,RL i W->_):=fun W=>HW.out.bare i W Aa
      rw[hg] at BK D7 BG kn hE hF;have HG:=Q0a hg;clear hg;go_wp2_with fail
      go_region_held3 (fun W=>W.cell? ⟨s,1,none⟩=some (.pointer (some ⟨F,0,none⟩))/\W.cell? ⟨B1,0,none⟩=some (.pointer (some ⟨g1,0,none⟩))/\W.cell? ⟨B1,1,none⟩=some (.int .u32 x)/\W.cell? ⟨B1,2,none⟩=some (.int .i64 f1)/\W.cell? ⟨wr.heap.size,0,none⟩=some (.int .i64 (A i).src)) (first|exact hE|exact hF|exact hG|exact Li)
       (first|(go_at_call 156;refine kn.mono ?_;rintro rv w3⟨rfl,An⟩;have hH:=BK.out w3 ((Below.refl _ _).drew.trans (An.mono (J1E _)));have ka:=Ez.out w3 hH.1;have hG:=hH.2;have DZ:=Q0a (D7.out.same (An.block _ (by simp)));clear hH An)|(go_at_call 174;refine ka.mono ?_;rintro rv w5⟨⟨v5,rfl⟩,Mp,He⟩;have Li:=BG.out w5 He (DZ.out.same (Mp _ (J1E _) DZ.out.lt));have La:=Q0a He;clear He Mp))
      have kb:=Ei.out w5 La.out;unfold Q1M at kb;clear hE hF hG BK Ey Ez ka BG D7 DZ La;obtain⟨d0,d1,d2,d3,d4⟩:=Li;go_wp2_with fail;refine kb.mono ?_;rintro rv w7⟨rfl,QD⟩;have TI:=Q0a QD;clear QD kb d0 d1 d2 d3 d4 Ei;go_wp2_with fail;go_roundg (k-(i+1))
      case measure=>have:=OR.out;omega
      case rel=>exact⟨i+1,by go_num,by omega,TI.out⟩
     ·have K5:(A i).g=false:=by simpa using hg
      have HX:=Q0a (HW.out.rel2 _ _ _ (HW.out.skip i _ Aa K5 JA.out) Bq);rw[K5] at c3 HX;clear hg K5 Bq JA;go_wp2_with fail;go_roundg (k-(i+1))
      case measure=>have:=OR.out;omega
      case rel=>exact⟨i+1,by go_num,by omega,HX.out⟩
    ·obtain rfl:i=k:=by have:=OR.out;omega
     have HX:=Q0a (HW.out.last _ JA.out);clear JA;go_wp2_with fail
     first|exact⟨rfl,HX.out⟩|(go_end0;exact⟨rfl,HX.out⟩)
end Go.Proofs.YtfidemmgofcnmaaGreatDoor

/- SpaceCharge returns true at every input. No condition. Part of its proof. -/
import Derived.Test.YtfidemmgofcnmaaGreatDoorSc30
import Derived.Lib.LaidTab
import Derived.LaidMore
import Derived.MakeChecks
import Derived.Stop.LaidErr
set_option maxHeartbeats 8000000
set_option maxRecDepth 100000
set_option linter.unusedVariables false
namespace Go.Proofs.YtfidemmgofcnmaaGreatDoor
open Go.RowKit Go.Proofs.Tryz
def Q5v (t:TB):Nat->Option Nat
 | 0=>none
 | k+1=>if (t.en k).isSome=true then some k else Q5v t k
def newG (t:TB) (k:Nat):Bool:=match Q5v t k with
 | none=>true
 | some m=>decide (m/16≠k/16)
def gN (t:TB):Nat->Nat
 | 0=>0
 | k+1=>gN t k+if (t.en k).isSome=true/\newG t k=true then 1 else 0
theorem gN_succ (t:TB) (k:Nat):gN t (k+1)=gN t k+if (t.en k).isSome=true/\newG t k=true then 1 else 0:=rfl
theorem lastT_succ (t:TB) (k:Nat):Q5v t (k+1)=if (t.en k).isSome=true then some k else Q5v t k:=rfl
def anyG (t:TB) (m j:Nat):Bool:=(List.range j).any fun i=>(t.en (16*m+i)).isSome
theorem Z7f (t:TB) (m j:Nat):anyG t m (j+1)=(anyG t m j||(t.en (16*m+j)).isSome):=by
 unfold anyG;rw [J2J,List.any_append];simp
theorem Z2k {t:TB} {x:Nat}:∀{k:Nat},Q5v t k=some x->x<k
 | 0,h=>by cases h
 | k+1,h=>by
  unfold Q5v at h;split at h
  ·cases h;omega
  ·have:=Z2k h;omega
theorem Z9H (t:TB) (m:Nat):∀j,j<=16->gN t (16*m+j)=gN t (16*m)+(if anyG t m j=true then 1 else 0)/\(if anyG t m j=true then ∃x,Q5v t (16*m+j)=some x/\16*m<=x/\x<16*m+j else Q5v t (16*m+j)=Q5v t (16*m))
 | 0,_=>by simp [anyG]
 | j+1,hj=>by
  obtain⟨h1,h2⟩:=Z9H t m j (by omega);rw [show 16*m+(j+1)=16*m+j+1 by omega];rw [Z7f,gN_succ,lastT_succ,h1];cases he:(t.en (16*m+j)).isSome with
  | false =>
   simp only [Bool.or_false,J6s,false_and,if_false,J2H,true_and];split
   ·rename_i ha;rw [if_pos ha] at h2;obtain⟨x,a,b,c⟩:=h2;exact⟨x,a,b,by omega⟩
   ·rename_i ha;rw [if_neg ha] at h2;exact h2
  | true =>
   simp only [Bool.or_true,if_true,true_and];refine⟨?_,16*m+j,rfl,by omega,by omega⟩;cases ha:anyG t m j with
   | true =>
    rw [ha,if_pos rfl] at h2;obtain⟨x,a,b,c⟩:=h2;have hn:newG t (16*m+j)=false:=by
     unfold newG;rw [a];have:x/16=(16*m+j)/16:=by omega
     simp [this]
    rw [hn];simp
   | false =>
    rw [ha,if_neg (by simp)] at h2;have hn:newG t (16*m+j)=true:=by
     unfold newG;rw [h2];cases hl:Q5v t (16*m) with
     | none=>rfl
     | some x =>
      have:=Z2k hl;have:x/16≠(16*m+j)/16:=by omega
      simp [this]
    rw [hn];simp
theorem J2f {t:TB} (hf:t.Full) (hh:∀s,s<256->t.lf (s/16)=0->t.en s=none):∀m,m<=16->gN t (16*m)=((List.range m).filter fun q=>decide (t.lf q≠0)).length
 | 0,_=>rfl
 | m+1,hm=>by
  have ih:=J2f hf hh m (by omega);have h1:=(Z9H t m 16 (J2y _)).1;rw [show 16*(m+1)=16*m+16 by omega,h1,ih,J2J,J4x,J3j];congr 1;have e:anyG t m 16=decide (t.lf m≠0):=by
   by_cases h:t.lf m=0
   ·rw [decide_eq_false (by simpa using h)];unfold anyG;rw [J7c];intro i hi;have:=J2P.1 hi;have hd:(16*m+i)/16=m:=by omega
    rw [hh (16*m+i) (by omega) (by rw [hd];exact h)];simp
   ·rw [decide_eq_true h];obtain⟨s,s1,s2,s3⟩:=hf m (by omega) h;unfold anyG;rw [J7b];refine⟨s-16*m,J2P.2 (by omega),?_⟩;rw [show 16*m+(s-16*m)=s by omega];cases hs:t.en s with
    | none=>exact absurd hs s3
    | some e=>rfl
  rw [e];by_cases h:t.lf m=0 <;> simp [h]
theorem Z7g {α:Type} (p:Nat->Bool) (f:Nat->Option α) (h:∀k,(f k).isSome=p k):∀L:List Nat,(L.filterMap f).length=(L.filter p).length
 | []=>rfl
 | x::r=>by
  have ih:=Z7g p f h r;have hx:=h x;rw [J2L,J6L];cases hf:f x with
  | none=>rw [hf] at hx;rw [<- hx];simpa using ih
  | some v=>rw [hf] at hx;rw [<- hx];simp [ih]
theorem J1l {t:TB} (hf:t.Full) (hh:∀s,s<256->t.lf (s/16)=0->t.en s=none):t.lvs.length=gN t 256:=by
 rw [show 256=16*16 from rfl,J2f hf hh 16 (J2y _)];unfold TB.lvs;refine Z7g _ _ (fun k=>?_) _;by_cases h:t.lf k=0 <;> simp [h]
theorem nds_len (t:TB):t.nds.length=(Q0w t 256).length:=by
 unfold TB.nds Q0w;rw [J4j];refine Z7g _ _ (fun k=>?_) _;cases t.en k <;> rfl
def Q1T (L:List Int):Nat->Nat
 | 0=>0
 | k+1=>Q1T L k+if k=0∨(L[k]?.getD 0)/16≠(L[k-1]?.getD 0)/16 then 1 else 0
theorem Q9Z (L M:List Int):∀k,k<=L.length->Q1T (L++M) k=Q1T L k
 | 0,_=>rfl
 | k+1,h=>by
  unfold Q1T;rw [Q9Z L M k (by omega),J5N (by omega),J5N (by omega)]
theorem Q6L (t:TB):∀k,Q1T (Q0w t k) (Q0w t k).length=gN t k/\(Q0w t k)[(Q0w t k).length-1]?=(Q5v t k).map fun (x:Nat)=>(x:Int)
 | 0=>⟨rfl,rfl⟩
 | k+1=>by
  obtain⟨h1,h2⟩:=Q6L t k;rw [Q5o,gN_succ,lastT_succ];cases he:(t.en k).isSome with
  | false=>simpa using ⟨h1,h2⟩
  | true =>
   simp only [if_true,true_and,J3j,J6B];generalize Q0w t k=L at *
   refine⟨?_,by simp⟩;show Q1T (L++[(k:Int)]) L.length+_=_;rw [Q9Z L _ _ (J2y _),h1];congr 1;have hx:(L++[(k:Int)])[L.length]?=some (k:Int):=by simp
   rw [hx];unfold newG;cases hl:Q5v t k with
   | none =>
    rw [hl] at h2;have:L.length=0:=by
     refine Classical.byContradiction fun hc=>?_
     rw [J4R (by omega)] at h2;cases h2
    simp [this]
   | some m =>
    rw [hl] at h2;have hL:L.length≠0:=fun hc=>by
     rw [J4p (by omega)] at h2;cases h2
    rw [J5N (by omega),h2];show (if L.length=0∨(k:Int)/16≠(m:Int)/16 then 1 else 0)=_;by_cases e:m/16=k/16
    ·have:¬(L.length=0∨(k:Int)/16≠(m:Int)/16):=by omega
     rw [if_neg this];simp [e]
    ·have:L.length=0∨(k:Int)/16≠(m:Int)/16:=by omega
     rw [if_pos this];simp [e]
def Z7h (l:List Pl) (tb:Nat->TB) (x:Nat):Int:=48*((Q0j l tb x).length:Int)+256*(Q1T (Q0j l tb x) (Q0j l tb x).length:Int)
def payP (l:List Pl) (tb:Nat->TB) (id:Int) (x:Nat):Int:=if ((obP l x).fac:Int)=id then (costK (obP l x).kind:Int)+Z7h l tb x else 0
section
variable {S:CO} {tb:Nat->TB} {fr:List Nat} {N K:Nat}
theorem TPI.hole {S:CO} {tb:Nat->TB} (t:TPI S tb) {i:Nat} {p:Pl} (hi:S.l[i]?=some p):∀s,s<256->(tb i).lf (s/16)=0->(tb i).en s=none:=by
 by_cases h:p.st=1/\p.kind=2
 ·exact (t.tin i p hi h.1 h.2).hole
 ·exact fun s hs _=>(t.nil i p hi h).2 s hs
theorem Z4c (ok:S.Ok fr N K) (t:TPI S tb) {x:Nat} (hx:x∈obL S.l):Z7h S.l tb x=(tb (x%256)).cost:=by
 have hl:=ok.inv.len;obtain⟨p,hi,Ap,_,hp⟩:=Z9v (by omega) hx;have JZ:x%256<256:=J5G _ (by omega);have hz:¬(p.st=1/\p.kind=2)->Q0j S.l tb x=[]->Z7h S.l tb x=(tb (x%256)).cost:=fun hn he=>by
  obtain⟨a,b,c⟩:=TB.Nil.lists (t.nil _ p hi hn);rw [c];unfold Z7h;rw [he];rfl
 rcases hp with hp|hp
 ·by_cases hk:p.kind=2
  ·have he:Q0j S.l tb x=Q0w (tb (x%256)) 256:=by
    unfold Q0j;rw [hp];dsimp only;rw [if_pos hk]
   unfold Z7h TB.cost;rw [he,J1l (t.full _ JZ) (t.hole hi),nds_len,(Q6L _ 256).1];omega
  ·refine hz (fun h=>hk h.2) ?_;unfold Q0j;rw [hp];dsimp only;rw [if_neg hk]
 ·have h2:=(pget_some.1 hp).2.2;have hn:pget S.l 1 x=none:=by
   cases hq:pget S.l 1 x with
   | none=>rfl
   | some q =>
    have a:=pget_some.1 hq;rw [hi] at a;have:=a.2.2;have e:p=q:=J3x a.1;rw [<- e,h2] at this;omega
  refine hz (fun h=>by omega) ?_;unfold Q0j;rw [hn]
theorem Q6M {l:List Pl} (hl:l.length<=256) (s:Nat) (g:Nat->Int):∀k,k<=l.length->((Q3O l s k).map fun x=>g (x%256)).sum=((List.range k).map fun i=>if (l[i]?.map Pl.st)=some s then g i else 0).sum
 | 0,_=>rfl
 | k+1,hk=>by
  have hg:l[k]?=some l[k]:=J4R (by omega);rw [Q3s hg,J6d,J6o,Q6M hl s g k (by omega),J2J,J6d,J6o];congr 1;rw [List.map_singleton,List.sum_singleton,hg];by_cases h:l[k].st=s
  ·rw [if_pos h,List.map_singleton,List.sum_singleton,Q1m (by omega)];simp [h]
  ·rw [if_neg h];simp [h]
theorem sum_add2 (f g:Nat->Int):∀L:List Nat,(L.map f).sum+(L.map g).sum=(L.map fun i=>f i+g i).sum
 | []=>rfl
 | x::r=>by
  have:=sum_add2 f g r;simp only [J2B,J6m];omega
theorem J1m (ok:S.Ok fr N K) (t:TPI S tb) (id:Int):((obL S.l).map (payP S.l tb id)).sum=Q0v S.l id+xcOf S.l tb id:=by
 have hl:=ok.inv.len;have e:(obL S.l).map (payP S.l tb id)=(obL S.l).map fun x=>Q1M id (obP S.l x)+xcP tb id (x%256) S.l[x%256]?:=by
  refine J4J fun x hx=>?_
  have hc:=Z4c ok t hx;obtain⟨p,hi,Ap,ho,_⟩:=Z9v (by omega) hx;unfold payP Q1M xcP;rw [ho,hi,Ap,hc];by_cases h:(p.fac:Int)=id
  ·simp [h]
  ·simp [h]
 rw [e,<- sum_add2,J2e (by omega)];congr 1;unfold obL allL xcOf;rw [J6d,J6o,Q6M (by omega) 1 (fun i=>xcP tb id i S.l[i]?) _ (J2y _),Q6M (by omega) 2 (fun i=>xcP tb id i S.l[i]?) _ (J2y _),sum_add2,hl];congr 1;refine J4J fun i hi=>?_
 have Ab:i<S.l.length:=by rw [hl];exact J2P.1 hi
 have hg:S.l[i]?=some S.l[i]:=J4R Ab;rw [hg];generalize S.l[i]=p at *
 by_cases h1:p.st=1
 ·simp [h1]
 ·have hz:=(TB.Nil.lists (t.nil i p hg fun h=>h1 h.1)).2.2;have:xcP tb id i (some p)=0:=by unfold xcP;rw [hz];simp
  simp [this]
end
section
variable {Z:SP} {fr:List Nat} {N K:Nat} {M:Int} {ids:List Int} {ia:Option Addr} {oa:Option Addr} {F:List (Nat×Nat)} {fa:Option Addr} {w wr:World}
theorem Z9w (ok:Z.Ok fr N K M) (st:Step [] Z.hl w wr) :
  (Calls prog 26 #[.pointer (some ⟨Z.s,0,none⟩)] wr fun r w'=>r=.returned (.pointer (some ⟨Z.S.c,0,none⟩))/\wr=w') /\
  (Calls prog 27 #[.pointer (some ⟨Z.S.c,0,none⟩)] wr fun r w'=>r=.returned (.pointer (some ⟨Z.S.P.p,0,none⟩))/\wr=w') /\
  (Calls prog 13 #[.pointer (some ⟨Z.S.P.p,0,none⟩)] wr fun r w'=>r=.returned (.pointer (some ⟨Z.S.P.q.t,0,none⟩))/\wr=w') /\
  (Calls prog 28 #[.pointer (some ⟨Z.S.c,0,none⟩)] wr fun r w1=>∃v1,r=.returned v1 /\
   Calls prog 29 #[.pointer (some ⟨Z.S.c,0,none⟩)] w1 fun r w2=>∃v2,r=.returned v2/\∃(oa:Option Addr) (oc:Nat) (w3:World),(Builtin.append_ #[51,51] 51 #[v1,v2]).run prog w2=.ok (.slice oa (obL Z.S.l).length oc) w3 /\
    Calls prog 18 #[.pointer (some ⟨Z.S.P.q.t,0,none⟩)] w3 fun r w4=>∃(ia:Option Addr) (ic:Nat),r=.returned (.slice ia (Q2V Z.S.P.q.E).length ic)/\FlS Z.hl (obL Z.S.l) oa (Q2V Z.S.P.q.E) ia [] none w w4):=by
 have hs:=st.sep;refine⟨Q3p hs,Q1A (SP.sS hs),Q7b (CO.sP (SP.sS hs)),(Q6n (SP.sS hs) ok.core.inv.lok).mono ?_⟩;rintro r w1 ⟨v1,rfl,Iz,Av⟩;refine⟨v1,rfl,(Q9f (SP.sS (hs.grown Av).sep) ok.core.inv.lok).mono ?_⟩;intro r w2 hr;obtain⟨a,cap,rfl,Ag,Ap,hc⟩:=hr.shape0;have Fj:OutH wr w2 v1 (allL Z.S.l 1):=OutH.below ⟨Iz,Av⟩ Ag;have Dq:=Q1i Z.S.l 1 Z.S.l.length;have Fi:=Q1i Z.S.l 2 Z.S.l.length;have Fc:Z.S.l.length<=256:=by rw [ok.core.inv.len];omega
 obtain⟨v3,w3,e1,e2,e3,e4⟩:=Z6p (ty:=51) (cap:=cap) Fj.1 Ap hc (by unfold allL;omega) Fj.2.size;have Ar:Below wr.heap.size wr w3:=Fj.2.trans ((Below.refl _ _).mono Fj.2.size |>.grown e3 Fj.2.size (fun b hb=>(Fj.1.lt b hb).1));have e2':w3.ownsRow wr.heap.size 58 1 v3 (obL Z.S.l).length (Q1b (obL Z.S.l)):=by
  unfold obL;rw [J3j,hands_app];exact e2
 obtain⟨oa,oc,h3,_,Uc⟩:=NewHs.aside (H:=Z.hl) (r:=.returned v3) ⟨v3,rfl,e2',Ar⟩ hs;cases h3;have st3:=st.trans (hs.grown Ar);refine⟨_,rfl,oa,oc,w3,e1,(J2d st3.sep (SP.sS st3.sep) ok.core).mono ?_⟩;rintro r w4 ⟨ia,ic,rfl,AC,Vh⟩;exact⟨ia,ic,rfl,st3.trans (st3.sep.grown AC),Uc.step (st3.sep.grown AC),Vh,fun j x hj=>by simp at hj⟩
theorem Z9I (ok:Z.Ok fr N K M) (h:FlS Z.hl (obL Z.S.l) oa ids ia F fa w wr) {x:Nat} (hx:x∈obL Z.S.l):x<4294967296/\Calls prog 30 #[.pointer (some ⟨Z.S.c,0,none⟩),.int .u32 x] wr (Told wr (.tuple #[.agg #[.int .i64 ((obP Z.S.l x).kind:Int),.int .i64 ((obP Z.S.l x).at_:Int),.int .i64 ((obP Z.S.l x).fac:Int)],.bool true])):=by
 have Fc:Z.S.l.length<=256:=by rw [ok.core.inv.len];omega
 obtain⟨p,h1,h2,h3,h4⟩:=Z9v Fc hx;have Gn:x<4294967296:=by
  have hn:nm (x%256) p=x:=by rcases h4 with h4|h4 <;> exact (pget_some.1 h4).2.1
  have:=(ok.core.inv.lok.2 p (J4O h1)).2;unfold nm at hn;omega
 refine⟨Gn,?_⟩;have:=Z8z (SP.sS h.st.sep) ok.core.inv.lok Gn;rw [h3];unfold anyV at this;rcases h4 with h4|h4
 ·have hz:pget Z.S.l 2 x=none:=by
   cases hc:pget Z.S.l 2 x with
   | none=>rfl
   | some q =>
    obtain⟨a1,_,a3⟩:=pget_some.1 h4;obtain⟨b1,_,b3⟩:=pget_some.1 hc;rw [a1] at b1;cases b1;omega
  rw [hz,h4] at this;exact this
 ·rw [h4] at this;exact this
theorem J1n (ok:Z.Ok fr N K M) {x:Nat} (hx:x∈obL Z.S.l):((obP Z.S.l x).kind=8∨1<=(obP Z.S.l x).kind/\(obP Z.S.l x).kind<=5)/\((obP Z.S.l x).fac:Int)<1048576:=by
 have Fc:Z.S.l.length<=256:=by rw [ok.core.inv.len];omega
 obtain⟨p,h1,h2,h3,h4⟩:=Z9v Fc hx;rw [h3];have hm:=J4O h1;refine⟨ok.core.inv.mem.kind p hm h2,?_⟩;obtain⟨e,he⟩:=ok.core.inv.tre.fac p hm h2;have hq:=ok.core.inv.mem.pool.q;have:=hq.fa _ e he;have:=hq.next1;omega
theorem Z9x {k:Nat} (h:k=8∨1<=k/\k<=5):32<=costK k/\costK k<=1024:=by
 rcases h with rfl|⟨h1,h2⟩
 ·decide
 ·obtain rfl|rfl|rfl|rfl|rfl:k=1∨k=2∨k=3∨k=4∨k=5:=by omega
  all_goals decide
theorem Z4d (w:World) {k:Nat} (hk:1<=k/\k<=5):Calls prog 89 #[.int .i64 k] w fun r w'=>r=.returned (.int .i64 ((costK k:Nat):Int))/\w=w':=by
 obtain rfl|rfl|rfl|rfl|rfl:k=1∨k=2∨k=3∨k=4∨k=5:=by omega
 all_goals
  go_enter func89,ntmps89;go_wp2_with fail
  first|exact⟨rfl,rfl⟩|(go_ret;exact⟨rfl,rfl⟩)
theorem Z7i (w:World) {k:Nat} (hk:k=8∨1<=k/\k<=5):Calls prog 31 #[.int .i64 k] w fun r w'=>r=.returned (.int .i64 ((costK k:Nat):Int))/\w=w':=by
 by_cases h8:k=8
 ·subst h8;go_enter func31,ntmps31;go_wp2_with fail
  first|exact⟨rfl,rfl⟩|(go_ret;exact⟨rfl,rfl⟩)
 ·have h1:1<=k/\k<=5:=by omega
  have kc:=Z4d w h1;have h2:¬(k:Int)=8:=by omega
  have h3:((k:Int)==8)=false:=by simp;omega
  have h4:¬(5:Int)<(k:Int):=by omega
  have h5:decide ((5:Int)<(k:Int))=false:=decide_eq_false h4;generalize costK k=c at *
  go_enter func31,ntmps31;go_wp2_with fail;refine kc.mono ?_;rintro r w' ⟨rfl,rfl⟩;go_wp2_with fail
  first|exact⟨rfl,rfl⟩|(go_ret;exact⟨rfl,rfl⟩)
theorem J2t (ok:Z.Ok fr N K M) (h:FlS Z.hl (obL Z.S.l) oa ids ia F fa w wr) (Ac:ids=Q2V Z.S.P.q.E) {n:Nat} {id:Int} (hn:ids[n]?=some id):∃g,ia=some ⟨g,0,none⟩/\wr.cell? ⟨g,n,none⟩=some (.int .i64 id)/\0<=limOf Z.S.P.q.E id/\limOf Z.S.P.q.E id<=1073741824 /\
  (Calls prog 33 #[.pointer (some ⟨Z.S.P.q.t,0,none⟩),.int .i64 id] wr fun r w'=>r=.returned (.int .i64 (parOf Z.S.P.q.E id))/\wr=w') /\
  (Calls prog 34 #[.pointer (some ⟨Z.S.P.q.t,0,none⟩),.int .i64 id] wr fun r w'=>r=.returned (.int .i64 (limOf Z.S.P.q.E id))/\wr=w'):=by
 obtain⟨g,h1,_,_,h2⟩:=h.ia n (encI id) (by rw [J4l,hn];rfl);have hq:=ok.core.inv.mem.pool.q;obtain⟨e,he⟩:=Z7e hq.ids (Ac ▸ J4O hn);obtain⟨a1,a2,a3,a4,_⟩:=hq.fa _ e he;have s:=PL.sQ (CO.sP (SP.sS h.st.sep));refine⟨g,h1,h2,?_,?_,?_,?_⟩
 ·unfold limOf;rw [he];simp only;omega
 ·unfold limOf;rw [he];exact a4
 ·unfold parOf;rw [he];exact Q8C s he
 ·unfold limOf;rw [he];exact Q5T s he
theorem J2g (ok:Z.Ok fr N K M) {id:Int} (hid:id∈Q2V Z.S.P.q.E):∃e,find Z.S.P.q.E id=some e/\e.q.charged=((obL Z.S.l).map (payP Z.S.l Z.tb id)).sum/\e.q.given=((Q2V Z.S.P.q.E).map (givI Z.S.P.q.E id)).sum /\
  0<=e.q.charged/\0<=e.q.given/\e.q.charged+e.q.given<=e.q.limit/\e.q.limit<=1073741824:=by
 have hq:=ok.core.inv.mem.pool.q;obtain⟨e,he⟩:=Z7e hq.ids hid;obtain⟨a1,a2,a3,a4,_⟩:=hq.fa _ e he;refine⟨e,he,?_,?_,a1,a2,a3,a4⟩
 ·rw [ok.core.inv.tre.charged id e he,ok.tpi.xc,J1m ok.core ok.tpi]
 ·rw [(ok.core.inv.tre.given id e he).1,J1k hq.ids]
end
theorem Z7j {m:Nat}:(64:Int)+(m:Int).tmod 65473=((64+m%65473:Nat):Int)/\(64:Int)+(m:Int)%65473=((64+m%65473:Nat):Int)/\64<=64+m%65473/\64+m%65473<=65536:=by
 refine⟨?_,by omega,by omega,by omega⟩;rw [J4r (by omega)];omega
section
variable {Z:SP} {fr:List Nat} {N K:Nat} {M:Int}
end
def payF (kd fc:Nat->Nat) (SLF:Nat->List Int) (id:Int) (x:Nat):Int:=if (fc x:Int)=id then (costK (kd x):Int)+(48*((SLF x).length:Int)+256*(Q1T (SLF x) (SLF x).length:Int)) else 0
theorem Z9y (kd fc:Nat->Nat) (SLF:Nat->List Int) (id:Int) (x:Nat):0<=payF kd fc SLF id x:=by
 unfold payF;split <;> omega
theorem Z0a {l:List Int} (h:∀x∈l,0<=x) {k:Nat} {x:Int} (hx:l[k]?=some x):0<=(l.take k).sum/\(l.take k).sum+x=(l.take (k+1)).sum/\(l.take (k+1)).sum<=l.sum:=by
 have h1:=Q6K h k;have h2:=Q6K h (k+1);have h3:=Q8p hx;exact⟨h1.1,h3.symm,h2.2⟩
theorem Z2l (L:List Int):∀k,Q1T L k<=k
 | 0=>J2y _
 | k+1=>by
  have:=Z2l L k;unfold Q1T;split <;> omega
theorem Q7F (L:List Int) {j:Nat}:∀{k},j<=k->Q1T L j<=Q1T L k
 | 0,h=>by
  obtain rfl:j=0:=by omega
  exact J2y _
 | k+1,h=>by
  by_cases e:j=k+1
  ·rw [e];exact J2y _
  ·have:=Q7F L (j:=j) (k:=k) (by omega)
   conv=>rhs;unfold Q1T
   omega
theorem Q6N {w:World} (Dx:Env w) (m:Nat) (hm:m<65536) (a0:Option Addr) (len cap:Nat) (A:Nat->A17) (hA:IsA17 w a0 len A) :
  Calls prog 4 #[.int .u16 m,.slice a0 len cap] w (Told w (.bool true)):=by
 have ka:=Z1c Dx;obtain⟨Lg,IV,Pn,Pt⟩:=Z7j (m:=m);generalize (64+m%65473:Nat)=lm at *
 have LU:Hid (∀W,Below w.heap.size w W->Calls prog 24 #[.slice a0 len cap] W fun r w'=>r=.returned (.bool (fewV A len))/\W=w'):=fun W hb=>J1g W a0 len cap A (hA.below hb)
 have Kd:Hid (fewV A len=true->∀W,Below w.heap.size w W->Calls prog 25 #[.int .i64 lm,.slice a0 len cap] W fun r w'=>∃s,r=.returned (.pointer (some ⟨s,0,none⟩))/\AtB s 61 60 15360 W w'):=fun hf W hb=>by
  unfold fewV at hf;have hf:=of_decide_eq_true hf;exact Z6Z (Dx.below hb) _ (by omega) (by omega) a0 len cap A hf.1 (hA.below hb) hf.2
 have P4:=Q0a Lg;have Mo:=Q0a IV;clear hA Dx Lg IV Pn Pt;have EX:(0:Int)<=(m:Int):=by omega
 have Dm:(m:Int)<65536:=by omega
 go_enter func4,ntmps4;go_wp2_with fail;refine ka.mono ?_;rintro r w0 ⟨rfl,BI⟩;have Ih:=Q0a BI;have kf:=LU.out w0 BI;clear BI ka LU;go_wp2_with fail;refine kf.mono ?_;rintro r w0' ⟨rfl,rfl⟩;clear kf;generalize fewV A len=fv at *
 cases fv with
 | false =>
  clear Kd;go_wp2_with fail
  first|exact⟨rfl,Ih.out⟩|(go_ret;exact⟨rfl,Ih.out⟩)
 | true =>
  have kb:=Kd.out rfl w0 Ih.out;clear Kd;go_wp2_with fail
  first|rw [Mo.out]|rw [P4.out]
  refine kb.mono ?_;rintro r w1 ⟨s,rfl,Z,fr,rfl,ok,-,st⟩;obtain⟨m1,m2,m3,m4⟩:=Z9w ok st;have Mz:=Q0a m2;have M0:=Q0a m3;have L6:=Q0a m4;have CC:=Q0a ok;have Fc:Z.S.l.length<=256:=by rw [ok.core.inv.len];omega
  have Q3:=J1j Fc;have Cw:(Q2V Z.S.P.q.E).length<=256:=by rw [Q6J];exact Z2j ok.core
  have B5:0<(Q2V Z.S.P.q.E).length:=by
   obtain⟨p,hp,hk,_,h1,_⟩:=ok.core.inv.que.root;obtain⟨e,he⟩:=ok.core.inv.tre.fac p (J4O hp) (Pl.is_iff.2 (.inl h1));rw [Q6J];exact J3l (Q0b he).1
  clear st ok kb m2 m3 m4 Fc;generalize hobl:obL Z.S.l=OB at *
  generalize hidl:Q2V Z.S.P.q.E=ids at *
  have Fx:=Q0a hobl;have GO:=Q0a hidl;clear hobl hidl;go_wp2_with fail;refine m1.mono ?_;rintro r w' ⟨rfl,rfl⟩;clear m1;go_wp2_with fail;refine Mz.out.mono ?_;rintro r w' ⟨rfl,rfl⟩;clear Mz;go_wp2_with fail;refine M0.out.mono ?_;rintro r w' ⟨rfl,rfl⟩;clear M0;go_wp2_with fail;refine L6.out.mono ?_;rintro r w2 ⟨v1,rfl,k5⟩;clear L6;go_wp2_with fail;refine k5.mono ?_;rintro r w3 ⟨v2,rfl,oa,oc,w4,Ba,k6⟩;have MO:=Q0a k6;clear k5 k6;go_wp2_with (at_builtin;refine Lib.wpList_append_run _ rfl _ _ _ _ rfl _ _ rfl rfl _ _ Ba ?_);clear Ba;refine MO.out.mono ?_;rintro r w5 ⟨ia,ic,rfl,fl⟩
  clear MO;have M4:Hid (∀V,Below w5.heap.size w5 V->FlS Z.hl (obL Z.S.l) oa (Q2V Z.S.P.q.E) ia [] none w0 V):=fun V hb=>by rw [Fx.out,GO.out];exact fl.grown hb
  have Ey:Hid (Below w.heap.size w w5):=Ih.out.trans (fl.st.fresh.mono Ih.out.size);have Lh:Hid (∀(j x:Nat),OB[j]?=some x->∃g,oa=some ⟨g,0,none⟩/\∀V,Below w5.heap.size w5 V->V.cell? ⟨g,j,none⟩=some (.int .u32 x)):=fun j x hj=>by
   obtain⟨g,e,_,Ab,hc⟩:=fl.va j x hj;exact⟨g,e,fun V hb=>(World.cell?_of_block (w:=w5) (hb.block g Ab)).trans hc⟩
  have Kt:Hid (∀(j:Nat) (x:Int),ids[j]?=some x->∃g,ia=some ⟨g,0,none⟩/\∀V,Below w5.heap.size w5 V->V.cell? ⟨g,j,none⟩=some (.int .i64 x)):=fun j x hj=>by
   obtain⟨g,e,_,Ab,hc⟩:=fl.ia j (encI x) (by rw [J4l,hj];rfl);exact⟨g,e,fun V hb=>(World.cell?_of_block (w:=w5) (hb.block g Ab)).trans hc⟩
  have Fy:Hid (∀V,Below w5.heap.size w5 V->∀x∈OB,Calls prog 30 #[.pointer (some ⟨Z.S.c,0,none⟩),.int .u32 x] V (Told V (.tuple #[.agg #[.int .i64 ((obP Z.S.l x).kind:Int),.int .i64 ((obP Z.S.l x).at_:Int),.int .i64 ((obP Z.S.l x).fac:Int)],.bool true]))):=fun V hb x hx=>(Z9I CC.out (M4.out V hb) (by rw [Fx.out];exact hx)).2
  have Ib:Hid (∀V,Below w5.heap.size w5 V->∀x∈OB,Calls prog 32 #[.pointer (some ⟨Z.s,0,none⟩),.int .u32 x] V (NewIs V (Q0j Z.S.l Z.tb x))):=fun V hb x hx=>by
   have h:=M4.out V hb;exact Q5f h.st.sep CC.out (Z9I CC.out h (by rw [Fx.out];exact hx)).1
  have Lb:Hid (∀x∈OB,((obP Z.S.l x).kind=8∨1<=(obP Z.S.l x).kind/\(obP Z.S.l x).kind<=5)/\((obP Z.S.l x).fac:Int)<1048576):=fun x hx=>J1n CC.out (by rw [Fx.out];exact hx)
  have Mu:Hid (∀x,(Q0j Z.S.l Z.tb x).length<=256/\∀z∈Q0j Z.S.l Z.tb x,0<=z/\z<256):=fun x=>⟨Q2T _ _ _,fun z hz=>by
   obtain⟨s,rfl,hs,_⟩:=mem_slotsL.1 hz;omega⟩
  have Ha:Hid (∀V,Below w5.heap.size w5 V->∀(n:Nat) (id:Int),ids[n]?=some id->0<=limOf Z.S.P.q.E id/\limOf Z.S.P.q.E id<=1073741824 /\
    (Calls prog 33 #[.pointer (some ⟨Z.S.P.q.t,0,none⟩),.int .i64 id] V fun r w'=>r=.returned (.int .i64 (parOf Z.S.P.q.E id))/\V=w') /\
    (Calls prog 34 #[.pointer (some ⟨Z.S.P.q.t,0,none⟩),.int .i64 id] V fun r w'=>r=.returned (.int .i64 (limOf Z.S.P.q.E id))/\V=w')):=fun V hb n id hn=>by
   obtain⟨g,_,_,a,b,c,d⟩:=J2t CC.out (M4.out V hb) rfl (by rw [GO.out];exact hn);exact⟨a,b,c,d⟩
  have IA:Hid (∀id∈ids,∃ch gv:Int,ch=(OB.map (payF (fun x=>(obP Z.S.l x).kind) (fun x=>(obP Z.S.l x).fac) (Q0j Z.S.l Z.tb) id)).sum/\gv=(ids.map (fun k=>if parOf Z.S.P.q.E k=id then limOf Z.S.P.q.E k else 0)).sum/\0<=ch/\0<=gv/\ch+gv<=limOf Z.S.P.q.E id /\
    ∀V,Below w5.heap.size w5 V->Calls prog 19 #[.pointer (some ⟨Z.S.P.q.t,0,none⟩),.int .i64 id] V fun r w1=>r=.returned (.int .i64 (ch+gv))/\Below V.heap.size V w1/\(Calls prog 34 #[.pointer (some ⟨Z.S.P.q.t,0,none⟩),.int .i64 id] w1 fun r w'=>r=.returned (.int .i64 (limOf Z.S.P.q.E id))/\w1=w')):=fun id hid=>by
   obtain⟨e,he,h1,h2,h3,h4,h5,h6⟩:=J2g CC.out (by rw [GO.out];exact hid);have J5:limOf Z.S.P.q.E id=e.q.limit:=by unfold limOf;rw [he]
   refine⟨e.q.charged,e.q.given,?_,?_,h3,h4,by rw [J5];exact h5,fun V hb=>?_⟩
   ·rw [h1,Fx.out];rfl
   ·rw [h2,GO.out];rfl
   ·have h:=M4.out V hb;refine (Q8D (PL.sQ (CO.sP (SP.sS h.st.sep))) CC.out.core.inv.mem.pool.q he).mono ?_;rintro r w1 ⟨rfl,Av⟩;refine⟨rfl,Av,?_⟩;rw [J5];exact Q5T (PL.sQ (CO.sP (SP.sS (h.grown Av).st.sep))) he
  clear fl M4 CC Fx GO;generalize Q0j Z.S.l Z.tb=SLF at *
  obtain⟨kd,Jw⟩:∃f:Nat->Nat,f=fun x=>(obP Z.S.l x).kind:=⟨_,rfl⟩
  obtain⟨fc,Et⟩:∃f:Nat->Nat,f=fun x=>(obP Z.S.l x).fac:=⟨_,rfl⟩
  obtain⟨ta,IY⟩:∃f:Nat->Nat,f=fun x=>(obP Z.S.l x).at_:=⟨_,rfl⟩
  rw [<- Jw,<- Et] at IA;have ekd:∀x,(obP Z.S.l x).kind=kd x:=fun x=>by rw [Jw]
  have efc:∀x,(obP Z.S.l x).fac=fc x:=fun x=>by rw [Et]
  have eta:∀x,(obP Z.S.l x).at_=ta x:=fun x=>by rw [IY]
  simp only [ekd,efc,eta] at Fy Lb;clear Jw Et IY ekd efc eta;generalize parOf Z.S.P.q.E=par at *
  generalize limOf Z.S.P.q.E=lim at *
  generalize Z.S.P.q.t=qt at *
  generalize Z.S.c=cc at *
  generalize Z.s=zs at *
  generalize hOl:OB.length=nO at *
  generalize hIl:ids.length=nI at *
  have Qp:=Q0a hOl;have OC:=Q0a hIl;have Tz:Hid (nO<=512):=Q3;have Ss:Hid (nI<=256):=Cw;have SH:(0:Int)<(nI:Int):=by omega
  clear hOl hIl Q3 Cw B5;go_wp2_with fail
  go_loopg [10] nI (fun gk iv wr=>∃i:Nat,iv=.int .i64 i/\i+gk=nI/\Below w5.heap.size w5 wr)
  case atStart=>exact⟨0,rfl,by omega,Below.refl _ _⟩
  case round =>
   obtain⟨i,rfl,IO,C6⟩:=hrel;have IN:=Q0a IO;have Fd:=Q0a C6;clear IO C6;by_cases Ab:i<nI
   ·obtain⟨id,hid⟩:∃y,ids[i]?=some y:=⟨_,J4R (by rw [OC.out];exact Ab)⟩
    obtain⟨gI,rfl,I8⟩:=Kt.out i id hid;obtain⟨ch,gv,Dt,Rd,Kn,J7,CN,LP⟩:=IA.out id (J4O hid);have Jj:=Q0a I8;have FA:=Q0a Dt;have KX:=Q0a Rd;have Gk:Hid (0<=ch/\0<=gv/\ch+gv<=lim id/\lim id<=1073741824):=⟨Kn,J7,CN,(Ha.out w5 (Below.refl _ _) i id hid).2.1⟩
    have Gu:=Q0a LP;have SU:=Q0a hid;have B5:(0:Int)<=(i:Int):=by omega
    have FU:(i:Int)<(nI:Int):=by omega
    clear hid I8 Dt Rd Kn J7 CN LP IA;obtain⟨wo,OS⟩:∃wo,wo=wr:=⟨_,rfl⟩
    subst OS;obtain⟨gko,Gs⟩:∃g,g=gk:=⟨_,rfl⟩
    subst Gs;go_wp2_with fail
    go_loopg [11,12] nO (fun gk sv iv wr=>∃(k:Nat) (sm:Int),sv=.int .i64 sm/\iv=.int .i64 k/\k+gk=nO/\sm=((OB.map (payF kd fc SLF id)).take k).sum/\Below w5.heap.size w5 wr)
    case atStart=>exact⟨0,0,rfl,rfl,by omega,rfl,Fd.out⟩
    case round =>
     obtain⟨k,sm,rfl,rfl,AH,GJ,A9⟩:=hrel;have B6:=Q0a AH;have ID:=Q0a A9;have GC:=Q0a GJ;clear AH A9 GJ;by_cases NF:k<nO
     ·obtain⟨x,hx⟩:∃y,OB[k]?=some y:=⟨_,J4R (by rw [Qp.out];exact NF)⟩
      obtain⟨gO,rfl,On⟩:=Lh.out k x hx;have FP:=J4O hx;obtain⟨Jw,Sw⟩:=Lb.out x FP;have D1:=Z9x Jw;have MH:=Fy.out wr ID.out x FP;have c0:=On wr ID.out;have OH:=Q0a On;obtain⟨ts0,ts1,ts2⟩:=Z0a (l:=OB.map (payF kd fc SLF id)) (fun y hy=>by obtain⟨z,_,rfl⟩:=J2E.1 hy;exact Z9y _ _ _ _ _) (k:=k) (x:=payF kd fc SLF id x) (by rw [J4l,hx];rfl);rw [<- GC.out] at ts0 ts1;rw [<- FA.out] at ts2;have Fk:Hid (sm+payF kd fc SLF id x=((OB.map (payF kd fc SLF id)).take (k+1)).sum/\sm+payF kd fc SLF id x<=ch):=⟨ts1,by rw [ts1];exact ts2⟩
      have OF:=Q0a FP;have JW:=Q0a Jw;have Bs:(0:Int)<=(k:Int):=by omega
      have A0:(k:Int)<(nO:Int):=by omega
      have A2:(k:Int)<512:=by have:=Tz.out;omega
      clear hx FP Jw On ts1 ts2;go_wp2_with fail;refine MH.mono ?_;rintro rv w6 ⟨rfl,CV⟩;have F5:=CV.alloc CV.size (.cells #[.int .i64 (kd x:Int),.int .i64 (ta x:Int),.int .i64 (fc x:Int)] 54);have Ce:=Q0a (Cells.new w6 54 [.int .i64 (kd x:Int),.int .i64 (ta x:Int),.int .i64 (fc x:Int)]);have FV:=Q0a (ID.out.trans (F5.mono ID.out.size));clear CV F5 MH c0;go_upto_region 20 with fail;generalize w6.alloc (.cells #[.int .i64 (kd x:Int),.int .i64 (ta x:Int),.int .i64 (fc x:Int)] 54)=w7 at *
      generalize w6.heap.size=bx at *
      obtain⟨P,hP⟩:∃P:Bool,P=((fc x:Int) != id):=⟨_,rfl⟩
      have q2:=Ce.out.cell 2 _ rfl;have qI:=Jj.out w7 FV.out
      go_cut [70] from 64 to 70 (fun bb wc=>bb=.bool P/\Below w7.heap.size w7 wc)
      case first =>
       have II:Hid (∀n,Below w7.heap.size w7 (w7.drewN n)):=fun n=>Q0Q (Below.refl _ _) n
       clear Lh Kt Fy Ib Lb Mu Ha Gu FA KX Gk Fk GC OF JW OH Jj Ce FV ID Fd
       go_quiet (fail)
       go_wp2_with fail;go_meet;exact⟨by rw [hP],II.out _⟩
      obtain⟨rfl,IP⟩:=hcut;have Je:=Q0a (FV.out.trans (IP.mono FV.out.size));have Fp:=Ce.out.same (IP.block bx Ce.out.lt);have r0:=Fp.cell 0 _ rfl;clear q2 qI IP Ce FV Fp;cases P with
      | true =>
       have Aa:¬(fc x:Int)=id:=by
        have:=hP.symm
        simpa using this
       have DB:payF kd fc SLF id x=0:=by unfold payF;rw [if_neg Aa]
       have HE:Hid (sm=((OB.map (payF kd fc SLF id)).take (k+1)).sum):=by have:=Fk.out.1;rw [DB] at this;refine Q0a ?_;omega
       clear r0 hP Aa DB Fk;go_wp2_with fail;go_roundg (nO-(k+1))
       case measure=>have:=B6.out;omega
       case rel=>exact⟨k+1,sm,rfl,by go_num,by have:=B6.out;omega,HE.out,Je.out⟩
      | false =>
       have Eb:(fc x:Int)=id:=by
        have:=hP.symm
        simpa using this
       have EU:payF kd fc SLF id x=(costK (kd x):Int)+(48*((SLF x).length:Int)+256*(Q1T (SLF x) (SLF x).length:Int)):=by unfold payF;rw [if_pos Eb]
       have Eh:=Mu.out x;have DE:=Z2l (SLF x) (SLF x).length;have Ns:Hid (sm+((costK (kd x):Int)+(48*((SLF x).length:Int)+256*(Q1T (SLF x) (SLF x).length:Int)))=((OB.map (payF kd fc SLF id)).take (k+1)).sum/\sm+((costK (kd x):Int)+(48*((SLF x).length:Int)+256*(Q1T (SLF x) (SLF x).length:Int)))<=1073741824):=by
        have h1:=Fk.out;have h2:=Gk.out;rw [EU] at h1;exact⟨h1.1,by have:=h1.2;omega⟩
       have Ct:sm<=1073741824:=by have:=Ns.out.2;omega
       have kc:=Z7i wc JW.out;have ks:=Ib.out;have MK:Hid (∀V,Below wc.heap.size wc V->Calls prog 32 #[.pointer (some ⟨zs,0,none⟩),.int .u32 x] V (NewIs V (SLF x))):=fun V hb=>Ib.out V (Je.out.trans (hb.mono Je.out.size)) x OF.out
       have Hs:=Q0a Eh;have qO:=OH.out wc Je.out;clear hP Eb EU Fk Eh DE ks;generalize hSL:SLF x=SL at *
       generalize Ca:costK (kd x)=cv at *
       clear hSL Ca;go_wp2_with fail;refine kc.mono ?_;rintro rv w8 ⟨rfl,rfl⟩;have ks:=MK.out _ (Below.refl _ _);clear kc r0;go_wp2_with fail;refine ks.mono ?_;intro rv w9 Qu;obtain⟨aS,OJ,rfl,R8,Ax⟩:=Qu.from'
       have Pb:=Q0a (Je.out.trans (R8.mono Je.out.size));have EK:=Q0a Ax;have D0:(SL.length:Int)<=256:=by have:=Hs.out.1;omega
       clear Qu R8 Ax ks qO MK;obtain⟨wp,Ov⟩:∃wo,wo=wr:=⟨_,rfl⟩
       subst Ov;obtain⟨gkp,Hk⟩:∃g,g=gk:=⟨_,rfl⟩
       subst Hk;go_wp2_with fail
       go_loopg [11,16] SL.length (fun gk sv iv wr=>∃(n:Nat) (sn:Int),sv=.int .i64 sn/\iv=.int .i64 n/\n+gk=SL.length/\sn=sm+(cv:Int)+48*(SL.length:Int)+256*(Q1T SL n:Int)/\Below w9.heap.size w9 wr)
       case atStart=>exact⟨0,_,rfl,rfl,by omega,by simp [Q1T],Below.refl _ _⟩
       case round =>
        obtain⟨n,sn,rfl,rfl,MY,Gb,MA⟩:=hrel;have G9:=Q0a MY;have C4:=Q0a MA;have Ev:=Q0a Gb;clear MY MA Gb;by_cases Cs:n<SL.length
        ·obtain⟨z,hz⟩:∃y,SL[n]?=some y:=⟨_,J4R Cs⟩
         obtain⟨gS,rfl,_,Ve,PK⟩:=EK.out n z hz;have JU:=Hs.out.2 z (J4O hz);have JL:∀V,Below wr.heap.size wr V->V.cell? ⟨gS,n,none⟩=some (.int .i64 z):=fun V hb=>(World.cell?_of_block (w:=w9) ((C4.out.trans (hb.mono C4.out.size)).block gS Ve)).trans PK
         have CQ:(0:Int)<=(n:Int):=by omega
         have CP:(n:Int)<(SL.length:Int):=by omega
         have FT:(n:Int)<256:=by omega
         have UJ:=Q7F SL (j:=n+1) (k:=SL.length) Cs;have Ao:Q1T SL (n+1)=Q1T SL n+if n=0∨z/16≠(SL[n-1]?.getD 0)/16 then 1 else 0:=by
          conv=>lhs;unfold Q1T
          rw [hz];rfl
         obtain⟨Q,hQ⟩:∃Q:Bool,Q=decide (n=0∨z/16≠(SL[n-1]?.getD 0)/16):=⟨_,rfl⟩
         have HQ:=Q0a hQ;have BP:=Q0a Ao;have Ls:0<=sn/\sn+(if Q=true then 256 else 0)<=1073741824/\sn+(if Q=true then 256 else 0)=sm+(cv:Int)+48*(SL.length:Int)+256*(Q1T SL (n+1):Int):=by
          have h1:=Ev.out;have h2:=Ns.out.2;rw [hQ];by_cases hc:n=0∨z/16≠(SL[n-1]?.getD 0)/16
          ·rw [if_pos hc] at Ao;simp only [hc,decide_true,if_true];omega
          ·rw [if_neg hc] at Ao;simp only [hc,decide_false,J6s,if_false];omega
         have Fn:=Q0a Ls;clear Ao UJ hQ Ls;go_upto_region 27 with fail
         go_cut [108] from 93 to 108 (fun bb wd=>bb=.bool Q/\Below wr.heap.size wr wd)
         case first =>
          have II:Hid (∀n,Below wr.heap.size wr (wr.drewN n)):=fun n=>Q0Q (Below.refl _ _) n
          clear Lh Kt Fy Ib Lb Mu Ha Gu FA KX Gk Ns GC OF JW OH Jj Je ID Fd Ev BP Fn Pb;by_cases e0:n=0
          ·subst e0;obtain rfl:Q=true:=by rw [HQ.out];simp
           go_quiet (fail)
           go_wp2_with fail;go_meet;exact⟨rfl,II.out _⟩
          ·have NK:((n:Int)==0)=false:=by simp;omega
           have S5:¬(n:Int)=0:=by omega
           obtain⟨y,hy⟩:∃y,SL[n-1]?=some y:=⟨_,J4R (by omega)⟩
           obtain⟨gS',e',_,Pm,PO⟩:=EK.out (n-1) y hy;cases e';have T9:=Hs.out.2 y (J4O hy);have q1:=JL wr (Below.refl _ _);have q2:wr.cell? ⟨gS,n-1,none⟩=some (.int .i64 y):=(World.cell?_of_block (w:=w9) (C4.out.block gS Pm)).trans PO;have t1:z.tdiv 16=z/16:=J4q JU.1;have t2:y.tdiv 16=y/16:=J4q T9.1;have Pw:Q=(z/16 != y/16):=by
            rw [HQ.out,hy];show decide (n=0∨z/16≠y/16)=_;by_cases e:z/16=y/16 <;> simp [e0,e]
           have en:((n-1:Nat):Int)=(n:Int)-1:=by omega
           have em:((n:Int)-1).toNat=n-1:=by omega
           have EX:(0:Int)<=(n:Int)-1:=by omega
           have Dm:(n:Int)-1<(SL.length:Int):=by omega
           obtain⟨za,Sp⟩:∃q,q=z/16:=⟨_,rfl⟩
           obtain⟨ya,QW⟩:∃q,q=y/16:=⟨_,rfl⟩
           have VX:wrap64 za=za:=Go.IntWalk.wrap64_in _ (by omega);have V0:wrap64 ya=ya:=Go.IntWalk.wrap64_in _ (by omega);rw [<- Sp] at t1 Pw;rw [<- QW] at t2 Pw;clear JL EK Hs HQ Sp QW hy hz PK PO
           go_quiet (fail)
           go_wp2_with fail;go_meet;exact⟨by rw [Pw],II.out _⟩
         obtain⟨rfl,LD⟩:=hcut;have Kb:=Q0a (C4.out.trans (LD.mono C4.out.size));clear LD JL PK HQ BP C4;cases Q with
         | true =>
          have h1:0<=sn/\sn+256<=1073741824:=by have:=Fn.out;simp only [if_true] at this;omega
          have HE:Hid (sn+256=sm+(cv:Int)+48*(SL.length:Int)+256*(Q1T SL (n+1):Int)):=by refine Q0a ?_;have:=Fn.out.2.2;simpa using this
          obtain⟨VW,V2⟩:=h1;clear Fn Ev;go_wp2_with fail;go_roundg (SL.length-(n+1))
          case measure=>have:=G9.out;omega
          case rel=>exact⟨n+1,sn+256,rfl,by go_num,by have:=G9.out;omega,HE.out,Kb.out⟩
         | false =>
          have HE:Hid (sn=sm+(cv:Int)+48*(SL.length:Int)+256*(Q1T SL (n+1):Int)):=by refine Q0a ?_;have:=Fn.out.2.2;simpa using this
          clear Fn Ev;go_wp2_with fail;go_roundg (SL.length-(n+1))
          case measure=>have:=G9.out;omega
          case rel=>exact⟨n+1,sn,rfl,by go_num,by have:=G9.out;omega,HE.out,Kb.out⟩
        ·obtain rfl:n=SL.length:=by have:=G9.out;omega
         have HE:Hid (sn=((OB.map (payF kd fc SLF id)).take (k+1)).sum):=by have h1:=Ev.out;have h2:=Ns.out.1;refine Q0a ?_;omega
         have U7:=Q0a (Pb.out.trans (C4.out.mono Pb.out.size));clear Ev C4;go_wp2_with fail;go_roundg (nO-(k+1))
         case measure=>have:=B6.out;omega
         case rel=>exact⟨k+1,sn,rfl,by go_num,by have:=B6.out;omega,HE.out,U7.out⟩
     ·obtain rfl:k=nO:=by have:=B6.out;omega
      have KB:sm=ch:=by
       rw [GC.out,FA.out,J4y (by rw [J4j,Qp.out];exact J2y _)]
      subst KB;clear GC FA Lh Fy Ib Lb Mu Fd;have Kn:0<=sm:=Gk.out.1;obtain⟨wp,Ov⟩:∃wo,wo=wr:=⟨_,rfl⟩
      subst Ov;obtain⟨gkp,Hk⟩:∃g,g=gk:=⟨_,rfl⟩
      subst Hk;go_wp2_with fail
      go_loopg [11,17] nI (fun gk sv iv wr=>∃(n:Nat) (sn:Int),sv=.int .i64 sn/\iv=.int .i64 n/\n+gk=nI/\sn=sm+((ids.map (fun k=>if par k=id then lim k else 0)).take n).sum/\Below w5.heap.size w5 wr)
      case atStart=>exact⟨0,sm,rfl,rfl,by omega,by simp,ID.out⟩
      case round =>
       obtain⟨n,sn,rfl,rfl,MY,Gb,MA⟩:=hrel;have G9:=Q0a MY;have C4:=Q0a MA;have Ev:=Q0a Gb;clear MY MA Gb;by_cases Cs:n<nI
       ·obtain⟨D3,hk⟩:∃y,ids[n]?=some y:=⟨_,J4R (by rw [OC.out];exact Cs)⟩
        obtain⟨gI',e',Nt⟩:=Kt.out n D3 hk;cases e';obtain⟨l0,l1,NR,P5⟩:=Ha.out wr C4.out n D3 hk;obtain⟨ts0,ts1,ts2⟩:=Z0a (l:=ids.map (fun k=>if par k=id then lim k else 0)) (fun y hy=>by
         obtain⟨z,hz,rfl⟩:=J2E.1 hy;obtain⟨j,hj⟩:=J5o.1 hz;have:=(Ha.out w5 (Below.refl _ _) j z hj).1;split <;> omega) (k:=n) (x:=if par D3=id then lim D3 else 0) (by rw [J4l,hk];rfl)
        rw [<- KX.out] at ts2;have Fk:Hid (sn+(if par D3=id then lim D3 else 0)=sm+((ids.map (fun k=>if par k=id then lim k else 0)).take (n+1)).sum/\0<=sn/\sn+(if par D3=id then lim D3 else 0)<=1073741824):=by
         have h1:=Ev.out;have h2:=Gk.out;refine Q0a ?_;rw [<- ts1];omega
        have IZ:Hid (∀V,Below w5.heap.size w5 V->Calls prog 34 #[.pointer (some ⟨qt,0,none⟩),.int .i64 D3] V fun r w'=>r=.returned (.int .i64 (lim D3))/\V=w'):=fun V hb=>(Ha.out V hb n D3 hk).2.2.2
        have Ps:Hid (∀V,Below w5.heap.size w5 V->Calls prog 33 #[.pointer (some ⟨qt,0,none⟩),.int .i64 D3] V fun r w'=>r=.returned (.int .i64 (par D3))/\V=w'):=fun V hb=>(Ha.out V hb n D3 hk).2.2.1
        have LW:=Q0a Nt;have CQ:(0:Int)<=(n:Int):=by omega
        have CP:(n:Int)<(nI:Int):=by omega
        have FT:(n:Int)<256:=by have:=Ss.out;omega
        clear hk ts0 ts1 ts2 NR P5 Nt Ev;generalize IQ:par D3=pk at *
        generalize Ik:lim D3=lk at *
        obtain⟨P,hP⟩:∃P:Bool,P=(pk==id):=⟨_,rfl⟩
        have HP:=Q0a hP;clear hP IQ Ik;go_upto_region 32 with fail
        go_cut [127] from 117 to 127 (fun bb wd=>bb=.bool P/\Below wr.heap.size wr wd)
        case first =>
         have Ce:Hid (Below wr.heap.size wr wr.drew):=(Below.refl _ _).drew;have II:Hid (Below wr.heap.size wr wr):=Below.refl _ _;have K0:Hid (∀V,Below wr.heap.size wr V->V.cell? ⟨gI,n,none⟩=some (.int .i64 D3)/\V.cell? ⟨gI,i,none⟩=some (.int .i64 id)):=fun V hb=>⟨LW.out V (C4.out.trans (hb.mono C4.out.size)),Jj.out V (C4.out.trans (hb.mono C4.out.size))⟩
         have Pj:Hid (∀V,Below wr.heap.size wr V->Calls prog 33 #[.pointer (some ⟨qt,0,none⟩),.int .i64 D3] V fun r w'=>r=.returned (.int .i64 pk)/\V=w'):=fun V hb=>Ps.out V (C4.out.trans (hb.mono C4.out.size))
         clear Kt Ha Gu KX Gk Fk Jj LW IZ Ps ID C4
         go_region_held3 (fun V=>V.cell? ⟨gI,n,none⟩=some (.int .i64 D3)/\V.cell? ⟨gI,i,none⟩=some (.int .i64 id))
          (first|exact K0.out _ Ce.out|exact K0.out _ II.out)
          (first|(go_at_call 33;refine (Pj.out _ Ce.out).mono ?_;rintro rv w' ⟨rfl,rfl⟩))
         all_goals (go_wp2_with fail;go_meet;exact⟨by rw [HP.out],Ce.out⟩)
        obtain⟨rfl,LD⟩:=hcut;have Kb:=Q0a (C4.out.trans (LD.mono C4.out.size));clear LD C4 Ps;cases P with
        | true =>
         have Eb:pk=id:=by have:=HP.out.symm;simpa using this
         have GA:=Fk.out;rw [if_pos Eb] at GA;obtain⟨MS,TK,Vn⟩:=GA;have HE:=Q0a MS;have kl:=IZ.out wc Kb.out;have qN:=LW.out wc Kb.out;have NF:0<=lk:=l0;clear Fk HP Eb MS IZ LW;go_wp2_with fail;refine kl.mono ?_;rintro rv w' ⟨rfl,rfl⟩;clear kl qN;go_wp2_with fail;go_roundg (nI-(n+1))
         case measure=>have:=G9.out;omega
         case rel=>exact⟨n+1,sn+lk,rfl,by go_num,by have:=G9.out;omega,HE.out,Kb.out⟩
        | false =>
         have Aa:¬pk=id:=by have:=HP.out.symm;simpa using this
         have GA:=Fk.out.1;rw [if_neg Aa] at GA;have HE:Hid (sn=_):=(Int.add_zero sn).symm.trans GA;clear Fk HP Aa GA IZ LW;go_wp2_with fail;go_roundg (nI-(n+1))
         case measure=>have:=G9.out;omega
         case rel=>exact⟨n+1,sn,rfl,by go_num,by have:=G9.out;omega,HE.out,Kb.out⟩
       ·obtain rfl:n=nI:=by have:=G9.out;omega
        have TC:sn=sm+gv:=by
         rw [Ev.out,KX.out,J4y (by rw [J4j,OC.out];exact J2y _)]
        subst TC;have Rb:=Gu.out wr C4.out;have qI:=Jj.out wr C4.out;obtain⟨-,-,Iw,Vp⟩:=Gk.out;have Lt:Hid (∀V,Below wr.heap.size wr V->V.cell? ⟨gI,i,none⟩=some (.int .i64 id)):=fun V hb=>Jj.out V (C4.out.trans (hb.mono C4.out.size))
        have J7:0<=gv:=Gk.out.2.1;clear Ev KX Gu Gk Jj Ha Kt ID;have N7:(sm+gv != sm+gv)=false:=by simp
        have I9:decide (lim id<sm+gv)=false:=decide_eq_false (by omega);go_wp2_with fail;refine Rb.mono ?_;rintro rv w8 ⟨rfl,FL,kl⟩;have UE:=Lt.out w8 FL;have Uy:=Q0a (C4.out.trans (FL.mono C4.out.size));have E6:(i:Int)<256:=by have:=Ss.out;omega
        clear Rb qI FL Lt;go_wp2_with fail;refine kl.mono ?_;rintro rv w' ⟨rfl,rfl⟩;clear kl UE;go_wp2_with fail;go_roundg (n-(i+1))
        case measure=>have:=IN.out;omega
        case rel=>exact⟨i+1,by go_num,by have:=IN.out;omega,Uy.out⟩
   ·obtain rfl:i=nI:=by have:=IN.out;omega
    have HR:Hid (Told w (.bool true) (.returned (.bool true)) wr):=⟨rfl,Ey.out.trans (Fd.out.mono Ey.out.size)⟩
    have I9:decide ((0:Int)<(i:Int))=true:=decide_eq_true SH;have SJ:decide (0<i)=true:=decide_eq_true (by omega);clear IN Fd Lh Kt Fy Ib Lb Mu Ha IA Ey;go_wp2_with fail
    first|exact HR.out|(go_ret;exact HR.out)
def Z7k:List (String×DataW Unit):=[("math/bits.deBruijn32tab", Rows.laid_math_bits_deBruijn32tab),("math/bits.deBruijn64tab", Rows.laid_math_bits_deBruijn64tab),("quartermaster/pool.costs", Rows.laid_quartermaster_pool_costs)]
def J2u:List Int:=[0,1,28,2,29,14,24,3,30,22,20,15,25,17,4,8,31,27,13,23,21,19,16,7,26,12,18,6,11,5,10,9]
theorem g32:prog.globalNamed "math/bits.deBruijn32tab" = some 2:=by kernel_rfl
theorem t32:(prog.globals[2]?).map (·.type)=some 317:=by kernel_rfl
theorem g64:prog.globalNamed "math/bits.deBruijn64tab" = some 1:=by kernel_rfl
theorem J2h:prog.globalNamed "quartermaster/pool.costs" = some 0:=by kernel_rfl
theorem t64:(prog.globals[1]?).map (·.type)=some 296:=by kernel_rfl
theorem J2v:(prog.globals[0]?).map (·.type)=some 138:=by kernel_rfl
theorem Z1f {W:World} (h:laidMetH prog Z7k W):Env W:=by
 rw [MakeChecks.laidMetH_plain _ _ _ (by kernel_rfl)] at h;have h1:laidMet prog (("math/bits.deBruijn32tab", Lib.tabData .u8 J2u)::[("math/bits.deBruijn64tab", Rows.laid_math_bits_deBruijn64tab),("quartermaster/pool.costs", Rows.laid_quartermaster_pool_costs)]) W:=h
 have hA:=Lib.tabIs_of_head g32 t32 underlying317 underlying5 (by kernel_rfl) (by kernel_rfl) h1;have h2:laidMet prog (("math/bits.deBruijn64tab", Lib.tabData .u8 (dbt.map fun (n:Nat)=>(n:Int)))::[("quartermaster/pool.costs", Rows.laid_quartermaster_pool_costs)]) W:=laidMet.tail h1
 have h3:laidMet prog (("quartermaster/pool.costs", Lib.tabData .i64 Z4i)::[]) W:=laidMet.tail h2
 have hB:=Lib.tabIs_of_head g64 t64 underlying296 underlying5 (by kernel_rfl) (by kernel_rfl) h2;have hC:=Lib.tabIs_of_head J2h J2v underlying138 underlying3 (by kernel_rfl) (by kernel_rfl) h3;have cB:TabB W:=by
  intro j v hv;have hj:=(J2Q.1 hv).1;have:=hB.cell g64 j (by simpa using hj);rw [this];congr 2;simp [List.getD,hv]
 have cC:TabC W:=by
  intro j v hv;have hj:=(J2Q.1 hv).1;have:=hC.cell J2h j (by simpa using hj);rw [this];congr 2;simp [List.getD,hv]
 refine⟨?_,cB,cC⟩;have c0:=World.block_lt_of_cell? W ⟨1,0,none⟩ (cB 0 0 rfl);have c1:=World.block_lt_of_cell? W ⟨0,0,none⟩ (cC 0 0 rfl);have c2:=World.block_lt_of_cell? W ⟨2,0,none⟩ (hA.cell g32 0 (by decide));have N6:1<W.heap.size:=c0;have QX:0<W.heap.size:=c1;have V9:2<W.heap.size:=c2;unfold GB;omega
end Go.Proofs.YtfidemmgofcnmaaGreatDoor

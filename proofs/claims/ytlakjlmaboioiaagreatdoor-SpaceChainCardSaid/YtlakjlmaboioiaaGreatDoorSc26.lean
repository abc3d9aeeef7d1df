/- SpaceChain returns true at every input. No condition. Part of its proof. -/
import Derived.Test.YtlakjlmaboioiaaGreatDoorSc25
import Derived.Test.YtlakjlmaboioiaaGreatDoorSc22
import Derived.Deep.LoopGhost
import Derived.Test.YtlakjlmaboioiaaGreatDoorSc01
import Derived.Lib.LaidTab
import Derived.LaidMore
import Derived.MakeChecks
import Derived.Stop.LaidErr
set_option linter.unusedVariables false
namespace Go.Proofs.YtlakjlmaboioiaaGreatDoor
open Go.RowKit
theorem kd_from {N:List (En Nd)} {next:Int} (ok:NOk N next) {x y u v:Int} (h:fromV N x y = some (u,v)):ownN N x y ∈ kdF N (ownN N u v):=by
  unfold fromV at h
  cases hf:find N (ownN N x y) with
  | none=>rw [hf] at h;cases h
  | some n =>
    rw [hf] at h
    simp only at h
    cases hm:find N n.q.par with
    | none=>rw [hm] at h;cases h
    | some m =>
      rw [hm] at h
      obtain⟨n1,n2⟩:=find_mem hf
      obtain⟨m1,m2⟩:=find_mem hm
      have hq:(m.q.sp,m.q.sl) = (u,v):=by simpa using h
      have hpos:=ok.rng m m1
      obtain⟨p,p1,p2⟩:=(ok.par n n1).2 (by omega)
      rw [hm] at p1
      cases p1
      have ho:ownN N u v = m.id:=by
        have:=ownN_some ok m1
        rw [show m.q.sp = u from congrArg Prod.fst hq,show m.q.sl = v from congrArg Prod.snd hq] at this
        exact this
      rw [ho]
      unfold kdF
      rw [findN_of_mem ok.ids m1,← n2]
      exact p2
theorem below_node {N:List (En Nd)} {next:Int} (ok:NOk N next) {id x:Int} (h:x ∈ belowT (kdF N) (rkF next) id):∃ n,find N x = some n∧n ∈ N∧n.id = x:=by
  obtain⟨h1,h2⟩:=(mem_belowT ok.tree).1 h
  rcases h1.last with h3 | ⟨z,_,hz⟩
  · exact absurd h3 h2
  · unfold kdF at hz
    cases hf:find N z with
    | none=>rw [hf] at hz;cases hz
    | some p =>
      rw [hf] at hz
      obtain⟨e,he,_⟩:=ok.kids p (find_mem hf).1 x hz
      exact⟨e,he,(find_mem he).1,(find_mem he).2⟩
theorem below_nd {N:List (En Nd)} {next:Int} (ok:NOk N next) (id:Int):(belowT (kdF N) (rkF next) id).Nodup:=(below_pair ok.tree id).imp fun h=>h.1
structure ChF (a:AV) (g n:Nat) (sl R:Nat→Nat):Prop where
  root:a.en 1 0 = some (g,15)
  en:∀ i,i < n→a.en 1 (sl i) = some (g,R (i + 1))
  only:∀ h s c,a.en h s = some c→h = 1∧(s = 0 ∨ ∃ i,i < n∧s = sl i)
  slb:∀ i,i < n→0 < sl i∧sl i < 256
  inj:∀ i j,i < n→j < n→sl i = sl j→i = j
  dn:∀ i,i < n→Dn (kdF a.N) (ownN a.N 1 0) (ownN a.N 1 (sl i:Int))
  r:∀ i,i < n→R (i + 1) < 16
def goneN (R:Nat→Nat) (m n:Nat):Nat:=((List.range n).filter fun i=>decide (less (R (i + 1)) m = 0)).length
theorem goneN_succ (R:Nat→Nat) (m n:Nat):goneN R m (n + 1) = goneN R m n + if less (R (n + 1)) m = 0 then 1 else 0:=by
  unfold goneN
  rw [List.range_succ,List.filter_append,List.length_append]
  by_cases h:less (R (n + 1)) m = 0 <;> simp [h]
theorem goneN_le (R:Nat→Nat) (m n:Nat):goneN R m n ≤ n:=by
  unfold goneN
  refine Nat.le_trans (List.length_filter_le _ _) ?_
  rw [List.length_range]
  exact Nat.le_refl _
theorem ChF.revoked {a:AV} {next:Int} (k:AvOk a next) {g n:Nat} {sl R:Nat→Nat} (F:ChF a g n sl R) {m:Nat} (hm:m < 16) :
    (weakA m a (belowT (kdF a.N) (rkF next) (ownN a.N 1 0))).2 = goneN R m n∧(weakA m a (belowT (kdF a.N) (rkF next) (ownN a.N 1 0))).1.en 1 0 = some (g,15)∧∀ i,i < n→(weakA m a (belowT (kdF a.N) (rkF next) (ownN a.N 1 0))).1.en 1 (sl i) = lessC m (some (g,R (i + 1))):=by
  obtain⟨n0,hn0,q1,q2⟩:=k.has 1 0 _ F.root
  have hid0:ownN a.N 1 0 = n0.id:=(ownN_iff k.ok hn0 1 0).2 ⟨q1,q2⟩
  have hnode:∀ i,i < n→∃ nd ∈ a.N,nd.q.sp = ((1:Nat):Int)∧nd.q.sl = (sl i:Int)∧ownN a.N 1 (sl i:Int) = nd.id:=fun i hi=>by
    obtain⟨nd,hnd,p1,p2⟩:=k.has 1 (sl i) _ (F.en i hi)
    exact⟨nd,hnd,p1,p2,(ownN_iff k.ok hnd 1 (sl i)).2 ⟨p1,p2⟩⟩
  have hne:∀ i,i < n→ownN a.N 1 (sl i:Int) ≠ ownN a.N 1 0:=fun i hi e=>by
    obtain⟨nd,hnd,p1,p2,p3⟩:=hnode i hi
    rw [p3,hid0] at e
    have e1:=findN_of_mem k.ok.ids hnd
    rw [e,findN_of_mem k.ok.ids hn0] at e1
    cases e1
    have:=(F.slb i hi).1
    rw [q2] at p2
    omega
  have hmem:∀ x,x ∈ belowT (kdF a.N) (rkF next) (ownN a.N 1 0) ↔ ∃ i,i < n∧x = ownN a.N 1 (sl i:Int):=fun x=>by
    constructor
    · intro hx
      obtain⟨nd,hf,hnd,rfl⟩:=below_node k.ok hx
      obtain⟨c,hc⟩:=k.is nd hnd
      have hsm:=k.ok.sm nd hnd
      obtain⟨h1,h2⟩:=F.only _ _ _ hc
      have hsp:nd.q.sp = 1:=by
        have h5:=Int.toNat_of_nonneg hsm.1
        rw [h1] at h5
        exact h5.symm
      have ho:=ownN_some k.ok hnd
      rcases h2 with h2 | ⟨i,hi,h2⟩
      · exfalso
        have hsl:nd.q.sl = 0:=by
          have h5:=Int.toNat_of_nonneg hsm.2.2.1
          rw [h2] at h5
          exact h5.symm
        rw [hsp,hsl] at ho
        exact ((mem_belowT k.ok.tree).1 hx).2 ho.symm
      · refine⟨i,hi,?_⟩
        have hsl:nd.q.sl = (sl i:Int):=by
          have h5:=Int.toNat_of_nonneg hsm.2.2.1
          rw [h2] at h5
          exact h5.symm
        rw [hsp,hsl] at ho
        exact ho.symm
    · rintro⟨i,hi,rfl⟩
      exact (mem_belowT k.ok.tree).2 ⟨F.dn i hi,hne i hi⟩
  have hnd:=below_nd k.ok (ownN a.N 1 0)
  obtain⟨_,_,hen,hcnt⟩:=weakA_all (m:=m) (next:=next) (belowT (kdF a.N) (rkF next) (ownN a.N 1 0)) a k.ok k.is hnd fun id hid=>by
    obtain⟨nd,h1,_⟩:=below_node k.ok hid
    exact⟨nd,h1⟩
  refine⟨?_,?_,fun i hi=>?_⟩
  · rw [hcnt]
    have hp:∀ i,i < n→(weak1 m a (ownN a.N 1 (sl i:Int))).2 = decide (less (R (i + 1)) m = 0):=fun i hi=>by
      obtain⟨nd,hnd,p1,p2,p3⟩:=hnode i hi
      rw [p3,weak1_some (m:=m) (findN_of_mem k.ok.ids hnd) p1 p2 (F.en i hi)]
      by_cases h:less (R (i + 1)) m = 0 <;> simp [h]
    have hinj:∀ i j,i < n→j < n→ownN a.N 1 (sl i:Int) = ownN a.N 1 (sl j:Int)→i = j:=fun i j hi hj e=>by
      obtain⟨nd,hnd,p1,p2,p3⟩:=hnode i hi
      obtain⟨ne,hne',r1,r2,r3⟩:=hnode j hj
      rw [p3,r3] at e
      have e1:=findN_of_mem k.ok.ids hnd
      rw [e,findN_of_mem k.ok.ids hne'] at e1
      cases e1
      rw [p2] at r2
      exact F.inj i j hi hj (by omega)
    have hB:(((List.range n).filter fun i=>decide (less (R (i + 1)) m = 0)).map fun i=>ownN a.N 1 (sl i:Int)).Nodup:=by
      refine List.pairwise_map.2 (List.Pairwise.imp_of_mem ?_ (List.nodup_range.filter _))
      intro i j hi hj hij e
      exact hij (hinj i j (List.mem_range.1 (List.mem_filter.1 hi).1) (List.mem_range.1 (List.mem_filter.1 hj).1) e)
    have:=len_of_mem (hnd.filter fun id=>(weak1 m a id).2) hB fun x=>by
      rw [List.mem_filter,hmem,List.mem_map]
      constructor
      · rintro⟨⟨i,hi,rfl⟩,h2⟩
        rw [hp i hi] at h2
        exact⟨i,List.mem_filter.2 ⟨List.mem_range.2 hi,h2⟩,rfl⟩
      · rintro⟨i,hi,rfl⟩
        obtain⟨h1,h2⟩:=List.mem_filter.1 hi
        have hi':=List.mem_range.1 h1
        exact⟨⟨i,hi',rfl⟩,by rw [hp i hi'];exact h2⟩
    rw [List.length_map] at this
    exact this
  · have h:=hen 1 0
    rw [show ((0:Nat):Int) = 0 from rfl,show ((1:Nat):Int) = 1 from rfl] at h
    rw [h,if_neg,F.root]
    intro hx
    exact ((mem_belowT k.ok.tree).1 hx).2 rfl
  · have h:=hen 1 (sl i)
    rw [show ((1:Nat):Int) = 1 from rfl] at h
    rw [h,if_pos ((hmem _).2 ⟨i,hi,rfl⟩),F.en i hi]
structure ChnI (a:AV) (next:Int) (g i:Nat) (R:Nat→Nat):Prop where
  en:∀ h s c,a.en h s = some c ↔ h = 1∧s ≤ i∧c = (g,R s)
  fr:∀ s:Nat,s < i→fromV a.N 1 ((s:Int) + 1) = some (1,(s:Int))
  r0:R 0 = 15
  r:∀ s,s ≤ i→R s < 16∧R s &&& 4 ≠ 0
  nx:next = i + 1
theorem and4':∀ a,a < 16→∀ b,b < 16→a &&& 4 = 0 ∨ b &&& 4 = 0 ∨ (a &&& b &&& 4 ≠ 0∧a &&& b ≠ 0∧a &&& b < 16):=by decide
theorem and4 (a:Nat) (ha:a < 16) (b:Nat) (hb:b < 16) (h1:a &&& 4 ≠ 0) (h2:b &&& 4 ≠ 0):a &&& b &&& 4 ≠ 0∧a &&& b ≠ 0∧a &&& b < 16:=by
  rcases and4' a ha b hb with h | h | h
  · exact absurd h h1
  · exact absurd h h2
  · exact h
theorem ChnI.next {a a':AV} {next:Int} {g i:Nat} {R:Nat→Nat} (k:AvOk a next) (I:ChnI a next g i R) {m b:Nat} (hi:i < 255) (hm:m < 16) (hm4:m &&& 4 ≠ 0) (he:a' = ⟨setA a.en 1 (i + 1) (some (g,R i &&& m)),addN a.N (ownN a.N 1 (i:Int)) (next + 1) b 1 ((i:Int) + 1)⟩) :
    ChnI a' (next + 1) g (i + 1) (fun s=>if s = i + 1 then R i &&& m else R s):=by
  subst he
  have hsrc:a.en 1 i = some (g,R i):=(I.en 1 i _).2 ⟨rfl,Nat.le_refl _,rfl⟩
  obtain⟨nd,hnd,q1,q2⟩:=k.has 1 i _ hsrc
  have hid:ownN a.N 1 (i:Int) = nd.id:=(ownN_iff k.ok hnd 1 i).2 ⟨q1,q2⟩
  have hf:=findN_of_mem k.ok.ids hnd
  have hno:∀ e ∈ a.N,(e.q.sp,e.q.sl) ≠ (1,(i:Int) + 1):=fun e he h=>by
    obtain⟨c,hc⟩:=k.is e he
    have h1:e.q.sp = 1:=congrArg Prod.fst h
    have h2:e.q.sl = (i:Int) + 1:=congrArg Prod.snd h
    have:=((I.en _ _ c).1 hc).2.1
    omega
  have hfr:=fun x y=>fromV_add (N:=a.N) (next:=next) k.ok (par:=ownN a.N 1 (i:Int)) (sp:=1) (sl:=(i:Int) + 1) b (.inr ⟨nd,by rw [hid];exact hf⟩) hno (by omega) (by omega) (by omega) (by omega) x y
  have h4:=and4 (R i) (I.r i (Nat.le_refl _)).1 m hm (I.r i (Nat.le_refl _)).2 hm4
  refine⟨fun h s c=>?_,fun s hs=>?_,?_,fun s hs=>?_,by rw [I.nx];omega⟩
  · show setA a.en 1 (i + 1) (some (g,R i &&& m)) h s = some c ↔ _
    by_cases hh:h = 1∧s = i + 1
    · rw [hh.1,hh.2,setA_same,if_pos rfl]
      constructor
      · intro e;exact⟨rfl,Nat.le_refl _,(Option.some.inj e).symm⟩
      · rintro⟨_,_,rfl⟩;rfl
    · rw [setA_ne hh,I.en]
      constructor
      · rintro⟨e1,e2,e3⟩
        exact⟨e1,by omega,by rw [if_neg (by omega)];exact e3⟩
      · rintro⟨e1,e2,e3⟩
        have:s ≠ i + 1:=fun e=>hh ⟨e1,e⟩
        rw [if_neg this] at e3
        exact⟨e1,by omega,e3⟩
  · show fromV (addN a.N (ownN a.N 1 (i:Int)) (next + 1) b 1 ((i:Int) + 1)) 1 ((s:Int) + 1) = _
    rw [hfr]
    by_cases hsi:s = i
    · subst hsi
      rw [if_pos ⟨rfl,rfl⟩,hid,hf]
      simp [q1,q2]
    · rw [if_neg (by rintro⟨_,e⟩;omega)]
      exact I.fr s (by omega)
  · rw [if_neg (by omega)];exact I.r0
  · by_cases e:s = i + 1
    · rw [if_pos e]
      exact⟨h4.2.2,h4.1⟩
    · rw [if_neg e]
      exact I.r s (by omega)
theorem ChnI.fin {a:AV} {next:Int} {g n:Nat} {R:Nat→Nat} (k:AvOk a next) (I:ChnI a next g n R) (hn:n < 200):ChF a g n (fun i=>i + 1) R:=by
  refine⟨(I.en 1 0 _).2 ⟨rfl,Nat.zero_le _,by rw [I.r0]⟩,fun i hi=>(I.en 1 (i + 1) _).2 ⟨rfl,hi,rfl⟩,fun h s c hc=>?_,fun i hi=>by omega,fun i j _ _ e=>by omega,fun i hi=>?_,fun i hi=>(I.r _ hi).1⟩
  · obtain⟨h1,h2,_⟩:=(I.en h s c).1 hc
    refine⟨h1,?_⟩
    cases s with
    | zero=>exact .inl rfl
    | succ s=>exact .inr ⟨s,by omega,rfl⟩
  · have key:∀ s:Nat,s ≤ n→Dn (kdF a.N) (ownN a.N 1 0) (ownN a.N 1 (s:Int)):=fun s=>by
      induction s with
      | zero=>intro _;exact Dn.here _
      | succ s ih =>
        intro hs
        have h1:=kd_from k.ok (I.fr s (by omega))
        refine (ih (by omega)).trans ?_
        refine Dn.down _ _ _ ?_ (Dn.here _)
        rw [show ((s + 1:Nat):Int) = (s:Int) + 1 by omega]
        exact h1
    exact key (i + 1) (by omega)
open Go.RowKit
theorem and15:∀ r,r < 16→r &&& 15 = r:=by decide
structure GrtI (a a':AV) (next:Int) (x s y t:Nat) (g r r':Nat):Prop where
  en:a'.en = setA (setA a.en y t (some (g,r'))) x s none
  fr:∀ u v:Int,fromV a'.N u v = if u = (x:Int)∧v = (s:Int) then none else if (u = (y:Int)∧v = (t:Int)) ∨ fromV a.N u v = some ((x:Int),(s:Int)) then fromV a.N (x:Int) (s:Int) else fromV a.N u v
theorem grant_of {a a':AV} {next:Int} (k:AvOk a next) {x s y t g r r' b:Nat} (hx:x < 4294967296) (hy:y < 4294967296) (hs:s < 256) (ht:t < 256) (hsrc:a.en x s = some (g,r)) (hfree:a.en y t = none)
    (he:weak1 15 ⟨setA a.en y t (some (g,r')),addN a.N (ownN a.N (x:Int) (s:Int)) (next + 1) b (y:Int) (t:Int)⟩ (ownN (addN a.N (ownN a.N (x:Int) (s:Int)) (next + 1) b (y:Int) (t:Int)) (x:Int) (s:Int)) = (a',true)):GrtI a a' next x s y t g r r':=by
  obtain⟨nd,hnd,q1,q2⟩:=k.has x s _ hsrc
  have hid:ownN a.N (x:Int) (s:Int) = nd.id:=(ownN_iff k.ok hnd x s).2 ⟨q1,q2⟩
  have hf:=findN_of_mem k.ok.ids hnd
  have hrng:=k.ok.rng nd hnd
  have hne:¬ (x = y∧s = t):=fun h=>by
    rw [h.1,h.2,hfree] at hsrc
    cases hsrc
  have hno:∀ e ∈ a.N,(e.q.sp,e.q.sl) ≠ ((y:Int),(t:Int)):=fun e he h=>by
    obtain⟨c,hc⟩:=k.is e he
    have h1:e.q.sp = (y:Int):=congrArg Prod.fst h
    have h2:e.q.sl = (t:Int):=congrArg Prod.snd h
    rw [h1,h2,Int.toNat_natCast,Int.toNat_natCast,hfree] at hc
    cases hc
  have hpar:ownN a.N (x:Int) (s:Int) = 0 ∨ ∃ p,find a.N (ownN a.N (x:Int) (s:Int)) = some p:=.inr ⟨nd,by rw [hid];exact hf⟩
  have ok1:=k.ok.add (par:=ownN a.N (x:Int) (s:Int)) (sp:=(y:Int)) (sl:=(t:Int)) b hpar hno (by omega) (by omega) (by omega) (by omega)
  have hfr1:=fun u v=>fromV_add (N:=a.N) (next:=next) k.ok (par:=ownN a.N (x:Int) (s:Int)) (sp:=(y:Int)) (sl:=(t:Int)) b hpar hno (by omega) (by omega) (by omega) (by omega) u v
  have hfa:=find_addN (N:=a.N) (next:=next) (par:=ownN a.N (x:Int) (s:Int)) (sp:=(y:Int)) (sl:=(t:Int)) (b:=b) k.ok nd.id
  rw [if_neg (by omega),hf] at hfa
  simp only [Option.map_some] at hfa
  generalize hN1:addN a.N (ownN a.N (x:Int) (s:Int)) (next + 1) b (y:Int) (t:Int) = N1 at *
  obtain⟨e1,he1⟩:∃ e1:En Nd,e1 = { nd with q:=if nd.id = ownN a.N (x:Int) (s:Int) then { nd.q with ks:=nd.q.ks ++ [next + 1] } else nd.q }:=⟨_,rfl⟩
  rw [← he1] at hfa
  have h1id:e1.id = nd.id:=by rw [he1]
  have h1sp:e1.q.sp = (x:Int):=by rw [he1];simp only;split <;> exact q1
  have h1sl:e1.q.sl = (s:Int):=by rw [he1];simp only;split <;> exact q2
  obtain⟨m1,m2⟩:=find_mem hfa
  have ho1:ownN N1 (x:Int) (s:Int) = e1.id:=by
    have:=ownN_some ok1 m1
    rwa [h1sp,h1sl] at this
  have hen1:(⟨setA a.en y t (some (g,r')),N1⟩:AV).en x s = some (g,r):=by
    show setA a.en y t (some (g,r')) x s = _
    rw [setA_ne hne];exact hsrc
  have hf1:find N1 e1.id = some e1:=by rw [h1id];exact hfa
  have hw:=weak1_some (m:=15) (a:=⟨setA a.en y t (some (g,r')),N1⟩) (id:=e1.id) hf1 h1sp h1sl hen1
  have hr:=k.r x s _ hsrc
  rw [if_pos (less_all r hr.2)] at hw
  rw [ho1,hw] at he
  have ha':=(Prod.mk.inj he).1
  rw [← ha']
  refine⟨rfl,fun u v=>?_⟩
  show fromV (liftN N1 e1 e1.q.ks.length) u v = _
  rw [fromV_lift ok1 hf1,h1sp,h1sl]
  by_cases h1:u = (x:Int)∧v = (s:Int)
  · rw [if_pos h1,if_pos h1]
  · rw [if_neg h1,if_neg h1]
    have hself:fromV N1 (x:Int) (s:Int) = fromV a.N (x:Int) (s:Int):=by
      rw [hfr1,if_neg]
      rintro⟨e2,e3⟩
      exact hne ⟨by omega,by omega⟩
    rw [hself,hfr1]
    by_cases h2:u = (y:Int)∧v = (t:Int)
    · have e:(if u = (y:Int)∧v = (t:Int) then (find a.N (ownN a.N (x:Int) (s:Int))).map (fun m=>(m.q.sp,m.q.sl)) else fromV a.N u v) = some ((x:Int),(s:Int)):=by
        rw [if_pos h2,hid,hf]
        simp [q1,q2]
      rw [if_pos e,if_pos (Or.inl h2)]
    · rw [if_neg h2]
      by_cases h3:fromV a.N u v = some ((x:Int),(s:Int))
      · rw [if_pos h3,if_pos (.inr h3)]
      · rw [if_neg h3,if_neg]
        rintro (h | h)
        · exact h2 h
        · exact h3 h
theorem ChnI.granted {a a':AV} {next:Int} {g n b:Nat} {R:Nat→Nat} (k:AvOk a next) (I:ChnI a next g n R) (h2:2 ≤ n) (hn:n ≤ 40) (k':AvOk a' (next + 1))
    (he:weak1 15 ⟨setA a.en 1 100 (some (g,R 1 &&& 15)),addN a.N (ownN a.N 1 1) (next + 1) b 1 100⟩ (ownN (addN a.N (ownN a.N 1 1) (next + 1) b 1 100) 1 1) = (a',true)):ChF a' g n (fun i=>if i = 0 then 100 else i + 1) R:=by
  have hsrc:a.en 1 1 = some (g,R 1):=(I.en 1 1 _).2 ⟨rfl,by omega,rfl⟩
  have hfree:a.en 1 100 = none:=by
    cases hh:a.en 1 100 with
    | none=>rfl
    | some c=>have:=((I.en _ _ _).1 hh).2.1;omega
  have G:=grant_of (x:=1) (s:=1) (y:=1) (t:=100) k (by omega) (by omega) (by omega) (by omega) hsrc hfree he
  have hr1:=(I.r 1 (by omega)).1
  have hen:∀ h s,a'.en h s = setA (setA a.en 1 100 (some (g,R 1))) 1 1 none h s:=fun h s=>by rw [G.en,and15 (R 1) hr1]
  have hfr:=G.fr
  have f0:fromV a.N 1 1 = some (1,0):=I.fr 0 (by omega)
  have g100:fromV a'.N 1 100 = some (1,0):=by
    rw [hfr,if_neg (by omega),if_pos (.inl ⟨rfl,rfl⟩)]
    exact f0
  have g2:fromV a'.N 1 2 = some (1,0):=by
    rw [hfr,if_neg (by omega),if_pos (.inr (I.fr 1 (by omega)))]
    exact f0
  have gs:∀ s:Nat,2 ≤ s→s < n→fromV a'.N 1 ((s:Int) + 1) = some (1,(s:Int)):=fun s h1 h3=>by
    rw [hfr,if_neg (by omega),I.fr s h3,if_neg]
    rintro (⟨_,h⟩ | h)
    · omega
    · have:=congrArg Prod.snd (Option.some.inj h)
      simp at this
      omega
  refine⟨?_,fun i hi=>?_,fun h s c hc=>?_,fun i hi=>?_,fun i j hi hj e=>?_,fun i hi=>?_,fun i hi=>(I.r _ hi).1⟩
  · rw [hen,setA_ne (by omega),setA_ne (by omega)]
    exact (I.en 1 0 _).2 ⟨rfl,Nat.zero_le _,by rw [I.r0]⟩
  · rw [hen,setA_ne (by split <;> omega)]
    by_cases h0:i = 0
    · rw [if_pos h0,setA_same,h0]
    · rw [if_neg h0,setA_ne (by omega)]
      exact (I.en 1 (i + 1) _).2 ⟨rfl,hi,rfl⟩
  · rw [hen] at hc
    rcases setA_cases hc with ⟨_,_,h0⟩ | ⟨hne,h1⟩
    · cases h0
    · rcases setA_cases h1 with ⟨e1,e2,_⟩ | ⟨_,h3⟩
      · exact⟨e1,.inr ⟨0,by omega,by simp [e2]⟩⟩
      · obtain⟨e1,e2,_⟩:=(I.en h s c).1 h3
        refine⟨e1,?_⟩
        cases s with
        | zero=>exact .inl rfl
        | succ s =>
          have:s ≠ 0:=fun e=>hne ⟨e1,by omega⟩
          exact .inr ⟨s,by omega,by rw [if_neg this]⟩
  · split <;> omega
  · split at e <;> split at e <;> omega
  · have key:∀ s:Nat,2 ≤ s→s ≤ n→Dn (kdF a'.N) (ownN a'.N 1 0) (ownN a'.N 1 (s:Int)):=fun s=>by
      induction s with
      | zero=>omega
      | succ s ih =>
        intro h1 h3
        by_cases h4:s = 1
        · subst h4
          exact Dn.down _ _ _ (kd_from k'.ok g2) (Dn.here _)
        · have hd:=kd_from k'.ok (gs s (by omega) (by omega))
          refine (ih (by omega) (by omega)).trans (Dn.down _ _ _ ?_ (Dn.here _))
          rw [show ((s + 1:Nat):Int) = (s:Int) + 1 by omega]
          exact hd
    by_cases h0:i = 0
    · rw [if_pos h0]
      exact Dn.down _ _ _ (kd_from k'.ok g100) (Dn.here _)
    · rw [if_neg h0]
      exact key (i + 1) (by omega) (by omega)
open Go.RowKit
theorem lt2_get (k a x m b y:Nat):pget (lt2 k a x m b y) 1 1 = some ⟨k,a,0,1,0,x⟩∧pget (lt2 k a x m b y) 1 2 = some ⟨m,b,0,1,0,y⟩:=⟨by kernel_rfl,by kernel_rfl⟩
theorem lt2_is (k a x m b y:Nat):((lt2 k a x m b y).filter Pl.is).length = 3:=by kernel_rfl
theorem lt2_cost (a x b y:Nat):costSum (lt2 2 a x 4 b y) 0 = 224:=by kernel_rfl
def ChQ0 (s:Nat) (w0 wr:World):Prop:=∃ Z a x b y,Z.s = s∧MkZ Z 1 65536 3 0 (lt2 2 a x 4 b y)∧Z.av = ⟨en0,[]⟩∧Z.F.next = 0∧Step [] Z.hl w0 wr
def ChQ (s i:Nat) (R:Nat→Nat) (v:Value) (L:List Int) (w0 wr:World):Prop:=∃ Z a x b y,Z.s = s∧MkZ Z 1 65536 3 ((i:Int) + 1) (lt2 2 a x 4 b y)∧ChnI Z.av Z.F.next 2 i R∧Step [] Z.hl w0 wr∧RowQ Z.hl v L w0 wr
def FinQ (s n:Nat) (sl R:Nat→Nat) (v:Value) (L:List Int) (w0 wr:World):Prop:=∃ (Z:SP) (a x b y:Nat) (M:Int),Z.s = s∧MkZ Z 1 65536 3 M (lt2 2 a x 4 b y)∧ChF Z.av 2 n sl R∧Step [] Z.hl w0 wr∧RowQ Z.hl v L w0 wr
def RevQ (s n:Nat) (sl R:Nat→Nat) (m:Nat) (v:Value) (L:List Int) (w0 wr:World):Prop:=∃ (Z:SP) (a x b y:Nat) (M:Int),Z.s = s∧MkZ Z 1 65536 3 M (lt2 2 a x 4 b y)∧Z.av.en 1 0 = some (2,15)∧(∀ i,i < n→Z.av.en 1 (sl i) = lessC m (some (2,R (i + 1))))∧Step [] Z.hl w0 wr∧RowQ Z.hl v L w0 wr
theorem RevQ.grown {s n:Nat} {sl R:Nat→Nat} {m:Nat} {v:Value} {L:List Int} {w0 wr w':World} (h:RevQ s n sl R m v L w0 wr) (hb:Below wr.heap.size wr w'):RevQ s n sl R m v L w0 w':=by
  obtain⟨Z,a,x,b,y,M,h1,h2,h3,h4,st,q⟩:=h
  exact⟨Z,a,x,b,y,M,h1,h2,h3,h4,st.trans (st.sep.grown hb),q.step (st.sep.grown hb)⟩
theorem ch_make {w w1:World} {S:CO} (f:FreshO S 6 65536 1) (st:Step [] (S.hl ++ []) w w1) :
    Calls Tryz.prog 16 #[.pointer (some ⟨S.c,0,none⟩),.int .u32 0,.int .i64 2,.int .i64 0] w1 fun r w2=>r = .returned (.tuple #[.int .u32 1,.int .i64 0]) ∧
      Calls Tryz.prog 16 #[.pointer (some ⟨S.c,0,none⟩),.int .u32 0,.int .i64 4,.int .i64 0] w2 fun r w3=>r = .returned (.tuple #[.int .u32 2,.int .i64 0]) ∧
        Calls Tryz.prog 17 #[.pointer (some ⟨S.c,0,none⟩)] w3 fun r w4=>∃ s,r = .returned (.pointer (some ⟨s,0,none⟩))∧ChQ0 s w w4:=by
  refine (mk_next (mkq_new f st) 2 1 (by omega) (by decide) (by omega) (by omega) fun l hl=>by subst hl;exact lt0_at).mono ?_
  rintro r w2 ⟨rfl,q2⟩
  refine⟨rfl,(mk_next q2 4 2 (by omega) (by decide) (by omega) (by omega) fun l hl=>by
    obtain⟨l0,a,x,rfl,rfl⟩:=hl
    exact lt1_at 2 a x).mono ?_⟩
  rintro r w3 ⟨rfl,S3,l,ec,⟨l1,b,y,⟨l2,a,x,rfl,rfl⟩,rfl⟩,m,st3⟩
  refine⟨rfl,?_⟩
  rw [← ec]
  refine (snew_any st3.sep fun _=>TB.emp).mono ?_
  rintro r w4 ⟨Z,rfl,hZ,st4⟩
  obtain⟨m1,m2,m3⟩:=mkz_new m hZ
  exact⟨Z.s,rfl,Z,a,x,b,y,rfl,m1,m2,m3,st3.trans st4⟩
theorem ch_root {s:Nat} {w0 wr:World} (h:ChQ0 s w0 wr) :
    Calls Tryz.prog 18 #[.pointer (some ⟨s,0,none⟩),.int .u32 1,.int .i64 0,.agg #[.int .u32 2,.int .i64 15]] wr fun r w'=>r = .returned (.int .i64 0)∧ChQ s 0 (fun _=>15) (.slice none 0 0) [] w0 w':=by
  obtain⟨Z,a,x,b,y,rfl,m,hC,hnx,st⟩:=h
  refine (sroot_any st.sep m.ok (by omega) (x:=1) (h:=2) (by omega) (by omega) 0 15).mono ?_
  rintro r w' ⟨er,rfl,R⟩
  obtain⟨g1,g2⟩:=lt2_get 2 a x 4 b y
  rw [← m.l] at g1 g2
  obtain⟨rfl,Z',k1,k2,k3,⟨b1,k4⟩,k5,k6⟩:=R.fine g1 rfl (by omega) g2 (by omega) (by show (4:Nat) = 8 ↔ (128:Int) ≤ 0;decide) (by rw [hC];rfl) fun er =>
    m.room [] [] (fun h s c hc=>by rw [hC] at hc;cases hc) (fun u v h=>by cases h) (o:=3) (by rw [lt2_is];exact Nat.le_refl _) (by simp) (cs:=224) (lt2_cost a x b y) (by simp)
  refine⟨rfl,Z',a,x,b,y,k2.s,m.same k1 k2,?_,st.trans k6,RowQ.nil _ _ _⟩
  have hN:Z.F.N = []:=by show Z.av.N = _;rw [hC]
  rw [hN,hnx] at k4
  rw [hC] at k3
  generalize hz:Z'.av = av at k3 k4
  obtain⟨en,N⟩:=av
  simp only at k3 k4
  refine⟨fun h s c=>?_,fun s hs=>by omega,rfl,fun s _=>⟨by omega,by decide⟩,by rw [k5,hnx];rfl⟩
  show en h s = some c ↔ _
  rw [k3]
  constructor
  · intro e
    rcases setA_cases e with ⟨e1,e2,e3⟩ | ⟨_,e3⟩
    · exact⟨e1,by omega,(Option.some.inj e3).symm⟩
    · cases e3
  · rintro⟨rfl,e2,rfl⟩
    obtain rfl:s = 0:=by omega
    rfl
theorem ch_room {Z:SP} {M:Int} {a x b y:Nat} (m:MkZ Z 1 65536 3 M (lt2 2 a x 4 b y)) {i:Nat} (hi:i ≤ 40) (hE:∀ h s c,Z.av.en h s = some c→h = 1∧s ≤ i) {j s:Nat} {er:Int}:¬ WhyL Z [] 0 j s er:=by
  refine m.room ((List.range (i + 1)).map fun s=>(1,s)) ((List.range 16).map fun k=>(1,k)) (fun h s c hc=>?_) (fun u v h=>?_) (o:=3) (by rw [lt2_is];exact Nat.le_refl _) (by simp;omega) (cs:=224) (lt2_cost a x b y) (by simp;omega)
  · obtain⟨rfl,h2⟩:=hE h s c hc
    exact List.mem_map.2 ⟨s,List.mem_range.2 (by omega),rfl⟩
  · obtain⟨t,ht,e⟩:=List.mem_map.1 h
    have h1:1 = u:=congrArg Prod.fst e
    have h2:t = v:=congrArg Prod.snd e
    have:=List.mem_range.1 ht
    exact List.mem_map.2 ⟨v / 16,List.mem_range.2 (by omega),by rw [h1]⟩
theorem mv_wf {a b c:Int} (g:Bool) (ha:0 ≤ a∧a < 1000) (hb:0 ≤ b∧b < 1000) (hc:0 ≤ c∧c < 1000):(⟨a,b,c,g⟩:Mv).Wf:=
  ⟨⟨by show (-9223372036854775808:Int) ≤ a;omega,by show a ≤ (9223372036854775807:Int);omega⟩,⟨by show (-9223372036854775808:Int) ≤ b;omega,by show b ≤ (9223372036854775807:Int);omega⟩,⟨by show (-9223372036854775808:Int) ≤ c;omega,by show c ≤ (9223372036854775807:Int);omega⟩⟩
theorem ch_move {s i:Nat} {R:Nat→Nat} {v:Value} {L:List Int} {w0 wr:World} (h:ChQ s i R v L w0 wr) (hi:i < 40) {m:Nat} (hm:m < 16) (hm4:m &&& 4 ≠ 0) :
    Calls Tryz.prog 19 #[.pointer (some ⟨s,0,none⟩),.int .u32 1,.int .u32 1,.slice (some ⟨wr.heap.size,0,none⟩) 1 1] (wr.alloc (.cells #[.int .i64 (i:Int),.int .i64 ((i:Int) + 1),.int .i64 (m:Int),.bool false] 39)) fun r w'=>r = .returned (.int .i64 0)∧ChQ s (i + 1) (fun t=>if t = i + 1 then R i &&& m else R t) v L w0 w':=by
  obtain⟨Z,a,x,b,y,rfl,mk,I,st,q⟩:=h
  have hb:=(Below.refl wr.heap.size wr).alloc (Nat.le_refl _) (.cells #[.int .i64 (i:Int),.int .i64 ((i:Int) + 1),.int .i64 (m:Int),.bool false] 39)
  have st2:=st.sep.grown hb
  have hmv:AsideM Z.hl 1 (fun _=>⟨(i:Int),(i:Int) + 1,(m:Int),false⟩) (some ⟨wr.heap.size,0,none⟩) (wr.alloc (.cells #[.int .i64 (i:Int),.int .i64 ((i:Int) + 1),.int .i64 (m:Int),.bool false] 39)):=asideM_new st.sep ⟨(i:Int),(i:Int) + 1,(m:Int),false⟩ (mv_wf _ (by omega) (by omega) (by omega))
  obtain⟨g1,g2⟩:=lt2_get 2 a x 4 b y
  rw [← mk.l] at g1
  have hRi:=I.r i (Nat.le_refl _)
  have h4:=and4 (R i) hRi.1 m hm hRi.2 hm4
  have hm0:m ≠ 0:=fun e=>by rw [e] at hm4;exact hm4 rfl
  have hsrc:Z.av.en 1 i = some (2,R i):=(I.en 1 i _).2 ⟨rfl,Nat.le_refl _,rfl⟩
  have hfree:Z.av.en 1 (i + 1) = none:=by
    cases hh:Z.av.en 1 (i + 1) with
    | none=>rfl
    | some c=>have:=((I.en _ _ _).1 hh).2.1;omega
  have e1:((i:Int) + 1).toNat = i + 1:=by omega
  have hfit:FitM Z.av.en 1 1 ⟨(i:Int),(i:Int) + 1,(m:Int),false⟩:=by
    refine⟨by simp only;omega,by simp only;omega,by simp only;omega,?_,⟨(2,R i),by simp only [Int.toNat_natCast];exact hsrc,hRi.2,by simp only [Int.toNat_natCast];exact h4.2.1⟩,by simp only [e1];exact hfree⟩
    simp only
    rw [decide_eq_true (by omega),decide_eq_true (by omega)]
  have hnx:=I.nx
  have km:=smove_any (n:=1) (cap:=1) (A:=fun _=>⟨(i:Int),(i:Int) + 1,(m:Int),false⟩) st2.sep mk.ok (by omega) (x:=1) (y:=1) (by omega) (by omega) (by omega) (by omega) hmv
  refine km.mono ?_
  rintro r w' ⟨er,rfl,RR⟩
  obtain⟨rfl,hz⟩:=RR.fine g1 rfl g1 rfl (allFit_one hfit) fun er hw=>ch_room mk (i:=i) (by omega) (fun h s c hc=>by
    obtain⟨h1,h2,_⟩:=(I.en h s c).1 hc
    exact⟨h1,h2⟩) (whyM_one hw)
  obtain⟨Z',c,b2,k1,k2,k3,k4,k5,k6⟩:=hz.one rfl
  simp only [Int.toNat_natCast] at k1
  rw [hsrc] at k1
  cases k1
  simp only [Int.toNat_natCast,e1] at k2
  have I':=I.next (a':=Z'.av) (b:=b2) mk.ok.avOk (by omega) hm hm4 k2
  refine⟨rfl,Z',a,x,b,y,k4.s,?_,by rw [k5];exact I',(st.trans st2).trans k6,(q.step st2).step k6⟩
  have:=mk.same k3 k4
  rw [show ((i + 1:Nat):Int) + 1 = (i:Int) + 1 + 1 by omega]
  exact this
theorem ch_app {s i:Nat} {R:Nat→Nat} {v:Value} {L:List Int} {w0 wr:World} (henv:Env w0) (h:ChQ s i R v L w0 wr) (hl:L.length ≤ 16777216) (x:Int):∃ v' w',(Builtin.append_ #[36,36] 36 #[v,.slice (some ⟨wr.heap.size,0,none⟩) 1 1]).run Tryz.prog (wr.alloc (.cells #[.int .i64 x] 3)) = .ok v' w'∧ChQ s i R v' (L ++ [x]) w0 w':=by
  obtain⟨Z,a,u,b,y,h1,h2,h3,st,q⟩:=h
  obtain⟨v',w',hr,q',st',_,_⟩:=q.app henv st hl x 36
  exact⟨v',w',hr,Z,a,u,b,y,h1,h2,h3,st',q'⟩
theorem ch_plain {s n:Nat} {R:Nat→Nat} {v:Value} {L:List Int} {w0 wr:World} (h:ChQ s n R v L w0 wr) (hn:n ≤ 40):FinQ s n (fun i=>i + 1) R v L w0 wr:=by
  obtain⟨Z,a,x,b,y,rfl,mk,I,st,q⟩:=h
  exact⟨Z,a,x,b,y,_,rfl,mk,I.fin mk.ok.avOk (by omega),st,q⟩
theorem ch_grant {s n:Nat} {R:Nat→Nat} {v:Value} {L:List Int} {w0 wr:World} (h:ChQ s n R v L w0 wr) (h2:2 ≤ n) (hn:n ≤ 40) :
    Calls Tryz.prog 19 #[.pointer (some ⟨s,0,none⟩),.int .u32 1,.int .u32 1,.slice (some ⟨wr.heap.size,0,none⟩) 1 1] (wr.alloc (.cells #[.int .i64 1,.int .i64 100,.int .i64 15,.bool true] 39)) fun r w'=>r = .returned (.int .i64 0)∧FinQ s n (fun i=>if i = 0 then 100 else i + 1) R v L w0 w':=by
  obtain⟨Z,a,x,b,y,rfl,mk,I,st,q⟩:=h
  have hb:=(Below.refl wr.heap.size wr).alloc (Nat.le_refl _) (.cells #[.int .i64 1,.int .i64 100,.int .i64 15,.bool true] 39)
  have st2:=st.sep.grown hb
  have hmv:AsideM Z.hl 1 (fun _=>⟨1,100,15,true⟩) (some ⟨wr.heap.size,0,none⟩) (wr.alloc (.cells #[.int .i64 1,.int .i64 100,.int .i64 15,.bool true] 39)):=asideM_new st.sep ⟨1,100,15,true⟩ ⟨⟨by decide,by decide⟩,⟨by decide,by decide⟩,⟨by decide,by decide⟩⟩
  obtain⟨g1,g2⟩:=lt2_get 2 a x 4 b y
  rw [← mk.l] at g1
  have hR1:=I.r 1 (by omega)
  have hsrc:Z.av.en 1 1 = some (2,R 1):=(I.en 1 1 _).2 ⟨rfl,by omega,rfl⟩
  have hfree:Z.av.en 1 100 = none:=by
    cases hh:Z.av.en 1 100 with
    | none=>rfl
    | some c=>have:=((I.en _ _ _).1 hh).2.1;omega
  have h15:=and15 (R 1) hR1.1
  have hR0:R 1 ≠ 0:=fun e=>by have:=hR1.2;rw [e] at this;exact this rfl
  have hfit:FitM Z.av.en 1 1 ⟨1,100,15,true⟩:=
    ⟨by decide,by decide,by decide,rfl,⟨(2,R 1),hsrc,hR1.2,by show R 1 &&& 15 ≠ 0;rw [h15];exact hR0⟩,hfree⟩
  have hnx:=I.nx
  have km:=smove_any (n:=1) (cap:=1) (A:=fun _=>⟨1,100,15,true⟩) st2.sep mk.ok (by omega) (x:=1) (y:=1) (by omega) (by omega) (by omega) (by omega) hmv
  refine km.mono ?_
  rintro r w' ⟨er,rfl,RR⟩
  obtain⟨rfl,hz⟩:=RR.fine g1 rfl g1 rfl (allFit_one hfit) fun er hw=>ch_room mk (i:=n) (by omega) (fun h s c hc=>by
    obtain⟨h1,h2,_⟩:=(I.en h s c).1 hc
    exact⟨h1,h2⟩) (whyM_one hw)
  obtain⟨Z',c,b2,av,k1,_,rfl,k2,k3,k4,k5,k6⟩:=hz.grant rfl
  obtain rfl:(2,R 1) = c:=by
    have k1':Z.av.en 1 1 = some c:=k1
    rw [hsrc] at k1'
    exact Option.some.inj k1'
  have k':=k3.avOk
  rw [k5] at k'
  have F:=I.granted (a':=Z'.av) (b:=b2) mk.ok.avOk h2 hn k' k2
  exact⟨rfl,Z',a,x,b,y,_,k4.s,mk.same k3 k4,F,(st.trans st2).trans k6,(q.step st2).step k6⟩
theorem FinQ.row {s n:Nat} {sl R:Nat→Nat} {v:Value} {L:List Int} {w0 wr:World} (h:FinQ s n sl R v L w0 wr):∃ (a:Option Addr) (cap:Nat),v = .slice a L.length cap:=by
  obtain⟨Z,a,x,b,y,M,_,_,_,_,q⟩:=h
  obtain⟨ad,cap,rfl,_⟩:=q.get
  exact⟨ad,cap,rfl⟩
theorem RevQ.cell {s n k cap:Nat} {sl R:Nat→Nat} {m:Nat} {a:Option Addr} {L:List Int} {w0 wr:World} (h:RevQ s n sl R m (.slice a k cap) L w0 wr) {j:Nat} {x:Int} (hj:L[j]? = some x):∃ g,a = some ⟨g,0,none⟩∧g < wr.heap.size∧wr.cell? ⟨g,j,none⟩ = some (.int .i64 x):=by
  obtain⟨Z,_,_,_,_,M,_,_,_,_,_,q⟩:=h
  obtain⟨ad,cap',e,hc⟩:=q.get
  cases e
  exact hc j x hj
theorem RevQ.below {s n:Nat} {sl R:Nat→Nat} {m:Nat} {v:Value} {L:List Int} {w0 wr:World} (h:RevQ s n sl R m v L w0 wr):Below w0.heap.size w0 wr:=by
  obtain⟨Z,_,_,_,_,M,_,_,_,_,st,_⟩:=h
  exact st.fresh
theorem ch_revoke {s n:Nat} {sl R:Nat→Nat} {v:Value} {L:List Int} {w0 wr:World} (h:FinQ s n sl R v L w0 wr) {m:Nat} (hm:1 ≤ m∧m ≤ 15) :
    Calls Tryz.prog 20 #[.pointer (some ⟨s,0,none⟩),.int .u32 1,.int .i64 0,.int .i64 (m:Int),.bool false] wr fun r w'=>r = .returned (.tuple #[.int .i64 (goneN R m n:Int),.int .i64 0])∧RevQ s n sl R m v L w0 w':=by
  obtain⟨Z,a,x,b,y,M,rfl,mk,F,st,q⟩:=h
  obtain⟨g1,g2⟩:=lt2_get 2 a x 4 b y
  rw [← mk.l] at g1
  refine (srevoke_any st.sep mk.ok (x:=1) (by omega) 0 (m:Int) false).mono ?_
  intro r w' RR
  obtain⟨nd,hnd,e1,e2,rfl,Z',k1,k2,k3,k4⟩:=RR.fine g1 rfl (by omega) (by omega) (c:=(2,15)) F.root
  have hid:ownN Z.av.N 1 0 = nd.id:=by
    have:=ownN_some mk.ok.fo.n hnd
    rw [e1,e2] at this
    exact this
  have hL:revL Z.F nd.id false = belowT (kdF Z.av.N) (rkF Z.F.next) (ownN Z.av.N 1 0):=by
    unfold revL
    rw [hid]
    show belowT (kdF Z.F.N) (rkF Z.F.next) nd.id ++ [] = _
    rw [List.append_nil]
    rfl
  rw [hL,Int.toNat_natCast] at k2 ⊢
  obtain⟨r1,r2,r3⟩:=F.revoked mk.ok.avOk (m:=m) (by omega)
  rw [r1]
  rw [← k2] at r2 r3
  exact⟨rfl,Z',a,x,b,y,_,k3.s,mk.same k1 k3.toSameN,r2,r3,st.trans k4,q.step k4⟩
theorem ch_look {s n:Nat} {sl R:Nat→Nat} {m:Nat} {v:Value} {L:List Int} {w0 wr:World} (h:RevQ s n sl R m v L w0 wr) {z:Nat} (hz:z < 256) {o:Option (Nat × Nat)} (ho:(z = 0∧o = some (2,15)) ∨ ∃ i,i < n∧z = sl i∧o = lessC m (some (2,R (i + 1)))) :
    Calls Tryz.prog 21 #[.pointer (some ⟨s,0,none⟩),.int .u32 1,.int .i64 (z:Int)] wr fun r w'=>r = .returned (lookT o)∧Below wr.heap.size wr w'∧RevQ s n sl R m v L w0 w':=by
  have h':=h
  obtain⟨Z,a,x,b,y,M,rfl,mk,hr,hE,st,q⟩:=h
  obtain⟨g1,g2⟩:=lt2_get 2 a x 4 b y
  rw [← mk.l] at g1
  have he:Z.av.en 1 z = o:=by
    rcases ho with ⟨rfl,rfl⟩ | ⟨i,hi,rfl,rfl⟩
    · exact hr
    · exact hE i hi
  have kl:=slook_any st.sep mk.ok (x:=1) (by omega) (z:Int)
  rw [lookV_av g1 rfl (by omega),Int.toNat_natCast,he] at kl
  refine kl.mono ?_
  rintro r w' ⟨rfl,hb⟩
  exact⟨rfl,hb,h'.grown hb⟩
end Go.Proofs.YtlakjlmaboioiaaGreatDoor
namespace Go.Proofs.YtlakjlmaboioiaaGreatDoor
open Go.ChangeShapes Go.WideShapes Go.ChangeAt Go.RowKit Go.Deep
def IsB8 (w:World) (a0:Option Addr) (len:Nat) (A:Nat→Nat):Prop:=∀ j,j < len→∃ g off,a0 = some ⟨g,off,none⟩∧g < w.heap.size∧w.cell? ⟨g,off + j,none⟩ = some (.int .u8 (A j:Int))∧A j < 256
theorem IsB8.read {w wr:World} {a0:Option Addr} {len:Nat} {A:Nat→Nat} (h:IsB8 w a0 len A) (hb:Below w.heap.size w wr) {j:Nat} (hj:j < len):∃ g off,a0 = some ⟨g,off,none⟩∧(∀ wr',Below w.heap.size w wr'→wr'.cell? ⟨g,off + j,none⟩ = some (.int .u8 (A j:Int)))∧A j < 256:=by
  obtain⟨g,off,h1,h2,h3,h4⟩:=h j hj
  exact⟨g,off,h1,fun wr' hb'=>(World.cell?_of_block (w:=w) (hb'.block g h2)).trans h3,h4⟩
theorem cellsB8:Tryz.prog.cellsOf 5 = 1:=by kernel_rfl
theorem open_b8s {H:Type} {enc:TypeId × Value→H} {w:World} {fuel:Nat} {a0:Option Addr} {len cap:Nat} {x:DataW H × List MemPlace}
    (h:DataW.trod enc Tryz.prog w 0 (fun _=>true) true fuel 22 [.slice a0 len cap] = some x):∃ A,IsB8 w a0 len A:=by
  rcases open_slice Tryz.underlying22 h with ⟨hcs,_⟩ | ⟨a,len',cap',m,n,D,Pl,hcs,_,hl,_,hmm,_,hi⟩
  · simp only [List.cons.injEq,Value.slice.injEq,and_true] at hcs
    obtain⟨rfl,rfl,rfl⟩:=hcs
    exact⟨fun _=>0,fun j hj=>absurd hj (Nat.not_lt_zero _)⟩
  · simp only [List.cons.injEq,Value.slice.injEq,and_true] at hcs
    obtain⟨rfl,rfl,rfl⟩:=hcs
    have hm:len ≤ m:=by rw [hmm];simp;exact hl
    have each:∀ j,j < len→∃ x:Nat,w.cell? (a.add j) = some (.int .u8 (x:Int))∧x < 256:=by
      intro j hj
      obtain⟨cs',hc,ht⟩:=hi j (by omega)
      rw [cellsB8,Nat.mul_one] at hc
      obtain⟨_,hcl,hat⟩:=World.cells?_some hc
      obtain⟨v,e0,_,hw⟩:=DataW.trod_int Tryz.underlying5 ht
      have hb:=bounds_u8 (n:=v) (by simp_all)
      obtain⟨y,rfl⟩:=Int.eq_ofNat_of_zero_le hb.1
      refine⟨y,?_,by omega⟩
      have:=hat 0 (by omega)
      simp only [e0] at this
      simpa [Addr.add] using this
    by_cases h0:len = 0
    · exact⟨fun _=>0,fun j hj=>by omega⟩
    · obtain⟨x0,c0,_⟩:=each 0 (by omega)
      have hp:=addr_plain5 (x:=a) (by simpa [Addr.add] using c0)
      refine⟨fun j=>if hj:j < len then (each j hj).choose else 0,fun j hj=>?_⟩
      obtain⟨h1,h2⟩:=(each j hj).choose_spec
      simp only [hj,dif_pos]
      generalize (each j hj).choose = y at h1 h2
      rw [hp,add_plain5] at h1
      exact⟨a.block,a.off,congrArg some hp,World.block_lt_of_cell? w ⟨a.block,a.off + j,none⟩ h1,h1,h2⟩
end Go.Proofs.YtlakjlmaboioiaaGreatDoor
namespace Go.Proofs.YtlakjlmaboioiaaGreatDoor
open Go.RowKit
theorem or4_i64:∀ x,x < 16→bits .or .i64 ((x:Nat):Int) 4 = ((x ||| 4:Nat):Int):=by decide
theorem or4_ok:∀ x,x < 16→x ||| 4 < 16∧(x ||| 4) &&& 4 ≠ 0:=by decide
set_option maxHeartbeats 4000000 in
set_option maxRecDepth 100000 in
theorem spaceChain_any {w:World} (henv:Env w) (a0:Option Addr) (n cap:Nat) (A:Nat→Nat) (hA:IsB8 w a0 n A) (mk:Nat) (hmk:mk < 256) (gr:Bool) :
    Calls Tryz.prog 3 #[.slice a0 n cap,.int .u8 (mk:Int),.bool gr] w (Told w (.bool true)):=by
  have ka:=alive17_any henv
  have h16:((2 ^ (6 + 10):Nat):Int) = 65536:=by decide
  have HNew:Hid (∀ W,Below w.heap.size w W→Calls Tryz.prog 15 #[.int .i64 65536,.int .i64 65536,.int .i64 1] W fun r w1=>∃ S:CO,r = .returned (.pointer (some ⟨S.c,0,none⟩))∧FreshO S 6 65536 1∧Step [] (S.hl ++ []) W w1):=fun W hb=>by
    have:=cnew_any (Sep.nil (henv.below hb)) 6 (by omega) (by omega) 65536 (by omega) (by rw [h16];omega) 1 (by omega) (by omega)
    rw [h16] at this
    exact this
  have HA:=hidden hA
  have HEnv:Hid (∀ W,Below w.heap.size w W→Env W):=fun W hb=>henv.below hb
  have HRefl:Hid (Below w.heap.size w w):=Below.refl _ _
  clear hA henv h16
  go_enter Tryz.func3,Tryz.ntmps3
  go_wp2_with fail
  refine ka.mono ?_
  rintro r w0 ⟨rfl,hb0⟩
  have HB0:=hidden hb0
  clear hb0 ka
  by_cases hn:n ≤ 40
  · have hn1:(n:Int) ≤ 40:=by omega
    have hn0:(0:Int) ≤ (n:Int):=by omega
    have kn:=HNew.out w0 HB0.out
    have HN0:=hidden (HEnv.out w0 HB0.out)
    go_wp2_with fail
    refine kn.mono ?_
    rintro r w1 ⟨S,rfl,hf,st⟩
    have HM:=hidden (ch_make hf st)
    generalize S.c = c at *
    clear hf st kn HNew
    go_wp2_with fail
    refine HM.out.mono ?_
    rintro r w2 ⟨rfl,hm⟩
    have HM2:=hidden hm
    clear hm HM
    go_wp2_with fail
    refine HM2.out.mono ?_
    rintro r w3 ⟨rfl,hm⟩
    have HM3:=hidden hm
    clear hm HM2
    go_wp2_with fail
    refine HM3.out.mono ?_
    rintro r w4 ⟨s,rfl,hq⟩
    have HR0:=hidden (ch_root hq)
    clear hq HM3
    go_wp2_with fail
    refine HR0.out.mono ?_
    rintro r w5 ⟨rfl,hq⟩
    have HQ:=hidden hq
    clear hq HR0
    go_wp2_with fail
    have HBw:Hid (∀ (i:Nat) (R:Nat→Nat) (v:Value) (L:List Int) (W:World),ChQ s i R v L w0 W→Below w.heap.size w W):=fun i R v L W h=>by
      obtain⟨Z,_,_,_,_,_,_,_,st,_⟩:=h
      exact HB0.out.trans (st.fresh.mono HB0.out.size)
    go_loopg [13,14,15] n (fun gk rv vv iv wr=>∃ (i:Nat) (R:Nat→Nat),iv = .int .i64 (i:Int)∧i + gk = n∧rv = .int .i64 (R i:Int)∧R i < 16∧ChQ s i R vv ((List.range i).map fun j=>(R (j + 1):Int)) w0 wr)
    case atStart=>exact⟨0,fun _=>15,rfl,by omega,rfl,by decide,HQ.out⟩
    case round =>
      clear HQ
      obtain⟨i,R,rfl,hig,rfl,hR16,hq⟩:=hrel
      have HIG:=hidden hig
      have HQ:=hidden hq
      clear hq hig
      by_cases hlt:i < n
      · obtain⟨g,off,rfl,hrd,hA256⟩:=HA.out.read HRefl.out hlt
        have hcell:=hrd wr (HBw.out _ _ _ _ _ HQ.out)
        obtain⟨ho1,ho2⟩:=or4_ok (A i % 16) (by omega)
        have hmod:((A i:Nat):Int).tmod 16 = ((A i % 16:Nat):Int):=by rw [Int.tmod_eq_emod_of_nonneg (by omega)];omega
        have hor:=or4_i64 (A i % 16) (by omega)
        have hand:=i64_and16 (R i) (A i % 16 ||| 4) hR16 ho1
        have hwa:IntKind.i64.wrap ((A i:Nat):Int) = ((A i:Nat):Int):=Go.IntWalk.i64_in _ (by omega)
        have HMv:=hidden (ch_move HQ.out (by omega) ho1 ho2)
        have hA0:(0:Int) ≤ ((A i:Nat):Int):=by omega
        have hA1:((A i:Nat):Int) < 256:=by omega
        have hi0:(0:Int) ≤ (i:Int):=by omega
        have hi1:(i:Int) < 40:=by omega
        have HLt:=hidden hlt
        have HR16:Hid (R i &&& (A i % 16 ||| 4) < 16):=by
          have:=and_bound16 (R i) hR16 (A i % 16 ||| 4) ho1
          show _ < _
          omega
        generalize hm:A i % 16 ||| 4 = m at *
        generalize hx:A i % 16 = x at *
        clear hrd hA256 ho1 ho2 hm hx hR16
        go_wp2_with fail
        refine HMv.out.mono ?_
        rintro r w6 ⟨rfl,hq⟩
        obtain⟨v7,w7,happ,hq7⟩:=ch_app HN0.out hq (by simp;omega) ((R i &&& m:Nat):Int)
        have HQ7:=hidden hq7
        clear hq hq7 HMv HQ hcell
        go_wp2_with (at_builtin;refine Lib.wpList_append_run _ rfl _ _ _ _ rfl _ _ rfl rfl _ _ happ ?_)
        clear happ
        go_roundg (n - (i + 1))
        case measure=>have:=HIG.out;omega
        case rel =>
          refine⟨i + 1,fun t=>if t = i + 1 then R i &&& m else R t,by go_num,by have:=HIG.out;omega,by simp,by simpa using HR16.out,?_⟩
          have e:(List.range (i + 1)).map (fun j=>(((fun t=>if t = i + 1 then R i &&& m else R t) (j + 1):Nat):Int)) = (List.range i).map (fun j=>(R (j + 1):Int)) ++ [((R i &&& m:Nat):Int)]:=by
            rw [List.range_succ,List.map_append]
            congr 1
            · refine List.map_congr_left fun j hj=>?_
              have:=List.mem_range.1 hj
              simp only
              rw [if_neg (by omega)]
            · simp
          rw [e]
          exact HQ7.out
      · have hin:n = i:=by have:=HIG.out;omega
        clear HIG
        subst hin
        have HQn:=HQ
        clear HQ
        go_upto_region 22 with fail
        have HPl:Hid (FinQ s n (fun i=>if i = 0 then 1 else i + 1) R u14 ((List.range n).map fun j=>(R (j + 1):Int)) w0 wr):=by
          have:=ch_plain HQn.out hn
          have e:(fun i:Nat=>i + 1) = (fun i=>if i = 0 then 1 else i + 1):=by
            funext i
            split <;> omega
          rw [e] at this
          exact this
        obtain⟨B,hB⟩:∃ B:Bool,B = (gr && decide (1 < (n:Int))):=⟨_,rfl⟩
        have HBt:Hid (B = true→2 ≤ n):=fun h=>by
          rw [hB] at h
          simp at h
          omega
        go_cut [96] from 91 to 96 (fun bb wc=>bb = .bool B∧wc = wr)
        case first =>
          clear HA HEnv HBw HPl HQn HBt
          cases gr with
          | false =>
            subst hB
            go_wp2_with fail
            go_meet
            exact⟨rfl,rfl⟩
          | true =>
            by_cases h2:(1:Int) < (n:Int)
            · have hB2:B = true:=by rw [hB];simp;omega
              clear hB
              subst hB2
              go_wp2_with fail
              go_meet
              exact⟨by simp <;> omega,rfl⟩
            · have hB2:B = false:=by rw [hB];simp;omega
              clear hB
              subst hB2
              go_wp2_with fail
              go_meet
              exact⟨by simp <;> omega,rfl⟩
        obtain⟨rfl,rfl⟩:=hcut
        clear hB
        go_upto_if 96 with fail
        go_cut [17] from 97 to 103 (fun kk wc=>∃ at':Nat,kk = .int .i64 (at':Int)∧(at' = 1 ∨ at' = 100)∧FinQ s n (fun i=>if i = 0 then at' else i + 1) R u14 ((List.range n).map fun j=>(R (j + 1):Int)) w0 wc)
        case first =>
          cases B with
          | false =>
            clear HA HEnv HBw HQn HBt
            go_wp2_with fail
            go_meet
            exact⟨1,rfl,.inl rfl,HPl.out⟩
          | true =>
            have HG:=hidden (ch_grant HQn.out (HBt.out rfl) hn)
            clear HA HEnv HBw HPl HBt
            go_wp2_with fail
            refine HG.out.mono ?_
            rintro r w6 ⟨rfl,hq⟩
            have HF:=hidden hq
            clear hq HG HQn
            go_wp2_with fail
            go_meet
            exact⟨100,rfl,.inr rfl,HF.out⟩
        obtain⟨at',rfl,hat,hF⟩:=hcut
        obtain⟨ar,capr,hv⟩:=hF.row
        rw [List.length_map,List.length_range] at hv
        subst hv
        obtain⟨sl,hsl⟩:∃ sl:Nat→Nat,sl = fun i=>if i = 0 then at' else i + 1:=⟨_,rfl⟩
        rw [← hsl] at hF
        have hmod:((mk:Nat):Int).tmod 15 = ((mk % 15:Nat):Int):=by rw [Int.tmod_eq_emod_of_nonneg (by omega)];omega
        have hwm:IntKind.i64.wrap ((mk:Nat):Int) = ((mk:Nat):Int):=Go.IntWalk.i64_in _ (by omega)
        have hk0:(0:Int) ≤ ((mk:Nat):Int):=by omega
        have hk1:((mk:Nat):Int) < 256:=by omega
        have kr:=ch_revoke hF (m:=1 + mk % 15) (by omega)
        have hx15:mk % 15 < 15:=by omega
        generalize mk % 15 = xm at *
        rw [show ((1 + xm:Nat):Int) = 1 + (xm:Int) by omega] at kr
        have HKr:=hidden kr
        have hm16:1 + xm < 16:=by omega
        have hx0:(0:Int) ≤ (xm:Int):=by omega
        have hx1:(xm:Int) < 15:=by omega
        have HRb:Hid (∀ i,i < n→R (i + 1) < 16):=by
          obtain⟨Z,_,_,_,_,M,_,_,F,_,_⟩:=hF
          exact F.r
        have HSl:=hidden hsl
        have HAt:=hidden hat
        clear kr hF hx15 hsl hat HQn HBw HA
        go_wp2_with fail
        refine HKr.out.mono ?_
        rintro r w7 ⟨rfl,hq⟩
        have HQ7:=hidden hq
        clear hq HKr
        obtain⟨mm,hmm⟩:∃ mm,mm = 1 + xm:=⟨_,rfl⟩
        rw [← hmm] at HQ7 hm16
        have hmmi:(1:Int) + (xm:Int) = (mm:Int):=by omega
        rw [hmmi,← hmm]
        clear hmm hmmi
        have HLt7:=hidden HQ7.out.below
        go_wp2_with fail
        go_loopg [21,22] n (fun gk gv iv wl=>∃ i:Nat,iv = .int .i64 (i:Int)∧gv = .int .i64 (goneN R mm i:Int)∧i + gk = n∧RevQ s n sl R mm (.slice ar n capr) ((List.range n).map fun j=>(R (j + 1):Int)) w0 wl)
        case atStart=>exact⟨0,rfl,rfl,by omega,HQ7.out⟩
        case round =>
          clear HQ7
          obtain⟨i,rfl,rfl,hig,hq⟩:=hrel
          have HIG:=hidden hig
          have HQ:=hidden hq
          clear hq hig
          by_cases hlt:i < n
          · have hR16:=HRb.out i hlt
            have han:=i64_andNot (R (i + 1)) mm hR16 hm16
            have hrow:((List.range n).map fun j=>(R (j + 1):Int))[i]? = some ((R (i + 1):Nat):Int):=by simp [hlt]
            have hi0:(0:Int) ≤ (i:Int):=by omega
            have hi1:(i:Int) < 40:=by omega
            have hin:(i:Int) < (n:Int):=by omega
            rcases Nat.eq_zero_or_pos i with h0 | h0
            · subst h0
              have hsz:sl 0 = at':=by rw [HSl.out];rfl
              have kl:=ch_look HQ.out (z:=at') (by have:=HAt.out;omega) (.inr ⟨0,hlt,hsz.symm,rfl⟩)
              clear hsz
              go_wp2_with fail
              refine kl.mono ?_
              rintro r w8 ⟨rfl,hb8,hq8⟩
              have HQ8:=hidden hq8
              have HNx:Hid (goneN R mm (0 + 1) = goneN R mm 0 + if less (R (0 + 1)) mm = 0 then 1 else 0):=goneN_succ R mm 0
              have hg9:=goneN_le R mm 0
              have hgi:(goneN R mm 0:Int) ≤ 40:=by omega
              have hg0:(0:Int) ≤ (goneN R mm 0:Int):=by omega
              clear hb8 hq8 kl hg9
              by_cases hls:less (R (0 + 1)) mm = 0
              · have hlc:lessC mm (some (2,R (0 + 1))) = none:=by
                  show (if less (R (0 + 1)) mm = 0 then none else some (2,less (R (0 + 1)) mm)) = none
                  rw [if_pos hls]
                rw [hlc]
                unfold lookT
                have hq9:=HQ8.out.grown ((Below.refl w8.heap.size w8).alloc (Nat.le_refl _) (.cells #[.int .u32 0,.int .i64 0] 35))
                obtain⟨gr2,e2,_,hcl⟩:=hq9.cell hrow
                have HQ9:=hidden hq9
                have HN1:Hid (goneN R mm (0 + 1) = goneN R mm 0 + 1):=by rw [HNx.out,if_pos hls];exact rfl
                rw [hls] at han
                have HE2:=hidden e2
                clear hlc hls hq9 HQ8 HNx
                subst e2
                go_wp2_with fail
                go_region
                go_wp2_with fail
                go_roundg (n - (0 + 1))
                case measure=>have:=HIG.out;omega
                case rel=>exact⟨0 + 1,by go_num,by rw [HN1.out];go_num,by have:=HIG.out;omega,HQ9.out.grown (Below.refl _ _).drew⟩
              · have hlc:lessC mm (some (2,R (0 + 1))) = some (2,less (R (0 + 1)) mm):=by
                  show (if less (R (0 + 1)) mm = 0 then none else some (2,less (R (0 + 1)) mm)) = _
                  rw [if_neg hls]
                rw [hlc]
                unfold lookT
                have hq9:=HQ8.out.grown ((Below.refl w8.heap.size w8).alloc (Nat.le_refl _) (.cells #[.int .u32 2,.int .i64 ((less (R (0 + 1)) mm:Nat):Int)] 35))
                obtain⟨gr2,e2,_,hcl⟩:=hq9.cell hrow
                have HQ9:=hidden hq9
                have HN1:Hid (goneN R mm (0 + 1) = goneN R mm 0):=by rw [HNx.out,if_neg hls,Nat.add_zero];exact rfl
                have hlz:(((less (R (0 + 1)) mm:Nat):Int) == 0) = false:=by simpa using hls
                clear hlc hls hq9 HQ8 HNx
                generalize less (R (0 + 1)) mm = lr at *
                subst e2
                go_wp2_with fail
                go_region
                go_wp2_with fail
                go_roundg (n - (0 + 1))
                case measure=>have:=HIG.out;omega
                case rel=>exact⟨0 + 1,by go_num,by rw [HN1.out],by have:=HIG.out;omega,HQ9.out.grown (Below.refl _ _).drew⟩
            · have hsz:sl i = i + 1:=by rw [HSl.out];simp only;rw [if_neg (by omega)]
              have kl:=ch_look HQ.out (z:=i + 1) (by omega) (.inr ⟨i,hlt,hsz.symm,rfl⟩)
              rw [show ((i + 1:Nat):Int) = (i:Int) + 1 by omega] at kl
              have hne1:(((i:Int) + 1) == 1) = false:=by simp;omega
              have hne2:¬ ((i:Int) + 1) = 1:=by omega
              clear hsz
              go_wp2_with fail
              refine kl.mono ?_
              rintro r w8 ⟨rfl,hb8,hq8⟩
              have HQ8:=hidden hq8
              have HNx:Hid (goneN R mm (i + 1) = goneN R mm i + if less (R (i + 1)) mm = 0 then 1 else 0):=goneN_succ R mm i
              have hg9:=goneN_le R mm i
              have hgi:(goneN R mm i:Int) ≤ 40:=by omega
              have hg0:(0:Int) ≤ (goneN R mm i:Int):=by omega
              clear hb8 hq8 kl hg9
              by_cases hls:less (R (i + 1)) mm = 0
              · have hlc:lessC mm (some (2,R (i + 1))) = none:=by
                  show (if less (R (i + 1)) mm = 0 then none else some (2,less (R (i + 1)) mm)) = none
                  rw [if_pos hls]
                rw [hlc]
                unfold lookT
                have hq9:=HQ8.out.grown ((Below.refl w8.heap.size w8).alloc (Nat.le_refl _) (.cells #[.int .u32 0,.int .i64 0] 35))
                obtain⟨gr2,e2,_,hcl⟩:=hq9.cell hrow
                have HQ9:=hidden hq9
                have HN1:Hid (goneN R mm (i + 1) = goneN R mm i + 1):=by rw [HNx.out,if_pos hls];exact rfl
                rw [hls] at han
                have HE2:=hidden e2
                clear hlc hls hq9 HQ8 HNx
                subst e2
                go_wp2_with fail
                go_region
                go_wp2_with fail
                go_roundg (n - (i + 1))
                case measure=>have:=HIG.out;omega
                case rel=>exact⟨i + 1,by go_num,by rw [HN1.out];go_num,by have:=HIG.out;omega,HQ9.out.grown (Below.refl _ _).drew⟩
              · have hlc:lessC mm (some (2,R (i + 1))) = some (2,less (R (i + 1)) mm):=by
                  show (if less (R (i + 1)) mm = 0 then none else some (2,less (R (i + 1)) mm)) = _
                  rw [if_neg hls]
                rw [hlc]
                unfold lookT
                have hq9:=HQ8.out.grown ((Below.refl w8.heap.size w8).alloc (Nat.le_refl _) (.cells #[.int .u32 2,.int .i64 ((less (R (i + 1)) mm:Nat):Int)] 35))
                obtain⟨gr2,e2,_,hcl⟩:=hq9.cell hrow
                have HQ9:=hidden hq9
                have HN1:Hid (goneN R mm (i + 1) = goneN R mm i):=by rw [HNx.out,if_neg hls,Nat.add_zero];exact rfl
                have hlz:(((less (R (i + 1)) mm:Nat):Int) == 0) = false:=by simpa using hls
                clear hlc hls hq9 HQ8 HNx
                generalize less (R (i + 1)) mm = lr at *
                subst e2
                go_wp2_with fail
                go_region
                go_wp2_with fail
                go_roundg (n - (i + 1))
                case measure=>have:=HIG.out;omega
                case rel=>exact⟨i + 1,by go_num,by rw [HN1.out],by have:=HIG.out;omega,HQ9.out.grown (Below.refl _ _).drew⟩
          · have hin:n = i:=by have:=HIG.out;omega
            clear HIG
            subst hin
            have kl:=ch_look HQ.out (z:=0) (by omega) (.inl ⟨rfl,rfl⟩)
            unfold lookT at kl
            have HEnd:Hid (∀ W W',RevQ s n sl R mm (.slice ar n capr) ((List.range n).map fun j=>(R (j + 1):Int)) w0 W→Below W.heap.size W W'→Below w.heap.size w W'):=fun W W' h hb=>by
              have h1:=HB0.out.trans (h.below.mono HB0.out.size)
              exact h1.trans (hb.mono h1.size)
            clear HQ
            go_wp2_with fail
            refine kl.mono ?_
            rintro r w8 ⟨rfl,hb8,hq8⟩
            have HR:=hidden (HEnd.out _ _ hq8 ((Below.refl w8.heap.size w8).alloc (Nat.le_refl _) (.cells #[.int .u32 2,.int .i64 15] 35)))
            clear hb8 hq8 kl
            go_wp2_with fail
            first | exact⟨rfl,HR.out⟩ | (go_ret;exact⟨rfl,HR.out⟩)
  · have hn1:(40:Int) < (n:Int):=by omega
    clear HNew HA HEnv
    go_wp2_with fail
    first | exact⟨rfl,HB0.out⟩ | (go_ret;exact⟨rfl,HB0.out⟩)
open Go.RowKit
def laids:List (String × DataW Unit):=[("math/bits.deBruijn32tab", Rows.laid_math_bits_deBruijn32tab),("math/bits.deBruijn64tab", Rows.laid_math_bits_deBruijn64tab),("quartermaster/pool.costs", Rows.laid_quartermaster_pool_costs)]
def dbt32:List Int:=[0,1,28,2,29,14,24,3,30,22,20,15,25,17,4,8,31,27,13,23,21,19,16,7,26,12,18,6,11,5,10,9]
theorem g32:Tryz.prog.globalNamed "math/bits.deBruijn32tab" = some 2:=by kernel_rfl
theorem t32:(Tryz.prog.globals[2]?).map (·.type) = some 380:=by kernel_rfl
theorem g64:Tryz.prog.globalNamed "math/bits.deBruijn64tab" = some 1:=by kernel_rfl
theorem gCost:Tryz.prog.globalNamed "quartermaster/pool.costs" = some 0:=by kernel_rfl
theorem t64:(Tryz.prog.globals[1]?).map (·.type) = some 356:=by kernel_rfl
theorem tCost:(Tryz.prog.globals[0]?).map (·.type) = some 258:=by kernel_rfl
theorem env_of_laid {W:World} (h:laidMetH Tryz.prog laids W):Env W:=by
  rw [MakeChecks.laidMetH_plain _ _ _ (by kernel_rfl)] at h
  have h1:laidMet Tryz.prog (("math/bits.deBruijn32tab", Lib.tabData .u8 dbt32) :: [("math/bits.deBruijn64tab", Rows.laid_math_bits_deBruijn64tab),("quartermaster/pool.costs", Rows.laid_quartermaster_pool_costs)]) W:=h
  have hA:=Lib.tabIs_of_head g32 t32 Tryz.underlying380 Tryz.underlying5 (by kernel_rfl) (by kernel_rfl) h1
  have h2:laidMet Tryz.prog (("math/bits.deBruijn64tab", Lib.tabData .u8 (dbt.map fun (n:Nat)=>(n:Int))) :: [("quartermaster/pool.costs", Rows.laid_quartermaster_pool_costs)]) W:=laidMet.tail h1
  have h3:laidMet Tryz.prog (("quartermaster/pool.costs", Lib.tabData .i64 costL) :: []) W:=laidMet.tail h2
  have hB:=Lib.tabIs_of_head g64 t64 Tryz.underlying356 Tryz.underlying5 (by kernel_rfl) (by kernel_rfl) h2
  have hC:=Lib.tabIs_of_head gCost tCost Tryz.underlying258 Tryz.underlying3 (by kernel_rfl) (by kernel_rfl) h3
  have cB:TabB W:=by
    intro j v hv
    have hj:=(List.getElem?_eq_some_iff.1 hv).1
    have:=hB.cell g64 j (by simpa using hj)
    rw [this]
    congr 2
    simp [List.getD,hv]
  have cC:TabC W:=by
    intro j v hv
    have hj:=(List.getElem?_eq_some_iff.1 hv).1
    have:=hC.cell gCost j (by simpa using hj)
    rw [this]
    congr 2
    simp [List.getD,hv]
  refine⟨?_,cB,cC⟩
  have c0:=World.block_lt_of_cell? W ⟨1,0,none⟩ (cB 0 0 rfl)
  have c1:=World.block_lt_of_cell? W ⟨0,0,none⟩ (cC 0 0 rfl)
  have c2:=World.block_lt_of_cell? W ⟨2,0,none⟩ (hA.cell g32 0 (by decide))
  have c0':1 < W.heap.size:=c0
  have c1':0 < W.heap.size:=c1
  have c2':2 < W.heap.size:=c2
  unfold GB
  omega
end Go.Proofs.YtlakjlmaboioiaaGreatDoor

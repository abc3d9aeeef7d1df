/- SpaceGrants returns true at every input. No condition. Part of its proof. -/
import Derived.Test.YtlakjlmaboioiaaGreatDoorSg25
import Derived.Test.YtlakjlmaboioiaaGreatDoorSg22
import Derived.Deep.LoopGhost
import Derived.Test.YtlakjlmaboioiaaGreatDoorSg01
import Derived.Lib.LaidTab
import Derived.LaidMore
import Derived.MakeChecks
import Derived.Stop.LaidErr
set_option linter.unusedVariables false
namespace Go.Proofs.YtlakjlmaboioiaaGreatDoor
open Go.RowKit
theorem add_from {a:AV} {next:Int} (k:AvOk a next) {x s y t:Nat} {c:Nat × Nat} (b:Nat) (hy:y < 4294967296) (ht:t < 256) (hsrc:a.en x s = some c) (hfree:a.en y t = none) (u v:Int) :
    fromV (addN a.N (ownN a.N (x:Int) (s:Int)) (next + 1) b (y:Int) (t:Int)) u v = if u = (y:Int)∧v = (t:Int) then some ((x:Int),(s:Int)) else fromV a.N u v:=by
  obtain⟨nd,hnd,q1,q2⟩:=k.has x s _ hsrc
  have hid:ownN a.N (x:Int) (s:Int) = nd.id:=(ownN_iff k.ok hnd x s).2 ⟨q1,q2⟩
  have hf:=findN_of_mem k.ok.ids hnd
  have hno:∀ e ∈ a.N,(e.q.sp,e.q.sl) ≠ ((y:Int),(t:Int)):=fun e he h=>by
    obtain⟨c,hc⟩:=k.is e he
    have h1:e.q.sp = (y:Int):=congrArg Prod.fst h
    have h2:e.q.sl = (t:Int):=congrArg Prod.snd h
    rw [h1,h2,Int.toNat_natCast,Int.toNat_natCast,hfree] at hc
    cases hc
  rw [fromV_add (N:=a.N) (next:=next) k.ok (par:=ownN a.N (x:Int) (s:Int)) (sp:=(y:Int)) (sl:=(t:Int)) b (.inr ⟨nd,by rw [hid];exact hf⟩) hno (by omega) (by omega) (by omega) (by omega) u v]
  by_cases h:u = (y:Int)∧v = (t:Int)
  · rw [if_pos h,if_pos h,hid,hf]
    simp [q1,q2]
  · rw [if_neg h,if_neg h]
structure GrB (a:AV) (next:Int) (o z i:Nat):Prop where
  en:∀ h s c,a.en h s = some c ↔ ((h = 1∧s = 0) ∨ (h = 2∧s = 1) ∨ (h = 1∧10 ≤ s∧s < 10 + i))∧c = (3,15)
  f0:fromV a.N 1 0 = none
  f1:fromV a.N 2 1 = some (1,0)
  fi:∀ s:Nat,10 ≤ s→s < 10 + i→fromV a.N 1 (s:Int) = some ((o:Int),(z:Int))
  nx:next = i + 2
theorem GrB.next {a a':AV} {next:Int} {o z i:Nat} (k:AvOk a next) (I:GrB a next o z i) {b:Nat} (hi:i < 200) (hsrc:a.en o z = some (3,15))
    (he:a' = ⟨setA a.en 1 (10 + i) (some (3,15)),addN a.N (ownN a.N (o:Int) (z:Int)) (next + 1) b 1 ((10 + i:Nat):Int)⟩):GrB a' (next + 1) o z (i + 1):=by
  subst he
  have hfree:a.en 1 (10 + i) = none:=by
    cases hh:a.en 1 (10 + i) with
    | none=>rfl
    | some c =>
      have:=((I.en _ _ _).1 hh).1
      omega
  have hfr:=add_from k b (x:=o) (s:=z) (y:=1) (t:=10 + i) (by omega) (by omega) hsrc hfree
  rw [show ((1:Nat):Int) = 1 from rfl] at hfr
  refine⟨fun h s c=>?_,?_,?_,fun s h1 h2=>?_,by rw [I.nx];omega⟩
  · show setA a.en 1 (10 + i) (some (3,15)) h s = some c ↔ _
    by_cases hh:h = 1∧s = 10 + i
    · rw [hh.1,hh.2,setA_same]
      constructor
      · intro e;exact⟨by omega,(Option.some.inj e).symm⟩
      · rintro⟨_,rfl⟩;rfl
    · rw [setA_ne hh,I.en]
      constructor
      · rintro⟨e1,e2⟩;exact⟨by omega,e2⟩
      · rintro⟨e1,e2⟩;exact⟨by omega,e2⟩
  · show fromV (addN _ _ _ _ _ _) 1 0 = none
    rw [hfr,if_neg (by omega)];exact I.f0
  · show fromV (addN _ _ _ _ _ _) 2 1 = _
    rw [hfr,if_neg (by omega)];exact I.f1
  · show fromV (addN _ _ _ _ _ _) 1 (s:Int) = _
    rw [hfr]
    by_cases e:s = 10 + i
    · rw [if_pos ⟨rfl,by omega⟩]
    · rw [if_neg (by omega)];exact I.fi s h1 (by omega)
def srcO (rt:Bool):Nat:=if rt then 1 else 2
def srcZ (rt:Bool):Nat:=if rt then 0 else 1
def upF (rt:Bool):Option (Int × Int):=if rt then none else some (1,0)
theorem GrB.src {a:AV} {next:Int} {rt:Bool} {i:Nat} (I:GrB a next (srcO rt) (srcZ rt) i):a.en (srcO rt) (srcZ rt) = some (3,15)∧fromV a.N (srcO rt:Int) (srcZ rt:Int) = upF rt:=by
  cases rt with
  | true=>exact⟨(I.en 1 0 _).2 ⟨by omega,rfl⟩,I.f0⟩
  | false=>exact⟨(I.en 2 1 _).2 ⟨by omega,rfl⟩,I.f1⟩
structure GrF (a:AV) (rt:Bool) (t i:Nat):Prop where
  en:∀ h s c,a.en h s = some c ↔ (((h = 1∧s = 0∧rt = false) ∨ (h = 2∧s = 1∧rt = true) ∨ (h = 1∧10 ≤ s∧s < 10 + i))∧c = (3,15)) ∨ (h = 2∧s = t∧c = (3,7))
  ft:fromV a.N 2 (t:Int) = upF rt
  fi:∀ s:Nat,10 ≤ s→s < 10 + i→fromV a.N 1 (s:Int) = upF rt
theorem GrB.granted {a a':AV} {next:Int} {rt:Bool} {i t b:Nat} (k:AvOk a next) (I:GrB a next (srcO rt) (srcZ rt) i) (hi:i < 40) (ht:60 ≤ t∧t < 120)
    (he:weak1 15 ⟨setA a.en 2 t (some (3,7)),addN a.N (ownN a.N (srcO rt:Int) (srcZ rt:Int)) (next + 1) b 2 (t:Int)⟩ (ownN (addN a.N (ownN a.N (srcO rt:Int) (srcZ rt:Int)) (next + 1) b 2 (t:Int)) (srcO rt:Int) (srcZ rt:Int)) = (a',true)):GrF a' rt t i:=by
  obtain⟨hsrc,hup⟩:=I.src
  have hfree:a.en 2 t = none:=by
    cases hh:a.en 2 t with
    | none=>rfl
    | some c =>
      have:=((I.en _ _ _).1 hh).1
      omega
  have hsz:srcO rt < 4294967296∧srcZ rt < 256∧srcZ rt ≤ 1:=by cases rt <;> decide
  have G:=grant_of (x:=srcO rt) (s:=srcZ rt) (y:=2) (t:=t) k hsz.1 (by omega) hsz.2.1 (by omega) hsrc hfree he
  refine⟨fun h s c=>?_,?_,fun s h1 h2=>?_⟩
  · rw [G.en]
    by_cases hh:h = srcO rt∧s = srcZ rt
    · rw [hh.1,hh.2,setA_same]
      constructor
      · intro e;cases e
      · intro e
        exfalso
        cases rt with
        | true =>
          simp [srcO,srcZ] at e
        | false =>
          simp [srcO,srcZ] at e
          omega
    · rw [setA_ne hh]
      by_cases h2:h = 2∧s = t
      · rw [h2.1,h2.2,setA_same]
        constructor
        · intro e;exact .inr ⟨rfl,rfl,(Option.some.inj e).symm⟩
        · rintro (⟨e,_⟩ | ⟨_,_,rfl⟩)
          · exfalso;omega
          · rfl
      · rw [setA_ne h2,I.en]
        cases rt with
        | true =>
          simp only [srcO,srcZ,if_true] at hh
          constructor
          · rintro⟨e1,e2⟩
            refine .inl ⟨?_,e2⟩
            rcases e1 with e1 | e1 | e1
            · exact absurd e1 hh
            · exact .inr (.inl ⟨e1.1,e1.2,rfl⟩)
            · exact .inr (.inr e1)
          · rintro (⟨e1,e2⟩ | ⟨e1,e2,_⟩)
            · refine⟨?_,e2⟩
              rcases e1 with ⟨_,_,e⟩ | e1 | e1
              · cases e
              · exact .inr (.inl ⟨e1.1,e1.2.1⟩)
              · exact .inr (.inr e1)
            · exact absurd ⟨e1,e2⟩ h2
        | false =>
          simp only [srcO,srcZ] at hh
          constructor
          · rintro⟨e1,e2⟩
            refine .inl ⟨?_,e2⟩
            rcases e1 with e1 | e1 | e1
            · exact .inl ⟨e1.1,e1.2,rfl⟩
            · exact absurd e1 hh
            · exact .inr (.inr e1)
          · rintro (⟨e1,e2⟩ | ⟨e1,e2,_⟩)
            · refine⟨?_,e2⟩
              rcases e1 with e1 | ⟨_,_,e⟩ | e1
              · exact .inl ⟨e1.1,e1.2.1⟩
              · cases e
              · exact .inr (.inr e1)
            · exact absurd ⟨e1,e2⟩ h2
  · have:=G.fr 2 (t:Int)
    rw [if_neg (by omega),if_pos (.inl ⟨rfl,rfl⟩),hup] at this
    exact this
  · have:=G.fr 1 (s:Int)
    rw [if_neg (by omega),if_pos (.inr (I.fi s h1 h2)),hup] at this
    exact this
theorem GrF.gone {a:AV} {rt:Bool} {t i:Nat} (F:GrF a rt t i) (ht:60 ≤ t):a.en (srcO rt) (srcZ rt) = none:=by
  cases hh:a.en (srcO rt) (srcZ rt) with
  | none=>rfl
  | some c =>
    exfalso
    have:=(F.en _ _ _).1 hh
    cases rt with
    | true=>simp [srcO,srcZ] at this
    | false =>
      simp [srcO,srcZ] at this
      omega
def holdG (rt:Bool) (t i:Nat):List (Int × Int):=(if rt then ((2:Int),(1:Int)) else (1,0)) :: (2,(t:Int)) :: (List.range i).map fun j=>((1:Int),((10 + j:Nat):Int))
theorem holdG_len (rt:Bool) (t i:Nat):(holdG rt t i).length = i + 2:=by simp [holdG]
theorem holdG_nd (rt:Bool) (t i:Nat) (ht:60 ≤ t):(holdG rt t i).Nodup:=by
  unfold holdG
  refine List.nodup_cons.2 ⟨?_,List.nodup_cons.2 ⟨?_,?_⟩⟩
  · intro h
    rcases List.mem_cons.1 h with h | h
    · cases rt <;> simp at h
      omega
    · obtain⟨j,_,e⟩:=List.mem_map.1 h
      cases rt <;> simp at e
      omega
  · intro h
    obtain⟨j,_,e⟩:=List.mem_map.1 h
    simp at e
  · refine List.pairwise_map.2 (List.nodup_range.imp fun hne e=>hne ?_)
    have:=congrArg Prod.snd e
    simp at this
    omega
theorem GrF.hold {a:AV} {rt:Bool} {t i:Nat} (F:GrF a rt t i) (p:Int × Int):p ∈ holdG rt t i ↔ ∃ x s r:Nat,p = ((x:Int),(s:Int))∧a.en x s = some (3,r):=by
  unfold holdG
  constructor
  · intro h
    rcases List.mem_cons.1 h with h | h
    · cases rt with
      | true=>exact⟨2,1,15,h,(F.en _ _ _).2 (.inl ⟨by simp,rfl⟩)⟩
      | false=>exact⟨1,0,15,h,(F.en _ _ _).2 (.inl ⟨by simp,rfl⟩)⟩
    · rcases List.mem_cons.1 h with h | h
      · exact⟨2,t,7,h,(F.en _ _ _).2 (.inr ⟨rfl,rfl,rfl⟩)⟩
      · obtain⟨j,hj,e⟩:=List.mem_map.1 h
        have:=List.mem_range.1 hj
        exact⟨1,10 + j,15,e.symm,(F.en _ _ _).2 (.inl ⟨.inr (.inr ⟨rfl,by omega,by omega⟩),rfl⟩)⟩
  · rintro⟨x,s,r,rfl,hc⟩
    rcases (F.en _ _ _).1 hc with ⟨h,_⟩ | ⟨rfl,rfl,_⟩
    · rcases h with ⟨rfl,rfl,rfl⟩ | ⟨rfl,rfl,rfl⟩ | ⟨rfl,h1,h2⟩
      · exact List.mem_cons.2 (.inl rfl)
      · exact List.mem_cons.2 (.inl rfl)
      · refine List.mem_cons.2 (.inr (List.mem_cons.2 (.inr (List.mem_map.2 ⟨s - 10,List.mem_range.2 (by omega),?_⟩))))
        rw [show 10 + (s - 10) = s by omega]
        rfl
    · exact List.mem_cons.2 (.inr (List.mem_cons.2 (.inl rfl)))
open Go.RowKit
theorem lt3_costG (a x b y c z:Nat):costSum (lt3 2 a x 2 b y 5 c z) 0 = 352:=by kernel_rfl
def GrQ0 (s:Nat) (w0 wr:World):Prop:=∃ Z a x b y c z,Z.s = s∧MkZ Z 1 65536 4 0 (lt3 2 a x 2 b y 5 c z)∧Z.av = ⟨en0,[]⟩∧Z.F.next = 0∧Step [] Z.hl w0 wr
def GrQ1 (s:Nat) (w0 wr:World):Prop:=∃ Z a x b y c z b1,Z.s = s∧MkZ Z 1 65536 4 1 (lt3 2 a x 2 b y 5 c z)∧Z.av = ⟨setA en0 1 0 (some (3,15)),[⟨1,b1,⟨1,0,0,[]⟩⟩]⟩∧Z.F.next = 1∧Step [] Z.hl w0 wr
def GrQ (s o z i:Nat) (w0 wr:World):Prop:=∃ (Z:SP) (a x b y c u:Nat),Z.s = s∧MkZ Z 1 65536 4 ((i:Int) + 2) (lt3 2 a x 2 b y 5 c u)∧GrB Z.av Z.F.next o z i∧Step [] Z.hl w0 wr
def GrE (s:Nat) (rt:Bool) (t i:Nat) (w0 wr:World):Prop:=∃ (Z:SP) (M:Int) (a x b y c u:Nat),Z.s = s∧MkZ Z 1 65536 4 M (lt3 2 a x 2 b y 5 c u)∧GrF Z.av rt t i∧Step [] Z.hl w0 wr
theorem GrE.grown {s:Nat} {rt:Bool} {t i:Nat} {w0 wr w':World} (h:GrE s rt t i w0 wr) (hb:Below wr.heap.size wr w'):GrE s rt t i w0 w':=by
  obtain⟨Z,M,a,x,b,y,c,u,h1,h2,h3,st⟩:=h
  exact⟨Z,M,a,x,b,y,c,u,h1,h2,h3,st.trans (st.sep.grown hb)⟩
theorem gr_make {w w1:World} {S:CO} (f:FreshO S 6 65536 1) (st:Step [] (S.hl ++ []) w w1) :
    Calls Tryz.prog 16 #[.pointer (some ⟨S.c,0,none⟩),.int .u32 0,.int .i64 2,.int .i64 0] w1 fun r w2=>r = .returned (.tuple #[.int .u32 1,.int .i64 0]) ∧
      Calls Tryz.prog 16 #[.pointer (some ⟨S.c,0,none⟩),.int .u32 0,.int .i64 2,.int .i64 0] w2 fun r w3=>r = .returned (.tuple #[.int .u32 2,.int .i64 0]) ∧
        Calls Tryz.prog 16 #[.pointer (some ⟨S.c,0,none⟩),.int .u32 0,.int .i64 5,.int .i64 0] w3 fun r w4=>r = .returned (.tuple #[.int .u32 3,.int .i64 0]) ∧
          Calls Tryz.prog 17 #[.pointer (some ⟨S.c,0,none⟩)] w4 fun r w5=>∃ s,r = .returned (.pointer (some ⟨s,0,none⟩))∧GrQ0 s w w5:=by
  refine (mk_next (mkq_new f st) 2 1 (by omega) (by decide) (by omega) (by omega) fun l hl=>by subst hl;exact lt0_at).mono ?_
  rintro r w2 ⟨rfl,q2⟩
  refine⟨rfl,(mk_next q2 2 2 (by omega) (by decide) (by omega) (by omega) fun l hl=>by
    obtain⟨l0,a,x,rfl,rfl⟩:=hl
    exact lt1_at 2 a x).mono ?_⟩
  rintro r w3 ⟨rfl,q3⟩
  refine⟨rfl,(mk_next q3 5 3 (by omega) (by decide) (by omega) (by omega) fun l hl=>by
    obtain⟨l0,b,y,⟨l1,a,x,rfl,rfl⟩,rfl⟩:=hl
    exact lt2_at 2 a x 2 b y).mono ?_⟩
  rintro r w4 ⟨rfl,S4,l,ec,⟨l0,d,z,⟨l1,b,y,⟨l2,a,x,rfl,rfl⟩,rfl⟩,rfl⟩,m,st4⟩
  refine⟨rfl,?_⟩
  rw [← ec]
  refine (snew_any st4.sep fun _=>TB.emp).mono ?_
  rintro r w5 ⟨Z,rfl,hZ,st5⟩
  obtain⟨m1,m2,m3⟩:=mkz_new m hZ
  exact⟨Z.s,rfl,Z,a,x,b,y,d,z,rfl,m1,m2,m3,st4.trans st5⟩
theorem gr_room {Z:SP} {M:Int} {a x b y c z:Nat} (m:MkZ Z 1 65536 4 M (lt3 2 a x 2 b y 5 c z)) {i:Nat} (hi:i ≤ 30) (hE:∀ h s c,Z.av.en h s = some c→(h = 1∧s = 0) ∨ (h = 2∧s = 1) ∨ (h = 1∧10 ≤ s∧s < 10 + i)) {j s:Nat} {er:Int}:¬ WhyL Z [] 0 j s er:=by
  refine m.room ((1,0) :: (2,1) :: (List.range i).map fun s=>(1,10 + s)) ((2,0) :: (List.range 3).map fun k=>(1,k)) (fun h s c hc=>?_) (fun u v h=>?_) (o:=4) (by rw [lt3_is];exact Nat.le_refl _) (by simp;omega) (cs:=352) (lt3_costG a x b y c z) (by simp;omega)
  · rcases hE h s c hc with ⟨rfl,rfl⟩ | ⟨rfl,rfl⟩ | ⟨rfl,h1,h2⟩
    · exact List.mem_cons.2 (.inl rfl)
    · exact List.mem_cons.2 (.inr (List.mem_cons.2 (.inl rfl)))
    · refine List.mem_cons.2 (.inr (List.mem_cons.2 (.inr (List.mem_map.2 ⟨s - 10,List.mem_range.2 (by omega),?_⟩))))
      rw [show 10 + (s - 10) = s by omega]
  · rcases List.mem_cons.1 h with h | h
    · cases h
      exact List.mem_cons.2 (.inr (List.mem_map.2 ⟨0,List.mem_range.2 (by omega),rfl⟩))
    · rcases List.mem_cons.1 h with h | h
      · cases h
        exact List.mem_cons.2 (.inl rfl)
      · obtain⟨t,ht,e⟩:=List.mem_map.1 h
        have h1:1 = u:=congrArg Prod.fst e
        have h2:10 + t = v:=congrArg Prod.snd e
        have:=List.mem_range.1 ht
        exact List.mem_cons.2 (.inr (List.mem_map.2 ⟨v / 16,List.mem_range.2 (by omega),by rw [h1]⟩))
theorem gr_root {s:Nat} {w0 wr:World} (h:GrQ0 s w0 wr) :
    Calls Tryz.prog 18 #[.pointer (some ⟨s,0,none⟩),.int .u32 1,.int .i64 0,.agg #[.int .u32 3,.int .i64 15]] wr fun r w'=>r = .returned (.int .i64 0)∧GrQ1 s w0 w':=by
  obtain⟨Z,a,x,b,y,c,z,rfl,m,hC,hnx,st⟩:=h
  refine (sroot_any st.sep m.ok (by omega) (x:=1) (h:=3) (by omega) (by omega) 0 15).mono ?_
  rintro r w' ⟨er,rfl,R⟩
  obtain⟨g1,g2,g3⟩:=lt3_get 2 a x 2 b y 5 c z
  rw [← m.l] at g1 g3
  obtain⟨rfl,Z',k1,k2,k3,⟨b1,k4⟩,k5,k6⟩:=R.fine g1 rfl (by omega) g3 (by omega) (by show (5:Nat) = 8 ↔ (128:Int) ≤ 0;decide) (by rw [hC];rfl) fun er =>
    gr_room m (i:=0) (by omega) (fun h s c hc=>by rw [hC] at hc;cases hc)
  refine⟨rfl,Z',a,x,b,y,c,z,b1,k2.s,m.same k1 k2,?_,by rw [k5,hnx];rfl,st.trans k6⟩
  have hN:Z.F.N = []:=by show Z.av.N = _;rw [hC]
  rw [hN,hnx] at k4
  rw [hC] at k3
  generalize hz:Z'.av = av at k3 k4
  obtain⟨en,N⟩:=av
  simp only at k3 k4
  rw [k3,k4]
  rfl
theorem gr_box {H:HL} {wr:World} (hs:Sep wr H) (m:Mv) (hm:m.Wf):Step H H wr (wr.alloc (.cells #[.int .i64 m.src,.int .i64 m.dst,.int .i64 m.r,.bool m.g] 39))∧AsideM H 1 (fun _=>m) (some ⟨wr.heap.size,0,none⟩) (wr.alloc (.cells #[.int .i64 m.src,.int .i64 m.dst,.int .i64 m.r,.bool m.g] 39)):=
  ⟨hs.grown ((Below.refl wr.heap.size wr).alloc (Nat.le_refl _) _),asideM_new hs m hm⟩
theorem gr_first {s:Nat} {w0 wr:World} (h:GrQ1 s w0 wr) (o z:Nat) :
    Calls Tryz.prog 19 #[.pointer (some ⟨s,0,none⟩),.int .u32 1,.int .u32 2,.slice (some ⟨wr.heap.size,0,none⟩) 1 1] (wr.alloc (.cells #[.int .i64 0,.int .i64 1,.int .i64 15,.bool false] 39)) fun r w'=>r = .returned (.int .i64 0)∧GrQ s o z 0 w0 w':=by
  obtain⟨Z,a,x,b,y,c,u,b1,rfl,m,hC,hnx,st⟩:=h
  obtain⟨st2,hmv⟩:=gr_box st.sep ⟨0,1,15,false⟩ ⟨⟨by decide,by decide⟩,⟨by decide,by decide⟩,⟨by decide,by decide⟩⟩
  have hmv':AsideM Z.hl 1 (fun _=>⟨0,1,15,false⟩) (some ⟨wr.heap.size,0,none⟩) (wr.alloc (.cells #[.int .i64 0,.int .i64 1,.int .i64 15,.bool false] 39)):=hmv
  obtain⟨g1,g2,g3⟩:=lt3_get 2 a x 2 b y 5 c u
  rw [← m.l] at g1 g2
  have hfit:FitM Z.av.en 1 2 ⟨0,1,15,false⟩:=by
    rw [hC]
    exact⟨by decide,by decide,by decide,rfl,⟨(3,15),rfl,by decide,by decide⟩,rfl⟩
  have hE:∀ h s c,Z.av.en h s = some c→h = 1∧s = 0∧c = (3,15):=fun h s c hc=>by
    rw [hC] at hc
    rcases setA_cases hc with ⟨e1,e2,e3⟩ | ⟨_,h0⟩
    · exact⟨e1,e2,(Option.some.inj e3).symm⟩
    · cases h0
  have km:=smove_any (n:=1) (cap:=1) (A:=fun _=>⟨0,1,15,false⟩) st2.sep m.ok (by omega) (x:=1) (y:=2) (by omega) (by omega) (by omega) (by omega) hmv'
  refine km.mono ?_
  rintro r w' ⟨er,rfl,RR⟩
  obtain⟨rfl,hz⟩:=RR.fine g1 rfl g2 rfl (allFit_one hfit) fun er hw=>gr_room m (i:=0) (by omega) (fun h s c hc=>.inl ⟨(hE h s c hc).1,(hE h s c hc).2.1⟩) (whyM_one hw)
  obtain⟨Z',e,b2,k1,k2,k3,k4,k5,k6⟩:=hz.one rfl
  have hsrc:Z.av.en 1 0 = some (3,15):=by rw [hC];rfl
  have hfree:Z.av.en 2 1 = none:=by rw [hC];rfl
  obtain rfl:(3,15) = e:=by
    have k1':Z.av.en 1 0 = some e:=k1
    rw [hsrc] at k1'
    exact Option.some.inj k1'
  have hfr:=add_from m.ok.avOk b2 (x:=1) (s:=0) (y:=2) (t:=1) (by omega) (by omega) hsrc hfree
  have k2':Z'.av = ⟨setA Z.av.en 2 1 (some (3,15)),addN Z.av.N (ownN Z.av.N 1 0) (Z.F.next + 1) b2 2 1⟩:=k2
  refine⟨rfl,Z',a,x,b,y,c,u,k4.s,m.same k3 k4,⟨fun h s c=>?_,?_,?_,fun s h1 h2=>by omega,by rw [k5,hnx];rfl⟩,(st.trans st2).trans k6⟩
  · rw [k2']
    show setA Z.av.en 2 1 (some (3,15)) h s = some c ↔ _
    by_cases hh:h = 2∧s = 1
    · rw [hh.1,hh.2,setA_same]
      constructor
      · intro e;exact⟨by omega,(Option.some.inj e).symm⟩
      · rintro⟨_,rfl⟩;rfl
    · rw [setA_ne hh]
      constructor
      · intro e
        obtain⟨e1,e2,e3⟩:=hE h s c e
        exact⟨.inl ⟨e1,e2⟩,e3⟩
      · rintro⟨e1,rfl⟩
        have:h = 1∧s = 0:=by omega
        rw [this.1,this.2]
        exact hsrc
  · rw [k2']
    have:=hfr 1 0
    rw [if_neg (by decide)] at this
    refine this.trans ?_
    rw [hC]
    rfl
  · rw [k2']
    have:=hfr 2 1
    rw [if_pos (by decide)] at this
    exact this
theorem srcO_pl {rt:Bool} {a x b y c u:Nat} {l:List Pl} (h:l = lt3 2 a x 2 b y 5 c u):∃ p,pget l 1 (srcO rt) = some p∧p.kind = 2:=by
  obtain⟨g1,g2,_⟩:=lt3_get 2 a x 2 b y 5 c u
  subst h
  cases rt with
  | true=>exact⟨_,g1,rfl⟩
  | false=>exact⟨_,g2,rfl⟩
theorem srcO_lt (rt:Bool):1 ≤ srcO rt∧srcO rt ≤ 2∧srcZ rt ≤ 1:=by cases rt <;> decide
theorem gr_move {s i:Nat} {rt:Bool} {w0 wr:World} (h:GrQ s (srcO rt) (srcZ rt) i w0 wr) (hi:i < 30) :
    Calls Tryz.prog 19 #[.pointer (some ⟨s,0,none⟩),.int .u32 (srcO rt:Int),.int .u32 1,.slice (some ⟨wr.heap.size,0,none⟩) 1 1] (wr.alloc (.cells #[.int .i64 (srcZ rt:Int),.int .i64 (10 + (i:Int)),.int .i64 15,.bool false] 39)) fun r w'=>r = .returned (.int .i64 0)∧GrQ s (srcO rt) (srcZ rt) (i + 1) w0 w':=by
  obtain⟨Z,a,x,b,y,c,u,rfl,m,I,st⟩:=h
  have hz:=srcO_lt rt
  obtain⟨st2,hmv⟩:=gr_box st.sep ⟨(srcZ rt:Int),10 + (i:Int),15,false⟩ (mv_wf _ (by omega) (by omega) (by omega))
  have hmv':AsideM Z.hl 1 (fun _=>⟨(srcZ rt:Int),10 + (i:Int),15,false⟩) (some ⟨wr.heap.size,0,none⟩) (wr.alloc (.cells #[.int .i64 (srcZ rt:Int),.int .i64 (10 + (i:Int)),.int .i64 15,.bool false] 39)):=hmv
  obtain⟨p1,g0,hk0⟩:=srcO_pl (rt:=rt) m.l
  obtain⟨g1,_,_⟩:=lt3_get 2 a x 2 b y 5 c u
  rw [← m.l] at g1
  obtain⟨hsrc,_⟩:=I.src
  have hfree:Z.av.en 1 (10 + i) = none:=by
    cases hh:Z.av.en 1 (10 + i) with
    | none=>rfl
    | some c=>have:=((I.en _ _ _).1 hh).1;omega
  have e1:(10 + (i:Int)).toNat = 10 + i:=by omega
  have hfit:FitM Z.av.en (srcO rt) 1 ⟨(srcZ rt:Int),10 + (i:Int),15,false⟩:=by
    refine⟨by simp only;omega,by simp only;omega,by simp only;omega,?_,⟨(3,15),by simp only [Int.toNat_natCast];exact hsrc,by decide,(by decide:(15:Nat) &&& 15 ≠ 0)⟩,by simp only [e1];exact hfree⟩
    simp only
    rw [decide_eq_true (by omega),decide_eq_true (by omega)]
  have hnx:=I.nx
  have km:=smove_any (n:=1) (cap:=1) (A:=fun _=>⟨(srcZ rt:Int),10 + (i:Int),15,false⟩) st2.sep m.ok (by omega) (x:=srcO rt) (y:=1) (by omega) (by omega) (by omega) (by omega) hmv'
  refine km.mono ?_
  rintro r w' ⟨er,rfl,RR⟩
  obtain⟨rfl,hz⟩:=RR.fine g0 hk0 g1 rfl (allFit_one hfit) fun er hw=>gr_room m (i:=i) (by omega) (fun h s c hc=>((I.en h s c).1 hc).1) (whyM_one hw)
  obtain⟨Z',e,b2,k1,k2,k3,k4,k5,k6⟩:=hz.one rfl
  simp only [Int.toNat_natCast] at k1
  rw [hsrc] at k1
  cases k1
  simp only [e1] at k2
  have I':=I.next (a':=Z'.av) (b:=b2) m.ok.avOk (by omega) hsrc k2
  rw [← k5] at I'
  have hm:=m.same k3 k4
  rw [show (i:Int) + 2 + 1 = ((i + 1:Nat):Int) + 2 by omega] at hm
  exact⟨rfl,Z',a,x,b,y,c,u,k4.s,hm,I',(st.trans st2).trans k6⟩
theorem gr_grant {s i t:Nat} {rt:Bool} {w0 wr:World} (h:GrQ s (srcO rt) (srcZ rt) i w0 wr) (hi:i < 30) (ht:60 ≤ t∧t < 120) :
    Calls Tryz.prog 19 #[.pointer (some ⟨s,0,none⟩),.int .u32 (srcO rt:Int),.int .u32 2,.slice (some ⟨wr.heap.size,0,none⟩) 1 1] (wr.alloc (.cells #[.int .i64 (srcZ rt:Int),.int .i64 (t:Int),.int .i64 7,.bool true] 39)) fun r w'=>r = .returned (.int .i64 0)∧GrE s rt t i w0 w':=by
  obtain⟨Z,a,x,b,y,c,u,rfl,m,I,st⟩:=h
  have hz:=srcO_lt rt
  obtain⟨st2,hmv⟩:=gr_box st.sep ⟨(srcZ rt:Int),(t:Int),7,true⟩ (mv_wf _ (by omega) (by omega) (by omega))
  have hmv':AsideM Z.hl 1 (fun _=>⟨(srcZ rt:Int),(t:Int),7,true⟩) (some ⟨wr.heap.size,0,none⟩) (wr.alloc (.cells #[.int .i64 (srcZ rt:Int),.int .i64 (t:Int),.int .i64 7,.bool true] 39)):=hmv
  obtain⟨p1,g0,hk0⟩:=srcO_pl (rt:=rt) m.l
  obtain⟨_,g2,_⟩:=lt3_get 2 a x 2 b y 5 c u
  rw [← m.l] at g2
  obtain⟨hsrc,_⟩:=I.src
  have hfree:Z.av.en 2 t = none:=by
    cases hh:Z.av.en 2 t with
    | none=>rfl
    | some c=>have:=((I.en _ _ _).1 hh).1;omega
  have hfit:FitM Z.av.en (srcO rt) 2 ⟨(srcZ rt:Int),(t:Int),7,true⟩:=by
    refine⟨by simp only;omega,by simp only;omega,by simp only;omega,?_,⟨(3,15),by simp only [Int.toNat_natCast];exact hsrc,by decide,(by decide:(15:Nat) &&& 7 ≠ 0)⟩,by simp only [Int.toNat_natCast];exact hfree⟩
    simp only
    rw [decide_eq_true (by omega),decide_eq_true (by omega)]
  have hnx:=I.nx
  have km:=smove_any (n:=1) (cap:=1) (A:=fun _=>⟨(srcZ rt:Int),(t:Int),7,true⟩) st2.sep m.ok (by omega) (x:=srcO rt) (y:=2) (by omega) (by omega) (by omega) (by omega) hmv'
  refine km.mono ?_
  rintro r w' ⟨er,rfl,RR⟩
  obtain⟨rfl,hz⟩:=RR.fine g0 hk0 g2 rfl (allFit_one hfit) fun er hw=>gr_room m (i:=i) (by omega) (fun h s c hc=>((I.en h s c).1 hc).1) (whyM_one hw)
  obtain⟨Z',e,b2,av,k1,_,rfl,k2,k3,k4,k5,k6⟩:=hz.grant rfl
  simp only [Int.toNat_natCast] at k1 k2
  rw [hsrc] at k1
  cases k1
  have F:=I.granted (a':=Z'.av) (b:=b2) (t:=t) m.ok.avOk (by omega) ht k2
  exact⟨rfl,Z',_,a,x,b,y,c,u,k4.s,m.same k3 k4,F,(st.trans st2).trans k6⟩
def fromO (o:Option (Int × Int)):Value:=match o with
  | none=>.tuple #[.agg #[.int .i64 0,.int .i64 0],.bool false]
  | some p=>.tuple #[.agg #[.int .i64 p.1,.int .i64 p.2],.bool true]
theorem gr_from {s i t:Nat} {rt:Bool} {w0 wr:World} (h:GrE s rt t i w0 wr) {x z:Nat} (hx:(x = 2∧z = t∧t < 120) ∨ (x = 1∧10 ≤ z∧z < 10 + i∧i < 30)) :
    Calls Tryz.prog 22 #[.pointer (some ⟨s,0,none⟩),.int .u32 (x:Int),.int .i64 (z:Int)] wr fun r w'=>r = .returned (fromO (upF rt))∧Below wr.heap.size wr w':=by
  obtain⟨Z,M,a,x',b,y,c,u,rfl,m,F,st⟩:=h
  have e:fromV Z.F.N (x:Int) (z:Int) = upF rt:=by
    rcases hx with ⟨rfl,rfl,_⟩ | ⟨rfl,h1,h2,_⟩
    · exact F.ft
    · exact F.fi z h1 h2
  have kf:=sfrom_any st.sep m.ok.fo (x:=x) (z:=z) (by omega) (by omega)
  refine kf.mono ?_
  rintro r w' ⟨rfl,hb⟩
  refine⟨?_,hb⟩
  unfold fromT
  rw [e]
  rfl
theorem gr_look {s i t:Nat} {rt:Bool} {w0 wr:World} (h:GrE s rt t i w0 wr) (ht:60 ≤ t) :
    Calls Tryz.prog 21 #[.pointer (some ⟨s,0,none⟩),.int .u32 (srcO rt:Int),.int .i64 (srcZ rt:Int)] wr fun r w'=>r = .returned (.tuple #[.agg #[.int .u32 0,.int .i64 0],.int .i64 6])∧Below wr.heap.size wr w':=by
  obtain⟨Z,M,a,x',b,y,c,u,rfl,m,F,st⟩:=h
  have hz:=srcO_lt rt
  obtain⟨p1,g0,hk0⟩:=srcO_pl (rt:=rt) m.l
  have kl:=slook_any st.sep m.ok (x:=srcO rt) (by omega) (srcZ rt:Int)
  rw [lookV_av g0 hk0 (by omega),Int.toNat_natCast,F.gone ht] at kl
  refine kl.mono ?_
  rintro r w' ⟨rfl,hb⟩
  exact⟨rfl,hb⟩
theorem gr_hold {s i t:Nat} {rt:Bool} {w0 wr:World} (h:GrE s rt t i w0 wr) (ht:60 ≤ t) :
    Calls Tryz.prog 23 #[.pointer (some ⟨s,0,none⟩),.int .u32 3] wr fun r w'=>(∃ (a:Option Addr) (cap:Nat),r = .returned (.slice a (i + 2) cap))∧Below wr.heap.size wr w':=by
  obtain⟨Z,M,a,x',b,y,c,u,rfl,m,F,st⟩:=h
  refine (sholders_any st.sep m.ok 3).mono ?_
  rintro r w' ⟨v,rfl,hv,hb⟩
  have hl:=len_of_mem (holdA_nd m.ok 3) (holdG_nd rt t i ht) fun p=>by rw [mem_holdA m.ok,F.hold]
  rw [holdG_len] at hl
  obtain⟨ad,cap,rfl,_⟩:=row_from hv
  exact⟨⟨ad,cap,by rw [hl]⟩,hb⟩
theorem GrE.below {s:Nat} {rt:Bool} {t i:Nat} {w0 wr:World} (h:GrE s rt t i w0 wr):Below w0.heap.size w0 wr:=by
  obtain⟨Z,M,a,x,b,y,c,u,h1,h2,h3,st⟩:=h
  exact st.fresh
end Go.Proofs.YtlakjlmaboioiaaGreatDoor
namespace Go.Proofs.YtlakjlmaboioiaaGreatDoor
open Go.ChangeShapes Go.WideShapes Go.ChangeAt Go.RowKit Go.Deep
end Go.Proofs.YtlakjlmaboioiaaGreatDoor
namespace Go.Proofs.YtlakjlmaboioiaaGreatDoor
open Go.RowKit
set_option maxHeartbeats 4000000 in
set_option maxRecDepth 100000 in
theorem spaceGrants_any {w:World} (henv:Env w) (nn:Nat) (hnn:nn < 256) (rt:Bool) (ot:Nat) (hot:ot < 256) :
    Calls Tryz.prog 4 #[.int .u8 (nn:Int),.bool rt,.int .u8 (ot:Int)] w (Told w (.bool true)):=by
  have ka:=alive17_any henv
  have h16:((2 ^ (6 + 10):Nat):Int) = 65536:=by decide
  have HNew:Hid (∀ W,Below w.heap.size w W→Calls Tryz.prog 15 #[.int .i64 65536,.int .i64 65536,.int .i64 1] W fun r w1=>∃ S:CO,r = .returned (.pointer (some ⟨S.c,0,none⟩))∧FreshO S 6 65536 1∧Step [] (S.hl ++ []) W w1):=fun W hb=>by
    have:=cnew_any (Sep.nil (henv.below hb)) 6 (by omega) (by omega) 65536 (by omega) (by rw [h16];omega) 1 (by omega) (by omega)
    rw [h16] at this
    exact this
  clear henv h16
  go_enter Tryz.func4,Tryz.ntmps4
  go_wp2_with fail
  refine ka.mono ?_
  rintro r w0 ⟨rfl,hb0⟩
  have HB0:=hidden hb0
  clear hb0 ka
  have kn:=HNew.out w0 HB0.out
  go_wp2_with fail
  refine kn.mono ?_
  rintro r w1 ⟨S,rfl,hf,st⟩
  have HM:=hidden (gr_make hf st)
  generalize S.c = c at *
  clear hf st kn HNew
  go_wp2_with fail
  refine HM.out.mono ?_
  rintro r w2 ⟨rfl,hm⟩
  have HM2:=hidden hm
  clear hm HM
  go_wp2_with fail
  refine HM2.out.mono ?_
  rintro r w3 ⟨rfl,hm⟩
  have HM3:=hidden hm
  clear hm HM2
  go_wp2_with fail
  refine HM3.out.mono ?_
  rintro r w4 ⟨rfl,hm⟩
  have HM4:=hidden hm
  clear hm HM3
  go_wp2_with fail
  refine HM4.out.mono ?_
  rintro r w5 ⟨s,rfl,hq⟩
  have HR0:=hidden (gr_root hq)
  clear hq HM4
  go_wp2_with fail
  refine HR0.out.mono ?_
  rintro r w6 ⟨rfl,hq⟩
  have HF:=hidden (gr_first hq (srcO rt) (srcZ rt))
  clear hq HR0
  go_wp2_with fail
  refine HF.out.mono ?_
  rintro r w7 ⟨rfl,hq⟩
  have HQ:=hidden hq
  clear hq HF
  have hmod:((nn:Nat):Int).tmod 30 = ((nn % 30:Nat):Int):=by rw [Int.tmod_eq_emod_of_nonneg (by omega)];omega
  have hwm:IntKind.i64.wrap ((nn:Nat):Int) = ((nn:Nat):Int):=Go.IntWalk.i64_in _ (by omega)
  have hn30:nn % 30 < 30:=by omega
  have hnn0:(0:Int) ≤ ((nn:Nat):Int):=by omega
  have hnn1:((nn:Nat):Int) < 256:=by omega
  generalize nn % 30 = n at *
  go_upto_if 78 with fail
  go_cut [16,17] from 79 to 79 (fun zz oo wc=>zz = .int .i64 (srcZ rt:Int)∧oo = .int .u32 (srcO rt:Int)∧wc = w7)
  case first =>
    clear HQ HB0
    cases rt with
    | false =>
      go_wp2_with fail
      go_meet
      exact⟨rfl,rfl,rfl⟩
    | true =>
      go_wp2_with fail
      go_meet
      exact⟨rfl,rfl,rfl⟩
  obtain⟨rfl,rfl,rfl⟩:=hcut
  have hsO:=srcO_lt rt
  have hmodt:((ot:Nat):Int).tmod 60 = ((ot % 60:Nat):Int):=by rw [Int.tmod_eq_emod_of_nonneg (by omega)];omega
  have hwt:IntKind.i64.wrap ((ot:Nat):Int) = ((ot:Nat):Int):=Go.IntWalk.i64_in _ (by omega)
  have ht60:ot % 60 < 60:=by omega
  have hot0:(0:Int) ≤ ((ot:Nat):Int):=by omega
  have hot1:((ot:Nat):Int) < 256:=by omega
  go_wp2_with fail
  go_loopg [18] n (fun gk iv wr=>∃ i:Nat,iv = .int .i64 (i:Int)∧i + gk = n∧GrQ s (srcO rt) (srcZ rt) i w0 wr)
  case atStart=>exact⟨0,rfl,by omega,HQ.out⟩
  case round =>
    clear HQ
    obtain⟨i,rfl,hig,hq⟩:=hrel
    have HIG:=hidden hig
    have HQ:=hidden hq
    clear hq hig
    by_cases hlt:i < n
    · have HMv:=hidden (gr_move HQ.out (by omega))
      have hi0:(0:Int) ≤ (i:Int):=by omega
      have hi1:(i:Int) < 30:=by omega
      have hin:(i:Int) < (n:Int):=by omega
      clear HQ
      go_wp2_with fail
      refine HMv.out.mono ?_
      rintro r w8 ⟨rfl,hq⟩
      have HQ8:=hidden hq
      clear hq HMv
      go_wp2_with fail
      go_roundg (n - (i + 1))
      case measure=>have:=HIG.out;omega
      case rel=>exact⟨i + 1,by go_num,by have:=HIG.out;omega,HQ8.out⟩
    · have hin:n = i:=by have:=HIG.out;omega
      clear HIG
      subst hin
      generalize ot % 60 = xt at *
      have HG:=hidden (gr_grant HQ.out (t:=60 + xt) (by omega) (by omega))
      rw [show ((60 + xt:Nat):Int) = 60 + (xt:Int) by omega] at HG
      have ht0:(0:Int) ≤ (xt:Int):=by omega
      have ht1:(xt:Int) < 60:=by omega
      clear HQ
      go_wp2_with fail
      refine HG.out.mono ?_
      rintro r w8 ⟨rfl,hq⟩
      have HE:=hidden hq
      clear hq HG
      have HFt:=hidden (gr_from HE.out (x:=2) (z:=60 + xt) (.inl ⟨rfl,rfl,by omega⟩))
      rw [show ((60 + xt:Nat):Int) = 60 + (xt:Int) by omega] at HFt
      go_wp2_with fail
      refine HFt.out.mono ?_
      rintro r w9 ⟨rfl,hb9⟩
      have HB9:=hidden hb9
      clear hb9 HFt
      unfold fromO upF
      cases rt with
      | false =>
        simp only [Bool.false_eq_true,if_false]
        go_wp2_with fail
        obtain⟨gb,hgb⟩:∃ gb,gb = w9.heap.size:=⟨_,rfl⟩
        obtain⟨W9,hW9⟩:∃ W9,W9 = w9.alloc (.cells #[.int .i64 1,.int .i64 0] 46):=⟨_,rfl⟩
        have HG9:Hid (Below w8.heap.size w8 W9):=by
          have h1:=HB9.out.trans (((Below.refl w9.heap.size w9).alloc (Nat.le_refl _) (.cells #[.int .i64 1,.int .i64 0] 46)).mono HB9.out.size)
          rw [← hW9] at h1
          exact h1
        have HC0:Hid (gb < W9.heap.size∧W9.cell? ⟨gb,0,none⟩ = some (.int .i64 1)∧W9.cell? ⟨gb,1,none⟩ = some (.int .i64 0)):=by
          have hc:=Cells.new w9 46 [.int .i64 1,.int .i64 0]
          rw [hW9,hgb]
          exact⟨by simp,hc.cell 0 _ rfl,hc.cell 1 _ rfl⟩
        rw [← hgb,← hW9]
        have HFr:Hid (∀ (i:Nat) (W:World),i < n→Below W9.heap.size W9 W→Calls Tryz.prog 22 #[.pointer (some ⟨s,0,none⟩),.int .u32 1,.int .i64 (10 + (i:Int))] W fun r w'=>r = .returned (fromO (upF false))∧Below W.heap.size W w'):=fun i W hi hb=>by
          have:=gr_from (HE.out.grown (HG9.out.trans (hb.mono HG9.out.size))) (x:=1) (z:=10 + i) (.inr ⟨rfl,by omega,by omega,by omega⟩)
          rw [show ((10 + i:Nat):Int) = 10 + (i:Int) by omega] at this
          exact this
        unfold fromO upF at HFr
        simp only [Bool.false_eq_true,if_false] at HFr
        have HLk:Hid (∀ (W:World),Below W9.heap.size W9 W→Calls Tryz.prog 21 #[.pointer (some ⟨s,0,none⟩),.int .u32 (srcO false:Int),.int .i64 (srcZ false:Int)] W fun r w'=>r = .returned (.tuple #[.agg #[.int .u32 0,.int .i64 0],.int .i64 6])∧Below W.heap.size W w'):=fun W hb =>
          gr_look (HE.out.grown (HG9.out.trans (hb.mono HG9.out.size))) (by omega)
        have HHo:Hid (∀ (W:World),Below W9.heap.size W9 W→Calls Tryz.prog 23 #[.pointer (some ⟨s,0,none⟩),.int .u32 3] W fun r w'=>(∃ (a:Option Addr) (cap:Nat),r = .returned (.slice a (n + 2) cap))∧Below W.heap.size W w'):=fun W hb =>
          gr_hold (HE.out.grown (HG9.out.trans (hb.mono HG9.out.size))) (by omega)
        have HEnd:Hid (∀ W:World,Below W9.heap.size W9 W→Below w.heap.size w W):=fun W hb=>by
          have h1:=HB0.out.trans (HE.out.below.mono HB0.out.size)
          have h2:=h1.trans (HG9.out.mono h1.size)
          exact h2.trans (hb.mono h2.size)
        clear HE HB0 HB9 HG9 hgb hW9
        go_loopg [22] n (fun gk iv wl=>∃ i:Nat,iv = .int .i64 (i:Int)∧i + gk = n∧Below W9.heap.size W9 wl)
        case atStart=>exact⟨0,rfl,by omega,Below.refl _ _⟩
        case round =>
          obtain⟨i,rfl,hig,hb⟩:=hrel
          have HIG:=hidden hig
          have HB:=hidden hb
          clear hb hig
          by_cases hlt2:i < n
          · have kf:=HFr.out i _ hlt2 HB.out
            have hi0:(0:Int) ≤ (i:Int):=by omega
            have hi1:(i:Int) < 30:=by omega
            have hin:(i:Int) < (n:Int):=by omega
            go_wp2_with fail
            refine kf.mono ?_
            rintro r w10 ⟨rfl,hb10⟩
            have HB10:=hidden (HB.out.trans (hb10.mono HB.out.size))
            clear kf hb10 HB
            have hbA:Below W9.heap.size W9 (w10.alloc (.cells #[.int .i64 1,.int .i64 0] 46)):=HB10.out.trans (((Below.refl w10.heap.size w10).alloc (Nat.le_refl _) (.cells #[.int .i64 1,.int .i64 0] 46)).mono HB10.out.size)
            have hc0:=(hbA.cell (p:=⟨gb,0,none⟩) HC0.out.1).trans HC0.out.2.1
            have hc1:=(hbA.cell (p:=⟨gb,1,none⟩) HC0.out.1).trans HC0.out.2.2
            have HBA:=hidden hbA
            clear hbA HB10
            go_wp2_with fail
            all_goals (try (go_region;go_wp2_with fail))
            go_roundg (n - (i + 1))
            case measure=>have:=HIG.out;omega
            case rel=>exact⟨i + 1,by go_num,by have:=HIG.out;omega,HBA.out⟩
          · have hin:n = i:=by have:=HIG.out;omega
            clear HIG HFr
            subst hin
            have kl:=HLk.out _ HB.out
            go_wp2_with fail
            refine kl.mono ?_
            rintro r w10 ⟨rfl,hb10⟩
            have HB10:=hidden (HB.out.trans (hb10.mono HB.out.size))
            clear kl hb10 HB HLk
            have hbA:Below W9.heap.size W9 (w10.alloc (.cells #[.int .u32 0,.int .i64 0] 35)):=HB10.out.trans (((Below.refl w10.heap.size w10).alloc (Nat.le_refl _) (.cells #[.int .u32 0,.int .i64 0] 35)).mono HB10.out.size)
            have HBA:=hidden hbA
            have kh:=HHo.out _ hbA
            clear hbA HHo HB10
            go_wp2_with fail
            refine kh.mono ?_
            rintro r w11 ⟨⟨ah,caph,rfl⟩,hb11⟩
            have HZ:=hidden (HEnd.out _ (HBA.out.trans (hb11.mono HBA.out.size)))
            clear kh hb11 HBA HEnd
            go_wp2_with fail
            go_ret
            exact⟨rfl,HZ.out⟩
      | true =>
        simp only [if_true]
        go_wp2_with fail
        obtain⟨gb,hgb⟩:∃ gb,gb = w9.heap.size:=⟨_,rfl⟩
        obtain⟨W9,hW9⟩:∃ W9,W9 = w9.alloc (.cells #[.int .i64 0,.int .i64 0] 46):=⟨_,rfl⟩
        have HG9:Hid (Below w8.heap.size w8 W9):=by
          have h1:=HB9.out.trans (((Below.refl w9.heap.size w9).alloc (Nat.le_refl _) (.cells #[.int .i64 0,.int .i64 0] 46)).mono HB9.out.size)
          rw [← hW9] at h1
          exact h1
        have HC0:Hid (gb < W9.heap.size∧W9.cell? ⟨gb,0,none⟩ = some (.int .i64 0)∧W9.cell? ⟨gb,1,none⟩ = some (.int .i64 0)):=by
          have hc:=Cells.new w9 46 [.int .i64 0,.int .i64 0]
          rw [hW9,hgb]
          exact⟨by simp,hc.cell 0 _ rfl,hc.cell 1 _ rfl⟩
        rw [← hgb,← hW9]
        have HFr:Hid (∀ (i:Nat) (W:World),i < n→Below W9.heap.size W9 W→Calls Tryz.prog 22 #[.pointer (some ⟨s,0,none⟩),.int .u32 1,.int .i64 (10 + (i:Int))] W fun r w'=>r = .returned (fromO (upF true))∧Below W.heap.size W w'):=fun i W hi hb=>by
          have:=gr_from (HE.out.grown (HG9.out.trans (hb.mono HG9.out.size))) (x:=1) (z:=10 + i) (.inr ⟨rfl,by omega,by omega,by omega⟩)
          rw [show ((10 + i:Nat):Int) = 10 + (i:Int) by omega] at this
          exact this
        unfold fromO upF at HFr
        simp only [if_true] at HFr
        have HLk:Hid (∀ (W:World),Below W9.heap.size W9 W→Calls Tryz.prog 21 #[.pointer (some ⟨s,0,none⟩),.int .u32 (srcO true:Int),.int .i64 (srcZ true:Int)] W fun r w'=>r = .returned (.tuple #[.agg #[.int .u32 0,.int .i64 0],.int .i64 6])∧Below W.heap.size W w'):=fun W hb =>
          gr_look (HE.out.grown (HG9.out.trans (hb.mono HG9.out.size))) (by omega)
        have HHo:Hid (∀ (W:World),Below W9.heap.size W9 W→Calls Tryz.prog 23 #[.pointer (some ⟨s,0,none⟩),.int .u32 3] W fun r w'=>(∃ (a:Option Addr) (cap:Nat),r = .returned (.slice a (n + 2) cap))∧Below W.heap.size W w'):=fun W hb =>
          gr_hold (HE.out.grown (HG9.out.trans (hb.mono HG9.out.size))) (by omega)
        have HEnd:Hid (∀ W:World,Below W9.heap.size W9 W→Below w.heap.size w W):=fun W hb=>by
          have h1:=HB0.out.trans (HE.out.below.mono HB0.out.size)
          have h2:=h1.trans (HG9.out.mono h1.size)
          exact h2.trans (hb.mono h2.size)
        clear HE HB0 HB9 HG9 hgb hW9
        go_loopg [22] n (fun gk iv wl=>∃ i:Nat,iv = .int .i64 (i:Int)∧i + gk = n∧Below W9.heap.size W9 wl)
        case atStart=>exact⟨0,rfl,by omega,Below.refl _ _⟩
        case round =>
          obtain⟨i,rfl,hig,hb⟩:=hrel
          have HIG:=hidden hig
          have HB:=hidden hb
          clear hb hig
          by_cases hlt2:i < n
          · have kf:=HFr.out i _ hlt2 HB.out
            have hi0:(0:Int) ≤ (i:Int):=by omega
            have hi1:(i:Int) < 30:=by omega
            have hin:(i:Int) < (n:Int):=by omega
            go_wp2_with fail
            refine kf.mono ?_
            rintro r w10 ⟨rfl,hb10⟩
            have HB10:=hidden (HB.out.trans (hb10.mono HB.out.size))
            clear kf hb10 HB
            have hbA:Below W9.heap.size W9 (w10.alloc (.cells #[.int .i64 0,.int .i64 0] 46)):=HB10.out.trans (((Below.refl w10.heap.size w10).alloc (Nat.le_refl _) (.cells #[.int .i64 0,.int .i64 0] 46)).mono HB10.out.size)
            have hc0:=(hbA.cell (p:=⟨gb,0,none⟩) HC0.out.1).trans HC0.out.2.1
            have hc1:=(hbA.cell (p:=⟨gb,1,none⟩) HC0.out.1).trans HC0.out.2.2
            have HBA:=hidden hbA
            clear hbA HB10
            go_wp2_with fail
            all_goals (try (go_region;go_wp2_with fail))
            go_roundg (n - (i + 1))
            case measure=>have:=HIG.out;omega
            case rel=>exact⟨i + 1,by go_num,by have:=HIG.out;omega,HBA.out⟩
          · have hin:n = i:=by have:=HIG.out;omega
            clear HIG HFr
            subst hin
            have kl:=HLk.out _ HB.out
            go_wp2_with fail
            refine kl.mono ?_
            rintro r w10 ⟨rfl,hb10⟩
            have HB10:=hidden (HB.out.trans (hb10.mono HB.out.size))
            clear kl hb10 HB HLk
            have hbA:Below W9.heap.size W9 (w10.alloc (.cells #[.int .u32 0,.int .i64 0] 35)):=HB10.out.trans (((Below.refl w10.heap.size w10).alloc (Nat.le_refl _) (.cells #[.int .u32 0,.int .i64 0] 35)).mono HB10.out.size)
            have HBA:=hidden hbA
            have kh:=HHo.out _ hbA
            clear hbA HHo HB10
            go_wp2_with fail
            refine kh.mono ?_
            rintro r w11 ⟨⟨ah,caph,rfl⟩,hb11⟩
            have HZ:=hidden (HEnd.out _ (HBA.out.trans (hb11.mono HBA.out.size)))
            clear kh hb11 HBA HEnd
            go_wp2_with fail
            go_ret
            exact⟨rfl,HZ.out⟩
open Go.RowKit
def laids:List (String × DataW Unit):=[("math/bits.deBruijn32tab", Rows.laid_math_bits_deBruijn32tab),("math/bits.deBruijn64tab", Rows.laid_math_bits_deBruijn64tab),("quartermaster/pool.costs", Rows.laid_quartermaster_pool_costs)]
def dbt32:List Int:=[0,1,28,2,29,14,24,3,30,22,20,15,25,17,4,8,31,27,13,23,21,19,16,7,26,12,18,6,11,5,10,9]
theorem g32:Tryz.prog.globalNamed "math/bits.deBruijn32tab" = some 2:=by kernel_rfl
theorem t32:(Tryz.prog.globals[2]?).map (·.type) = some 380:=by kernel_rfl
theorem g64:Tryz.prog.globalNamed "math/bits.deBruijn64tab" = some 1:=by kernel_rfl
theorem gCost:Tryz.prog.globalNamed "quartermaster/pool.costs" = some 0:=by kernel_rfl
theorem t64:(Tryz.prog.globals[1]?).map (·.type) = some 356:=by kernel_rfl
theorem tCost:(Tryz.prog.globals[0]?).map (·.type) = some 258:=by kernel_rfl
theorem env_of_laid {W:World} (h:laidMetH Tryz.prog laids W):Env W:=by
  rw [MakeChecks.laidMetH_plain _ _ _ (by kernel_rfl)] at h
  have h1:laidMet Tryz.prog (("math/bits.deBruijn32tab", Lib.tabData .u8 dbt32) :: [("math/bits.deBruijn64tab", Rows.laid_math_bits_deBruijn64tab),("quartermaster/pool.costs", Rows.laid_quartermaster_pool_costs)]) W:=h
  have hA:=Lib.tabIs_of_head g32 t32 Tryz.underlying380 Tryz.underlying5 (by kernel_rfl) (by kernel_rfl) h1
  have h2:laidMet Tryz.prog (("math/bits.deBruijn64tab", Lib.tabData .u8 (dbt.map fun (n:Nat)=>(n:Int))) :: [("quartermaster/pool.costs", Rows.laid_quartermaster_pool_costs)]) W:=laidMet.tail h1
  have h3:laidMet Tryz.prog (("quartermaster/pool.costs", Lib.tabData .i64 costL) :: []) W:=laidMet.tail h2
  have hB:=Lib.tabIs_of_head g64 t64 Tryz.underlying356 Tryz.underlying5 (by kernel_rfl) (by kernel_rfl) h2
  have hC:=Lib.tabIs_of_head gCost tCost Tryz.underlying258 Tryz.underlying3 (by kernel_rfl) (by kernel_rfl) h3
  have cB:TabB W:=by
    intro j v hv
    have hj:=(List.getElem?_eq_some_iff.1 hv).1
    have:=hB.cell g64 j (by simpa using hj)
    rw [this]
    congr 2
    simp [List.getD,hv]
  have cC:TabC W:=by
    intro j v hv
    have hj:=(List.getElem?_eq_some_iff.1 hv).1
    have:=hC.cell gCost j (by simpa using hj)
    rw [this]
    congr 2
    simp [List.getD,hv]
  refine⟨?_,cB,cC⟩
  have c0:=World.block_lt_of_cell? W ⟨1,0,none⟩ (cB 0 0 rfl)
  have c1:=World.block_lt_of_cell? W ⟨0,0,none⟩ (cC 0 0 rfl)
  have c2:=World.block_lt_of_cell? W ⟨2,0,none⟩ (hA.cell g32 0 (by decide))
  have c0':1 < W.heap.size:=c0
  have c1':0 < W.heap.size:=c1
  have c2':2 < W.heap.size:=c2
  unfold GB
  omega
end Go.Proofs.YtlakjlmaboioiaaGreatDoor

/- CoreApart returns true at every input. No condition. Part of its proof. -/
import Derived.Test.YtcnbbenmlffgpaaGreatDoorCa01
import Derived.Laws.MakeOwn
set_option linter.unusedVariables false
/- Pieces of memory apart from one another: a list of blocks with what each holds; steps that turn it. No condition. -/
namespace Go.Proofs.YtcnbbenmlffgpaaGreatDoor
open Go.RowKit

/-- A fact laid where the walk does not look. -/
theorem hidden {p : Prop} (h : p) : Hid p := h

abbrev HL := List (Nat × (Obj → Prop))
def keys (H : HL) : List Nat := H.map Prod.fst
@[simp] theorem keys_nil : keys [] = [] := rfl
@[simp] theorem keys_cons (p : Nat × (Obj → Prop)) (H : HL) : keys (p :: H) = p.1 :: keys H := rfl
@[simp] theorem keys_append (A B : HL) : keys (A ++ B) = keys A ++ keys B := by simp [keys]
/-- These blocks lie apart, and each holds what is said of it. -/
structure Sep (w : World) (H : HL) : Prop where
  nd : (keys H).Nodup
  at' : ∀ p ∈ H, ∃ o, w.heap[p.1]? = some o ∧ p.2 o
  hi : ∀ b ∈ keys H, GB ≤ b
  env : Env w
/-- From H to H': only blocks of H turn, what H' has beyond is new. -/
structure Step (H H' : HL) (w w' : World) : Prop where
  sep : Sep w' H'
  chg : Chg (fun b => b ∈ keys H) w w'
  new : ∀ b ∈ keys H', b ∈ keys H ∨ w.heap.size ≤ b

def isC (T : TypeId) (cs : List Value) : Obj → Prop := fun o => o = .cells cs.toArray T (0, 0)
/-- A row that may have cells beyond: its first are these. -/
def isR (T : TypeId) (n : Nat) (cs : List Value) : Obj → Prop := fun o => ∃ cur : Array Value, o = .cells cur T (0, 0) ∧ cur.size = n ∧ cur.toList.take cs.length = cs
def isM (kv : List (Value × Value)) : Obj → Prop := fun o => ∃ es clock, o = .map es clock ∧ KvOf es clock kv

theorem Sep.lt {w : World} {H : HL} (h : Sep w H) {b : Nat} (hb : b ∈ keys H) : b < w.heap.size := by
  obtain ⟨p, hp, rfl⟩ := List.mem_map.1 hb
  obtain ⟨o, ho, _⟩ := h.at' p hp
  exact lt_of_block ho
theorem Sep.nil {w : World} (h : Env w) : Sep w [] := ⟨by simp, by simp, by simp, h⟩
theorem Sep.sub {w : World} {H K : HL} (h : Sep w H) (hs : K.Sublist H) : Sep w K := ⟨h.nd.sublist (hs.map _), fun p hp => h.at' p (hs.subset hp), fun b hb => h.hi b ((hs.map Prod.fst).subset hb), h.env⟩
theorem Sep.perm {w : World} {H K : HL} (h : Sep w H) (hp : H.Perm K) : Sep w K := ⟨(hp.map _).nodup_iff.1 h.nd, fun p hp' => h.at' p (hp.mem_iff.2 hp'), fun b hb => h.hi b ((hp.map Prod.fst).mem_iff.2 hb), h.env⟩
theorem Sep.left {w : World} {A B : HL} (h : Sep w (A ++ B)) : Sep w A := h.sub (List.sublist_append_left A B)
theorem Sep.right {w : World} {A B : HL} (h : Sep w (A ++ B)) : Sep w B := h.sub (List.sublist_append_right A B)
theorem Sep.tail {w : World} {p : Nat × (Obj → Prop)} {B : HL} (h : Sep w (p :: B)) : Sep w B := h.sub (List.sublist_cons_self p B)
theorem Sep.get {w : World} {H : HL} (h : Sep w H) {b : Nat} {q : Obj → Prop} (hm : (b, q) ∈ H) : ∃ o, w.heap[b]? = some o ∧ q o := h.at' (b, q) hm
theorem Sep.cells {w : World} {H : HL} (h : Sep w H) {b : Nat} {T : TypeId} {cs : List Value} (hm : (b, isC T cs) ∈ H) : Cells w b T cs := by
  obtain ⟨o, ho, rfl⟩ := h.get hm
  exact ho
theorem Sep.map {w : World} {H : HL} (h : Sep w H) {b : Nat} {kv : List (Value × Value)} (hm : (b, isM kv) ∈ H) : MapIs w b kv := by
  obtain ⟨o, ho, es, clock, rfl, hr⟩ := h.get hm
  exact ⟨es, clock, ho, hr⟩
theorem Sep.row {w : World} {H : HL} (h : Sep w H) {b : Nat} {T : TypeId} {n : Nat} {cs : List Value} (hm : (b, isR T n cs) ∈ H) : ∃ ds, Cells w b T ds ∧ ds.length = n ∧ ds.take cs.length = cs := by
  obtain ⟨o, ho, cur, rfl, hn, hr⟩ := h.get hm
  exact ⟨cur.toList, by simpa [Cells] using ho, by simpa using hn, hr⟩
/-- Nothing of it turned. -/
theorem Sep.same {w w' : World} {H : HL} (h : Sep w H) (hs : ∀ b ∈ keys H, w'.heap[b]? = w.heap[b]?) (he : Env w') : Sep w' H :=
  ⟨h.nd, fun p hp => by obtain ⟨o, ho, hq⟩ := h.at' p hp; exact ⟨o, (hs p.1 (List.mem_map_of_mem hp)).trans ho, hq⟩, h.hi, he⟩
theorem Env.chg {w w' : World} {F : Nat → Prop} (h : Env w) (hc : Chg F w w') (hF : ∀ b, F b → GB ≤ b) : Env w' :=
  h.same (fun b hb => hc.block b (Nat.lt_of_lt_of_le hb h.gb) fun hf => by have := hF b hf; omega) (Nat.le_trans h.gb hc.size)
theorem Env.below {w w' : World} (h : Env w) (hb : Below w.heap.size w w') : Env w' :=
  h.same (fun b hl => hb.block b (Nat.lt_of_lt_of_le hl h.gb)) (Nat.le_trans h.gb hb.size)
theorem Sep.chg {w w' : World} {H : HL} {F : Nat → Prop} (h : Sep w H) (hc : Chg F w w') (hF : ∀ b ∈ keys H, ¬ F b) (hG : ∀ b, F b → GB ≤ b) : Sep w' H :=
  h.same (fun b hb => hc.block b (h.lt hb) (hF b hb)) (h.env.chg hc hG)
theorem Step.refl {w : World} {H : HL} (h : Sep w H) : Step H H w w := ⟨h, Chg.refl _ _, fun _ hb => .inl hb⟩
theorem Step.trans {w w1 w2 : World} {H H1 H2 : HL} (h : Step H H1 w w1) (k : Step H1 H2 w1 w2) : Step H H2 w w2 := by
  have hs := h.chg.size
  refine ⟨k.sep, h.chg.trans k.chg h.new, fun b hb => ?_⟩
  rcases k.new b hb with h' | h'
  · exact h.new b h'
  · exact .inr (by omega)
theorem Step.perm {w w' : World} {H H' K K' : HL} (h : Step H H' w w') (hp : H.Perm K) (hp' : H'.Perm K') : Step K K' w w' :=
  ⟨h.sep.perm hp', h.chg.mono fun b hb => .inl ((hp.map _).mem_iff.1 hb), fun b hb => by rcases h.new b ((hp'.map _).mem_iff.2 hb) with h' | h'; exact .inl ((hp.map _).mem_iff.1 h'); exact .inr h'⟩
/-- What lies beside stays. -/
theorem Step.frame {w w' : World} {H H' : HL} (A B : HL) (hA : Sep w (A ++ H ++ B)) (h : Step H H' w w') : Step (A ++ H ++ B) (A ++ H' ++ B) w w' := by
  have hnd := hA.nd
  simp only [keys_append] at hnd
  have hd := List.nodup_append.1 hnd
  have hd1 := List.nodup_append.1 hd.1
  have other : ∀ b, b ∈ keys A ∨ b ∈ keys B → b ∉ keys H := by
    rintro b (hb | hb) hH
    · exact hd1.2.2 b hb b hH rfl
    · exact hd.2.2 b (List.mem_append_right _ hH) b hb rfl
  have lt : ∀ b, b ∈ keys A ∨ b ∈ keys B → b < w.heap.size := by
    rintro b (hb | hb) <;> refine hA.lt ?_ <;> simp [hb]
  have fresh : ∀ b, b ∈ keys A ∨ b ∈ keys B → b ∉ keys H' := by
    intro b hb hH'
    rcases h.new b hH' with h1 | h1
    · exact other b hb h1
    · have := lt b hb; omega
  refine ⟨⟨?_, ?_, ?_, h.sep.env⟩, ?_, ?_⟩
  · simp only [keys_append]
    rw [List.nodup_append]
    refine ⟨?_, hd.2.1, ?_⟩
    · rw [List.nodup_append]
      exact ⟨hd1.1, h.sep.nd, fun a ha b hb e => fresh a (.inl ha) (e ▸ hb)⟩
    · intro a ha b hb e
      subst e
      rcases List.mem_append.1 ha with ha | ha
      · exact hd.2.2 a (List.mem_append_left _ ha) a hb rfl
      · exact fresh a (.inr hb) ha
  · intro p hp
    rcases List.mem_append.1 hp with hp | hp
    · rcases List.mem_append.1 hp with hp | hp
      · obtain ⟨o, ho, hq⟩ := hA.at' p (by simp [hp])
        exact ⟨o, (h.chg.block p.1 (lt_of_block ho) (other p.1 (.inl (List.mem_map_of_mem hp)))).trans ho, hq⟩
      · exact h.sep.at' p hp
    · obtain ⟨o, ho, hq⟩ := hA.at' p (by simp [hp])
      exact ⟨o, (h.chg.block p.1 (lt_of_block ho) (other p.1 (.inr (List.mem_map_of_mem hp)))).trans ho, hq⟩
  · intro b hb
    simp only [keys_append, List.mem_append] at hb
    rcases hb with (hb | hb) | hb
    · exact hA.hi b (by simp [hb])
    · exact h.sep.hi b hb
    · exact hA.hi b (by simp [hb])
  · exact h.chg.mono fun b hb => .inl (by simp [hb])
  · intro b hb
    simp only [keys_append, List.mem_append] at hb ⊢
    rcases hb with (hb | hb) | hb
    · exact .inl (.inl (.inl hb))
    · rcases h.new b hb with h' | h'
      · exact .inl (.inl (.inr h'))
      · exact .inr h'
    · exact .inl (.inr hb)
theorem Step.drop {w w' : World} {H H' K : HL} (h : Step H H' w w') (hs : K.Sublist H') : Step H K w w' :=
  ⟨h.sep.sub hs, h.chg, fun b hb => h.new b ((hs.map Prod.fst).subset hb)⟩
theorem Step.from_drew {w w' : World} {H H' : HL} (h : Step H H' w.drew w') : Step H H' w w' := ⟨h.sep, ((Chg.refl (fun b => b ∈ keys H) w).drew).trans h.chg fun _ hb => .inl hb, h.new⟩
theorem Step.from_drewN {w w' : World} {H H' : HL} {n : Nat} (h : Step H H' (w.drewN n) w') : Step H H' w w' := ⟨h.sep, ⟨h.chg.os, h.chg.tape, h.chg.output, h.chg.size, h.chg.block⟩, h.new⟩
theorem Step.from_alloc {w w' : World} {H H' : HL} {o : Obj} (h : Step H H' (w.alloc o) w') : Step H H' w w' := by
  have hs : (w.alloc o).heap.size = w.heap.size + 1 := by simp
  refine ⟨h.sep, ((Chg.refl (fun b => b ∈ keys H) w).alloc o).trans h.chg fun _ hb => .inl hb, fun b hb => ?_⟩
  rcases h.new b hb with h' | h'
  · exact .inl h'
  · exact .inr (by omega)
theorem Sep.grown {w w' : World} {H : HL} (h : Sep w H) (hb : Below w.heap.size w w') : Step H H w w' :=
  ⟨h.same (fun b hb' => hb.block b (h.lt hb')) (h.env.below hb), ⟨hb.os, hb.tape, hb.output, hb.size, fun k hk _ => hb.block k hk⟩, fun _ hb => .inl hb⟩
theorem Sep.drew {w : World} {H : HL} (h : Sep w H) : Sep w.drew H := h.same (fun _ _ => rfl) (h.env.same (fun _ _ => rfl) h.env.gb)
theorem Step.drew {w w' : World} {H H' : HL} (h : Step H H' w w') : Step H H' w w'.drew := ⟨h.sep.drew, h.chg.drew, h.new⟩
theorem Sep.drewN {w : World} {H : HL} (h : Sep w H) (n : Nat) : Sep (w.drewN n) H := h.same (fun _ _ => rfl) (h.env.same (fun _ _ => rfl) h.env.gb)
theorem Sep.alloc {w : World} {H : HL} (h : Sep w H) (o : Obj) : Sep (w.alloc o) H := h.same (fun b hb => Below.heap_alloc _ _ _ (h.lt hb)) (h.env.below ((Below.refl _ _).alloc (Nat.le_refl _) _))
/-- A new block. -/
theorem Sep.new {w : World} {H : HL} (h : Sep w H) (T : TypeId) (cs : List Value) : Step H ((w.heap.size, isC T cs) :: H) w (w.alloc (.cells cs.toArray T)) := by
  refine ⟨⟨?_, ?_, ?_, (h.alloc _).env⟩, (Chg.refl _ _).alloc _, ?_⟩
  · simp only [keys_cons, List.nodup_cons]
    exact ⟨fun hb => by have := h.lt hb; omega, h.nd⟩
  · intro p hp
    rcases List.mem_cons.1 hp with rfl | hp
    · exact ⟨_, Cells.new w T cs, rfl⟩
    · exact (h.alloc _).at' p hp
  · intro b hb
    rcases List.mem_cons.1 hb with rfl | hb
    · exact h.env.gb
    · exact h.hi b hb
  · intro b hb
    rcases List.mem_cons.1 hb with rfl | hb
    · exact .inr (Nat.le_refl _)
    · exact .inl hb
theorem Sep.newMap {w : World} {H : HL} (h : Sep w H) : Step H ((w.heap.size, isM []) :: H) w (w.alloc (.map #[] 0)) := by
  refine ⟨⟨?_, ?_, ?_, (h.alloc _).env⟩, (Chg.refl _ _).alloc _, ?_⟩
  · simp only [keys_cons, List.nodup_cons]
    exact ⟨fun hb => by have := h.lt hb; omega, h.nd⟩
  · intro p hp
    rcases List.mem_cons.1 hp with rfl | hp
    · refine ⟨.map #[] 0, ?_, ⟨#[], 0, rfl, Go.MapKept.stamped_empty 0, rfl⟩⟩
      show (w.heap.push _)[w.heap.size]? = _
      simp
    · exact (h.alloc _).at' p hp
  · intro b hb
    rcases List.mem_cons.1 hb with rfl | hb
    · exact h.env.gb
    · exact h.hi b hb
  · intro b hb
    rcases List.mem_cons.1 hb with rfl | hb
    · exact .inr (Nat.le_refl _)
    · exact .inl hb
/-- A store into a block of it. -/
theorem Sep.set {w : World} {A B : HL} {b : Nat} {T : TypeId} {cs : List Value} (h : Sep w (A ++ (b, isC T cs) :: B)) (i : Nat) (v : Value) : Step (A ++ (b, isC T cs) :: B) (A ++ (b, isC T (cs.set i v)) :: B) w (w.setCell ⟨b, i, none⟩ v) := by
  have hc : Cells w b T cs := h.cells (by simp)
  have hnd := h.nd
  have hchg : Chg (fun b' => b' ∈ keys (A ++ (b, isC T cs) :: B)) w (w.setCell ⟨b, i, none⟩ v) := (Chg.refl _ _).set _ _ (.inl (by simp))
  refine ⟨⟨by simpa using hnd, ?_, fun b' hb' => h.hi b' (by simpa using hb'), h.env.chg hchg h.hi⟩, hchg, fun b' hb' => .inl (by simpa using hb')⟩
  intro p hp
  by_cases hpb : p.1 = b
  · have hp' : p = (b, isC T (cs.set i v)) := by
      simp only [keys_append, keys_cons] at hnd
      have hn := List.nodup_append.1 hnd
      rcases List.mem_append.1 hp with hp | hp
      · exact absurd rfl (hn.2.2 b (hpb ▸ List.mem_map_of_mem hp) b (by simp))
      · rcases List.mem_cons.1 hp with rfl | hp
        · rfl
        · exact absurd (hpb ▸ List.mem_map_of_mem hp) (List.nodup_cons.1 hn.2.1).1
    subst hp'
    exact ⟨_, hc.set i v, rfl⟩
  · obtain ⟨o, ho, hq⟩ := h.at' p (by
      rcases List.mem_append.1 hp with hp | hp
      · simp [hp]
      · rcases List.mem_cons.1 hp with rfl | hp
        · exact absurd rfl hpb
        · simp [hp])
    exact ⟨o, (Below.heap_setCell _ _ _ _ hpb).trans ho, hq⟩
/-- A block of it is laid anew by an operation that turns nothing beside. -/
theorem Sep.turn {w w' : World} {A B : HL} {b : Nat} {q q' : Obj → Prop} (h : Sep w (A ++ (b, q) :: B)) (hg : w.grownBy w' (some b)) (hq : ∃ o, w'.heap[b]? = some o ∧ q' o) : Step (A ++ (b, q) :: B) (A ++ (b, q') :: B) w w' := by
  have hnd := h.nd
  have hchg : Chg (fun b' => b' ∈ keys (A ++ (b, q) :: B)) w w' := ⟨hg.os, hg.tape, hg.output, hg.size, fun k hk hF => hg.block k hk (fun e => hF (by cases e; simp))⟩
  refine ⟨⟨by simpa using hnd, ?_, fun b' hb' => h.hi b' (by simpa using hb'), h.env.chg hchg h.hi⟩, hchg, fun b' hb' => .inl (by simpa using hb')⟩
  intro p hp
  by_cases hpb : p.1 = b
  · have hp' : p = (b, q') := by
      simp only [keys_append, keys_cons] at hnd
      have hn := List.nodup_append.1 hnd
      rcases List.mem_append.1 hp with hp | hp
      · exact absurd rfl (hn.2.2 b (hpb ▸ List.mem_map_of_mem hp) b (by simp))
      · rcases List.mem_cons.1 hp with rfl | hp
        · rfl
        · exact absurd (hpb ▸ List.mem_map_of_mem hp) (List.nodup_cons.1 hn.2.1).1
    subst hp'
    exact hq
  · have hp2 : p ∈ A ++ (b, q) :: B := by
      rcases List.mem_append.1 hp with hp | hp
      · simp [hp]
      · rcases List.mem_cons.1 hp with rfl | hp
        · exact absurd rfl hpb
        · simp [hp]
    obtain ⟨o, ho, hq⟩ := h.at' p hp2
    exact ⟨o, (hg.block p.1 (lt_of_block ho) (fun e => hpb (Option.some.inj e))).trans ho, hq⟩
theorem Step.below {w w' : World} {H H' : HL} {B : Nat} (h : Step H H' w w') (hB : B ≤ w.heap.size) (hH : ∀ b ∈ keys H, B ≤ b) : Below B w w' := h.chg.below hB hH
theorem fm_split {α : Type} (f : α → HL) (L : List α) (k : Nat) (x : α) (h : L[k]? = some x) : L.flatMap f = (L.take k).flatMap f ++ f x ++ (L.drop (k + 1)).flatMap f := by
  have hk : k < L.length := (List.getElem?_eq_some_iff.1 h).1
  have e : L = L.take k ++ x :: L.drop (k + 1) := by
    have := List.getElem?_eq_some_iff.1 h
    rw [← this.2, List.getElem_cons_drop, List.take_append_drop]
  conv => lhs; rw [e]
  simp [List.append_assoc]
theorem fm_set {α : Type} (f : α → HL) (L : List α) (k : Nat) (y : α) (h : k < L.length) : (L.set k y).flatMap f = (L.take k).flatMap f ++ f y ++ (L.drop (k + 1)).flatMap f := by
  rw [fm_split f (L.set k y) k y (by simp [h]), List.take_set_of_le (Nat.le_refl k), List.drop_set_of_lt (by omega)]
theorem made_one (z : Value) (n : Nat) : madeCells #[z] n = (List.replicate n z).toArray := by
  apply Array.ext'
  simp [madeCells, List.eq_replicate_iff, Nat.mod_one]
/-- A new slice of n zeros of one cell each. -/
theorem run_make_one {P : Program} {w : World} (t e : TypeId) (i : TypeInfo) (z : Value) (bytes : Nat) (ht : P.underlying t = some (.slice e)) (hi : P.info? e = some i) (hz : i.zero = some z) (hs : i.size = 1) (hb : i.bytes = bytes) (hzc : z.cells = #[z])
    (n : Nat) (hn : n ≤ 1099511627776) (hbytes : bytes ≤ 256) :
    (Instr.makeSlice t (.int .i64 n) (.int .i64 n)).run P w = .ok (.slice (some ⟨w.heap.size, 0, none⟩) n n) (w.alloc (.cells (List.replicate n z).toArray e)) := by
  have h1 : i.bytes * n ≤ 256 * 1099511627776 := Nat.mul_le_mul (by omega) hn
  have h2 : (i.bytes : Int) * (n : Int) ≤ 281474976710656 := by
    have h : ((i.bytes * n : Nat) : Int) ≤ 281474976710656 := by omega
    rwa [Int.natCast_mul] at h
  have := run_make (P := P) w t e i z ht hi hz .i64 .i64 n n (by omega) (by omega) h2 (by omega)
  rw [hs, hzc, Int.toNat_natCast, Nat.mul_one, made_one] at this
  exact this
/-- It answers v, and nothing that was turned. -/
def Told (w : World) (v : Value) (r : Ending) (w' : World) : Prop := r = .returned v ∧ Below w.heap.size w w'
end Go.Proofs.YtcnbbenmlffgpaaGreatDoor

/- Words of 64 bits as functions of their bits: plain numbers. No condition. -/
namespace Go.Proofs.YtcnbbenmlffgpaaGreatDoor

def wordN (f : Nat → Bool) : Nat → Nat
  | 0 => 0
  | n + 1 => wordN f n + 2 ^ n * (f n).toNat
theorem wordN_lt (f : Nat → Bool) (n : Nat) : wordN f n < 2 ^ n := by
  induction n with
  | zero => simp [wordN]
  | succ n ih =>
    have : (f n).toNat ≤ 1 := Bool.toNat_le _
    have h2 : 2 ^ n * (f n).toNat ≤ 2 ^ n * 1 := Nat.mul_le_mul_left _ this
    simp only [wordN]; rw [Nat.pow_succ]; omega
theorem wordN_bit (f : Nat → Bool) (n j : Nat) : (wordN f n).testBit j = (decide (j < n) && f j) := by
  induction n with
  | zero => simp [wordN]
  | succ n ih =>
    simp only [wordN]
    rw [Nat.add_comm, Nat.testBit_two_pow_mul_add _ (wordN_lt f n)]
    by_cases h : j < n
    · rw [if_pos h, ih]; simp [h]; intro _; omega
    · rw [if_neg h]
      by_cases h2 : j = n
      · subst h2; cases f j <;> simp
      · have : (f n).toNat.testBit (j - n) = false := Nat.testBit_lt_two_pow (Nat.lt_of_le_of_lt (Bool.toNat_le _) (Nat.one_lt_two_pow (by omega)))
        rw [this]; simp; intro h3; omega
theorem wordN_eq {x n : Nat} (hx : x < 2 ^ n) (f : Nat → Bool) (h : ∀ j, j < n → x.testBit j = f j) : x = wordN f n := by
  apply Nat.eq_of_testBit_eq
  intro j
  rw [wordN_bit]
  by_cases hj : j < n
  · simp [hj, h j hj]
  · rw [Nat.testBit_lt_two_pow (Nat.lt_of_lt_of_le hx (Nat.pow_le_pow_right (by omega) (by omega)))]; simp [hj]
theorem wordN_congr (f g : Nat → Bool) (n : Nat) (h : ∀ j, j < n → f j = g j) : wordN f n = wordN g n :=
  wordN_eq (wordN_lt f n) g fun j hj => by rw [wordN_bit]; simp [hj, h j hj]
theorem wordN_zero {f : Nat → Bool} {n : Nat} : wordN f n = 0 ↔ ∀ j, j < n → f j = false := by
  constructor
  · intro h j hj
    have := wordN_bit f n j
    rw [h] at this; simpa [hj] using this.symm
  · intro h
    have := wordN_eq (x := 0) (Nat.two_pow_pos n) f (fun j hj => by simp [h j hj])
    exact this.symm
/-- One bit. -/
theorem word_get (f : Nat → Bool) (s : Nat) (hs : s < 64) : (wordN f 64 / 2 ^ s) &&& 1 = (f s).toNat := by
  have h := wordN_bit f 64 s
  rw [Nat.testBit_eq_decide_div_mod_eq] at h
  rw [Nat.and_one_is_mod]
  simp only [hs, decide_true, Bool.true_and] at h
  cases hf : f s with
  | true => rw [hf] at h; simpa using h
  | false => rw [hf] at h; simp at h; simpa using h
theorem word_flip (f : Nat → Bool) (s : Nat) (hs : s < 64) : wordN f 64 ^^^ 2 ^ s = wordN (fun j => if j = s then !f j else f j) 64 := by
  refine wordN_eq (Nat.xor_lt_two_pow (wordN_lt f 64) (Nat.pow_lt_pow_right (by omega) hs)) _ fun j hj => ?_
  rw [Nat.testBit_xor, wordN_bit, Nat.testBit_two_pow]
  by_cases h : j = s
  · subst h; simp [hj]
  · have : ¬ s = j := fun e => h e.symm
    simp [hj, h, this]
theorem word_not (f : Nat → Bool) : wordN f 64 ^^^ 18446744073709551615 = wordN (fun j => !f j) 64 := by
  have hm : (18446744073709551615 : Nat) = 2 ^ 64 - 1 := by decide
  refine wordN_eq (Nat.xor_lt_two_pow (wordN_lt f 64) (by decide)) _ fun j hj => ?_
  rw [Nat.testBit_xor, wordN_bit, hm, Nat.testBit_two_pow_sub_one]
  simp [hj]
theorem word_cut (f : Nat → Bool) (s : Nat) : wordN f 64 / 2 ^ s * 2 ^ s % 18446744073709551616 = wordN (fun j => decide (s ≤ j) && f j) 64 := by
  have hlt : wordN f 64 / 2 ^ s * 2 ^ s < 2 ^ 64 := Nat.lt_of_le_of_lt (Nat.div_mul_le_self _ _) (wordN_lt f 64)
  rw [Nat.mod_eq_of_lt (by simpa using hlt)]
  refine wordN_eq hlt _ fun j hj => ?_
  rw [← Nat.shiftLeft_eq, ← Nat.shiftRight_eq_div_pow, Nat.testBit_shiftLeft, Nat.testBit_shiftRight, wordN_bit]
  by_cases h : s ≤ j
  · simp [h, show s + (j - s) = j by omega, hj]
  · simp [h]

/-- The lowest bit that is on. -/
theorem word_low (f : Nat → Bool) (t : Nat) (ht : t < 64) (h : f t = true) (hl : ∀ j, j < t → f j = false) : wordN f 64 &&& (18446744073709551616 - wordN f 64) = 2 ^ t := by
  have hlt := wordN_lt f 64
  have hdvd : 2 ^ t ∣ wordN f 64 := by
    rw [Nat.dvd_iff_mod_eq_zero]
    have : wordN f 64 % 2 ^ t = 0 := by
      apply Nat.eq_of_testBit_eq
      intro j
      rw [Nat.testBit_mod_two_pow, wordN_bit]
      by_cases hj : j < t
      · simp [hj, hl j hj]
      · simp [hj]
    exact this
  obtain ⟨m, hm⟩ := hdvd
  have hmo : m % 2 = 1 := by
    have := wordN_bit f 64 t
    rw [hm, Nat.testBit_two_pow_mul] at this
    simp [ht, h, Nat.testBit_zero] at this
    exact this
  have e0 : m = 2 * (m / 2) + 1 := by omega
  generalize hk : m / 2 = k at e0
  subst e0
  have hpos : 0 < 2 ^ t := Nat.two_pow_pos t
  have e1 : 2 ^ t * (2 * k + 1) = 2 ^ t * (2 * k) + 2 ^ t := by rw [Nat.mul_add, Nat.mul_one]
  have hlt2 : 2 ^ t * (2 * k) + 2 ^ t < 2 ^ 64 := by rw [← e1, ← hm]; exact hlt
  rw [hm, show (18446744073709551616 : Nat) = 2 ^ 64 from by decide]
  have e2 : 2 ^ 64 - 2 ^ t * (2 * k + 1) = 2 ^ 64 - (2 ^ t * (2 * k) + (2 ^ t - 1) + 1) := by rw [e1]; congr 1; omega
  rw [e2]
  apply Nat.eq_of_testBit_eq
  intro j
  rw [Nat.testBit_and, Nat.testBit_two_pow_sub_succ (by omega), Nat.testBit_two_pow_mul_add _ (by omega), Nat.testBit_two_pow_mul, Nat.testBit_two_pow]
  by_cases h1 : j < t
  · have : ¬ t = j := by omega
    simp [h1, this]
  · by_cases h2 : j = t
    · subst h2; simp [ht, Nat.testBit_zero]
    · have h3 : ¬ t = j := by omega
      have h4 : ∀ x, (2 * k + x).testBit (j - t) = (2 * k + x).testBit ((j - t - 1) + 1) := fun x => by rw [show j - t - 1 + 1 = j - t by omega]
      have h5 := h4 0
      have h6 := h4 1
      rw [Nat.testBit_succ] at h5 h6
      rw [Nat.add_zero] at h5
      rw [h6, h5, show (2 * k + 1) / 2 = k by omega, show 2 * k / 2 = k by omega]
      simp [h3]
      intros; assumption

/-! The count of the bits that are on. -/
def cnt (f : Nat → Bool) : Nat → Nat
  | 0 => 0
  | n + 1 => cnt f n + (f n).toNat
def rep (c : Nat) : Nat → Nat
  | 0 => 0
  | n + 1 => c + 256 * rep c n
theorem and_bytes (a b p q : Nat) (ha : a < 256) (hp : p < 256) : (a + 256 * b) &&& (p + 256 * q) = (a &&& p) + 256 * (b &&& q) := by
  have h1 : a &&& p < 2 ^ 8 := Nat.and_lt_two_pow _ hp
  apply Nat.eq_of_testBit_eq
  intro j
  rw [Nat.testBit_and, Nat.add_comm a, Nat.add_comm p, Nat.add_comm (a &&& p), show (256 : Nat) = 2 ^ 8 from rfl, Nat.testBit_two_pow_mul_add _ ha, Nat.testBit_two_pow_mul_add _ hp, Nat.testBit_two_pow_mul_add _ h1]
  split
  · rw [Nat.testBit_and]
  · rw [Nat.testBit_and]
def b1 (v : Nat) : Nat := (v / 2 &&& 85) + (v &&& 85)
def b2 (v : Nat) : Nat := (v / 4 &&& 51) + (v &&& 51)
def b3 (v : Nat) : Nat := (v / 16 + v) &&& 15
def s1 (n x : Nat) : Nat := (x / 2 &&& rep 85 n) + (x &&& rep 85 n)
def s2 (n x : Nat) : Nat := (x / 4 &&& rep 51 n) + (x &&& rep 51 n)
def s3 (n x : Nat) : Nat := (x / 16 + x) &&& rep 15 n
theorem b1_fact : ∀ v, v < 256 → ∀ b, b < 2 → ((v / 2 + 128 * b) &&& 85) = v / 2 &&& 85 := by decide +kernel
theorem b2_fact : ∀ v, v < 256 → ∀ b, b < 4 → ((v / 4 + 64 * b) &&& 51) = v / 4 &&& 51 := by decide +kernel
theorem b3_fact : ∀ v, v < 256 → ∀ l, l < 5 → (b2 (b1 v) / 16 + 16 * l + b2 (b1 v)) < 256 ∧ ((b2 (b1 v) / 16 + 16 * l + b2 (b1 v)) &&& 15) = b3 (b2 (b1 v)) := by decide +kernel
theorem b_lt : ∀ v, v < 256 → b1 v < 256 ∧ b2 (b1 v) < 256 ∧ b2 (b1 v) % 16 < 5 := by decide +kernel
theorem b_cnt : ∀ v, v < 256 → b3 (b2 (b1 v)) = cnt (fun j => v.testBit j) 8 := by decide +kernel
theorem s1_step (n v r : Nat) (hv : v < 256) : s1 (n + 1) (v + 256 * r) = b1 v + 256 * s1 n r := by
  unfold s1 b1
  have e : (v + 256 * r) / 2 = (v / 2 + 128 * (r % 2)) + 256 * (r / 2) := by omega
  simp only [rep]
  rw [e, and_bytes _ _ _ _ (by omega) (by omega), and_bytes _ _ _ _ hv (by omega), b1_fact v hv _ (by omega)]
  omega
theorem s2_step (n v r : Nat) (hv : v < 256) : s2 (n + 1) (v + 256 * r) = b2 v + 256 * s2 n r := by
  unfold s2 b2
  have e : (v + 256 * r) / 4 = (v / 4 + 64 * (r % 4)) + 256 * (r / 4) := by omega
  simp only [rep]
  rw [e, and_bytes _ _ _ _ (by omega) (by omega), and_bytes _ _ _ _ hv (by omega), b2_fact v hv _ (by omega)]
  omega
theorem s3_step (n v r : Nat) (hv : v < 256) (hr : r % 16 < 5) : s3 (n + 1) (b2 (b1 v) + 256 * r) = b3 (b2 (b1 v)) + 256 * s3 n r := by
  obtain ⟨_, h2, _⟩ := b_lt v hv
  obtain ⟨h3, h4⟩ := b3_fact v hv (r % 16) hr
  unfold s3
  simp only [rep]
  rw [show (b2 (b1 v) + 256 * r) / 16 + (b2 (b1 v) + 256 * r) = (b2 (b1 v) / 16 + 16 * (r % 16) + b2 (b1 v)) + 256 * (r / 16 + r) from by omega, and_bytes _ _ _ _ h3 (by omega), h4]
def swar (n x : Nat) : Nat := s3 n (s2 n (s1 n x))
theorem low_nibble : ∀ n x, s2 n (s1 n x) % 16 < 5
  | 0, x => by simp [s2, rep]
  | n + 1, x => by
    have e : x = x % 256 + 256 * (x / 256) := by omega
    have hv : x % 256 < 256 := by omega
    obtain ⟨h1, h2, h3⟩ := b_lt _ hv
    rw [e, s1_step _ _ _ hv, s2_step _ _ _ h1]
    omega
theorem swar_step (n v r : Nat) (hv : v < 256) : swar (n + 1) (v + 256 * r) = b3 (b2 (b1 v)) + 256 * swar n r := by
  unfold swar
  obtain ⟨h1, h2, h3⟩ := b_lt v hv
  rw [s1_step _ _ _ hv, s2_step _ _ _ h1, s3_step _ _ _ hv (low_nibble _ _)]
theorem cnt_add (f : Nat → Bool) (a b : Nat) : cnt f (a + b) = cnt f a + cnt (fun j => f (a + j)) b := by
  induction b with
  | zero => simp [cnt]
  | succ b ih => rw [← Nat.add_assoc]; simp only [cnt]; rw [ih]; omega
theorem cnt_congr {f g : Nat → Bool} (n : Nat) (h : ∀ j, j < n → f j = g j) : cnt f n = cnt g n := by
  induction n with
  | zero => rfl
  | succ n ih => simp only [cnt]; rw [ih (fun j hj => h j (by omega)), h n (by omega)]
theorem cnt_le (f : Nat → Bool) (n : Nat) : cnt f n ≤ n := by
  induction n with
  | zero => simp [cnt]
  | succ n ih => simp only [cnt]; have := Bool.toNat_le (f n); omega
theorem word_byte (f : Nat → Bool) (n : Nat) : wordN f (8 + n) = wordN f 8 + 256 * wordN (fun j => f (8 + j)) n := by
  symm
  have h1 := wordN_lt f 8
  have h2 := wordN_lt (fun j => f (8 + j)) n
  refine wordN_eq ?_ f fun j hj => ?_
  · rw [Nat.pow_add]
    have : (2 : Nat) ^ 8 = 256 := by decide
    rw [this] at h1 ⊢
    omega
  · rw [Nat.add_comm, show (256 : Nat) = 2 ^ 8 from rfl, Nat.testBit_two_pow_mul_add _ h1]
    split
    · rw [wordN_bit]; simp [*]
    · rw [wordN_bit]
      have : j - 8 < n := by omega
      simp [this, show 8 + (j - 8) = j by omega]
theorem swar_byte (f : Nat → Bool) (n m : Nat) : swar (n + 1) (wordN f (8 + m)) = cnt f 8 + 256 * swar n (wordN (fun j => f (8 + j)) m) := by
  have h := wordN_lt f 8
  rw [word_byte, swar_step _ _ _ h, b_cnt _ h]
  congr 1
  exact cnt_congr 8 fun j hj => by rw [wordN_bit]; simp [hj]
theorem div_byte (a r : Nat) (h : a < 256) : (a + 256 * r) / 256 = r := by omega
theorem add_byte (a r b s : Nat) : (a + 256 * r) + (b + 256 * s) = (a + b) + 256 * (r + s) := by omega
/-- The sum of eight small bytes, as the last three steps add it up. -/
theorem sum_bytes (c0 c1 c2 c3 c4 c5 c6 c7 x4 x5 x6 : Nat) (l0 : c0 ≤ 8) (l1 : c1 ≤ 8) (l2 : c2 ≤ 8) (l3 : c3 ≤ 8) (l4 : c4 ≤ 8) (l5 : c5 ≤ 8) (l6 : c6 ≤ 8) (l7 : c7 ≤ 8)
    (h4 : x4 = ((c0 + 256 * (c1 + 256 * (c2 + 256 * (c3 + 256 * (c4 + 256 * (c5 + 256 * (c6 + 256 * c7))))))) + (c0 + 256 * (c1 + 256 * (c2 + 256 * (c3 + 256 * (c4 + 256 * (c5 + 256 * (c6 + 256 * c7))))))) / 256) % 18446744073709551616)
    (h5 : x5 = (x4 + x4 / 65536) % 18446744073709551616) (h6 : x6 = (x5 + x5 / 4294967296) % 18446744073709551616) :
    x6 % 128 = c0 + c1 + c2 + c3 + c4 + c5 + c6 + c7 := by
  rw [div_byte _ _ (by omega)] at h4
  have k4 : x4 = (c0 + c1) + 256 * ((c1 + c2) + 256 * ((c2 + c3) + 256 * ((c3 + c4) + 256 * ((c4 + c5) + 256 * ((c5 + c6) + 256 * ((c6 + c7) + 256 * c7)))))) := by
    rw [h4, Nat.mod_eq_of_lt (by omega)]; omega
  clear h4
  have q4 : x4 / 65536 = (c2 + c3) + 256 * ((c3 + c4) + 256 * ((c4 + c5) + 256 * ((c5 + c6) + 256 * ((c6 + c7) + 256 * c7)))) := by
    rw [show (65536 : Nat) = 256 * 256 from rfl, ← Nat.div_div_eq_div_mul, k4, div_byte _ _ (by omega), div_byte _ _ (by omega)]
  rw [q4] at h5
  clear q4
  have k5 : x5 = (c0 + c1 + c2 + c3) + 256 * ((c1 + c2 + c3 + c4) + 256 * ((c2 + c3 + c4 + c5) + 256 * ((c3 + c4 + c5 + c6) + 256 * ((c4 + c5 + c6 + c7) + 256 * ((c5 + c6 + c7) + 256 * ((c6 + c7) + 256 * c7)))))) := by
    rw [h5, k4, Nat.mod_eq_of_lt (by omega)]; omega
  clear h5 k4
  have q5 : x5 / 4294967296 = (c4 + c5 + c6 + c7) + 256 * ((c5 + c6 + c7) + 256 * ((c6 + c7) + 256 * c7)) := by
    rw [show (4294967296 : Nat) = 256 * 256 * 256 * 256 from rfl, ← Nat.div_div_eq_div_mul, ← Nat.div_div_eq_div_mul, ← Nat.div_div_eq_div_mul, k5, div_byte _ _ (by omega), div_byte _ _ (by omega), div_byte _ _ (by omega), div_byte _ _ (by omega)]
  rw [q5, k5, add_byte] at h6
  clear q5 k5
  have m : ∀ A R : Nat, A < 128 → (A + 256 * R) % 18446744073709551616 % 128 = A := by intro A R hA; omega
  rw [h6, m _ _ (by omega)]
  omega
theorem swar_sum (f : Nat → Bool) (x3 x4 x5 x6 : Nat) (h3 : x3 = swar 8 (wordN f 64)) (h4 : x4 = (x3 + x3 / 256) % 18446744073709551616) (h5 : x5 = (x4 + x4 / 65536) % 18446744073709551616) (h6 : x6 = (x5 + x5 / 4294967296) % 18446744073709551616) :
    x6 % 128 = cnt f 64 := by
  have e : wordN f 64 = wordN f (8 + 56) := rfl
  have z : ∀ x, swar 0 x = 0 := fun x => by simp [swar, s3, rep]
  rw [e, swar_byte f 7 56, show (56 : Nat) = 8 + 48 from rfl, swar_byte _ 6 48, show (48 : Nat) = 8 + 40 from rfl, swar_byte _ 5 40, show (40 : Nat) = 8 + 32 from rfl, swar_byte _ 4 32, show (32 : Nat) = 8 + 24 from rfl, swar_byte _ 3 24,
    show (24 : Nat) = 8 + 16 from rfl, swar_byte _ 2 16, show (16 : Nat) = 8 + 8 from rfl, swar_byte _ 1 8, show (wordN (fun j => f (8 + (8 + (8 + (8 + (8 + (8 + (8 + j)))))))) 8) = (wordN (fun j => f (8 + (8 + (8 + (8 + (8 + (8 + (8 + j)))))))) (8 + 0)) from rfl, swar_byte _ 0 0, z, Nat.mul_zero, Nat.add_zero] at h3
  have hc : cnt f 64 = cnt f 8 + cnt (fun j => f (8 + j)) 8 + cnt (fun j => f (8 + (8 + j))) 8 + cnt (fun j => f (8 + (8 + (8 + j)))) 8 + cnt (fun j => f (8 + (8 + (8 + (8 + j))))) 8 + cnt (fun j => f (8 + (8 + (8 + (8 + (8 + j)))))) 8 + cnt (fun j => f (8 + (8 + (8 + (8 + (8 + (8 + j))))))) 8 + cnt (fun j => f (8 + (8 + (8 + (8 + (8 + (8 + (8 + j)))))))) 8 := by
    rw [show (64 : Nat) = 8 + 56 from rfl, cnt_add, show (56 : Nat) = 8 + 48 from rfl, cnt_add, show (48 : Nat) = 8 + 40 from rfl, cnt_add, show (40 : Nat) = 8 + 32 from rfl, cnt_add, show (32 : Nat) = 8 + 24 from rfl, cnt_add, show (24 : Nat) = 8 + 16 from rfl, cnt_add, show (16 : Nat) = 8 + 8 from rfl, cnt_add]
    simp only [Nat.add_assoc]
  rw [hc]
  rw [h3] at h4
  exact sum_bytes _ _ _ _ _ _ _ _ x4 x5 x6 (cnt_le _ 8) (cnt_le _ 8) (cnt_le _ 8) (cnt_le _ 8) (cnt_le _ 8) (cnt_le _ 8) (cnt_le _ 8) (cnt_le _ 8) h4 h5 h6
end Go.Proofs.YtcnbbenmlffgpaaGreatDoor

/- Walks of math/bits: the count of the bits that are on, the lowest of them. Conditions: the table reads as it is laid. -/
namespace Go.Proofs.YtcnbbenmlffgpaaGreatDoor
open Go.RowKit

theorem wrapu (n : Int) : IntKind.u64.wrap n = n % 18446744073709551616 := by rw [IntKind.wrap_u64]
theorem bits_and (a b : Nat) (ha : a < 2 ^ 64) (hb : b < 2 ^ 64) : bits BinOp.and IntKind.u64 (a : Int) (b : Int) = ((a &&& b : Nat) : Int) := by
  have h : (a &&& b) < 2 ^ 64 := Nat.and_lt_two_pow _ hb
  have e : ((BitVec.ofInt 64 (a : Int)) &&& (BitVec.ofInt 64 (b : Int))).toNat = a &&& b := by
    rw [BitVec.ofInt_natCast, BitVec.ofInt_natCast, BitVec.toNat_and, BitVec.toNat_ofNat, BitVec.toNat_ofNat, Nat.mod_eq_of_lt ha, Nat.mod_eq_of_lt hb]
  unfold bits
  show IntKind.u64.wrap (((BitVec.ofInt 64 (a : Int)) &&& (BitVec.ofInt 64 (b : Int))).toNat : Int) = _
  rw [e, wrapu]; omega
theorem bits_xor (a b : Nat) (ha : a < 2 ^ 64) (hb : b < 2 ^ 64) : bits BinOp.xor IntKind.u64 (a : Int) (b : Int) = ((a ^^^ b : Nat) : Int) := by
  have h : (a ^^^ b) < 2 ^ 64 := Nat.xor_lt_two_pow ha hb
  have e : ((BitVec.ofInt 64 (a : Int)) ^^^ (BitVec.ofInt 64 (b : Int))).toNat = a ^^^ b := by
    rw [BitVec.ofInt_natCast, BitVec.ofInt_natCast, BitVec.toNat_xor, BitVec.toNat_ofNat, BitVec.toNat_ofNat, Nat.mod_eq_of_lt ha, Nat.mod_eq_of_lt hb]
  unfold bits
  show IntKind.u64.wrap (((BitVec.ofInt 64 (a : Int)) ^^^ (BitVec.ofInt 64 (b : Int))).toNat : Int) = _
  rw [e, wrapu]; omega
theorem bits_or (a b : Nat) (ha : a < 2 ^ 64) (hb : b < 2 ^ 64) : bits BinOp.or IntKind.u64 (a : Int) (b : Int) = ((a ||| b : Nat) : Int) := by
  have h : (a ||| b) < 2 ^ 64 := Nat.or_lt_two_pow ha hb
  have e : ((BitVec.ofInt 64 (a : Int)) ||| (BitVec.ofInt 64 (b : Int))).toNat = a ||| b := by
    rw [BitVec.ofInt_natCast, BitVec.ofInt_natCast, BitVec.toNat_or, BitVec.toNat_ofNat, BitVec.toNat_ofNat, Nat.mod_eq_of_lt ha, Nat.mod_eq_of_lt hb]
  unfold bits
  show IntKind.u64.wrap (((BitVec.ofInt 64 (a : Int)) ||| (BitVec.ofInt 64 (b : Int))).toNat : Int) = _
  rw [e, wrapu]; omega
theorem bits_and_i (a b : Nat) (ha : a < 2 ^ 63) (hb : b < 2 ^ 63) : bits BinOp.and IntKind.i64 (a : Int) (b : Int) = ((a &&& b : Nat) : Int) := by
  have h : (a &&& b) < 2 ^ 63 := Nat.and_lt_two_pow _ hb
  have e : ((BitVec.ofInt 64 (a : Int)) &&& (BitVec.ofInt 64 (b : Int))).toNat = a &&& b := by
    rw [BitVec.ofInt_natCast, BitVec.ofInt_natCast, BitVec.toNat_and, BitVec.toNat_ofNat, BitVec.toNat_ofNat, Nat.mod_eq_of_lt (by omega), Nat.mod_eq_of_lt (by omega)]
  unfold bits
  show IntKind.i64.wrap (((BitVec.ofInt 64 (a : Int)) &&& (BitVec.ofInt 64 (b : Int))).toNat : Int) = _
  rw [e, IntKind.wrap_i64]; omega

def o1 (x : Int) : Int := IntKind.u64.wrap (bits BinOp.and IntKind.u64 (x / 2) 6148914691236517205 + bits BinOp.and IntKind.u64 x 6148914691236517205)
def o2 (x : Int) : Int := IntKind.u64.wrap (bits BinOp.and IntKind.u64 (x / 4) 3689348814741910323 + bits BinOp.and IntKind.u64 x 3689348814741910323)
def o3 (x : Int) : Int := bits BinOp.and IntKind.u64 (IntKind.u64.wrap (x / 16 + x)) 1085102592571150095
def o4 (x : Int) : Int := IntKind.u64.wrap (x + x / 256)
def o5 (x : Int) : Int := IntKind.u64.wrap (x + x / 65536)
def o6 (x : Int) : Int := IntKind.u64.wrap (x + x / 4294967296)
theorem rep85 : rep 85 8 = 6148914691236517205 := by decide
theorem rep51 : rep 51 8 = 3689348814741910323 := by decide
theorem rep15 : rep 15 8 = 1085102592571150095 := by decide
theorem o1_nat (x : Nat) (hx : x < 2 ^ 64) : o1 x = (s1 8 x : Nat) ∧ s1 8 x < 2 ^ 64 := by
  have h1 : (x / 2 &&& rep 85 8) ≤ 6148914691236517205 := rep85 ▸ Nat.and_le_right
  have h2 : (x &&& rep 85 8) ≤ 6148914691236517205 := rep85 ▸ Nat.and_le_right
  unfold o1 s1
  rw [show ((x : Int) / 2) = ((x / 2 : Nat) : Int) from by omega, show (6148914691236517205 : Int) = ((rep 85 8 : Nat) : Int) from by rw [rep85]; rfl, bits_and _ _ (by omega) (by rw [rep85]; decide), bits_and _ _ hx (by rw [rep85]; decide), wrapu]
  omega
theorem o2_nat (x : Nat) (hx : x < 2 ^ 64) : o2 x = (s2 8 x : Nat) ∧ s2 8 x < 2 ^ 64 := by
  have h1 : (x / 4 &&& rep 51 8) ≤ 3689348814741910323 := rep51 ▸ Nat.and_le_right
  have h2 : (x &&& rep 51 8) ≤ 3689348814741910323 := rep51 ▸ Nat.and_le_right
  unfold o2 s2
  rw [show ((x : Int) / 4) = ((x / 4 : Nat) : Int) from by omega, show (3689348814741910323 : Int) = ((rep 51 8 : Nat) : Int) from by rw [rep51]; rfl, bits_and _ _ (by omega) (by rw [rep51]; decide), bits_and _ _ hx (by rw [rep51]; decide), wrapu]
  omega
theorem o3_nat (x : Nat) (hx : x ≤ 2 * 3689348814741910323) : o3 x = (s3 8 x : Nat) ∧ s3 8 x < 2 ^ 64 := by
  have h1 : ((x / 16 + x) &&& rep 15 8) ≤ 1085102592571150095 := rep15 ▸ Nat.and_le_right
  unfold o3 s3
  rw [show IntKind.u64.wrap ((x : Int) / 16 + x) = ((x / 16 + x : Nat) : Int) from by rw [wrapu]; omega, show (1085102592571150095 : Int) = ((rep 15 8 : Nat) : Int) from by rw [rep15]; rfl, bits_and _ _ (by omega) (by rw [rep15]; decide)]
  omega
theorem s2_le (x : Nat) : s2 8 x ≤ 2 * 3689348814741910323 := by
  have h1 : (x / 4 &&& rep 51 8) ≤ 3689348814741910323 := rep51 ▸ Nat.and_le_right
  have h2 : (x &&& rep 51 8) ≤ 3689348814741910323 := rep51 ▸ Nat.and_le_right
  unfold s2; omega
theorem ones_eq (f : Nat → Bool) : o6 (o5 (o4 (o3 (o2 (o1 (wordN f 64)))))) % 128 = (cnt f 64 : Nat) ∧ 0 ≤ o6 (o5 (o4 (o3 (o2 (o1 (wordN f 64)))))) ∧ o6 (o5 (o4 (o3 (o2 (o1 (wordN f 64)))))) < 18446744073709551616 := by
  obtain ⟨e1, b1⟩ := o1_nat _ (wordN_lt f 64)
  rw [e1]
  obtain ⟨e2, b2⟩ := o2_nat _ b1
  rw [e2]
  obtain ⟨e3, b3⟩ := o3_nat _ (s2_le (s1 8 (wordN f 64)))
  rw [e3]
  have h := swar_sum f _ _ _ _ rfl rfl rfl rfl
  rw [← h]
  have e4 : o4 ((s3 8 (s2 8 (s1 8 (wordN f 64))) : Nat) : Int) = (((swar 8 (wordN f 64)) + (swar 8 (wordN f 64)) / 256) % 18446744073709551616 : Nat) := by
    unfold o4; rw [wrapu]; show ((swar 8 (wordN f 64) : Nat) + (swar 8 (wordN f 64) : Nat) / 256 : Int) % _ = _; omega
  rw [e4]
  generalize ((swar 8 (wordN f 64)) + (swar 8 (wordN f 64)) / 256) % 18446744073709551616 = y
  have e5 : o5 (y : Int) = ((y + y / 65536) % 18446744073709551616 : Nat) := by unfold o5; rw [wrapu]; omega
  rw [e5]
  generalize (y + y / 65536) % 18446744073709551616 = z
  have e6 : o6 (z : Int) = ((z + z / 4294967296) % 18446744073709551616 : Nat) := by unfold o6; rw [wrapu]; omega
  rw [e6]
  omega
theorem last7 (y : Int) (h0 : 0 ≤ y) (h1 : y < 18446744073709551616) : bits BinOp.and IntKind.i64 (wrap64 y) 127 = y % 128 := by
  obtain ⟨n, rfl⟩ := Int.eq_ofNat_of_zero_le h0
  have e : ((BitVec.ofInt 64 (wrap64 (n : Int))) &&& (BitVec.ofInt 64 (127 : Int))).toNat = n % 128 := by
    rw [BitVec.toNat_and, BitVec.toNat_ofInt, show (BitVec.ofInt 64 (127 : Int)).toNat = 2 ^ 7 - 1 from by decide, Nat.and_two_pow_sub_one_eq_mod]
    unfold wrap64
    omega
  unfold bits
  show IntKind.i64.wrap (((BitVec.ofInt 64 (wrap64 (n : Int))) &&& (BitVec.ofInt 64 (127 : Int))).toNat : Int) = _
  rw [e, IntKind.wrap_i64]; omega
set_option maxHeartbeats 400000 in
theorem ones64_any {w : World} (f : Nat → Bool) :
    Calls Tryz.prog 172 #[.int .u64 (wordN f 64)] w fun r w' => r = .returned (.int .i64 (cnt f 64)) ∧ w = w' := by
  have hx := wordN_lt f 64
  have HE := hidden (ones_eq f)
  generalize wordN f 64 = x at hx HE
  go_enter Tryz.func172, Tryz.ntmps172
  go_wp2
  go_ret
  refine ⟨?_, rfl⟩
  show Ending.returned (.int .i64 (bits BinOp.and IntKind.i64 (wrap64 (o6 (o5 (o4 (o3 (o2 (o1 x))))))) 127)) = _
  obtain ⟨h1, h2, h3⟩ := HE.out
  rw [last7 _ h2 h3, h1]
theorem tz_step (x m t : Nat) (hx : x < 2 ^ 64) (h0 : x ≠ 0) (hm : x &&& (18446744073709551616 - x) = m) (hmt : m = 2 ^ t) :
    IntKind.u64.wrap (bits BinOp.and IntKind.u64 (x : Int) (IntKind.u64.wrap (-(x : Int))) * 285870213051353865) / 288230376151711744 = ((dbi t : Nat) : Int) := by
  have e1 : IntKind.u64.wrap (-(x : Int)) = ((18446744073709551616 - x : Nat) : Int) := by rw [wrapu]; omega
  rw [e1, bits_and _ _ hx (by omega), hm, wrapu]
  unfold dbi
  rw [← hmt]
  omega
set_option maxHeartbeats 400000 in
theorem tz64_raw {w : World} (x : Nat) (d : Nat) (t : Nat) (hV : IntKind.u64.wrap (bits BinOp.and IntKind.u64 (x : Int) (IntKind.u64.wrap (-(x : Int))) * 285870213051353865) / 288230376151711744 = (d : Int)) (hne : ((x : Int) == 0) = false)
   (hd : d < 64) (ht : t < 64) (hc : w.cell? ⟨1, d, none⟩ = some (.int .u8 t)) :
    Calls Tryz.prog 138 #[.int .u64 x] w fun r w' => r = .returned (.int .i64 t) ∧ w = w' := by
  go_enter Tryz.func138, Tryz.ntmps138
  go_wp2
  go_ret
  exact ⟨rfl, rfl⟩
theorem tz64_any {w : World} (hT : TabB w) (f : Nat → Bool) (t : Nat) (ht : t < 64) (h : f t = true) (hl : ∀ j, j < t → f j = false) :
    Calls Tryz.prog 138 #[.int .u64 (wordN f 64)] w fun r w' => r = .returned (.int .i64 t) ∧ w = w' := by
  have hx0 : wordN f 64 ≠ 0 := by
    intro e; rw [wordN_zero] at e
    rw [e t ht] at h; cases h
  have hm := word_low f t ht h hl
  have hx := wordN_lt f 64
  generalize wordN f 64 = x at *
  obtain ⟨hd1, hd2⟩ := dbt_dbi t ht
  exact tz64_raw x (dbi t) t (tz_step x _ t hx hx0 hm rfl) (by simp; omega) hd1 ht (hT _ _ hd2)
end Go.Proofs.YtcnbbenmlffgpaaGreatDoor

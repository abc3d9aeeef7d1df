/- Walk of the document's off. Condition: no list is longer than 1048576. -/
import Derived.Test.YtekgfdfganelmaaRefG
import Derived.Deep.RegionLaw
namespace Go.Proofs.Ytekgfdfganelmaa
open Go.RowKit

theorem step_append_own {P : Program} {ops : Array Oper} {o : Oper} {a : Act} {w : World} {K : Act → World → Prop} {Q : Exit → Act → World → Prop} {E : Prop}
    (hg : o.guard = none) (s x : Operand) (t : TypeId) (hop : o.op = Op.call { callee := Callee.builtin Builtin.append, args := #[s, x], argTypes := #[t, t] })
    (base : Nat) (e : TypeId) (i : TypeInfo) (z : Value) (size bytes : Nat) (ht : P.underlying t = some (.slice e)) (hi : P.info? e = some i) (hz : i.zero = some z)
    (hsize : i.size = size) (hby : i.bytes = bytes) (hzs : z.cells.size = size) (hsz : 0 < size)
    (v : Value) (n : Nat) (xs : List Value) (hs : a.eval s = v) (hown : w.ownsRow base e size v n xs)
    (ad : Addr) (m c : Nat) (news : List Value) (hx : a.eval x = .slice (some ad) m c) (hl : news.length = m * size) (hnews : ∀ j u, news[j]? = some u → w.cell? (ad.add j) = some u) (h1 : ∀ u ∈ news, u.oneCell' = true)
    (h63 : n + m ≤ maxLen) (hbytes : (n + m) * bytes ≤ 140737488355328) (hbase : base ≤ w.heap.size)
    (hK : ∀ v' w', w'.ownsRow base e size v' (n + m) (xs ++ news) → w.grownBy w' v.ownBlock → K (a.put o.dst v') w') :
    if Region.wanted o (yielded ops a.tmps) = true then Oper.wp P o a w K Q else E := by
  have hw : Region.wanted o (yielded ops a.tmps) = true := by simp [Region.wanted, hg]
  rw [if_pos hw]
  obtain ⟨v', w', hr, h2, h3, h4, h5⟩ := run_append_own_at (P := P) w base t o.type e i z size bytes ht hi hz hsize hby hzs hsz v n xs hown ad m c news hl hnews h1 h63 hbytes hbase
  unfold Oper.wp execOp
  simp only [hop, resolve, invoke, builtin, Sem.run_bind, Sem.run_pure, Result.andThen_ok, List.map_toArray, List.map_cons, List.map_nil, hs, hx, hr]
  exact hK _ _ h2 h3

theorem addp (b o j : Nat) : (⟨b, o, none⟩ : Addr).add j = ⟨b, o + j, none⟩ := by
  unfold Addr.add
  split
  · rename_i h; simp [h]
  · rfl

set_option maxHeartbeats 2000000 in
theorem rOff_some {w : World} {r : Nat} {g : RG} (h : RRep w r g) (id : Int) (hlen2 : g.row.length ≤ 1048576) {k : Nat} (hk : rowI g.row id = some k) (hkl : k < g.row.length) :
    Calls Try.prog 51 #[.pointer (some ⟨r, 0, none⟩), .int .i64 id] w fun e w' => e = .returned (.tuple #[]) ∧ ∃ rv', RPost r w g { g with row := g.row.take k ++ g.row.drop (k + 1), rv := rv' } w' := by
  have k2 := rWaits_any h id hlen2
  rw [hk] at k2
  simp only [numOf] at k2
  obtain ⟨a, cap, hv, hA⟩ := h.open_row
  obtain ⟨gb, rfl, _⟩ := hA k hkl
  have hr1 := h.ctl.cell 1 _ rfl
  have hcap : g.row.length ≤ cap := by
    rcases h.row.2 with ⟨hv2, _⟩ | ⟨g2, cap2, cur, hv2, _, _, h4, _⟩
    · rw [hv] at hv2; cases hv2
    · rw [hv] at hv2; cases hv2; exact h4
  rw [hv] at hr1
  have hE := empty_owns w 3 1
  obtain ⟨i0, hi, hz0, hz1, hz2⟩ := info_parts Try.info3
  have hcells : ∀ W, Chg (fun _ => False) w W → ∀ j u, (g.row.map (Value.int .i64))[j]? = some u → W.cell? ((⟨gb, 0, none⟩ : Addr).add j) = some u := fun W hc => (h.chg hc (fun _ x => x.elim)).row.cells (by rw [hv]; rfl)
  have HC : Hid (∀ w2, Chg (fun _ => False) w w2 → w2.cell? ⟨r, 1, none⟩ = some (.slice (some ⟨gb, 0, none⟩) g.row.length cap) ∧ w2.frozen? ⟨r, 1, none⟩ = false) := fun w2 hc => by have := h.rcell hc; rw [hv] at this; exact ⟨this.1, this.2.1⟩
  have HP : Hid (∀ v w1, Chg (fun _ => False) w w1 → w1.ownsRow w.heap.size 3 1 v (g.row.take k ++ g.row.drop (k + 1)).length ((g.row.take k ++ g.row.drop (k + 1)).map (Value.int .i64)) → RPost r w g { g with rv := v, row := g.row.take k ++ g.row.drop (k + 1) } (w1.setCell ⟨r, 1, none⟩ v)) := fun v w1 hc hr => RPost.newRow h hc hr
  have hn1 : ∀ j u, ((g.row.take k).map (Value.int .i64))[j]? = some u → ((w.alloc (.cells #[] 3)).drew).cell? ((⟨gb, 0, none⟩ : Addr).add j) = some u := by
    intro j u hj
    refine hcells _ (((Chg.refl _ w).alloc _).drew) j u ?_
    rw [List.map_take, List.getElem?_take] at hj
    split at hj
    · exact hj
    · cases hj
  have HN2 : Hid (∀ W, Chg (fun _ => False) w W → ∀ j u, ((g.row.drop (k + 1)).map (Value.int .i64))[j]? = some u → W.cell? ((⟨gb, k + 1, none⟩ : Addr).add j) = some u) := by
    intro W hc j u hj
    rw [List.map_drop, List.getElem?_drop] at hj
    have := hcells W hc (k + 1 + j) u hj
    rw [addp] at this ⊢
    simpa using this
  have hl1 : ((g.row.take k).map (Value.int .i64)).length = k * 1 := by simp; omega
  have hl2 : ((g.row.drop (k + 1)).map (Value.int .i64)).length = (g.row.length - (k + 1)) * 1 := by simp
  have ho1 : ∀ u ∈ (g.row.take k).map (Value.int .i64), u.oneCell' = true := by intro u hu; obtain ⟨x, _, rfl⟩ := List.mem_map.1 hu; rfl
  have ho2 : ∀ u ∈ (g.row.drop (k + 1)).map (Value.int .i64), u.oneCell' = true := by intro u hu; obtain ⟨x, _, rfl⟩ := List.mem_map.1 hu; rfl
  have HL : Hid ((g.row.take k ++ g.row.drop (k + 1)).length = k + (g.row.length - (k + 1)) ∧ (g.row.take k ++ g.row.drop (k + 1)).map (Value.int .i64) = (g.row.take k).map (Value.int .i64) ++ (g.row.drop (k + 1)).map (Value.int .i64)) := ⟨by simp; omega, by simp⟩
  generalize hx1 : (g.row.take k).map (Value.int .i64) = xs1 at hn1 hl1 ho1 HL
  generalize hx2 : (g.row.drop (k + 1)).map (Value.int .i64) = xs2 at HN2 hl2 ho2 HL
  have hrl := h.ctl.lt
  clear h hv hA hx1 hx2 hcells hk
  generalize hn : g.row.length = n at hr1 hkl hcap hl2 HL hlen2 HC
  have hk1 : (0 : Int) ≤ (k : Int) := by omega
  have hk2 : (k : Int) < (n : Int) := by omega
  have hk3 : k ≤ cap := by omega
  have hk4 : k + 1 ≤ n := by omega
  have hk5 : (k : Int) + 1 ≤ (n : Int) := by omega
  have hk6 : ((k : Int) + 1).toNat = k + 1 := by omega
  have hk7 : (0 : Int) ≤ (k : Int) + 1 := by omega
  have hm1 : 0 + k ≤ maxLen := by unfold maxLen; omega
  have hm2 : k + (n - (k + 1)) ≤ maxLen := by unfold maxLen; omega
  have hm3 : (0 + k) * 8 ≤ 140737488355328 := by omega
  have hm4 : (k + (n - (k + 1))) * 8 ≤ 140737488355328 := by omega
  have hwr : IntKind.i64.wrap ((k : Int) + 1) = (k : Int) + 1 := IntWalk.i64_in _ (by omega)
  clear hn
  by_cases hce : cap = k + 1
  · subst hce
    obtain rfl : n = k + 1 := by omega
    have hl3 : xs2.length = 0 * 1 := by rw [hl2]; omega
    have HN3 : Hid (∀ W : World, ∀ j u, xs2[j]? = some u → W.cell? ((⟨gb, 0, none⟩ : Addr).add j) = some u) := by
      intro W j u hj
      have hxs : xs2 = [] := List.eq_nil_of_length_eq_zero (by omega)
      rw [hxs] at hj
      simp at hj
    have hm5 : k + 0 ≤ maxLen := by unfold maxLen; omega
    have hm6 : (k + 0) * 8 ≤ 140737488355328 := by omega
    have hk8 : (k : Int) ≤ (k : Int) + 1 := by omega
    have hk9 : k ≤ k + 1 := by omega
    clear hl2 hm2 hm4 hk4 hcap hkl
    go_enter Try.func51, Try.ntmps51
    go_wp2_with fail
    refine k2.mono ?_
    rintro e w' ⟨rfl, rfl⟩
    clear k2
    go_wp2_with fail
    go_region_law (first
      | (refine step_append_own rfl (.tmp 11) (.tmp 17) 31 rfl w.heap.size 3 i0 (.int .i64 0) 1 8 Try.underlying31 hi hz0 hz1 hz2 rfl (by decide) (.slice (some ⟨w.heap.size, 0, none⟩) 0 0) 0 [] rfl hE ⟨gb, 0, none⟩ k (k + 1) xs1 rfl hl1 hn1 ho1 hm1 hm3 (by show w.heap.size ≤ (w.heap.push _).size; simp) ?_; intro v1 w1 hown1 hgrow1; have hown1' : w1.ownsRow w.heap.size 3 1 v1 k xs1 := by simpa using hown1
         have hc1 : Chg (fun _ => False) w w1 := (((Chg.refl _ w).alloc _).drew).grown hgrow1 (fun q hq => .inr (by cases hq; exact Nat.le_refl _))
         have hz1c := hc1.size
         obtain ⟨c3, c4⟩ := HC.out w1 hc1)
      | (refine step_append_own rfl (.tmp 18) (.tmp 25) 31 rfl w.heap.size 3 i0 (.int .i64 0) 1 8 Try.underlying31 hi hz0 hz1 hz2 rfl (by decide) v1 k xs1 rfl hown1' ⟨gb, 0, none⟩ 0 0 xs2 rfl hl3 (HN3.out _) ho2 hm5 hm6 hz1c ?_; intro v2 w2 hown2 hgrow2; have hc2 : Chg (fun _ => False) w w2 := hc1.grown hgrow2 (fun q hq => .inr (hown1'.lt q hq).1); obtain ⟨c1, c2⟩ := HC.out w2 hc2; obtain ⟨ax, cx, hvx⟩ := owns_shape hown2; subst hvx))
    all_goals
      go_wp2_with fail
      go_end0
      refine ⟨rfl, _, HP.out _ _ hc2 ?_⟩
      rw [HL.out.1, HL.out.2]
      simpa using hown2

  · have hce2 : ¬ cap = k + 1 := hce
    go_enter Try.func51, Try.ntmps51
    go_wp2_with fail
    refine k2.mono ?_
    rintro e w' ⟨rfl, rfl⟩
    clear k2
    go_wp2_with fail
    go_region_law (first
      | (refine step_append_own rfl (.tmp 11) (.tmp 17) 31 rfl w.heap.size 3 i0 (.int .i64 0) 1 8 Try.underlying31 hi hz0 hz1 hz2 rfl (by decide) (.slice (some ⟨w.heap.size, 0, none⟩) 0 0) 0 [] rfl hE ⟨gb, 0, none⟩ k cap xs1 rfl hl1 hn1 ho1 hm1 hm3 (by show w.heap.size ≤ (w.heap.push _).size; simp) ?_; intro v1 w1 hown1 hgrow1; have hown1' : w1.ownsRow w.heap.size 3 1 v1 k xs1 := by simpa using hown1
         have hc1 : Chg (fun _ => False) w w1 := (((Chg.refl _ w).alloc _).drew).grown hgrow1 (fun q hq => .inr (by cases hq; exact Nat.le_refl _))
         have hz1c := hc1.size
         obtain ⟨c3, c4⟩ := HC.out w1 hc1)
      | (refine step_append_own rfl (.tmp 18) (.tmp 25) 31 rfl w.heap.size 3 i0 (.int .i64 0) 1 8 Try.underlying31 hi hz0 hz1 hz2 rfl (by decide) v1 k xs1 rfl hown1' ⟨gb, k + 1, none⟩ (n - (k + 1)) (cap - (k + 1)) xs2 rfl hl2 (HN2.out _ hc1) ho2 hm2 hm4 hz1c ?_; intro v2 w2 hown2 hgrow2; have hc2 : Chg (fun _ => False) w w2 := hc1.grown hgrow2 (fun q hq => .inr (hown1'.lt q hq).1); obtain ⟨c1, c2⟩ := HC.out w2 hc2; obtain ⟨ax, cx, hvx⟩ := owns_shape hown2; subst hvx))
    all_goals
      go_wp2_with fail
      go_end0
      refine ⟨rfl, _, HP.out _ _ hc2 ?_⟩
      rw [HL.out.1, HL.out.2]
      exact hown2

set_option maxHeartbeats 1000000 in
theorem rOff_none {w : World} {r : Nat} {g : RG} (h : RRep w r g) (id : Int) (hlen2 : g.row.length ≤ 1048576) (hk : rowI g.row id = none) :
    Calls Try.prog 51 #[.pointer (some ⟨r, 0, none⟩), .int .i64 id] w fun e w' => e = .returned (.tuple #[]) ∧ w = w' := by
  have k2 := rWaits_any h id hlen2
  rw [hk] at k2
  simp only [numOf] at k2
  clear h hk hlen2
  go_enter Try.func51, Try.ntmps51
  go_wp2_with fail
  refine k2.mono ?_
  rintro e w' ⟨rfl, rfl⟩
  clear k2
  go_wp2_with fail
  go_end0
  exact ⟨rfl, rfl⟩
end Go.Proofs.Ytekgfdfganelmaa

/- Plain laws for what is down, and for one ask alone. No condition. -/
import Derived.Test.YtpjajiambbobhaaPmc
namespace Go.Proofs.Ytpjajiambbobhaa
open Go.RowKit

/-- what a taking answers hangs on what is used alone -/
theorem took_det {vs : List V4} {U : Used} {p p' q q' : List Nd} {zs : List Int} {fr tt : Int} {v : V4} {r r' : Int} (h : Held vs U p) (h' : Held vs U p') (ht : TookG p zs fr tt v r q) (ht' : TookG p' zs fr tt v r' q') : r = r' := by
  have hl : p'.length = p.length := by rw [h.len, h'.len]
  have hs := held_same h h' rfl
  have hiff : (∀ i, i < p.length → Among zs zs.length i → ∀ u, fr ≤ u → u < tt → v.leq (val (nd p i).l u)) ↔ (∀ i, i < p'.length → Among zs zs.length i → ∀ u, fr ≤ u → u < tt → v.leq (val (nd p' i).l u)) := by
    rw [hl]
    exact ⟨fun k i hi => by rw [hs i hi]; exact k i hi, fun k i hi => by rw [← hs i hi]; exact k i hi⟩
  rw [TookG, hl] at ht'
  rw [TookG] at ht
  rw [hl] at hiff
  rcases ht with ⟨a, b, _⟩ | ⟨a, b, c, d, _⟩ | ⟨a, b, c, d, _⟩ <;> rcases ht' with ⟨a', b', _⟩ | ⟨a', b', c', d', _⟩ | ⟨a', b', c', d', _⟩
  · rw [b, b']
  · exact absurd ⟨a', b'⟩ a
  · exact absurd ⟨a', b'⟩ a
  · exact absurd ⟨a, b⟩ a'
  · rw [d, d']
  · exact absurd (hiff.2 c') c
  · exact absurd ⟨a, b⟩ a'
  · exact absurd (hiff.1 c) c'
  · rw [d, d']
theorem chain_at {now : Int} {vs : List V4} {hs : List Hold} {p q : List Nd} {k : Nat} {h : Hold} (hx : hs[k]? = some h) (hc : Chain (HoldTook now) hs p q) (hp : Held vs noU p) : ∃ m m', Held vs (holdsU now (hs.take k)) m ∧ TookL m h.gzs now (holdEnd now h) h.v 0 m' := by
  have e : hs = hs.take k ++ h :: hs.drop (k + 1) := by
    have := List.take_append_drop (k + 1) hs
    rw [take_snoc hx, List.append_assoc] at this
    exact this.symm
  rw [e] at hc
  obtain ⟨m, m', h1, h2, _⟩ := chain_split hc
  exact ⟨m, m', (chain_held h1 hp).1.eqU (no_addU _), h2⟩
theorem take_at {α : Type} {l : List α} {i k : Nat} {x : α} (h : l[i]? = some x) (hk : i < k) : (l.take k)[i]? = some x := by rw [List.getElem?_take, if_pos hk]; exact h
theorem take_take' {α : Type} (l : List α) {i k : Nat} (hk : i ≤ k) : (l.take k).take i = l.take i := by rw [List.take_take, Nat.min_eq_left hk]
theorem lay_det {vs : List V4} {un : Nat} {now : Int} {hs : List Hold} {r r' : Int} {q q' : List Nd} (h : LayRel vs un now hs r q) (h' : LayRel vs un now hs r' q') : r = r' := by
  rcases h with ⟨a, b⟩ | ⟨a, ps, hf, h⟩ <;> rcases h' with ⟨a', b'⟩ | ⟨a', ps', hf', h'⟩
  · rw [b, b']
  · exact absurd a' a
  · exact absurd a a'
  · have k := held_fresh hf
    have k' := held_fresh hf'
    rcases h with ⟨e, hc⟩ | ⟨e, i, x, m, m2, hx, hc, hT⟩ <;> rcases h' with ⟨e', hc'⟩ | ⟨e', i', x', m', m2', hx', hc', hT'⟩
    · rw [e, e']
    · obtain ⟨n, n', h1, h2⟩ := chain_at hx' hc k
      have h3 := (chain_held hc' k').1.eqU (no_addU _)
      rw [e]
      exact took_det h1 h3 h2.1 hT'.1
    · obtain ⟨n, n', h1, h2⟩ := chain_at hx hc' k'
      have h3 := (chain_held hc k).1.eqU (no_addU _)
      rw [e']
      exact took_det h3 h1 hT.1 h2.1
    · have h3 := (chain_held hc k).1.eqU (no_addU _)
      have h3' := (chain_held hc' k').1.eqU (no_addU _)
      rcases Nat.lt_trichotomy i i' with c | c | c
      · obtain ⟨n, n', h1, h2⟩ := chain_at (take_at hx c) hc' k'
        rw [take_take' _ (Nat.le_of_lt c)] at h1
        have := took_det h3 h1 hT.1 h2.1
        exact absurd this e
      · subst c
        rw [hx] at hx'
        cases hx'
        exact took_det h3 h3' hT.1 hT'.1
      · obtain ⟨n, n', h1, h2⟩ := chain_at (take_at hx' c) hc k
        rw [take_take' _ (Nat.le_of_lt c)] at h1
        have := took_det h1 h3' h2.1 hT'.1
        exact absurd this.symm e'

theorem lay_bad {vs : List V4} {un : Nat} {now : Int} {hs : List Hold} {r r' : Int} {q q' : List Nd} (h : LayRel vs un now [] r q) (hr : r ≠ 0) (h' : LayRel vs un now hs r' q') : r' = 1 := by
  rcases h with ⟨a, _⟩ | ⟨a, ps, hf, ⟨c, _⟩ | ⟨_, k, x, _, _, hx, _⟩⟩
  · rcases h' with ⟨_, b⟩ | ⟨a', _⟩
    · exact b
    · exact absurd a' a
  · exact absurd c hr
  · simp at hx
theorem count_take {α : Type} {l : List α} {f : α → Bool} {k : Nat} {x : α} (h : l[k]? = some x) : (l.take (k + 1)).countP f = (l.take k).countP f + if f x = true then 1 else 0 := by
  rw [take_snoc h, List.countP_append, List.countP_singleton]
theorem zi_ints {l : List Nat} {k m : Nat} (h : l[k]? = some m) : zi (ints l) k = (m : Int) := by
  simp [zi, ints, List.getD, h]

/-- what was found is up -/
theorem mem_plc {bs : List Bool} {zs : List Int} {j : Nat} : j ∈ plc bs zs ↔ j < bs.length ∧ bi bs j = true ∧ (j : Int) ∈ zs := by
  unfold plc plck plcOk
  rw [List.mem_filter, List.mem_range]
  simp
theorem slot_up {vs : List V4} {now : Int} {bs : List Bool} {a : Ask} {s : Slot} (h : SlotOk vs now bs a s) {j : Nat} (hj : j < s.gzs.length) : ∃ m : Nat, zi s.gzs j = (m : Int) ∧ m < bs.length ∧ bi bs m = true := by
  rcases h.2 with ⟨_, c⟩ | ⟨_, _, _, c, _⟩
  · rw [c] at hj; simp at hj
  · obtain ⟨m, hm, e⟩ := List.mem_map.1 (c.inn j hj)
    obtain ⟨h1, h2, _⟩ := mem_plc.1 hm
    exact ⟨m, e.symm, h1, h2⟩
theorem plc_down (n : Nat) (zs : List Int) : plc (List.replicate n false) zs = [] := by
  apply List.eq_nil_iff_forall_not_mem.2
  intro j hj
  obtain ⟨h1, h2, _⟩ := mem_plc.1 hj
  rw [List.length_replicate] at h1
  simp [bi, List.getD, h1] at h2
theorem slot_down {vs : List V4} {now : Int} {n : Nat} {a : Ask} {s : Slot} (h : SlotOk vs now (List.replicate n false) a s) : s.start = -1 ∧ s.gzs = [] := by
  rcases h.2 with c | ⟨_, _, _, c, d, _⟩
  · exact c
  · have := c.inn 0 d.pos
    rw [plc_down] at this
    simp [ints] at this

/-- how many of an ask's places have so much -/
def roomy (vs : List V4) (v : V4) (j : Nat) : Bool := v.fits (vv vs j)
def rooms (vs : List V4) (bs : List Bool) (a : Ask) : Nat := (plc bs a.pzs).countP (roomy vs a.v)
def Fit (vs : List V4) (now : Int) (bs : List Bool) (a : Ask) : Prop := a.can = true ∧ a.nodes ≤ rooms vs bs a ∧ a.ticks ≤ 1099511627776 - now
theorem can_parts {a : Ask} (h : a.can = true) : 0 < a.nodes ∧ 0 < a.ticks ∧ a.v.right = true := by
  simp [Ask.can] at h
  exact ⟨h.1.1, h.1.2, h.2⟩
theorem one_law {vs : List V4} {now : Int} {bs : List Bool} {a : Ask} {slots : List Slot} (hp : PassRel vs now bs [] [a] slots) :
    ∃ s, slots = [s] ∧ (s.start = now ↔ Fit vs now bs a) ∧ (s.start = -1 ↔ ¬ Fit vs now bs a) := by
  have hok := pass_ok hp
  have hl := hok.len
  have hlo := hok.lay.lo
  have hhi := hok.lay.hi
  obtain ⟨s, rfl⟩ : ∃ s, slots = [s] := by
    match slots, hl with
    | [s], _ => exact ⟨s, rfl⟩
  refine ⟨s, rfl, ?_⟩
  obtain ⟨m, q, k, hf⟩ := pass_last (k := 0) hp rfl rfl rfl
  have k0 : Held vs noU m := k.eqU (addU_no _)
  rcases hf with ⟨c, e, _⟩ | ⟨hc, t, xs, is, hR, h1, h2⟩
  · have hn : ¬ Fit vs now bs a := fun h => by have := h.1; rw [c] at this; cases this
    exact ⟨⟨fun h => by omega, fun h => absurd h hn⟩, ⟨fun _ => hn, fun _ => e⟩⟩
  · obtain ⟨c1, c2, c3⟩ := can_parts hc
    have hpk : ∀ u, 0 ≤ u → ∀ j, j ∈ sel m (ints (plc bs a.pzs)) a.ticks a.v u ↔ (j ∈ plc bs a.pzs ∧ roomy vs a.v j = true) ∧ u + a.ticks ≤ 1099511627776 := fun u hu j => by
      have hlen : m.length = vs.length := k0.len
      have h16 : m.length ≤ 16 := by rw [hlen]; exact hok.lay.few
      unfold sel selk
      rw [List.mem_filter, List.mem_range]
      simp only [pick, Bool.and_eq_true, decide_eq_true_eq, among_ints]
      have hk : j < m.length → (OkT (nd m j).l a.ticks a.v u ↔ u + a.ticks ≤ 1099511627776 ∧ a.v.leq (vv vs j)) := fun hj => by
        rw [held_ok k0 hj hu (by omega)]
        refine and_congr_right fun _ => ?_
        simp only [noU, zero_add4]
        exact ⟨fun h => h u (by omega) (by omega), fun h _ _ _ => h⟩
      unfold roomy
      rw [fits_iff]
      constructor
      · rintro ⟨_, ⟨b1, b2⟩, b3⟩
        have := (hk b1).1 b3
        exact ⟨⟨b2, this.2⟩, this.1⟩
      · rintro ⟨⟨b2, b3⟩, b4⟩
        have hj : j < m.length := by rw [hlen, ← hok.lay.up]; exact (mem_plc.1 b2).1
        exact ⟨by omega, ⟨hj, b2⟩, (hk hj).2 ⟨b4, b3⟩⟩
    have hle : ∀ u, 0 ≤ u → (sel m (ints (plc bs a.pzs)) a.ticks a.v u).length ≤ rooms vs bs a := fun u hu => by
      unfold rooms
      rw [List.countP_eq_length_filter]
      exact rise_len (sel_rise _ _ _ _ _) fun j hj => List.mem_filter.2 ((hpk u hu j).1 hj).1
    by_cases hfit : Fit vs now bs a
    · have hge : a.nodes ≤ (sel m (ints (plc bs a.pzs)) a.ticks a.v now).length := by
        have : rooms vs bs a ≤ (sel m (ints (plc bs a.pzs)) a.ticks a.v now).length := by
          unfold rooms
          rw [List.countP_eq_length_filter]
          exact rise_len (List.Pairwise.filter _ (plc_rise _ _)) fun j hj => (hpk now hlo j).2 ⟨List.mem_filter.1 hj, by have := hfit.2.2; omega⟩
        have := hfit.2.1
        omega
      obtain ⟨e1, e2, _⟩ := find_at hR (by omega) (by omega) c3 (T := now) (by omega) hhi hge (fun u _ _ => by omega)
      have := (h2 e1).1
      exact ⟨⟨fun _ => hfit, fun _ => by omega⟩, ⟨fun h => by omega, fun h => absurd hfit h⟩⟩
    · have his : is = false := by
        cases is with
        | false => rfl
        | true =>
          have hF := hR.found
          obtain ⟨r, hr⟩ := hF.pre
          have hge := hF.ge
          have h3 := hle t (by omega)
          rw [hr, List.length_append] at h3
          have h4 := hF.len
          have h5 := hF.fin
          exact absurd ⟨hc, by omega, by omega⟩ hfit
      have := (h1 his).1
      exact ⟨⟨fun h => by omega, fun h => absurd h hfit⟩, ⟨fun _ => hfit, fun _ => this⟩⟩
end Go.Proofs.Ytpjajiambbobhaa

/- A pool of nodes in memory, and rows of whole numbers; what a gang is, and the function that tells it. -/
import Derived.Test.YtpjajiambbobhaaGive
import Derived.Test.YtpjajiambbobhaaSemc
import Derived.Test.YtpjajiambbobhaaClone
namespace Go.Proofs.Ytpjajiambbobhaa
open Go.RowKit

/-- a node's profile: where it lies, what it holds -/
structure Nd where
  pb : Nat
  sb : Nat
  cap : Nat
  whole : V4
  l : List St
def Nd.none : Nd := ⟨0, 0, 0, V4.zero, []⟩
def nd (ps : List Nd) (i : Nat) : Nd := ps.getD i Nd.none
theorem nd_set {ps : List Nd} {i : Nat} (x : Nd) (hi : i < ps.length) (j : Nat) : nd (ps.set i x) j = if j = i then x else nd ps j := by
  unfold nd
  by_cases h : j = i
  · subst h; rw [if_pos rfl]; simp [List.getD, hi]
  · rw [if_neg h]; simp [List.getD, Ne.symm h]

/-- a block of one of the profiles -/
def Mine (ps : List Nd) (b : Nat) : Prop := ∃ i, i < ps.length ∧ (b = (nd ps i).pb ∨ b = (nd ps i).sb)

structure Pool (w : World) (gb gs : Nat) (ao : Option Addr) (cap : Nat) (ps : List Nd) : Prop where
  head : w.heap[gb]? = some (.cells #[.slice ao ps.length cap] 111 (0, 0))
  addr : 0 < ps.length → ao = some ⟨gs, 0, none⟩
  ptr : ∀ i, i < ps.length → w.cell? ⟨gs, i, none⟩ = some (.pointer (some ⟨(nd ps i).pb, 0, none⟩))
  prof : ∀ i, i < ps.length → Prof w (nd ps i).pb (nd ps i).sb (nd ps i).cap (nd ps i).whole (nd ps i).l
  inv : ∀ i, i < ps.length → Inv (nd ps i).whole (nd ps i).l
  apart : ∀ i j, i < ps.length → j < ps.length → i ≠ j → (nd ps i).pb ≠ (nd ps j).pb ∧ (nd ps i).pb ≠ (nd ps j).sb ∧ (nd ps i).sb ≠ (nd ps j).sb
  own : ∀ i, i < ps.length → (nd ps i).pb ≠ gb ∧ (nd ps i).sb ≠ gb ∧ (nd ps i).pb ≠ gs ∧ (nd ps i).sb ≠ gs
  few : ps.length ≤ 16

theorem Pool.gslt {w : World} {gb gs cap : Nat} {ao : Option Addr} {ps : List Nd} (h : Pool w gb gs ao cap ps) (h0 : 0 < ps.length) : gs < w.heap.size := World.block_lt_of_cell? w _ (h.ptr 0 h0)
theorem Pool.below {w w' : World} {gb gs cap : Nat} {ao : Option Addr} {ps : List Nd} (h : Pool w gb gs ao cap ps) (hb : Below w.heap.size w w') : Pool w' gb gs ao cap ps :=
  ⟨blk_below hb h.head (blk_lt h.head), h.addr, fun i hi => (below_cell hb (World.block_lt_of_cell? w _ (h.ptr i hi))).trans (h.ptr i hi), fun i hi => (h.prof i hi).below hb (h.prof i hi).lt.1 (h.prof i hi).lt.2, h.inv, h.apart, h.own, h.few⟩
theorem Pool.drew {w : World} {gb gs cap : Nat} {ao : Option Addr} {ps : List Nd} (h : Pool w gb gs ao cap ps) : Pool w.drew gb gs ao cap ps :=
  ⟨h.head, h.addr, h.ptr, fun i hi => (h.prof i hi).drew, h.inv, h.apart, h.own, h.few⟩
theorem Pool.mine_lt {w : World} {gb gs cap : Nat} {ao : Option Addr} {ps : List Nd} (h : Pool w gb gs ao cap ps) {b : Nat} (hb : Mine ps b) : b < w.heap.size := by
  obtain ⟨i, hi, rfl | rfl⟩ := hb
  · exact (h.prof i hi).lt.1
  · exact (h.prof i hi).lt.2

/-- one node's profile turned -/
theorem Pool.turn {w w' : World} {gb gs cap : Nat} {ao : Option Addr} {ps : List Nd} (h : Pool w gb gs ao cap ps) {i sb' cap' : Nat} {l' : List St} (hi : i < ps.length)
    (hp : Prof w' (nd ps i).pb sb' cap' (nd ps i).whole l') (hl : Inv (nd ps i).whole l') (hs : sb' = (nd ps i).sb ∨ w.heap.size ≤ sb') (hm : Mod (fun b => b = (nd ps i).pb ∨ b = (nd ps i).sb) w w') :
    Pool w' gb gs ao cap (ps.set i ⟨(nd ps i).pb, sb', cap', (nd ps i).whole, l'⟩) := by
  have hgb := blk_lt h.head
  have hgs := h.gslt (by omega)
  have ho := h.own i hi
  refine ⟨?_, ?_, ?_, ?_, ?_, ?_, ?_, ?_⟩
  · rw [List.length_set]; exact (hm.block gb hgb (by rintro (e | e) <;> omega)).trans h.head
  · rw [List.length_set]; exact h.addr
  · intro j hj
    rw [List.length_set] at hj
    rw [nd_set _ hi]
    have := (World.cell?_of_block (a := ⟨gs, j, none⟩) (w := w) (hm.block gs hgs (by rintro (e | e) <;> omega))).trans (h.ptr j hj)
    split
    · rename_i e; subst e; exact this
    · exact this
  · intro j hj
    rw [List.length_set] at hj
    rw [nd_set _ hi]
    split
    · exact hp
    · rename_i e
      have hpj := h.prof j hj
      have ha := h.apart i j hi hj (fun c => e c.symm)
      have hb := h.apart j i hj hi e
      have h1 := hm.block _ hpj.lt.1 (by rintro (c | c); exact ha.1 c.symm; exact hb.2.1 c)
      have h2 := hm.block _ hpj.lt.2 (by rintro (c | c); exact ha.2.1 c.symm; exact ha.2.2 c.symm)
      exact ⟨h1.trans hpj.head, hpj.row.of_block h2, hpj.ne⟩
  · intro j hj
    rw [List.length_set] at hj
    rw [nd_set _ hi]
    split
    · exact hl
    · exact h.inv j hj
  · intro j k hj hk hjk
    rw [List.length_set] at hj hk
    rw [nd_set _ hi, nd_set _ hi]
    by_cases e1 : j = i
    · subst e1
      rw [if_pos rfl, if_neg (Ne.symm hjk)]
      have ha := h.apart j k hj hk hjk
      refine ⟨ha.1, ha.2.1, ?_⟩
      rcases hs with e | e
      · simp only [e]; exact ha.2.2
      · have := (h.prof k hk).lt.2; simp only; omega
    · rw [if_neg e1]
      by_cases e2 : k = i
      · subst e2
        rw [if_pos rfl]
        have ha := h.apart j k hj hk hjk
        refine ⟨ha.1, ?_, ?_⟩
        · rcases hs with e | e
          · simp only [e]; exact ha.2.1
          · have := (h.prof j hj).lt.1; simp only; omega
        · rcases hs with e | e
          · simp only [e]; exact ha.2.2
          · have := (h.prof j hj).lt.2; simp only; omega
      · rw [if_neg e2]; exact h.apart j k hj hk hjk
  · intro j hj
    rw [List.length_set] at hj
    rw [nd_set _ hi]
    split
    · refine ⟨ho.1, ?_, ho.2.2.1, ?_⟩
      · rcases hs with e | e
        · simp only [e]; exact ho.2.1
        · simp only; omega
      · rcases hs with e | e
        · simp only [e]; exact ho.2.2.2
        · simp only; omega
    · exact h.own j hj
  · rw [List.length_set]; exact h.few

/-- a row of whole numbers in memory -/
def zi (zs : List Int) (i : Nat) : Int := zs.getD i 0
structure IntsAt (w : World) (ao : Option Addr) (n : Nat) (zs : List Int) : Prop where
  len : zs.length = n
  max : n ≤ 9223372036854775807
  cell : ∀ i, i < n → ∃ b off, ao = some ⟨b, off, none⟩ ∧ b < w.heap.size ∧ w.cell? ⟨b, off + i, none⟩ = some (.int .i64 (zi zs i))
def Off (ao : Option Addr) (S : Nat → Prop) : Prop := ∀ b off, ao = some ⟨b, off, none⟩ → ¬ S b
theorem IntsAt.below {w w' : World} {ao : Option Addr} {n : Nat} {zs : List Int} (h : IntsAt w ao n zs) {B : Nat} (hb : Below B w w') (hB : w.heap.size ≤ B) : IntsAt w' ao n zs :=
  ⟨h.len, h.max, fun i hi => by
    obtain ⟨b, off, e, hlt, hc⟩ := h.cell i hi
    exact ⟨b, off, e, Nat.lt_of_lt_of_le hlt hb.size, (below_cell hb (by omega)).trans hc⟩⟩
theorem IntsAt.mod {w w' : World} {ao : Option Addr} {n : Nat} {zs : List Int} {S : Nat → Prop} (h : IntsAt w ao n zs) (hm : Mod S w w') (ho : 0 < n → Off ao S) : IntsAt w' ao n zs :=
  ⟨h.len, h.max, fun i hi => by
    obtain ⟨b, off, e, hlt, hc⟩ := h.cell i hi
    exact ⟨b, off, e, Nat.lt_of_lt_of_le hlt hm.size, (World.cell?_of_block (a := ⟨b, off + i, none⟩) (w := w) (hm.block b hlt (ho (by omega) b off e))).trans hc⟩⟩

/-- places that are a gang -/
structure Gang (n : Nat) (zs : List Int) : Prop where
  pos : 0 < zs.length
  low : ∀ i, i < zs.length → 0 ≤ zi zs i
  high : ∀ i, i < zs.length → zi zs i < n
  rise : ∀ i, i + 1 < zs.length → zi zs i < zi zs (i + 1)

def GangPost (n : Nat) (zs : List Int) (w : World) (e : Ending) (w' : World) : Prop :=
  ∃ b : Bool, e = .returned (.bool b) ∧ (b = true ↔ Gang n zs) ∧ Below w.heap.size w w'

theorem gang_none (v : Value) (w : World) : Calls Try.prog 103 #[.pointer none, v] w fun e w' => e = .returned (.bool false) ∧ w' = w := by
  go_enter Try.func103, Try.ntmps103
  go_wp2
  go_ret
  exact ⟨rfl, rfl⟩

set_option maxRecDepth 100000 in
set_option maxHeartbeats 1600000 in
theorem gang_any (gb gs cap : Nat) (po : Option Addr) (ps : List Nd) (ao : Option Addr) (m c : Nat) (zs : List Int) (w : World) (hp : Pool w gb gs po cap ps) (hz : IntsAt w ao m zs) :
    Calls Try.prog 103 #[.pointer (some ⟨gb, 0, none⟩), .slice ao m c] w (GangPost ps.length zs w) := by
  obtain ⟨n, hn⟩ : ∃ n, n = ps.length := ⟨_, rfl⟩
  have hh := hp.head
  have hfew := hp.few
  rw [← hn] at hh hfew
  have c0 := blk_cell hh 0
  simp at c0
  have lgb := blk_lt hh
  rw [← hn]
  clear hp hh hn
  have hlen := hz.len
  have hmax := hz.max
  replace hz := Lib.hid hz; replace hlen := Lib.hid hlen
  by_cases h0 : m = 0
  · have d0 : ((m : Int) == 0) = true := by rw [h0]; rfl
    replace h0 := Lib.hid h0
    go_enter Try.func103, Try.ntmps103
    go_wp2
    go_ret
    exact ⟨false, rfl, ⟨fun h => by simp at h, fun h => by have := h.pos; have := hlen.out; have := h0.out; omega⟩, Below.refl _ _⟩
  have d0 : ((m : Int) == 0) = false := beq_eq_false_iff_ne.2 (by omega)
  have hm0 : 0 < m := by omega
  replace h0 := Lib.hid h0
  go_enter Try.func103, Try.ntmps103
  go_wp2
  go_loopw [5, 6, 16] (fun _ _ i wr => ∃ k : Nat, i = .int .i64 k ∧ k ≤ m ∧ Hid (∀ i, i < k → 0 ≤ zi zs i ∧ zi zs i < n ∧ (∀ j, i = j + 1 → zi zs j < zi zs i)) ∧ Hid (Below w.heap.size w wr)) (fun _ _ i _ => m - (intOf i).toNat)
  case atStart => exact ⟨0, rfl, Nat.zero_le _, (fun i h => by omega), Below.refl _ _⟩
  case round =>
    obtain ⟨k, rfl, hk, hall, hBr⟩ := hrel
    have g0 := (below_cell (o := 0) hBr.out lgb).trans c0
    by_cases hc : k < m
    · have hc1 : (k : Int) < m := by omega
      have hk0 : (0 : Int) ≤ (k : Int) := by omega
      obtain ⟨b, off, rfl, hb, a0⟩ := hz.out.cell k hc
      have b0 := (below_cell hBr.out hb).trans a0
      clear a0
      obtain ⟨x, hx⟩ : ∃ x, x = zi zs k := ⟨_, rfl⟩
      rw [← hx] at b0
      replace hx := Lib.hid hx
      have bad : Hid (¬ (0 ≤ x ∧ x < n ∧ ∀ j, k = j + 1 → zi zs j < x) → ¬ Gang n zs) := fun h hg => by
        have hkz : k < zs.length := by rw [hlen.out]; exact hc
        refine h ⟨by rw [hx.out]; exact hg.low k hkz, by rw [hx.out]; exact hg.high k hkz, fun j e => ?_⟩
        subst e
        rw [hx.out]; exact hg.rise j hkz
      by_cases q1 : x < 0
      · have d1 : decide (x < 0) = true := by simpa using q1
        have hbad := bad.out (by omega)
        replace q1 := Lib.hid q1; replace hbad := Lib.hid hbad
        go_wp2
        go_ret
        exact ⟨false, rfl, ⟨fun h => by simp at h, fun h => absurd h hbad.out⟩, hBr.out⟩
      have d1 : decide (x < 0) = false := by simpa using q1
      by_cases q2 : (n : Int) ≤ x
      · have d2 : decide ((n : Int) ≤ x) = true := by simpa using q2
        have hbad := bad.out (by omega)
        replace q1 := Lib.hid q1; replace q2 := Lib.hid q2; replace hbad := Lib.hid hbad
        go_wp2
        go_ret
        exact ⟨false, rfl, ⟨fun h => by simp at h, fun h => absurd h hbad.out⟩, hBr.out⟩
      have d2 : decide ((n : Int) ≤ x) = false := by simpa using q2
      cases k with
      | zero =>
        rw [Nat.add_zero] at b0
        have hc2 : (0 : Int) < m := by omega
        have hnext : ∀ i, i < 0 + 1 → 0 ≤ zi zs i ∧ zi zs i < n ∧ (∀ j, i = j + 1 → zi zs j < zi zs i) := by
          intro i hi
          have : i = 0 := by omega
          subst this
          exact ⟨by rw [← hx.out]; omega, by rw [← hx.out]; omega, fun j e => by omega⟩
        replace q1 := Lib.hid q1; replace q2 := Lib.hid q2; replace hnext := Lib.hid hnext
        go_wp2
        go_roundw
        case rel => exact ⟨0 + 1, by go_num, by omega, hnext.out, hBr.out⟩
        case measure => simp [intOf]; omega
      | succ j =>
        obtain ⟨b', off', e', hb', a1⟩ := hz.out.cell j (by omega)
        cases e'
        have b1 := (below_cell hBr.out hb').trans a1
        clear a1
        obtain ⟨y, hy⟩ : ∃ y, y = zi zs j := ⟨_, rfl⟩
        rw [← hy] at b1
        replace hy := Lib.hid hy
        have ej : IntKind.i64.wrap (((j + 1 : Nat) : Int) - 1) = (j : Int) := by rw [IntWalk.i64_in _ (by omega)]; omega
        have ej2 : IntKind.i64.wrap ((j : Int) + 1 - 1) = (j : Int) := by rw [IntWalk.i64_in _ (by omega)]; omega
        have hj1 : (j : Int) < m := by omega
        have hj0 : (0 : Int) ≤ (j : Int) := by omega
        have hp1 : (0 : Int) < (j : Int) + 1 := by omega
        by_cases q3 : x ≤ y
        · have d3 : decide (x ≤ y) = true := by simpa using q3
          have hbad := bad.out (fun h => by have := h.2.2 j rfl; rw [← hy.out] at this; omega)
          replace q1 := Lib.hid q1; replace q2 := Lib.hid q2; replace q3 := Lib.hid q3; replace hbad := Lib.hid hbad
          go_wp2
          go_ret
          exact ⟨false, rfl, ⟨fun h => by simp at h, fun h => absurd h hbad.out⟩, hBr.out⟩
        · have d3 : decide (x ≤ y) = false := by simpa using q3
          have hnext : ∀ i, i < j + 1 + 1 → 0 ≤ zi zs i ∧ zi zs i < n ∧ (∀ j, i = j + 1 → zi zs j < zi zs i) := by
            intro i hi
            by_cases e : i = j + 1
            · subst e
              refine ⟨by rw [← hx.out]; omega, by rw [← hx.out]; omega, fun j2 e => ?_⟩
              have : j2 = j := by omega
              subst this
              rw [← hx.out, ← hy.out]; omega
            · exact hall.out i (by omega)
          replace q1 := Lib.hid q1; replace q2 := Lib.hid q2; replace q3 := Lib.hid q3; replace hnext := Lib.hid hnext
          go_wp2
          go_roundw
          case rel => exact ⟨j + 1 + 1, by go_num, by omega, hnext.out, hBr.out⟩
          case measure => simp [intOf]; omega
    · have hc1 : ¬ (k : Int) < m := by omega
      have hkm : k = m := by omega
      go_wp2
      go_ret
      refine ⟨true, rfl, ⟨fun _ => ⟨by rw [hlen.out]; omega, fun i hi => ?_, fun i hi => ?_, fun i hi => ?_⟩, fun _ => rfl⟩, hBr.out⟩
      · rw [hlen.out] at hi; exact (hall.out i (by omega)).1
      · rw [hlen.out] at hi; exact (hall.out i (by omega)).2.1
      · rw [hlen.out] at hi; exact (hall.out (i + 1) (by omega)).2.2 i rfl
end Go.Proofs.Ytpjajiambbobhaa

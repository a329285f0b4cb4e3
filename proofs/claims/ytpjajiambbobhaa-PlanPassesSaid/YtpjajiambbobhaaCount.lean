/- (*Pool).counted: which places of a row count, as an array of sixteen marks. -/
import Derived.Test.YtpjajiambbobhaaEach
import Derived.Laws.Rows
import Derived.Laws.Tables
namespace Go.Proofs.Ytpjajiambbobhaa
open Go.RowKit

def bits (f : Nat → Bool) : Array Value := #[.bool (f 0), .bool (f 1), .bool (f 2), .bool (f 3), .bool (f 4), .bool (f 5), .bool (f 6), .bool (f 7), .bool (f 8), .bool (f 9), .bool (f 10), .bool (f 11), .bool (f 12), .bool (f 13), .bool (f 14), .bool (f 15)]
theorem bits_size (f : Nat → Bool) : (bits f).size = 16 := rfl
theorem lt16 {i : Nat} (h : i < 16) : i = 0 ∨ i = 1 ∨ i = 2 ∨ i = 3 ∨ i = 4 ∨ i = 5 ∨ i = 6 ∨ i = 7 ∨ i = 8 ∨ i = 9 ∨ i = 10 ∨ i = 11 ∨ i = 12 ∨ i = 13 ∨ i = 14 ∨ i = 15 := by omega
theorem bits_get (f : Nat → Bool) {i : Nat} (h : i < 16) : (bits f)[i]? = some (.bool (f i)) := by
  rcases lt16 h with rfl | rfl | rfl | rfl | rfl | rfl | rfl | rfl | rfl | rfl | rfl | rfl | rfl | rfl | rfl | rfl <;> rfl
theorem bits_set (f : Nat → Bool) {i : Nat} (h : i < 16) : (bits f).setIfInBounds i (.bool true) = bits fun j => if j = i then true else f j := by
  rcases lt16 h with rfl | rfl | rfl | rfl | rfl | rfl | rfl | rfl | rfl | rfl | rfl | rfl | rfl | rfl | rfl | rfl <;> rfl
theorem info114 : (Try.prog.info? 114).map (·.size) = some 16 := by kernel_rfl
theorem idx_bits (f : Nat → Bool) (k : Nat) (hk : k < 16) (w : World) : (Instr.index 114 (.agg (bits f)) (.int .i64 (k : Int))).run Try.prog w = .ok (.bool (f k)) w := by
  have h1 : (0 : Int) ≤ (k : Int) ∧ (k : Int) < 16 := by omega
  simp [Instr.index, asIntOf, run_underlying Try.underlying114, part, h1, hk, bits_get f hk]
theorem load_bits (f : Nat → Bool) (b : Nat) (w : World) (h : w.heap[b]? = some (.cells (bits f) 114 (0, 0))) : (Instr.loadAt 114 (.pointer (some ⟨b, 0, none⟩))).run Try.prog w = .ok (.agg (bits f)) w := by
  simp only [Instr.loadAt, Instr.sureAddr, Sem.run_bind, Sem.run_pure, Result.andThen_ok]
  exact run_loadVar_row w b 114 114 (bits f) (0, 0) _ h Try.underlying114 rfl info114
theorem store_bits (f g : Nat → Bool) (b : Nat) (w : World) (h : w.heap[b]? = some (.cells (bits f) 114 (0, 0))) : (Instr.storeAt 114 (.pointer (some ⟨b, 0, none⟩)) (.agg (bits g))).run Try.prog w = .ok () (w.setRow b (bits g)) := by
  simp only [Instr.storeAt, Instr.sureAddr, Sem.run_bind, Sem.run_pure, Result.andThen_ok]
  exact run_storeVar_row w b 114 114 (bits f) (bits g) h info114 rfl (by simp [bits, Value.oneCell'])

theorem below_row {B b : Nat} {w0 w : World} (h : Below B w0 w) (hb : B ≤ b) (cs : Array Value) : Below B w0 (w.setRow b cs) :=
  ⟨h.os, h.tape, h.output, by simpa using h.size, fun k hk => (setRow_other w b k cs (by omega)).trans (h.block k hk)⟩

def CountPost (n : Nat) (zs : List Int) (w : World) (e : Ending) (w' : World) : Prop :=
  ∃ f : Nat → Bool, e = .returned (.agg (bits f)) ∧ (∀ i, f i = true ↔ i < n ∧ Among zs zs.length i) ∧ Below w.heap.size w w'

theorem bits_zero : (#[.bool false, .bool false, .bool false, .bool false, .bool false, .bool false, .bool false, .bool false, .bool false, .bool false, .bool false, .bool false, .bool false, .bool false, .bool false, .bool false] : Array Value) = bits fun _ => false := rfl

set_option maxRecDepth 100000 in
set_option maxHeartbeats 1600000 in
theorem counted_any (gb gs cap : Nat) (po : Option Addr) (ps : List Nd) (ao : Option Addr) (m c : Nat) (zs : List Int) (w : World) (hp : Pool w gb gs po cap ps) (hz : IntsAt w ao m zs) :
    Calls Try.prog 73 #[.pointer (some ⟨gb, 0, none⟩), .slice ao m c] w (CountPost ps.length zs w) := by
  obtain ⟨n, hn⟩ : ∃ n, n = ps.length := ⟨_, rfl⟩
  have hh := hp.head
  have hfew := hp.few
  rw [← hn] at hh hfew
  have c0 := blk_cell hh 0
  simp at c0
  have lgb := blk_lt hh
  rw [← hn]
  clear hp hh hn
  have hlen := hz.len
  have hmax := hz.max
  replace hz := Lib.hid hz; replace hlen := Lib.hid hlen
  go_enter Try.func73, Try.ntmps73
  go_wp2
  go_loopw [7, 10] (fun _ i wr => ∃ (k : Nat) (f : Nat → Bool), i = .int .i64 k ∧ k ≤ m ∧ Hid (∀ i, f i = true ↔ i < n ∧ Among zs k i) ∧ Hid (wr.heap[w.heap.size + 1]? = some (.cells (bits f) 114 (0, 0))) ∧ Hid (wr.heap[w.heap.size]? = some (.cells (bits fun _ => false) 114 (0, 0))) ∧ Hid (Below w.heap.size w wr)) (fun _ i _ => m - (intOf i).toNat)
  case atStart =>
    refine ⟨0, fun _ => false, rfl, Nat.zero_le _, fun i => ⟨fun h => by simp at h, fun h => by obtain ⟨_, j, hj, _⟩ := h; omega⟩, ?_, ?_, ((Below.refl _ _).alloc (Nat.le_refl _) _).alloc (by simp) _⟩
    · rw [← bits_zero]; exact blk_at _ _ (by simp)
    · rw [← bits_zero]; exact blk_old _ (blk_new _ _)
  case round =>
    obtain ⟨k, f, rfl, hk, hf, hb5, hb4, hBr⟩ := hrel
    have g0 := (below_cell (o := 0) hBr.out lgb).trans c0
    have l5 := blk_lt hb5.out
    have s4 := hBr.out.size
    by_cases hc : k < m
    · have hc1 : (k : Int) < m := by omega
      have hk0 : (0 : Int) ≤ (k : Int) := by omega
      obtain ⟨b, off, rfl, hb, a0⟩ := hz.out.cell k hc
      have b0 := (below_cell hBr.out hb).trans a0
      clear a0
      obtain ⟨x, hx⟩ : ∃ x, x = zi zs k := ⟨_, rfl⟩
      rw [← hx] at b0
      replace hx := Lib.hid hx
      by_cases q1 : 0 ≤ x
      rotate_left
      · have d1 : decide (0 ≤ x) = false := by simpa using q1
        have hsame : ∀ i, f i = true ↔ i < n ∧ Among zs (k + 1) i := fun i => by
          rw [hf.out i, among_succ, ← hx.out]
          constructor
          · exact fun h => ⟨h.1, .inl h.2⟩
          · rintro ⟨h1, h2 | h2⟩
            · exact ⟨h1, h2⟩
            · omega
        replace q1 := Lib.hid q1; replace hsame := Lib.hid hsame
        go_wp2
        go_roundw
        case rel => exact ⟨k + 1, f, by go_num, by omega, hsame.out, hb5.out, hb4.out, hBr.out⟩
        case measure => simp [intOf]; omega
      have d1 : decide (0 ≤ x) = true := by simpa using q1
      by_cases q2 : x < n
      rotate_left
      · have d2 : decide (x < (n : Int)) = false := by simpa using q2
        have hsame : ∀ i, f i = true ↔ i < n ∧ Among zs (k + 1) i := fun i => by
          rw [hf.out i, among_succ, ← hx.out]
          constructor
          · exact fun h => ⟨h.1, .inl h.2⟩
          · rintro ⟨h1, h2 | h2⟩
            · exact ⟨h1, h2⟩
            · omega
        replace q1 := Lib.hid q1; replace q2 := Lib.hid q2; replace hsame := Lib.hid hsame
        go_wp2
        go_roundw
        case rel => exact ⟨k + 1, f, by go_num, by omega, hsame.out, hb5.out, hb4.out, hBr.out⟩
        case measure => simp [intOf]; omega
      obtain ⟨ix, rfl⟩ : ∃ ix : Nat, x = (ix : Int) := ⟨x.toNat, by omega⟩
      have d2 : decide ((ix : Int) < (n : Int)) = true := by simpa using q2
      have hi1 : (ix : Int) < n := q2
      have hi16 : (ix : Int) < 16 := by omega
      have hin : ix < 16 := by omega
      have cc := blk_cell hb5.out ix
      rw [bits_get f hin] at cc
      have ff := blk_free hb5.out ix
      have hnext : ∀ i, (fun j => if j = ix then true else f j) i = true ↔ i < n ∧ Among zs (k + 1) i := fun i => by
        simp only
        rw [among_succ, ← hx.out]
        by_cases e : i = ix
        · subst e; rw [if_pos rfl]
          exact ⟨fun _ => ⟨by omega, .inr rfl⟩, fun _ => rfl⟩
        · rw [if_neg e, hf.out i]
          constructor
          · exact fun h => ⟨h.1, .inl h.2⟩
          · rintro ⟨h1, h2 | h2⟩
            · exact ⟨h1, h2⟩
            · omega
      replace q1 := Lib.hid q1; replace q2 := Lib.hid q2; replace hnext := Lib.hid hnext
      go_wp2
      go_roundw
      case rel =>
        refine ⟨k + 1, _, by go_num, by omega, hnext.out, ?_, blk_set_other (by omega) _ hb4.out, hBr.out.setCell (by simp) _⟩
        show _ = _
        rw [blk_set hb5.out, bits_set f hin]
      case measure => simp [intOf]; omega
    · have hc1 : ¬ (k : Int) < m := by omega
      have hkm : k = zs.length := by rw [hlen.out]; omega
      have hone : (bits f).all (·.oneCell') = true := by simp [bits, Value.oneCell']
      have hend := setRow_heap wr w.heap.size _ (bits f) 114 (0, 0) hb4.out
      have hBe := below_row hBr.out (Nat.le_refl _) (bits f)
      have hfin := hf.out
      rw [hkm] at hfin
      replace hkm := Lib.hid hkm; replace hfin := Lib.hid hfin; replace hend := Lib.hid hend; replace hBe := Lib.hid hBe
      go_wp2_with (first | (refine wpList_load_row rfl 114 _ rfl (w.heap.size + 1) rfl 114 (bits f) (0, 0) _ hb5.out Try.underlying114 rfl info114 ?_) | (refine wpList_store_row rfl 114 _ _ rfl w.heap.size (bits f) rfl rfl 114 _ hb4.out info114 rfl hone ?_))
      refine bodyPost_ret (v := .agg (bits f)) ?_ rfl ?_
      · exact results_cell_row rfl _ _ w.heap.size 114 (bits f) (0, 0) _ rfl hend.out Try.underlying114 rfl info114
      · exact ⟨f, rfl, hfin.out, hBe.out⟩
end Go.Proofs.Ytpjajiambbobhaa

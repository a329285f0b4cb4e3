/- slices.CompactFunc over steps: neighbours that are alike become one. -/
import Derived.Test.YtpjajiambbobhaaCut
import Derived.Test.YtpjajiambbobhaaCompp
import Derived.Test.YtpjajiambbobhaaEqv
import Derived.Lib.SliceRun
namespace Go.Proofs.Ytpjajiambbobhaa
open Go.RowKit

theorem zero43 (w : World) : (zeroValue 43).run Try.prog w = .ok (.agg #[.int .i64 0, .int .i64 0, .int .i64 0, .int .i64 0, .int .i64 0]) w := by kernel_rfl

theorem zeroCells_one {z : Array Value} {n : Nat} (h1 : ∀ v ∈ z, v.oneCell' = true) (hz : 0 < z.size) : ∀ v ∈ (Builtin.zeroCells z n).toList, v.oneCell' = true := by
  intro v hv
  simp [Builtin.zeroCells] at hv
  obtain ⟨a, ha, rfl⟩ := hv
  apply h1
  have : a % z.size < z.size := Nat.mod_lt _ hz
  rw [getElem!_pos z _ this]
  exact Array.getElem_mem _

theorem run_clear_row {w : World} {sb cap : Nat} {M : List St} (h : Row w sb cap M) (i : Nat) (hi : i ≤ M.length) {ta : Addr} {m mc : Nat} (hta : i < M.length → ta = ⟨sb, i * 5, none⟩) (hm : m = M.length - i) :
    ∃ w', (∀ ty, (Builtin.clear_ #[30] ty #[.slice (some ta) m mc]).run Try.prog w = .ok (.tuple #[]) w') ∧ Row w' sb cap (M.take i) ∧ Mod (· = sb) w w' := by
  obtain ⟨h1, h2, cur, hb, hs, ht⟩ := h
  have hfl : flat (M.take i) = (flat M).take (i * 5) := by
    have : flat M = flat (M.take i) ++ flat (M.drop i) := by rw [← flat_append, List.take_append_drop]
    rw [show (flat M).take (i * 5) = (flat (M.take i) ++ flat (M.drop i)).take (i * 5) by rw [← this]]
    have e1 : i * 5 = (flat (M.take i)).length := by rw [flat_length, List.length_take, Nat.min_eq_left hi]
    rw [e1, List.take_left]
  by_cases hlt : i < M.length
  · obtain ⟨m', rfl⟩ : ∃ m', m = m' + 1 := ⟨m - 1, by omega⟩
    have hta' := hta hlt
    obtain ⟨Z, hZ⟩ : ∃ Z, Z = (Builtin.zeroCells #[.int .i64 0, .int .i64 0, .int .i64 0, .int .i64 0, .int .i64 0] (m' + 1)).toList := ⟨_, rfl⟩
    have hone : ∀ v ∈ Z, v.oneCell' = true := by rw [hZ]; exact zeroCells_one (z := #[.int .i64 0, .int .i64 0, .int .i64 0, .int .i64 0, .int .i64 0]) (n := m' + 1) (by intro v hv; simp at hv; subst hv; rfl) (by decide)
    have hlen : Z.length = (m' + 1) * 5 := by rw [hZ]; simp [Builtin.zeroCells]
    have hst := run_storeCells_at (P := Try.prog) sb (i * 5) 43 Z 0 cur w hb (by rw [hlen]; omega) hone
    simp only [Nat.add_zero] at hst
    obtain ⟨C, hC⟩ : ∃ C, C = (cur.toList.take (i * 5) ++ Z ++ cur.toList.drop (i * 5 + Z.length)).toArray := ⟨_, rfl⟩
    rw [← hC] at hst
    refine ⟨w.setRow sb C, fun ty => ?_, ⟨?_, h2, C, setRow_heap w sb cur C 43 (0, 0) hb, ?_, ?_⟩, ⟨rfl, rfl, rfl, by simp [World.setRow], fun k _ hk => setRow_other w sb k C hk⟩⟩
    · subst hta'
      simp [Builtin.clear_, run_underlying Try.underlying30, Value.cells, ← hZ, hst]
    · simp; omega
    · rw [hC]; simp only [List.size_toArray, List.length_append, hlen]; simp; omega
    · rw [hC]
      simp only [List.length_take, Nat.min_eq_left hi]
      rw [List.append_assoc, List.take_append_of_le_length (by simp; omega), List.take_take, Nat.min_self, hfl, ← ht, List.take_take]
      congr 1; omega
  · have : i = M.length := by omega
    subst this
    have hm0 : m = 0 := by omega
    subst hm0
    refine ⟨w, fun ty => ?_, ⟨by simpa using h1, h2, cur, hb, hs, by simpa using ht⟩, Mod.refl _ _⟩
    simp [Builtin.clear_, run_underlying Try.underlying30]

theorem enters98 : ∀ args w, (callFunc 98 args).run Try.prog w = .ok (.enter 98 args) w := enters Try.func98 (by decide) (by simp [Try.f98])

set_option maxRecDepth 100000 in
theorem same_any (s u : St) (w : World) :
    Calls Try.prog 98 #[s.val, u.val] w fun e w' => e = .returned (.bool (decide (s.f = u.f))) ∧ Below w.heap.size w w' := by
  have he := eq23 s.f u.f
  go_enter Try.func98, Try.ntmps98
  go_wp2
  go_ret
  exact ⟨rfl, ((Below.refl _ _).alloc (Nat.le_refl _) _).alloc (by simp) _⟩

/-- a row cut at its end -/
theorem slice_upto {P : Program} {t e : TypeId} {i : TypeInfo} (hU : P.underlying t = some (.slice e)) (hi : P.info? e = some i) (b len cap n : Nat) (x : Int) (hx : x = n) (hn : n ≤ cap) (w : World) :
    (Instr.slice t (.slice (some ⟨b, 0, none⟩) len cap) none (some (.int .i64 x)) none).run P w = .ok (.slice (some ⟨b, 0, none⟩) n cap) w := by
  subst hx
  have h1 : ∀ (y : Nat) (_ : n ≤ y) c, (Instr.sliceBound (.int .i64 (n : Int)) y c).run P w = .ok n w := fun y h c => by
    simp [Instr.sliceBound, asIntOf, h]
  simp [Instr.slice, Instr.sliceBounds, run_underlying hU, h1 cap hn, sizeOf, typeInfo, hi, Addr.add]

theorem Row.free {w : World} {sb cap : Nat} {l : List St} (h : Row w sb cap l) (o : Nat) : w.frozen? ⟨sb, o, none⟩ = false := by
  obtain ⟨_, _, cur, h1, _⟩ := h
  exact blk_free h1 o

theorem undrew {B : Nat} {w w' : World} (h : Below B w.drew w') : Below B w w' := ⟨h.os, h.tape, h.output, h.size, h.block⟩

def CompPost (sb cap : Nat) (l : List St) (w : World) (e : Ending) (w' : World) : Prop :=
  e = .returned (.slice (some ⟨sb, 0, none⟩) (comp l).length cap) ∧ Row w' sb cap (comp l) ∧ Mod (· = sb) w w'

theorem comp_le (l : List St) : (comp l).length ≤ l.length := by
  have key : ∀ (l : List St) p, (compFrom p l).length ≤ l.length := by
    intro l
    induction l with
    | nil => intro p; simp [compFrom]
    | cons s r ih => intro p; simp only [compFrom]; split; · have := ih s.f; simp; omega
                     · have := ih s.f; simp; omega
  cases l with
  | nil => simp [comp]
  | cons s r => have := key r s.f; simp [comp]; omega

set_option maxRecDepth 100000 in
set_option maxHeartbeats 1600000 in
theorem compact_any (sb cap : Nat) (l : List St) (w : World) (hr : Row w sb cap l) (hlen : l.length ≤ 2199023255552) :
    Calls Try.prog 97 #[.slice (some ⟨sb, 0, none⟩) l.length cap, .func (.func 98) #[] #[]] w (CompPost sb cap l w) := by
  obtain ⟨i0, hi0, hz0, hz1, hz2⟩ := info_parts info43
  have hcap := hr.le
  have hcapm := hr.max
  have hsb := hr.lt
  replace hr := Lib.hid hr
  go_enter Try.func97, Try.ntmps97
  by_cases h2 : l.length < 2
  · have h2' : (l.length : Int) < 2 := by omega
    go_wp2
    go_ret
    have e : comp l = l := by
      have := comp_id l l.length (Nat.le_refl _) (fun i h0 h1 => by omega)
      rwa [List.take_of_length_le (Nat.le_refl _)] at this
    unfold CompPost
    rw [e]
    exact ⟨rfl, hr.out, Mod.refl _ _⟩
  · have h2' : ¬ (l.length : Int) < 2 := by omega
    go_wp2
    go_loopw [5, 6, 7] (fun i _ _ wr => ∃ a : Nat, a + 1 ≤ l.length ∧ i = .int .i64 ((a : Int) + 1) ∧ Below w.heap.size w wr ∧ Hid (∀ k, 0 < k → k < a + 1 → (nth l k).f ≠ (nth l (k - 1)).f)) (fun i _ _ _ => l.length - (intOf i).toNat)
    case atStart => exact ⟨0, by omega, rfl, Below.refl _ _, by intro k h1 h2; omega⟩
    case round =>
      obtain ⟨a, ha, rfl, hB, hk⟩ := hrel
      have hrr := hr.out.below hB hsb
      by_cases hlt : a + 1 < l.length
      · have hlt' : (a : Int) + 1 < l.length := by omega
        obtain ⟨c0, c1, c2, c3, c4⟩ := hrr.cells (i := a) (by omega)
        obtain ⟨d0, d1, d2, d3, d4⟩ := hrr.cells (i := a + 1) (by omega)
        have hsz := hB.size
        have hlw : sb < wr.heap.size := by omega
        replace hB := Lib.hid hB
        replace hrr := Lib.hid hrr
        have e1 : IntKind.i64.wrap ((a : Int) + 1 - 1) = (a : Int) := by rw [IntWalk.i64_in _ (by omega)]; omega
        have e6 : IntKind.i64.wrap (a : Int) = (a : Int) := by rw [IntWalk.i64_in _ (by omega)]
        have e2 : (0 : Int) ≤ (a : Int) + 1 := by omega
        have e3 : ((a : Int) + 1).toNat = a + 1 := by omega
        have e4 : (a : Int) < l.length := by omega
        have e5 : (0 : Int) ≤ (a : Int) := by omega
        go_wp2_with fail
        go_region_held3 (fun w' => w'.cell? ⟨sb, a * 5, none⟩ = some (.int .i64 (nth l a).t) ∧ w'.cell? ⟨sb, a * 5 + 1, none⟩ = some (.int .i64 (nth l a).f.a) ∧ w'.cell? ⟨sb, a * 5 + 2, none⟩ = some (.int .i64 (nth l a).f.b) ∧ w'.cell? ⟨sb, a * 5 + 3, none⟩ = some (.int .i64 (nth l a).f.c) ∧ w'.cell? ⟨sb, a * 5 + 4, none⟩ = some (.int .i64 (nth l a).f.d) ∧
          w'.cell? ⟨sb, (a + 1) * 5, none⟩ = some (.int .i64 (nth l (a + 1)).t) ∧ w'.cell? ⟨sb, (a + 1) * 5 + 1, none⟩ = some (.int .i64 (nth l (a + 1)).f.a) ∧ w'.cell? ⟨sb, (a + 1) * 5 + 2, none⟩ = some (.int .i64 (nth l (a + 1)).f.b) ∧ w'.cell? ⟨sb, (a + 1) * 5 + 3, none⟩ = some (.int .i64 (nth l (a + 1)).f.c) ∧ w'.cell? ⟨sb, (a + 1) * 5 + 4, none⟩ = some (.int .i64 (nth l (a + 1)).f.d))
          (first
            | go_keep
            | (go_split_ands
               refine ⟨?_, ?_, ?_, ?_, ?_, ?_, ?_, ?_, ?_, ?_⟩ <;> (rw [below_cell hb2 (by simpa using hlw)]; assumption)))
          (first | (go_at_call 98; refine (same_any (nth l (a + 1)) (nth l a) _).mono ?_; rintro e w2 ⟨rfl, hb2⟩))
        clear c0 c1 c2 c3 c4 d0 d1 d2 d3 d4 e1 e2 e3 e6
        by_cases hf : (nth l (a + 1)).f = (nth l a).f
        · have hd : decide ((nth l (a + 1)).f = (nth l a).f) = true := by simpa using hf
          rw [hd]
          clear hd
          replace hf := Lib.hid hf
          obtain ⟨ta, hs2, hta⟩ := slice_from (i := i0) Try.underlying30 hi0 sb l.length cap (a + 1) ((a : Int) + 1) (by omega) (by omega)
          obtain rfl := hta (by omega)
          rw [hz1] at hs2
          obtain ⟨m, hm⟩ : ∃ m, m = l.length - (a + 1) := ⟨_, rfl⟩
          rw [← hm] at hs2
          have hmb : m ≤ 2199023255552 := by omega
          replace hm := Lib.hid hm
          have hrow2 : Row w2 sb cap l := hrr.out.below (undrew hb2) (by simpa using hlw)
          have hmod2 : Mod (· = sb) w w2 := (Mod.of_below hB.out).trans (Mod.of_below (undrew hb2))
          replace hrow2 := Lib.hid hrow2; replace hmod2 := Lib.hid hmod2; replace hb2 := Lib.hid hb2
          go_wp2
          go_loopw [5, 7] (fun i j wr => ∃ (d b : Nat) (M : List St), d + 1 ≤ m ∧ j = .int .i64 ((d : Int) + 1) ∧ i = .int .i64 b ∧ Hid (M.length = l.length) ∧ b ≤ a + 1 + d ∧ Hid (b = (comp (l.take (a + 1 + (d + 1)))).length) ∧ Hid (M.take b = comp (l.take (a + 1 + (d + 1)))) ∧ Hid (∀ k, a + 1 + d ≤ k → nth M k = nth l k) ∧ Hid (Row wr sb cap M) ∧ Hid (Mod (· = sb) w wr)) (fun _ j _ => m - (intOf j).toNat)
          case atStart =>
            have hc : comp (l.take (a + 1)) = l.take (a + 1) := comp_id l (a + 1) (by omega) hk.out
            have hc2 : comp (l.take (a + 1 + 1)) = l.take (a + 1) := by
              rw [comp_take_succ l (a + 1) (by omega) (by omega), hc, if_pos (by rw [Nat.add_sub_cancel]; exact hf.out), List.append_nil]
            refine ⟨0, a + 1, l, by have := hm.out; omega, rfl, by simp, rfl, by omega, ?_, ?_, fun k _ => rfl, hrow2.out, hmod2.out⟩
            · show a + 1 = (comp (l.take (a + 1 + (0 + 1)))).length
              simp only [Nat.zero_add]
              rw [hc2]; simp; omega
            · show l.take (a + 1) = comp (l.take (a + 1 + (0 + 1)))
              simp only [Nat.zero_add]
              rw [hc2]
          case round =>
            obtain ⟨d, b, M, hdm, rfl, rfl, hML, hbd, hbl, hMt, hMn, hrM, hmod⟩ := hrel
            have hml := hm.out
            have hMl := hML.out
            by_cases hd : d + 1 < m
            · have hd' : (d : Int) + 1 < m := by omega
              have hlw2 := hrM.out.lt
              obtain ⟨c0, c1, c2, c3, c4⟩ := hrM.out.cells (i := a + 1 + d) (by omega)
              obtain ⟨d0, d1, d2, d3, d4⟩ := hrM.out.cells (i := a + 1 + (d + 1)) (by omega)
              simp only [Nat.add_mul (a + 1) d 5, Nat.add_mul (a + 1) (d + 1) 5] at c0 c1 c2 c3 c4 d0 d1 d2 d3 d4
              have e1 : IntKind.i64.wrap ((d : Int) + 1 - 1) = (d : Int) := by rw [IntWalk.i64_in _ (by omega)]; omega
              have e6 : IntKind.i64.wrap (d : Int) = (d : Int) := by rw [IntWalk.i64_in _ (by omega)]
              have e2 : (0 : Int) ≤ (d : Int) + 1 := by omega
              have e3 : ((d : Int) + 1).toNat = d + 1 := by omega
              have e4 : (d : Int) < m := by omega
              have e5 : (0 : Int) ≤ (d : Int) := by omega
              clear hml hMl
              go_wp2_with fail
              go_region_held3 (fun w' => w'.cell? ⟨sb, (a + 1) * 5 + d * 5, none⟩ = some (.int .i64 (nth M (a + 1 + d)).t) ∧ w'.cell? ⟨sb, (a + 1) * 5 + d * 5 + 1, none⟩ = some (.int .i64 (nth M (a + 1 + d)).f.a) ∧ w'.cell? ⟨sb, (a + 1) * 5 + d * 5 + 2, none⟩ = some (.int .i64 (nth M (a + 1 + d)).f.b) ∧ w'.cell? ⟨sb, (a + 1) * 5 + d * 5 + 3, none⟩ = some (.int .i64 (nth M (a + 1 + d)).f.c) ∧ w'.cell? ⟨sb, (a + 1) * 5 + d * 5 + 4, none⟩ = some (.int .i64 (nth M (a + 1 + d)).f.d) ∧ w'.cell? ⟨sb, (a + 1) * 5 + (d + 1) * 5, none⟩ = some (.int .i64 (nth M (a + 1 + (d + 1))).t) ∧ w'.cell? ⟨sb, (a + 1) * 5 + (d + 1) * 5 + 1, none⟩ = some (.int .i64 (nth M (a + 1 + (d + 1))).f.a) ∧ w'.cell? ⟨sb, (a + 1) * 5 + (d + 1) * 5 + 2, none⟩ = some (.int .i64 (nth M (a + 1 + (d + 1))).f.b) ∧ w'.cell? ⟨sb, (a + 1) * 5 + (d + 1) * 5 + 3, none⟩ = some (.int .i64 (nth M (a + 1 + (d + 1))).f.c) ∧ w'.cell? ⟨sb, (a + 1) * 5 + (d + 1) * 5 + 4, none⟩ = some (.int .i64 (nth M (a + 1 + (d + 1))).f.d))
                (first
                  | go_keep
                  | (go_split_ands
                     refine ⟨?_, ?_, ?_, ?_, ?_, ?_, ?_, ?_, ?_, ?_⟩ <;> (rw [below_cell hb3 (by simpa using hlw2)]; assumption)))
                (first | (go_at_call 98; refine (same_any (nth M (a + 1 + (d + 1))) (nth M (a + 1 + d)) _).mono ?_; rintro e w3 ⟨rfl, hb3⟩))
              clear c0 c1 c2 c3 c4 d0 d1 d2 d3 d4 e1 e2 e3 e6
              have hrow3 : Row w3 sb cap M := hrM.out.below (undrew hb3) (by simpa using hlw2)
              have hmod3 : Mod (· = sb) w w3 := hmod.out.trans (Mod.of_below (undrew hb3))
              have hx : nth M (a + 1 + (d + 1)) = nth l (a + 1 + (d + 1)) := hMn.out _ (by omega)
              have hy : nth M (a + 1 + d) = nth l (a + 1 + d) := hMn.out _ (by omega)
              replace hx := Lib.hid hx; replace hy := Lib.hid hy
              have hsucc := comp_take_succ l (a + 1 + (d + 1)) (by omega) (by have := hm.out; omega)
              replace hsucc := Lib.hid hsucc
              by_cases hf2 : (nth M (a + 1 + (d + 1))).f = (nth M (a + 1 + d)).f
              · have hd2 : decide ((nth M (a + 1 + (d + 1))).f = (nth M (a + 1 + d)).f) = true := by simpa using hf2
                simp only [hd2, Bool.not_true]
                clear hd2
                have hs3 := hsucc.out
                rw [if_pos (by rw [← hx.out, show a + 1 + (d + 1) - 1 = a + 1 + d by omega, ← hy.out]; exact hf2), List.append_nil] at hs3
                replace hs3 := Lib.hid hs3
                replace hf2 := Lib.hid hf2
                replace hb3 := Lib.hid hb3; replace hrow3 := Lib.hid hrow3; replace hmod3 := Lib.hid hmod3
                go_wp2
                go_roundw
                case rel =>
                  refine ⟨d + 1, b, M, by omega, by go_num, rfl, hML, by omega, ?_, ?_, fun k hk => hMn.out k (by omega), hrow3.out, hmod3.out⟩
                  · show b = (comp (l.take (a + 1 + (d + 1) + 1))).length
                    rw [hs3.out]; exact hbl.out
                  · show _ = comp (l.take (a + 1 + (d + 1) + 1))
                    rw [hs3.out]; exact hMt.out
                case measure => simp [intOf]; omega
              · have hd2 : decide ((nth M (a + 1 + (d + 1))).f = (nth M (a + 1 + d)).f) = false := by simpa using hf2
                simp only [hd2, Bool.not_false]
                clear hd2
                have hs3 := hsucc.out
                rw [if_neg (by rw [← hx.out, show a + 1 + (d + 1) - 1 = a + 1 + d by omega, ← hy.out]; exact hf2)] at hs3
                replace hs3 := Lib.hid hs3
                replace hf2 := Lib.hid hf2
                have hMl := hML.out
                have hml := hm.out
                obtain ⟨d0, d1, d2, d3, d4⟩ := hrow3.cells (i := a + 1 + (d + 1)) (by omega)
                simp only [Nat.add_mul (a + 1) (d + 1) 5] at d0 d1 d2 d3 d4
                obtain ⟨c0, c1, c2, c3, c4⟩ := hrow3.cells (i := b) (by omega)
                have ff := hrow3.free
                have e7 : (b : Int) < l.length := by omega
                clear hMl hml
                replace hb3 := Lib.hid hb3; replace hrow3 := Lib.hid hrow3; replace hmod3 := Lib.hid hmod3
                go_wp2
                go_roundw
                case rel =>
                  have hMl := hML.out
                  have hml := hm.out
                  have hset := hrow3.out.setSt b (nth M (a + 1 + (d + 1))) (by omega)
                  refine ⟨d + 1, b + 1, M.set b (nth M (a + 1 + (d + 1))), by omega, by go_num, by go_num, by show (M.set _ _).length = _; rw [List.length_set]; exact hMl, by omega, ?_, ?_, ?_, hset, ?_⟩
                  · show b + 1 = (comp (l.take (a + 1 + (d + 1) + 1))).length
                    rw [hs3.out, List.length_append, ← hbl.out]; rfl
                  · show (M.set b _).take (b + 1) = comp (l.take (a + 1 + (d + 1) + 1))
                    rw [hs3.out, ← hMt.out, ← hx.out]
                    rw [take_succ_nth _ b (by rw [List.length_set]; omega), nth_set _ _ _ _ (by omega), if_pos rfl, List.take_set_of_le (Nat.le_refl _)]
                  · intro k hk
                    rw [nth_set _ _ _ _ (by omega), if_neg (by omega)]
                    exact hMn.out k (by omega)
                  · refine hmod3.out.trans ?_
                    refine (((Mod.setCell _ _ _ _ (.inl rfl)).trans (Mod.setCell _ _ _ _ (.inl (.inl rfl)))).trans (Mod.setCell _ _ _ _ (.inl (.inl rfl)))).trans (Mod.setCell _ _ _ _ (.inl (.inl rfl))) |>.trans (Mod.setCell _ _ _ _ (.inl (.inl rfl)))
                case measure => simp [intOf]; omega
            · have hdm2 : d + 1 = m := by omega
              have hd' : ¬ (d : Int) + 1 < m := by omega
              have hlen2 : a + 1 + (d + 1) = l.length := by omega
              rw [hlen2, List.take_of_length_le (Nat.le_refl _)] at hbl hMt
              have hb4 : b ≤ M.length := by have h1 := hbl.out; have h2 := comp_le l; omega
              obtain ⟨tb, hs4, htb⟩ := slice_from (i := i0) Try.underlying30 hi0 sb l.length cap b (b : Int) rfl (by omega)
              have hs5 := slice_upto (i := i0) Try.underlying30 hi0 sb l.length cap b (b : Int) rfl (by omega)
              obtain ⟨w5, hcl, hrow5, hmod5⟩ := run_clear_row hrM.out b hb4 (ta := tb) (m := l.length - b) (mc := cap - b) (fun h => by rw [htb (by omega), hz1]) (by omega)
              replace htb := Lib.hid htb; replace hrow5 := Lib.hid hrow5; replace hmod5 := Lib.hid hmod5
              replace hlen2 := Lib.hid hlen2; replace hdm2 := Lib.hid hdm2
              clear hml hMl
              go_wp2
              go_ret
              have hfin : CompPost sb cap l w (.returned (.slice (some ⟨sb, 0, none⟩) b cap)) w5 := by
                refine ⟨by rw [hbl.out], ?_, hmod.out.trans (hmod5.out.mono fun k _ h => .inl h)⟩
                have := hrow5.out
                rwa [hMt.out] at this
              exact hfin
        · have hd : decide ((nth l (a + 1)).f = (nth l a).f) = false := by simpa using hf
          rw [hd]
          clear hd
          replace hf := Lib.hid hf
          replace hb2 := Lib.hid hb2
          go_wp2
          go_roundw
          case rel =>
            refine ⟨a + 1, by omega, by go_num, hB.out.trans ((undrew hb2.out).mono (by simp; omega)), ?_⟩
            intro k h1 h2
            by_cases e : k = a + 1
            · subst e; exact hf.out
            · exact hk.out k h1 (by omega)
          case measure => simp [intOf]; omega
      · have hlt' : ¬ (a : Int) + 1 < l.length := by omega
        replace hB := Lib.hid hB
        replace hrr := Lib.hid hrr
        go_wp2
        go_ret
        have e : comp l = l := by
          have := comp_id l l.length (Nat.le_refl _) (fun i h0 h1 => hk.out i h0 (by omega))
          rwa [List.take_of_length_le (Nat.le_refl _)] at this
        unfold CompPost
        rw [e]
        exact ⟨rfl, hrr.out, Mod.of_below hB.out⟩
end Go.Proofs.Ytpjajiambbobhaa

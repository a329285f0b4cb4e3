/- The small functions of the statements on profiles. -/
import Derived.Test.YtpjajiambbobhaaEqv
import Derived.Test.YtpjajiambbobhaaChg
namespace Go.Proofs.Ytpjajiambbobhaa
open Go.RowKit

theorem stood43 : Try.prog.stoodInHeld 43 = false := by kernel_rfl
theorem fields43 : Try.prog.fieldsOf 43 = #[{ name := "At", type := 3, offset := 0, embedded := false, tag := "", pkgPath := "", byteOffset := 0 }, { name := "Free", type := 23, offset := 1, embedded := false, tag := "", pkgPath := "", byteOffset := 8 }] := by
  simp [Program.fieldsOf, Try.underlying43]
theorem info23 : (Try.prog.info? 23).map (fun i => (i.zero, i.size, i.bytes)) = some (some (.agg #[.int .i64 0, .int .i64 0, .int .i64 0, .int .i64 0]), 4, 32) := by kernel_rfl

theorem eq43 (s u : St) (w : World) : (Op.equalIn 10000 43 s.val u.val).run Try.prog w = .ok (decide (s = u)) w := by
  obtain ⟨i0, hi0, hz0, hz1, hz2⟩ := info_parts info3
  obtain ⟨i1, hi1, hy0, hy1, hy2⟩ := info_parts info23
  show (Op.equalIn (9999 + 1) 43 s.val u.val).run Try.prog w = _
  rw [run_equalIn_struct w 9999 43 _ _ (by rw [fields43]; exact Try.underlying43) stood43, fields43]
  have e1 : ∀ w, (Op.equalIn 9999 3 (.int .i64 s.t) (.int .i64 u.t)).run Try.prog w = .ok (s.t == u.t) w := eqi 9998 s.t u.t
  have e2 : ∀ w, (Op.equalIn 9999 23 s.f.val u.f.val).run Try.prog w = .ok (decide (s.f = u.f)) w := eq23d 9997 s.f u.f
  obtain ⟨st, sf⟩ := s
  obtain ⟨ut, uf⟩ := u
  by_cases h1 : st = ut
  · subst h1
    by_cases h2 : sf = uf
    · subst h2
      simp [Op.eqFields, part, sizeOf, typeInfo, hi0, hz1, hi1, hy1, e1, e2]
    · simp [Op.eqFields, part, sizeOf, typeInfo, hi0, hz1, hi1, hy1, e1, e2, h2]
  · simp [Op.eqFields, part, sizeOf, typeInfo, hi0, hz1, e1, h1]

theorem right3_any (v : V4) (w : World) : Calls Try.prog 27 #[v.val] w fun e w' => e = .returned (.bool v.right) ∧ Below w.heap.size w w' := by
  go_enter Try.func27, Try.ntmps27
  go_wp2
  all_goals
    go_ret
    refine ⟨congrArg Ending.returned (congrArg Value.bool (?_ : (_ : Bool) = _)), (Below.refl _ _).alloc (Nat.le_refl _) _⟩
    rw [Bool.eq_iff_iff]
    simp [V4.right, okn]
    try omega

theorem fits3_any (u v : V4) (w : World) : Calls Try.prog 28 #[u.val, v.val] w fun e w' => e = .returned (.bool (u.fits v)) ∧ Below w.heap.size w w' := by
  go_enter Try.func28, Try.ntmps28
  go_wp2
  all_goals
    go_ret
    refine ⟨congrArg Ending.returned (congrArg Value.bool (?_ : (_ : Bool) = _)), ((Below.refl _ _).alloc (Nat.le_refl _) _).alloc (by simp) _⟩
    rw [Bool.eq_iff_iff]
    simp [V4.fits]
    try omega

theorem span6_any (fr to : Int) (v : V4) (w : World) :
    Calls Try.prog 32 #[.int .i64 fr, .int .i64 to, v.val] w fun e w' => e = .returned (.bool (decide (0 ≤ fr) && decide (fr < to) && decide (to ≤ 1099511627776) && v.right)) ∧ Below w.heap.size w w' := by
  go_enter Try.func32, Try.ntmps32
  go_wp2_with fail
  refine (right3_any v _).mono ?_
  rintro e w2 ⟨rfl, hb2⟩
  have hB2 : Below w.heap.size w w2 := ((Below.refl _ _).alloc (Nat.le_refl _) _).trans (hb2.mono (by simp))
  replace hb2 := Lib.hid hb2; replace hB2 := Lib.hid hB2
  cases hr : v.right
  all_goals
    go_wp2
    all_goals
      go_ret
      refine ⟨congrArg Ending.returned (congrArg Value.bool (?_ : (_ : Bool) = _)), hB2.out⟩
      rw [Bool.eq_iff_iff]
      simp [hr]
      try omega

/-- two rows of steps held against one another -/
theorem same6_any (sa ca sb cb : Nat) (l m : List St) (w : World) (ha : Row w sa ca l) (hb : Row w sb cb m) (hla : l.length ≤ 2199023255552) :
    Calls Try.prog 24 #[.slice (some ⟨sa, 0, none⟩) l.length ca, .slice (some ⟨sb, 0, none⟩) m.length cb] w fun e w' => e = .returned (.bool (decide (l = m))) ∧ Below w.heap.size w w' := by
  by_cases hlen : l.length = m.length
  · have h1 : ((l.length : Int) != (m.length : Int)) = false := by rw [hlen]; simp
    replace ha := Lib.hid ha; replace hb := Lib.hid hb
    have hmb : m.length ≤ 2199023255552 := by omega
    replace hlen := Lib.hid hlen
    have lw := ha.out.lt
    have lw2 := hb.out.lt
    go_enter Try.func24, Try.ntmps24
    go_wp2
    go_loopw [5] (fun i wr => ∃ k : Nat, k ≤ l.length ∧ i = .int .i64 k ∧ Below w.heap.size w wr ∧ Hid (∀ j, j < k → nth l j = nth m j)) (fun i _ => l.length - (intOf i).toNat)
    case atStart => exact ⟨0, Nat.zero_le _, rfl, Below.refl _ _, by intro j hj; omega⟩
    case round =>
      obtain ⟨k, hk, rfl, hB, heq⟩ := hrel
      by_cases hc : k < l.length
      · have hc1 : (k : Int) < l.length := by omega
        have hc2 : (k : Int) < m.length := by have := hlen.out; omega
        have hk0 : (0 : Int) ≤ (k : Int) := by omega
        obtain ⟨a0, a1, a2, a3, a4⟩ := (ha.out.below hB lw).cells hc
        obtain ⟨b0, b1, b2, b3, b4⟩ := (hb.out.below hB lw2).cells (i := k) (by have := hlen.out; omega)
        have he := eq43 (nth l k) (nth m k)
        replace hB := Lib.hid hB
        by_cases hn : nth l k = nth m k
        · have hd : decide (nth l k = nth m k) = true := by simpa using hn
          simp only [hd] at he
          clear hd
          replace hn := Lib.hid hn
          go_wp2
          go_quiet (fail)
          go_wp2
          go_roundw
          case rel =>
            refine ⟨k + 1, by omega, by go_num, ⟨hB.out.os, hB.out.tape, hB.out.output, hB.out.size, hB.out.block⟩, ?_⟩
            intro j hj
            by_cases e : j = k
            · subst e; exact hn.out
            · exact heq.out j (by omega)
          case measure => simp [intOf]; omega
        · have hd : decide (nth l k = nth m k) = false := by simpa using hn
          simp only [hd] at he
          clear hd
          have hne : decide (l = m) = false := by simp; intro h; rw [h] at hn; exact hn rfl
          replace hn := Lib.hid hn; replace hne := Lib.hid hne
          go_wp2
          go_quiet (fail)
          go_wp2
          go_ret
          exact ⟨by rw [hne.out]; rfl, ⟨hB.out.os, hB.out.tape, hB.out.output, hB.out.size, hB.out.block⟩⟩
      · have hc1 : ¬ (k : Int) < l.length := by omega
        have heq2 : decide (l = m) = true := by
          simp
          exact ext_nth l m hlen.out fun j hj => heq.out j (by omega)
        replace heq2 := Lib.hid heq2; replace hB := Lib.hid hB
        go_wp2
        go_ret
        exact ⟨by rw [heq2.out]; rfl, hB.out⟩
  · have h1 : ((l.length : Int) != (m.length : Int)) = true := by simp; omega
    have h2 : decide (l = m) = false := by simp; intro h; rw [h] at hlen; exact hlen rfl
    rw [h2]
    clear h2
    replace hlen := Lib.hid hlen
    clear ha hb
    go_enter Try.func24, Try.ntmps24
    go_wp2
    go_ret
    exact ⟨rfl, Below.refl _ _⟩
end Go.Proofs.Ytpjajiambbobhaa

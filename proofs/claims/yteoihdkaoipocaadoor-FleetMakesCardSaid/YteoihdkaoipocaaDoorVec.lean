/- Package vec: what Right, Fits, Least, Add, Sub answer. -/
import Derived.Test.YteoihdkaoipocaaDoorBase
namespace Go.Proofs.YteoihdkaoipocaaDoor
open Go.RowKit

def okn (x : Int) : Bool := decide (0 ≤ x) && decide (x ≤ 1073741824)
def V4.right (v : V4) : Bool := okn v.a && okn v.b && okn v.c && okn v.d
def V4.fits (u v : V4) : Bool := decide (u.a ≤ v.a) && decide (u.b ≤ v.b) && decide (u.c ≤ v.c) && decide (u.d ≤ v.d)

/-- vec.all over a function value: what it tells of 0, 1, 2, 3 together. -/
theorem all_any (F : FuncId) (caps : Array Value) (p : Nat → Bool) (w : World)
    (hF : ∀ args w, (callFunc F args).run Tryd.prog w = .ok (.enter F args) w)
    (H : ∀ (i : Nat) (w1 : World), i < 4 → Below w.heap.size w w1 → Calls Tryd.prog F (#[.int .i64 i] ++ caps) w1 fun e w2 => e = .returned (.bool (p i)) ∧ Below w.heap.size w1 w2) :
    Calls Tryd.prog 113 #[.func (.func F) #[] caps] w fun e w' => e = .returned (.bool (p 0 && p 1 && p 2 && p 3)) ∧ Below w.heap.size w w' := by
  have H' := Lib.hid H; clear H
  go_enter Tryd.func113, Tryd.ntmps113
  go_wp2
  go_loopw [3, 4] (fun _ i wr => ∃ k : Nat, k ≤ 4 ∧ i = .int .i64 k ∧ Below w.heap.size w wr ∧ (∀ j : Nat, j < k → p j = true)) (fun _ i _ => 4 - (intOf i).toNat)
  case atStart => exact ⟨0, by omega, rfl, Below.refl _ _, by omega⟩
  case round =>
    obtain ⟨k, hk, rfl, hb, hp⟩ := hrel
    have hp' := Lib.hid hp; clear hp
    by_cases h4 : k < 4
    · have hi : (k:Int) < 4 := by omega
      go_wp2_with fail
      refine (H'.out k _ h4 hb).mono ?_
      rintro e w2 ⟨rfl, hb2⟩
      cases hpk : p k
      · have hpk' := Lib.hid hpk; clear hpk
        go_wp2
        go_ret
        refine ⟨?_, hb.trans hb2⟩
        have hpk := hpk'.out
        have : (p 0 && p 1 && p 2 && p 3) = false := by
          rcases (show k = 0 ∨ k = 1 ∨ k = 2 ∨ k = 3 by omega) with rfl | rfl | rfl | rfl <;> simp [hpk]
        rw [this]
        rfl
      · have hpk' := Lib.hid hpk; clear hpk
        go_wp2
        go_roundw
        case rel =>
          refine ⟨k + 1, by omega, by go_num, hb.trans hb2, ?_⟩
          intro j hj
          by_cases hjk : j = k
          · subst hjk; exact hpk'.out
          · exact hp'.out j (by omega)
        case measure => simp [intOf]; omega
    · have hi : ¬ (k:Int) < 4 := by omega
      go_wp2
      go_ret
      refine ⟨?_, hb⟩
      have hp := hp'.out
      rw [hp 0 (by omega), hp 1 (by omega), hp 2 (by omega), hp 3 (by omega)]
      rfl

theorem enters114 : ∀ args w, (callFunc 114 args).run Tryd.prog w = .ok (.enter 114 args) w := enters Tryd.func114 (by decide) (by simp [Tryd.f114])

theorem right1_any (v : V4) (b : Nat) (i : Nat) (B : Nat) (w : World) (hi : i < 4)
    (h0 : w.cell? ⟨b, 0, none⟩ = some (.int .i64 v.a)) (h1 : w.cell? ⟨b, 1, none⟩ = some (.int .i64 v.b)) (h2 : w.cell? ⟨b, 2, none⟩ = some (.int .i64 v.c)) (h3 : w.cell? ⟨b, 3, none⟩ = some (.int .i64 v.d)) :
    Calls Tryd.prog 114 (#[.int .i64 i] ++ #[.pointer (some ⟨b, 0, none⟩)]) w fun e w' => e = .returned (.bool (okn (v.get i))) ∧ Below B w w' := by
  have key : ∀ x : Int, x < 0 → okn x = false := by intro x hx; simp [okn]; omega
  have key2 : ∀ x : Int, 0 ≤ x → okn x = decide (x ≤ 1073741824) := by intro x hx; simp [okn, hx]
  have hk := Lib.hid key; have hk2 := Lib.hid key2; clear key key2
  rcases lt4 hi with rfl | rfl | rfl | rfl
  all_goals
    go_enter Tryd.func114, Tryd.ntmps114
    go_wp2
    all_goals
      go_ret
      refine ⟨?_, Below.refl _ _⟩
      simp only [V4.get]
      first
        | (rw [hk.out _ (by assumption)]; rfl)
        | (rw [hk2.out _ (by assumption)]; rfl)

theorem right_any (v : V4) (w : World) :
    Calls Tryd.prog 70 #[v.val] w fun e w' => e = .returned (.bool v.right) ∧ Below w.heap.size w w' := by
  go_enter Tryd.func70, Tryd.ntmps70
  go_wp2_with fail
  refine (all_any 114 _ (fun i => okn (v.get i)) _ enters114 ?_).mono ?_
  · intro i w1 hi hb
    have hc : ∀ j, w1.cell? ⟨w.heap.size, j, none⟩ = _ := fun j => below_cell (o := j) hb (by simp)
    exact right1_any v w.heap.size i _ w1 hi (by rw [hc]; simp) (by rw [hc]; simp) (by rw [hc]; simp) (by rw [hc]; simp)
  · rintro e w2 ⟨rfl, hb2⟩
    go_wp2
    go_ret
    exact ⟨rfl, ((Below.refl _ _).alloc (Nat.le_refl _) _).trans (hb2.mono (by simp))⟩

theorem enters124 : ∀ args w, (callFunc 124 args).run Tryd.prog w = .ok (.enter 124 args) w := enters Tryd.func124 (by decide) (by simp [Tryd.f124])

theorem fits1_any (u v : V4) (b1 b2 : Nat) (i : Nat) (B : Nat) (w : World) (hi : i < 4)
    (hu : w.heap[b1]? = some (.cells u.cells 25 (0, 0))) (hv : w.heap[b2]? = some (.cells v.cells 25 (0, 0))) :
    Calls Tryd.prog 124 (#[.int .i64 i] ++ #[.pointer (some ⟨b1, 0, none⟩), .pointer (some ⟨b2, 0, none⟩)]) w fun e w' => e = .returned (.bool (decide (u.get i ≤ v.get i))) ∧ Below B w w' := by
  have c0 := blk_cell hu 0; have c1 := blk_cell hu 1; have c2 := blk_cell hu 2; have c3 := blk_cell hu 3
  have d0 := blk_cell hv 0; have d1 := blk_cell hv 1; have d2 := blk_cell hv 2; have d3 := blk_cell hv 3
  simp at c0 c1 c2 c3 d0 d1 d2 d3
  clear hu hv
  rcases lt4 hi with rfl | rfl | rfl | rfl
  all_goals
    go_enter Tryd.func124, Tryd.ntmps124
    go_wp2
    go_quiet (fail)
    go_wp2
    go_ret
    exact ⟨rfl, ⟨rfl, rfl, rfl, Nat.le_refl _, fun _ _ => rfl⟩⟩

theorem fits_any (u v : V4) (w : World) :
    Calls Tryd.prog 89 #[u.val, v.val] w fun e w' => e = .returned (.bool (u.fits v)) ∧ Below w.heap.size w w' := by
  go_enter Tryd.func89, Tryd.ntmps89
  go_wp2_with fail
  refine (all_any 124 _ (fun i => decide (u.get i ≤ v.get i)) _ enters124 ?_).mono ?_
  · intro i w1 hi hb
    exact fits1_any u v w.heap.size (w.heap.size + 1) i _ w1 hi (blk_below hb (blk_old _ (blk_new _ _)) (by simp; omega)) (blk_below hb (blk_at _ _ (by simp)) (by simp))
  · rintro e w2 ⟨rfl, hb2⟩
    go_wp2
    go_ret
    exact ⟨rfl, (((Below.refl _ _).alloc (Nat.le_refl _) _).alloc (by simp) _).trans (hb2.mono (by simp; omega))⟩

def V4.zero : V4 := ⟨0, 0, 0, 0⟩
def V4.told (v : V4) (e : Int) : V4 × Int := if v.right = true then (v, 0) else (V4.zero, e)
theorem told_any (v : V4) (e : Int) (w : World) :
    Calls Tryd.prog 138 #[v.val, .int .i64 e] w fun e' w' => e' = .returned (.tuple #[(v.told e).1.val, .int .i64 (v.told e).2]) ∧ Below w.heap.size w w' := by
  go_enter Tryd.func138, Tryd.ntmps138
  go_wp2_with fail
  refine (right_any v _).mono ?_
  rintro e w2 ⟨rfl, hb2⟩
  have g := blk_below hb2 (blk_at (b := w.heap.size + 1) _ _ (by simp)) (by simp)
  have cx := blk_cell g; have fx := blk_free g
  have g0 := blk_below hb2 (blk_old _ (blk_new _ _)) (by simp; omega)
  have cy := blk_cell g0
  clear g g0
  have hB : Below w.heap.size w w2 := (((Below.refl _ _).alloc (Nat.le_refl _) _).alloc (by simp) _).trans (hb2.mono (by simp; omega))
  cases hr : v.right
  all_goals
    have hr' := Lib.hid hr; clear hr
    go_wp2
    refine bodyPost_ret (v := .tuple #[(v.told e).1.val, .int .i64 (v.told e).2]) (by simp [results, Tryd.results138, go_sem, cx, V4.told, hr'.out, V4.zero]) rfl ⟨rfl, ?_⟩
    refine Below.setCell ?_ (by simp) _
    refine Below.setCell ?_ (by simp) _
    refine Below.setCell ?_ (by simp) _
    refine Below.setCell ?_ (by simp) _
    exact hB
end Go.Proofs.YteoihdkaoipocaaDoor

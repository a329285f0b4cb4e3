/- Package vec: what Right, Fits, Least, Add, Sub answer. -/
import Derived.Test.YtpjajiambbobhaaBase
namespace Go.Proofs.Ytpjajiambbobhaa
open Go.RowKit

def okn (x : Int) : Bool := decide (0 ≤ x) && decide (x ≤ 1073741824)
def V4.right (v : V4) : Bool := okn v.a && okn v.b && okn v.c && okn v.d
def V4.fits (u v : V4) : Bool := decide (u.a ≤ v.a) && decide (u.b ≤ v.b) && decide (u.c ≤ v.c) && decide (u.d ≤ v.d)

/-- vec.all over a function value: what it tells of 0, 1, 2, 3 together. -/
theorem all_any (F : FuncId) (caps : Array Value) (p : Nat → Bool) (w : World)
    (hF : ∀ args w, (callFunc F args).run Try.prog w = .ok (.enter F args) w)
    (H : ∀ (i : Nat) (w1 : World), i < 4 → Below w.heap.size w w1 → Calls Try.prog F (#[.int .i64 i] ++ caps) w1 fun e w2 => e = .returned (.bool (p i)) ∧ Below w.heap.size w1 w2) :
    Calls Try.prog 94 #[.func (.func F) #[] caps] w fun e w' => e = .returned (.bool (p 0 && p 1 && p 2 && p 3)) ∧ Below w.heap.size w w' := by
  have H' := Lib.hid H; clear H
  go_enter Try.func94, Try.ntmps94
  go_wp2
  go_loopw [3, 4] (fun _ i wr => ∃ k : Nat, k ≤ 4 ∧ i = .int .i64 k ∧ Below w.heap.size w wr ∧ (∀ j : Nat, j < k → p j = true)) (fun _ i _ => 4 - (intOf i).toNat)
  case atStart => exact ⟨0, by omega, rfl, Below.refl _ _, by omega⟩
  case round =>
    obtain ⟨k, hk, rfl, hb, hp⟩ := hrel
    have hp' := Lib.hid hp; clear hp
    by_cases h4 : k < 4
    · have hi : (k:Int) < 4 := by omega
      go_wp2_with fail
      refine (H'.out k _ h4 hb).mono ?_
      rintro e w2 ⟨rfl, hb2⟩
      cases hpk : p k
      · have hpk' := Lib.hid hpk; clear hpk
        go_wp2
        go_ret
        refine ⟨?_, hb.trans hb2⟩
        have hpk := hpk'.out
        have : (p 0 && p 1 && p 2 && p 3) = false := by
          rcases (show k = 0 ∨ k = 1 ∨ k = 2 ∨ k = 3 by omega) with rfl | rfl | rfl | rfl <;> simp [hpk]
        rw [this]
        rfl
      · have hpk' := Lib.hid hpk; clear hpk
        go_wp2
        go_roundw
        case rel =>
          refine ⟨k + 1, by omega, by go_num, hb.trans hb2, ?_⟩
          intro j hj
          by_cases hjk : j = k
          · subst hjk; exact hpk'.out
          · exact hp'.out j (by omega)
        case measure => simp [intOf]; omega
    · have hi : ¬ (k:Int) < 4 := by omega
      go_wp2
      go_ret
      refine ⟨?_, hb⟩
      have hp := hp'.out
      rw [hp 0 (by omega), hp 1 (by omega), hp 2 (by omega), hp 3 (by omega)]
      rfl

theorem enters102 : ∀ args w, (callFunc 102 args).run Try.prog w = .ok (.enter 102 args) w := enters Try.func102 (by decide) (by simp [Try.f102])

theorem right1_any (v : V4) (b : Nat) (i : Nat) (B : Nat) (w : World) (hi : i < 4)
    (h0 : w.cell? ⟨b, 0, none⟩ = some (.int .i64 v.a)) (h1 : w.cell? ⟨b, 1, none⟩ = some (.int .i64 v.b)) (h2 : w.cell? ⟨b, 2, none⟩ = some (.int .i64 v.c)) (h3 : w.cell? ⟨b, 3, none⟩ = some (.int .i64 v.d)) :
    Calls Try.prog 102 (#[.int .i64 i] ++ #[.pointer (some ⟨b, 0, none⟩)]) w fun e w' => e = .returned (.bool (okn (v.get i))) ∧ Below B w w' := by
  have key : ∀ x : Int, x < 0 → okn x = false := by intro x hx; simp [okn]; omega
  have key2 : ∀ x : Int, 0 ≤ x → okn x = decide (x ≤ 1073741824) := by intro x hx; simp [okn, hx]
  have hk := Lib.hid key; have hk2 := Lib.hid key2; clear key key2
  rcases lt4 hi with rfl | rfl | rfl | rfl
  all_goals
    go_enter Try.func102, Try.ntmps102
    go_wp2
    all_goals
      go_ret
      refine ⟨?_, Below.refl _ _⟩
      simp only [V4.get]
      first
        | (rw [hk.out _ (by assumption)]; rfl)
        | (rw [hk2.out _ (by assumption)]; rfl)

theorem right_any (v : V4) (w : World) :
    Calls Try.prog 69 #[v.val] w fun e w' => e = .returned (.bool v.right) ∧ Below w.heap.size w w' := by
  go_enter Try.func69, Try.ntmps69
  go_wp2_with fail
  refine (all_any 102 _ (fun i => okn (v.get i)) _ enters102 ?_).mono ?_
  · intro i w1 hi hb
    have hc : ∀ j, w1.cell? ⟨w.heap.size, j, none⟩ = _ := fun j => below_cell (o := j) hb (by simp)
    exact right1_any v w.heap.size i _ w1 hi (by rw [hc]; simp) (by rw [hc]; simp) (by rw [hc]; simp) (by rw [hc]; simp)
  · rintro e w2 ⟨rfl, hb2⟩
    go_wp2
    go_ret
    exact ⟨rfl, ((Below.refl _ _).alloc (Nat.le_refl _) _).trans (hb2.mono (by simp))⟩

theorem enters95 : ∀ args w, (callFunc 95 args).run Try.prog w = .ok (.enter 95 args) w := enters Try.func95 (by decide) (by simp [Try.f95])

theorem fits1_any (u v : V4) (b1 b2 : Nat) (i : Nat) (B : Nat) (w : World) (hi : i < 4)
    (hu : w.heap[b1]? = some (.cells u.cells 23 (0, 0))) (hv : w.heap[b2]? = some (.cells v.cells 23 (0, 0))) :
    Calls Try.prog 95 (#[.int .i64 i] ++ #[.pointer (some ⟨b1, 0, none⟩), .pointer (some ⟨b2, 0, none⟩)]) w fun e w' => e = .returned (.bool (decide (u.get i ≤ v.get i))) ∧ Below B w w' := by
  have c0 := blk_cell hu 0; have c1 := blk_cell hu 1; have c2 := blk_cell hu 2; have c3 := blk_cell hu 3
  have d0 := blk_cell hv 0; have d1 := blk_cell hv 1; have d2 := blk_cell hv 2; have d3 := blk_cell hv 3
  simp at c0 c1 c2 c3 d0 d1 d2 d3
  clear hu hv
  rcases lt4 hi with rfl | rfl | rfl | rfl
  all_goals
    go_enter Try.func95, Try.ntmps95
    go_wp2
    go_quiet (fail)
    go_wp2
    go_ret
    exact ⟨rfl, ⟨rfl, rfl, rfl, Nat.le_refl _, fun _ _ => rfl⟩⟩

theorem fits_any (u v : V4) (w : World) :
    Calls Try.prog 62 #[u.val, v.val] w fun e w' => e = .returned (.bool (u.fits v)) ∧ Below w.heap.size w w' := by
  go_enter Try.func62, Try.ntmps62
  go_wp2_with fail
  refine (all_any 95 _ (fun i => decide (u.get i ≤ v.get i)) _ enters95 ?_).mono ?_
  · intro i w1 hi hb
    exact fits1_any u v w.heap.size (w.heap.size + 1) i _ w1 hi (blk_below hb (blk_old _ (blk_new _ _)) (by simp; omega)) (blk_below hb (blk_at _ _ (by simp)) (by simp))
  · rintro e w2 ⟨rfl, hb2⟩
    go_wp2
    go_ret
    exact ⟨rfl, (((Below.refl _ _).alloc (Nat.le_refl _) _).alloc (by simp) _).trans (hb2.mono (by simp; omega))⟩

/-- vec.each over a function value: what it tells of 0, 1, 2, 3. -/
theorem each_any (F : FuncId) (caps : Array Value) (p : Nat → Int) (w : World)
    (hF : ∀ args w, (callFunc F args).run Try.prog w = .ok (.enter F args) w)
    (H : ∀ (i : Nat) (w1 : World), i < 4 → Below w.heap.size w w1 → Calls Try.prog F (#[.int .i64 i] ++ caps) w1 fun e w2 => e = .returned (.int .i64 (p i)) ∧ Below w1.heap.size w1 w2) :
    Calls Try.prog 92 #[.func (.func F) #[] caps] w fun e w' => e = .returned (.agg #[.int .i64 (p 0), .int .i64 (p 1), .int .i64 (p 2), .int .i64 (p 3)]) ∧ Below w.heap.size w w' := by
  have H' := Lib.hid H; clear H
  go_enter Try.func92, Try.ntmps92
  go_wp2
  go_loopw [4, 5] (fun _ i wr => ∃ k : Nat, k ≤ 4 ∧ i = .int .i64 k ∧ Below w.heap.size w wr ∧ (∃ x, wr.heap[w.heap.size]? = some (.cells #[x, x, x, x] 23 (0, 0))) ∧ (∃ f : Nat → Int, wr.heap[w.heap.size+1]? = some (.cells #[.int .i64 (f 0), .int .i64 (f 1), .int .i64 (f 2), .int .i64 (f 3)] 23 (0, 0)) ∧ ∀ j, j < k → f j = p j)) (fun _ i _ => 4 - (intOf i).toNat)
  case atStart => exact ⟨0, by omega, rfl, ((Below.refl _ _).alloc (Nat.le_refl _) _).alloc (by simp) _, ⟨_, blk_old _ (blk_new _ _)⟩, fun _ => 0, blk_at _ _ (by simp), by omega⟩
  case round =>
    obtain ⟨k, hk, rfl, hb, ⟨x, hx⟩, f, hf, hp⟩ := hrel
    have hp' := Lib.hid hp; clear hp
    have hx' := Lib.hid hx; have hf' := Lib.hid hf; clear hx hf
    by_cases h4 : k < 4
    · have hi : (k:Int) < 4 := by omega
      go_wp2_with fail
      refine (H'.out k _ h4 hb).mono ?_
      rintro e w2 ⟨rfl, hb2⟩
      have g := blk_below hb2 hf'.out (blk_lt hf'.out)
      have g2 := blk_below hb2 hx'.out (blk_lt hx'.out)
      have cc := blk_cell g; have ff := blk_free g
      have g' := Lib.hid g; clear g
      have g2' := Lib.hid g2; clear g2
      have hb2' := hb2.mono (blk_lt hf'.out)
      have hbb := hb.trans (hb2'.mono (by omega))
      obtain ⟨f', hf1, hf2⟩ : ∃ f' : Nat → Int, Hid (∀ j, j < k + 1 → f' j = p j) ∧ Hid (∀ j, f' j = if j = k then p k else f j) := by
        refine ⟨fun j => if j = k then p k else f j, fun j hj => ?_, fun _ => rfl⟩
        show (if j = k then p k else f j) = p j
        split
        · next h => rw [h]
        · exact hp'.out j (by omega)
      rcases lt4 h4 with rfl | rfl | rfl | rfl
      all_goals
        clear hb2 hb2'
        go_wp2
        go_roundw
        case rel =>
          refine ⟨_, h4, by go_num, hbb.setCell (by simp) _, ⟨x, blk_set_other (by omega) _ g2'.out⟩, f', ?_, hf1.out⟩
          rw [blk_set g'.out]; simp [hf2.out]
        case measure => simp [intOf]
    · have hi : ¬ (k:Int) < 4 := by omega
      have k4 : k = 4 := by omega
      have hp := hp'.out
      have cc := blk_cell hf'.out
      have cx := blk_cell hx'.out
      have fx := blk_free hx'.out
      have p0 := hp 0 (by omega); have p1 := hp 1 (by omega); have p2 := hp 2 (by omega); have p3 := hp 3 (by omega)
      clear hp k4
      go_wp2
      refine bodyPost_ret (v := .agg #[.int .i64 (p 0), .int .i64 (p 1), .int .i64 (p 2), .int .i64 (p 3)]) (by simp [results, Try.results92, go_sem, cx]) rfl ⟨rfl, ?_⟩
      exact (((hb.setCell (Nat.le_refl _) _).setCell (Nat.le_refl _) _).setCell (Nat.le_refl _) _).setCell (Nat.le_refl _) _

theorem enters93 : ∀ args w, (callFunc 93 args).run Try.prog w = .ok (.enter 93 args) w := enters Try.func93 (by decide) (by simp [Try.f93])

theorem least1_any (u v : V4) (b1 b2 : Nat) (i : Nat) (w : World) (hi : i < 4)
    (hu : w.heap[b1]? = some (.cells u.cells 23 (0, 0))) (hv : w.heap[b2]? = some (.cells v.cells 23 (0, 0))) :
    Calls Try.prog 93 (#[.int .i64 i] ++ #[.pointer (some ⟨b1, 0, none⟩), .pointer (some ⟨b2, 0, none⟩)]) w fun e w' => e = .returned (.int .i64 (min (u.get i) (v.get i))) ∧ Below w.heap.size w w' := by
  have c0 := blk_cell hu 0; have c1 := blk_cell hu 1; have c2 := blk_cell hu 2; have c3 := blk_cell hu 3
  have d0 := blk_cell hv 0; have d1 := blk_cell hv 1; have d2 := blk_cell hv 2; have d3 := blk_cell hv 3
  simp at c0 c1 c2 c3 d0 d1 d2 d3
  clear hu hv
  rcases lt4 hi with rfl | rfl | rfl | rfl
  all_goals
    go_enter Try.func93, Try.ntmps93
    go_wp2
    go_quiet (fail)
    go_wp2
    all_goals
      go_ret
      refine ⟨?_, ⟨rfl, rfl, rfl, Nat.le_refl _, fun _ _ => rfl⟩⟩
      simp [V4.get]; omega

def V4.least (u v : V4) : V4 := ⟨min u.a v.a, min u.b v.b, min u.c v.c, min u.d v.d⟩
theorem least_any (u v : V4) (w : World) :
    Calls Try.prog 60 #[u.val, v.val] w fun e w' => e = .returned (u.least v).val ∧ Below w.heap.size w w' := by
  go_enter Try.func60, Try.ntmps60
  go_wp2_with fail
  refine (each_any 93 _ (fun i => min (u.get i) (v.get i)) _ enters93 ?_).mono ?_
  · intro i w1 hi hb
    exact least1_any u v w.heap.size (w.heap.size + 1) i w1 hi (blk_below hb (blk_old _ (blk_old _ (blk_new _ _))) (by simp; omega)) (blk_below hb (blk_old _ (blk_at _ _ (by simp))) (by simp))
  · rintro e w2 ⟨rfl, hb2⟩
    have g := blk_below hb2 (blk_at (b := w.heap.size + 2) _ _ (by simp)) (by simp)
    have cx := blk_cell g; have fx := blk_free g
    clear g
    go_wp2
    refine bodyPost_ret (v := (u.least v).val) (by simp [results, Try.results60, go_sem, cx, V4.least, V4.get]) rfl ⟨rfl, ?_⟩
    refine Below.setCell ?_ (by simp; omega) _
    refine Below.setCell ?_ (by simp; omega) _
    refine Below.setCell ?_ (by simp; omega) _
    refine Below.setCell ?_ (by simp; omega) _
    exact ((((Below.refl _ _).alloc (Nat.le_refl _) _).alloc (by simp) _).alloc (by simp; omega) _).trans (hb2.mono (by simp; omega))

theorem right_bds {v : V4} (h : v.right = true) : (((0 ≤ v.a ∧ v.a ≤ 1073741824) ∧ (0 ≤ v.b ∧ v.b ≤ 1073741824)) ∧ (0 ≤ v.c ∧ v.c ≤ 1073741824)) ∧ (0 ≤ v.d ∧ v.d ≤ 1073741824) := by
  simpa [V4.right, okn] using h

theorem enters100 : ∀ args w, (callFunc 100 args).run Try.prog w = .ok (.enter 100 args) w := enters Try.func100 (by decide) (by simp [Try.f100])

theorem sub1_any (u v : V4) (b1 b2 : Nat) (i : Nat) (w : World) (hi : i < 4) (ru : u.right = true) (rv : v.right = true)
    (hu : w.heap[b1]? = some (.cells u.cells 23 (0, 0))) (hv : w.heap[b2]? = some (.cells v.cells 23 (0, 0))) :
    Calls Try.prog 100 (#[.int .i64 i] ++ #[.pointer (some ⟨b1, 0, none⟩), .pointer (some ⟨b2, 0, none⟩)]) w fun e w' => e = .returned (.int .i64 (u.get i - v.get i)) ∧ Below w.heap.size w w' := by
  have c0 := blk_cell hu 0; have c1 := blk_cell hu 1; have c2 := blk_cell hu 2; have c3 := blk_cell hu 3
  have d0 := blk_cell hv 0; have d1 := blk_cell hv 1; have d2 := blk_cell hv 2; have d3 := blk_cell hv 3
  simp at c0 c1 c2 c3 d0 d1 d2 d3
  clear hu hv
  obtain ⟨⟨⟨⟨_, _⟩, ⟨_, _⟩⟩, ⟨_, _⟩⟩, ⟨_, _⟩⟩ := right_bds ru
  obtain ⟨⟨⟨⟨_, _⟩, ⟨_, _⟩⟩, ⟨_, _⟩⟩, ⟨_, _⟩⟩ := right_bds rv
  clear ru rv
  rcases lt4 hi with rfl | rfl | rfl | rfl
  all_goals
    go_enter Try.func100, Try.ntmps100
    go_wp2
    go_quiet (fail)
    go_wp2
    go_ret
    refine ⟨?_, ⟨rfl, rfl, rfl, Nat.le_refl _, fun _ _ => rfl⟩⟩
    simp [V4.get]
    done

theorem enters101 : ∀ args w, (callFunc 101 args).run Try.prog w = .ok (.enter 101 args) w := enters Try.func101 (by decide) (by simp [Try.f101])

theorem add1_any (u v : V4) (b1 b2 : Nat) (i : Nat) (w : World) (hi : i < 4) (ru : u.right = true) (rv : v.right = true)
    (hu : w.heap[b1]? = some (.cells u.cells 23 (0, 0))) (hv : w.heap[b2]? = some (.cells v.cells 23 (0, 0))) :
    Calls Try.prog 101 (#[.int .i64 i] ++ #[.pointer (some ⟨b1, 0, none⟩), .pointer (some ⟨b2, 0, none⟩)]) w fun e w' => e = .returned (.int .i64 (u.get i + v.get i)) ∧ Below w.heap.size w w' := by
  have c0 := blk_cell hu 0; have c1 := blk_cell hu 1; have c2 := blk_cell hu 2; have c3 := blk_cell hu 3
  have d0 := blk_cell hv 0; have d1 := blk_cell hv 1; have d2 := blk_cell hv 2; have d3 := blk_cell hv 3
  simp at c0 c1 c2 c3 d0 d1 d2 d3
  clear hu hv
  obtain ⟨⟨⟨⟨_, _⟩, ⟨_, _⟩⟩, ⟨_, _⟩⟩, ⟨_, _⟩⟩ := right_bds ru
  obtain ⟨⟨⟨⟨_, _⟩, ⟨_, _⟩⟩, ⟨_, _⟩⟩, ⟨_, _⟩⟩ := right_bds rv
  clear ru rv
  rcases lt4 hi with rfl | rfl | rfl | rfl
  all_goals
    go_enter Try.func101, Try.ntmps101
    go_wp2
    go_quiet (fail)
    go_wp2
    go_ret
    refine ⟨?_, ⟨rfl, rfl, rfl, Nat.le_refl _, fun _ _ => rfl⟩⟩
    simp [V4.get]
    done

def V4.zero : V4 := ⟨0, 0, 0, 0⟩
def V4.told (v : V4) (e : Int) : V4 × Int := if v.right = true then (v, 0) else (V4.zero, e)
theorem told_any (v : V4) (e : Int) (w : World) :
    Calls Try.prog 99 #[v.val, .int .i64 e] w fun e' w' => e' = .returned (.tuple #[(v.told e).1.val, .int .i64 (v.told e).2]) ∧ Below w.heap.size w w' := by
  go_enter Try.func99, Try.ntmps99
  go_wp2_with fail
  refine (right_any v _).mono ?_
  rintro e w2 ⟨rfl, hb2⟩
  have g := blk_below hb2 (blk_at (b := w.heap.size + 1) _ _ (by simp)) (by simp)
  have cx := blk_cell g; have fx := blk_free g
  have g0 := blk_below hb2 (blk_old _ (blk_new _ _)) (by simp; omega)
  have cy := blk_cell g0
  clear g g0
  have hB : Below w.heap.size w w2 := (((Below.refl _ _).alloc (Nat.le_refl _) _).alloc (by simp) _).trans (hb2.mono (by simp; omega))
  cases hr : v.right
  all_goals
    have hr' := Lib.hid hr; clear hr
    go_wp2
    refine bodyPost_ret (v := .tuple #[(v.told e).1.val, .int .i64 (v.told e).2]) (by simp [results, Try.results99, go_sem, cx, V4.told, hr'.out, V4.zero]) rfl ⟨rfl, ?_⟩
    refine Below.setCell ?_ (by simp) _
    refine Below.setCell ?_ (by simp) _
    refine Below.setCell ?_ (by simp) _
    refine Below.setCell ?_ (by simp) _
    exact hB
end Go.Proofs.Ytpjajiambbobhaa

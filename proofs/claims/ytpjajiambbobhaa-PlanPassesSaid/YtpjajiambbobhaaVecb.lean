/- Package vec: what Add and Sub answer. -/
import Derived.Test.YtpjajiambbobhaaVec
namespace Go.Proofs.Ytpjajiambbobhaa
open Go.RowKit

def V4.sub (u v : V4) : V4 × Int := if u.right = true ∧ v.right = true then V4.told ⟨u.a - v.a, u.b - v.b, u.c - v.c, u.d - v.d⟩ 31 else (V4.zero, 1)
theorem sub_any (u v : V4) (w : World) :
    Calls Try.prog 65 #[u.val, v.val] w fun e w' => e = .returned (.tuple #[(u.sub v).1.val, .int .i64 (u.sub v).2]) ∧ Below w.heap.size w w' := by
  by_cases hr : u.right = true ∧ v.right = true
  · have hs : u.sub v = V4.told ⟨u.a - v.a, u.b - v.b, u.c - v.c, u.d - v.d⟩ 31 := if_pos hr
    obtain ⟨ru, rv⟩ := hr
    have hs' := Lib.hid hs; clear hs
    have ru' := Lib.hid ru; clear ru
    have rv' := Lib.hid rv; clear rv
    go_enter Try.func65, Try.ntmps65
    go_wp2_with fail
    refine (right_any u _).mono ?_
    rintro e w2 ⟨rfl, hb2⟩
    rw [ru'.out]
    have hB2 : Below w.heap.size w w2 := ((((Below.refl _ _).alloc (Nat.le_refl _) _).alloc (by simp) _).alloc (by simp; omega) _).trans (hb2.mono (by simp; omega))
    have gu := blk_below hb2 (blk_old _ (blk_old _ (blk_new _ _))) (by simp; omega)
    have gv := blk_below hb2 (blk_old _ (blk_at (b := w.heap.size + 1) _ _ (by simp))) (by simp)
    have g := blk_below hb2 (blk_at (b := w.heap.size + 2) _ _ (by simp)) (by simp)
    have cv := blk_cell gv
    have gu := Lib.hid gu; have gv := Lib.hid gv; have g := Lib.hid g
    have hb2 := Lib.hid hb2
    go_wp2_with fail
    refine (right_any v _).mono ?_
    rintro e w3 ⟨rfl, hb3⟩
    rw [rv'.out]
    have hB3 : Below w.heap.size w w3 := hB2.trans (hb3.mono hB2.size)
    have gu3 := Lib.hid (blk_below hb3 gu.out (blk_lt gu.out))
    have gv3 := Lib.hid (blk_below hb3 gv.out (blk_lt gv.out))
    have g3 := Lib.hid (blk_below hb3 g.out (blk_lt g.out))
    clear cv
    have hb3 := Lib.hid hb3
    go_wp2_with fail
    refine (each_any 100 _ (fun i => u.get i - v.get i) _ enters100 ?_).mono ?_
    · intro i w1 hi hb
      exact sub1_any u v w.heap.size (w.heap.size + 1) i w1 hi ru'.out rv'.out (blk_below hb gu3.out (blk_lt gu3.out)) (blk_below hb gv3.out (blk_lt gv3.out))
    rintro e w4 ⟨rfl, hb4⟩
    have hB4 : Below w.heap.size w w4 := hB3.trans (hb4.mono hB3.size)
    have g4 := Lib.hid (blk_below hb4 g3.out (blk_lt g3.out))
    have hb4 := Lib.hid hb4
    go_wp2_with fail
    refine (told_any ⟨u.a - v.a, u.b - v.b, u.c - v.c, u.d - v.d⟩ 31 _).mono ?_
    rintro e w5 ⟨rfl, hb5⟩
    have hB5 : Below w.heap.size w w5 := hB4.trans (hb5.mono hB4.size)
    have g5 := blk_below hb5 g4.out (blk_lt g4.out)
    have cx := blk_cell g5; have fx := blk_free g5
    clear g5
    have hb5 := Lib.hid hb5
    rw [← hs'.out]
    generalize hr : u.sub v = r
    have hr := Lib.hid hr
    go_wp2
    refine bodyPost_ret (v := .tuple #[r.1.val, .int .i64 r.2]) (by simp [results, Try.results65, go_sem, cx]) rfl ⟨by rw [hr.out], ?_⟩
    refine Below.setCell ?_ (by simp; omega) _
    refine Below.setCell ?_ (by simp; omega) _
    refine Below.setCell ?_ (by simp; omega) _
    refine Below.setCell ?_ (by simp; omega) _
    exact hB5
  · have hs : u.sub v = (V4.zero, 1) := if_neg hr
    have hs' := Lib.hid hs; clear hs
    have hr' := Lib.hid hr; clear hr
    go_enter Try.func65, Try.ntmps65
    go_wp2_with fail
    refine (right_any u _).mono ?_
    rintro e w2 ⟨rfl, hb2⟩
    have hB2 : Below w.heap.size w w2 := ((((Below.refl _ _).alloc (Nat.le_refl _) _).alloc (by simp) _).alloc (by simp; omega) _).trans (hb2.mono (by simp; omega))
    have gv := blk_below hb2 (blk_old _ (blk_at (b := w.heap.size + 1) _ _ (by simp))) (by simp)
    have g := blk_below hb2 (blk_at (b := w.heap.size + 2) _ _ (by simp)) (by simp)
    have cv := blk_cell gv
    have hb2 := Lib.hid hb2
    cases ru : u.right
    · have ru' := Lib.hid ru; clear ru
      have cx := blk_cell g; have fx := blk_free g
      clear g gv cv
      go_wp2
      refine bodyPost_ret (v := .tuple #[V4.zero.val, .int .i64 1]) (by simp [results, Try.results65, go_sem, cx, V4.zero]) rfl ⟨by rw [hs'.out], ?_⟩
      refine Below.setCell ?_ (by simp; omega) _
      refine Below.setCell ?_ (by simp; omega) _
      refine Below.setCell ?_ (by simp; omega) _
      refine Below.setCell ?_ (by simp; omega) _
      exact hB2
    · have rv : v.right = false := by
        cases rv : v.right
        · rfl
        · exact absurd ⟨ru, rv⟩ hr'.out
      have ru' := Lib.hid ru; clear ru
      have rv' := Lib.hid rv; clear rv
      have g := Lib.hid g
      have gv := Lib.hid gv
      go_wp2_with fail
      refine (right_any v _).mono ?_
      rintro e w3 ⟨rfl, hb3⟩
      rw [rv'.out]
      have hB3 : Below w.heap.size w w3 := hB2.trans (hb3.mono hB2.size)
      have g3 := blk_below hb3 g.out (blk_lt g.out)
      have cx := blk_cell g3; have fx := blk_free g3
      clear g3 cv
      have hb3 := Lib.hid hb3
      go_wp2
      refine bodyPost_ret (v := .tuple #[V4.zero.val, .int .i64 1]) (by simp [results, Try.results65, go_sem, cx, V4.zero]) rfl ⟨by rw [hs'.out], ?_⟩
      refine Below.setCell ?_ (by simp; omega) _
      refine Below.setCell ?_ (by simp; omega) _
      refine Below.setCell ?_ (by simp; omega) _
      refine Below.setCell ?_ (by simp; omega) _
      exact hB3

def V4.add (u v : V4) : V4 × Int := if u.right = true ∧ v.right = true then V4.told ⟨u.a + v.a, u.b + v.b, u.c + v.c, u.d + v.d⟩ 30 else (V4.zero, 1)
theorem add_any (u v : V4) (w : World) :
    Calls Try.prog 66 #[u.val, v.val] w fun e w' => e = .returned (.tuple #[(u.add v).1.val, .int .i64 (u.add v).2]) ∧ Below w.heap.size w w' := by
  by_cases hr : u.right = true ∧ v.right = true
  · have hs : u.add v = V4.told ⟨u.a + v.a, u.b + v.b, u.c + v.c, u.d + v.d⟩ 30 := if_pos hr
    obtain ⟨ru, rv⟩ := hr
    have hs' := Lib.hid hs; clear hs
    have ru' := Lib.hid ru; clear ru
    have rv' := Lib.hid rv; clear rv
    go_enter Try.func66, Try.ntmps66
    go_wp2_with fail
    refine (right_any u _).mono ?_
    rintro e w2 ⟨rfl, hb2⟩
    rw [ru'.out]
    have hB2 : Below w.heap.size w w2 := ((((Below.refl _ _).alloc (Nat.le_refl _) _).alloc (by simp) _).alloc (by simp; omega) _).trans (hb2.mono (by simp; omega))
    have gu := blk_below hb2 (blk_old _ (blk_old _ (blk_new _ _))) (by simp; omega)
    have gv := blk_below hb2 (blk_old _ (blk_at (b := w.heap.size + 1) _ _ (by simp))) (by simp)
    have g := blk_below hb2 (blk_at (b := w.heap.size + 2) _ _ (by simp)) (by simp)
    have cv := blk_cell gv
    have gu := Lib.hid gu; have gv := Lib.hid gv; have g := Lib.hid g
    have hb2 := Lib.hid hb2
    go_wp2_with fail
    refine (right_any v _).mono ?_
    rintro e w3 ⟨rfl, hb3⟩
    rw [rv'.out]
    have hB3 : Below w.heap.size w w3 := hB2.trans (hb3.mono hB2.size)
    have gu3 := Lib.hid (blk_below hb3 gu.out (blk_lt gu.out))
    have gv3 := Lib.hid (blk_below hb3 gv.out (blk_lt gv.out))
    have g3 := Lib.hid (blk_below hb3 g.out (blk_lt g.out))
    clear cv
    have hb3 := Lib.hid hb3
    go_wp2_with fail
    refine (each_any 101 _ (fun i => u.get i + v.get i) _ enters101 ?_).mono ?_
    · intro i w1 hi hb
      exact add1_any u v w.heap.size (w.heap.size + 1) i w1 hi ru'.out rv'.out (blk_below hb gu3.out (blk_lt gu3.out)) (blk_below hb gv3.out (blk_lt gv3.out))
    rintro e w4 ⟨rfl, hb4⟩
    have hB4 : Below w.heap.size w w4 := hB3.trans (hb4.mono hB3.size)
    have g4 := Lib.hid (blk_below hb4 g3.out (blk_lt g3.out))
    have hb4 := Lib.hid hb4
    go_wp2_with fail
    refine (told_any ⟨u.a + v.a, u.b + v.b, u.c + v.c, u.d + v.d⟩ 30 _).mono ?_
    rintro e w5 ⟨rfl, hb5⟩
    have hB5 : Below w.heap.size w w5 := hB4.trans (hb5.mono hB4.size)
    have g5 := blk_below hb5 g4.out (blk_lt g4.out)
    have cx := blk_cell g5; have fx := blk_free g5
    clear g5
    have hb5 := Lib.hid hb5
    rw [← hs'.out]
    generalize hr : u.add v = r
    have hr := Lib.hid hr
    go_wp2
    refine bodyPost_ret (v := .tuple #[r.1.val, .int .i64 r.2]) (by simp [results, Try.results66, go_sem, cx]) rfl ⟨by rw [hr.out], ?_⟩
    refine Below.setCell ?_ (by simp; omega) _
    refine Below.setCell ?_ (by simp; omega) _
    refine Below.setCell ?_ (by simp; omega) _
    refine Below.setCell ?_ (by simp; omega) _
    exact hB5
  · have hs : u.add v = (V4.zero, 1) := if_neg hr
    have hs' := Lib.hid hs; clear hs
    have hr' := Lib.hid hr; clear hr
    go_enter Try.func66, Try.ntmps66
    go_wp2_with fail
    refine (right_any u _).mono ?_
    rintro e w2 ⟨rfl, hb2⟩
    have hB2 : Below w.heap.size w w2 := ((((Below.refl _ _).alloc (Nat.le_refl _) _).alloc (by simp) _).alloc (by simp; omega) _).trans (hb2.mono (by simp; omega))
    have gv := blk_below hb2 (blk_old _ (blk_at (b := w.heap.size + 1) _ _ (by simp))) (by simp)
    have g := blk_below hb2 (blk_at (b := w.heap.size + 2) _ _ (by simp)) (by simp)
    have cv := blk_cell gv
    have hb2 := Lib.hid hb2
    cases ru : u.right
    · have ru' := Lib.hid ru; clear ru
      have cx := blk_cell g; have fx := blk_free g
      clear g gv cv
      go_wp2
      refine bodyPost_ret (v := .tuple #[V4.zero.val, .int .i64 1]) (by simp [results, Try.results66, go_sem, cx, V4.zero]) rfl ⟨by rw [hs'.out], ?_⟩
      refine Below.setCell ?_ (by simp; omega) _
      refine Below.setCell ?_ (by simp; omega) _
      refine Below.setCell ?_ (by simp; omega) _
      refine Below.setCell ?_ (by simp; omega) _
      exact hB2
    · have rv : v.right = false := by
        cases rv : v.right
        · rfl
        · exact absurd ⟨ru, rv⟩ hr'.out
      have ru' := Lib.hid ru; clear ru
      have rv' := Lib.hid rv; clear rv
      have g := Lib.hid g
      have gv := Lib.hid gv
      go_wp2_with fail
      refine (right_any v _).mono ?_
      rintro e w3 ⟨rfl, hb3⟩
      rw [rv'.out]
      have hB3 : Below w.heap.size w w3 := hB2.trans (hb3.mono hB2.size)
      have g3 := blk_below hb3 g.out (blk_lt g.out)
      have cx := blk_cell g3; have fx := blk_free g3
      clear g3 cv
      have hb3 := Lib.hid hb3
      go_wp2
      refine bodyPost_ret (v := .tuple #[V4.zero.val, .int .i64 1]) (by simp [results, Try.results66, go_sem, cx, V4.zero]) rfl ⟨by rw [hs'.out], ?_⟩
      refine Below.setCell ?_ (by simp; omega) _
      refine Below.setCell ?_ (by simp; omega) _
      refine Below.setCell ?_ (by simp; omega) _
      refine Below.setCell ?_ (by simp; omega) _
      exact hB3
end Go.Proofs.Ytpjajiambbobhaa

/- (*Profile).most, walked. -/
import Derived.Test.YtpjajiambbobhaaFree
namespace Go.Proofs.Ytpjajiambbobhaa
open Go.RowKit

def V4.most (u v : V4) : V4 := ⟨max u.a v.a, max u.b v.b, max u.c v.c, max u.d v.d⟩
/-- the first c of them: the greater -/
def V4.upd (c : Nat) (u v : V4) : V4 := ⟨if 0 < c then max u.a v.a else u.a, if 1 < c then max u.b v.b else u.b, if 2 < c then max u.c v.c else u.c, if 3 < c then max u.d v.d else u.d⟩
theorem upd_zero (u v : V4) : V4.upd 0 u v = u := by simp [V4.upd]
theorem upd_four (u v : V4) : V4.upd 4 u v = u.most v := by simp [V4.upd, V4.most]

def maxOver (v : V4) (b : Int) : List St → V4
  | [] => v
  | s :: r => if b ≤ s.t then v else maxOver (v.most s.f) b r
def maxAll (v : V4) : List St → V4
  | [] => v
  | s :: r => maxAll (v.most s.f) r
theorem maxAll_snoc (v : V4) (l : List St) (s : St) : maxAll v (l ++ [s]) = (maxAll v l).most s.f := by
  induction l generalizing v with
  | nil => rfl
  | cons a l ih => exact ih _
theorem maxOver_eq (b : Int) (l : List St) (n : Nat) (hn : n ≤ l.length) : ∀ v, (∀ j, j < n → (nth l j).t < b) → (n < l.length → b ≤ (nth l n).t) → maxOver v b l = maxAll v (l.take n) := by
  induction l generalizing n with
  | nil => intro v _ _; have : n = 0 := by simpa using hn
           subst this; rfl
  | cons s r ih =>
    intro v h1 h2
    cases n with
    | zero => simp only [maxOver, List.take_zero, maxAll]; rw [if_pos (by have := h2 (by simp); rwa [nth_zero] at this)]
    | succ n =>
      simp only [maxOver, List.take_succ_cons, maxAll]
      rw [if_neg (by have := h1 0 (by omega); rw [nth_zero] at this; omega)]
      exact ih n (by simpa using hn) _ (fun j hj => by have := h1 (j + 1) (by omega); rwa [nth_succ] at this) (fun h => by have := h2 (by simpa using h); rwa [nth_succ] at this)
theorem max_done {l : List St} {k a m : Nat} {B : Int} (hm : m = l.length - k) (ha : a ≤ m) (h1 : ∀ j, j < a → (nth l (k + j)).t < B) (h2 : a < m → B ≤ (nth l (k + a)).t) :
    maxOver V4.zero B (l.drop k) = maxAll V4.zero ((l.drop k).take a) :=
  maxOver_eq B (l.drop k) a (by rw [List.length_drop]; omega) V4.zero (fun j hj => by rw [nth_drop]; exact h1 j hj) (fun h => by rw [nth_drop]; exact h2 (by rw [List.length_drop] at h; omega))
theorem max_step (l : List St) (k a : Nat) (h : k + a < l.length) : (maxAll V4.zero ((l.drop k).take a)).most (nth l (k + a)).f = maxAll V4.zero ((l.drop k).take (a + 1)) := by
  rw [take_succ_nth _ a (by rw [List.length_drop]; omega), maxAll_snoc, nth_drop]

def mostL (l : List St) (fr to : Int) : V4 := maxOver V4.zero to (l.drop (pl l fr))

theorem idx0 (v : V4) (w : World) : (Instr.index 23 v.val (.int .i64 0)).run Try.prog w = .ok (.int .i64 v.a) w := by kernel_rfl
theorem idx1 (v : V4) (w : World) : (Instr.index 23 v.val (.int .i64 1)).run Try.prog w = .ok (.int .i64 v.b) w := by kernel_rfl
theorem idx2 (v : V4) (w : World) : (Instr.index 23 v.val (.int .i64 2)).run Try.prog w = .ok (.int .i64 v.c) w := by kernel_rfl
theorem idx3 (v : V4) (w : World) : (Instr.index 23 v.val (.int .i64 3)).run Try.prog w = .ok (.int .i64 v.d) w := by kernel_rfl

set_option maxRecDepth 100000 in
set_option maxHeartbeats 1600000 in
theorem most_any (pb sb cap : Nat) (whole : V4) (l : List St) (fr to : Int) (w : World) (hp : Prof w pb sb cap whole l) (hl : Loose l) (h0 : 0 ≤ fr) (h1 : fr ≤ 1099511627776) :
    Calls Try.prog 67 #[.pointer (some ⟨pb, 0, none⟩), .int .i64 fr, .int .i64 to] w fun e w' => e = .returned (mostL l fr to).val ∧ Below w.heap.size w w' := by
  obtain ⟨i0, hi0, hz0, hz1, hz2⟩ := info_parts info43
  have hlen := hl.len
  have hcap := hp.row.le
  have c4 := blk_cell hp.head 4
  simp at c4
  have lpb := blk_lt hp.head
  have lsb := hp.row.lt
  replace hp := Lib.hid hp; replace hl := Lib.hid hl
  go_enter Try.func67, Try.ntmps67
  go_wp2_with fail
  have p4 : ∀ o1 o2, ((w.alloc o1).alloc o2).drew.cell? ⟨pb, 4, none⟩ = some (.slice (some ⟨sb, 0, none⟩) l.length cap) := fun o1 o2 => by
    rw [← c4]; exact World.cell?_of_block (w := w) ((Below.heap_alloc _ o2 pb (by simp; omega)).trans (Below.heap_alloc w o1 pb lpb))
  have hpw : ∀ o1 o2, Prof ((w.alloc o1).alloc o2).drew pb sb cap whole l := fun o1 o2 => by
    have hb : Below w.heap.size w ((w.alloc o1).alloc o2).drew := (((Below.refl _ _).alloc (Nat.le_refl _) _).alloc (by simp) _).drew
    exact ⟨blk_below hb hp.out.head lpb, hp.out.row.below hb lsb, hp.out.ne⟩
  replace p4 := Lib.hid p4; replace hpw := Lib.hid hpw
  go_region_held3 (fun w' => w'.cell? ⟨pb, 4, none⟩ = some (.slice (some ⟨sb, 0, none⟩) l.length cap))
    (first
      | go_keep
      | (rw [below_cell hb2 (by simp; omega)]; exact p4.out _ _))
    (first
      | (go_at_call 59
         refine (place_any pb sb cap whole l fr _ (hpw.out _ _) hl.out h0 h1).mono ?_
         rintro e w2 ⟨k, rfl, hk, hb2⟩
         obtain ⟨m, mc, hs2, hm⟩ := slice_from2 (i := i0) Try.underlying30 hi0 sb l.length cap k (k : Int) rfl hk.1 hcap 5 hz1
         have hk1 := hk.1
         replace hk := Lib.hid hk))
  have hmb : m ≤ 1099511627777 := by have := hm.out; omega
  have hpl : k = pl l fr := hk.out.eq_pl hl.out.rise
  have hfr2 : mostL l fr to = maxOver V4.zero to (l.drop k) := by rw [hpl]; rfl
  replace hpl := Lib.hid hpl; replace hfr2 := Lib.hid hfr2
  have hB2 : Below w.heap.size w w2 := ((((Below.refl _ _).alloc (Nat.le_refl _) _).alloc (by simp) _).drew).trans (hb2.mono (by simp; omega))
  have g1 := blk_below hb2 (blk_drew (blk_at (b := w.heap.size + 1) _ _ (by simp))) (by simp)
  have g0 := blk_below hb2 (blk_drew (blk_old _ (blk_new _ _))) (by simp; omega)
  replace hB2 := Lib.hid hB2; replace g0 := Lib.hid g0; replace g1 := Lib.hid g1; replace hb2 := Lib.hid hb2
  go_wp2
  go_loopw [10, 11, 21] (fun _ _ c wr => ∃ a : Nat, a ≤ m ∧ c = .int .i64 a ∧ Below w.heap.size w wr ∧ Hid (wr.heap[w.heap.size + 1]? = some (.cells (maxAll V4.zero ((l.drop k).take a)).cells 23 (0, 0))) ∧ Hid (wr.heap[w.heap.size]? = some (.cells V4.zero.cells 23 (0, 0))) ∧ Hid (∀ j, j < a → (nth l (k + j)).t < to)) (fun _ _ c _ => m - (intOf c).toNat)
  case atStart => exact ⟨0, Nat.zero_le _, rfl, hB2.out, g1.out, g0.out, by intro j hj; omega⟩
  case round =>
    obtain ⟨a, ham, rfl, hBr, G1, G0, hlt⟩ := hrel
    obtain ⟨X, hX⟩ : ∃ X, X = maxAll V4.zero ((l.drop k).take a) := ⟨_, rfl⟩
    rw [← hX] at G1
    have e1 := blk_cell G1.out; have e1f := blk_free G1.out
    have e0 := blk_cell G0.out; have e0f := blk_free G0.out
    have x1 := e1 0; have x2 := e1 1; have x3 := e1 2; have x4 := e1 3
    have y1 := e0 0; have y2 := e0 1; have y3 := e0 2; have y4 := e0 3
    have l1 := blk_lt G1.out
    have l0 := blk_lt G0.out
    simp at x1 x2 x3 x4 y1 y2 y3 y4
    clear e1 e0
    have hfin : ∀ (hd : a < m → to ≤ (nth l (k + a)).t), mostL l fr to = X := fun hd => by
      rw [hfr2.out, hX]; exact max_done hm.out ham hlt.out hd
    replace hfin := Lib.hid hfin
    replace hX := Lib.hid hX
    by_cases hc : a < m
    · have hc' : (a : Int) < m := by omega
      have ha0 : (0 : Int) ≤ (a : Int) := by omega
      obtain ⟨c0, c1, c2, c3, c4⟩ := (hp.out.row.below hBr lsb).cells (i := k + a) (by have := hm.out; omega)
      simp only [Nat.add_mul] at c0 c1 c2 c3 c4
      by_cases hb : (nth l (k + a)).t < to
      · have hb' : ¬ to ≤ (nth l (k + a)).t := by omega
        obtain ⟨F, hF⟩ : ∃ F, F = (nth l (k + a)).f := ⟨_, rfl⟩
        rw [← hF] at c1 c2 c3 c4
        replace hF := Lib.hid hF
        clear y1 y2 y3 y4 e1f e0f
        replace hBr := Lib.hid hBr
        go_wp2
        have ma : (if X.a < F.a then F.a else X.a) = (X.most F).a := by simp only [V4.most]; omega
        have mb : (if X.b < F.b then F.b else X.b) = (X.most F).b := by simp only [V4.most]; omega
        have mc : (if X.c < F.c then F.c else X.c) = (X.most F).c := by simp only [V4.most]; omega
        have md : (if X.d < F.d then F.d else X.d) = (X.most F).d := by simp only [V4.most]; omega
        have ff := blk_free G1.out
        have i0 := idx0 F; have i1 := idx1 F; have i2 := idx2 F; have i3 := idx3 F
        refine wp_loop_rounds 5 ?_
        rw [rounds_succ]
        go_wp2
        rw [rounds_succ]
        go_wp2
        rw [rounds_succ]
        go_wp2
        rw [rounds_succ]
        go_wp2
        rw [rounds_succ]
        go_wp2
        go_roundw
        case rel =>
          have hsz := hBr.out.size
          have hXF : X.most F = maxAll V4.zero ((l.drop k).take (a + 1)) := by rw [hX.out, hF.out]; exact max_step l k a (by have := hm.out; omega)
          refine ⟨a + 1, by omega, by go_num, ?_, ?_, ?_, ?_⟩
          · refine Below.alloc ?_ (by simpa using hsz) _
            exact (((hBr.out.setCell (by simp) _).setCell (by simp) _).setCell (by simp) _).setCell (by simp) _
          · unfold Hid
            refine blk_old _ ?_
            rw [blk_set (blk_set (blk_set (blk_set G1.out _ _) _ _) _ _) _ _, ← hXF]; simp
          · unfold Hid
            exact blk_old _ (blk_set_other (by omega) _ (blk_set_other (by omega) _ (blk_set_other (by omega) _ (blk_set_other (by omega) _ G0.out))))
          · intro j hj
            by_cases e : j = a
            · subst e; exact hb
            · exact hlt.out j (by omega)
        case measure => simp [intOf]; omega
      · have hb' : to ≤ (nth l (k + a)).t := by omega
        replace hfin := Lib.hid (hfin.out (fun _ => hb'))
        replace hBr := Lib.hid hBr
        clear e1f
        go_wp2
        refine bodyPost_ret (v := X.val) (by simp [results, Try.results67, go_sem, y1, y2, y3, y4, l0]) rfl ⟨by rw [hfin.out], ?_⟩
        refine Below.alloc ?_ (by have := hBr.out.size; simpa using this) _
        exact (((hBr.out.setCell (Nat.le_refl _) _).setCell (Nat.le_refl _) _).setCell (Nat.le_refl _) _).setCell (Nat.le_refl _) _
    · have hc' : ¬ (a : Int) < m := by omega
      replace hfin := Lib.hid (hfin.out (fun h => absurd h hc))
      replace hBr := Lib.hid hBr
      clear e1f
      go_wp2
      refine bodyPost_ret (v := X.val) (by simp [results, Try.results67, go_sem, y1, y2, y3, y4]) rfl ⟨by rw [hfin.out], ?_⟩
      exact (((hBr.out.setCell (Nat.le_refl _) _).setCell (Nat.le_refl _) _).setCell (Nat.le_refl _) _).setCell (Nat.le_refl _) _
end Go.Proofs.Ytpjajiambbobhaa

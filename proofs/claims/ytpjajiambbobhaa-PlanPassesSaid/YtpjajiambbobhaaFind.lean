/- (*Pool).Find: the first tick at which so many nodes of some have an amount free together, and which. -/
import Derived.Test.YtpjajiambbobhaaSoon
namespace Go.Proofs.Ytpjajiambbobhaa
open Go.RowKit

def pick (ps : List Nd) (zs : List Int) (ticks : Int) (v : V4) (u : Int) (j : Nat) : Bool := decide (j < ps.length) && decide (Among zs zs.length j) && decide (OkT (nd ps j).l ticks v u)
/-- the nodes, of those that count, that are free from a tick on -/
def selk (ps : List Nd) (zs : List Int) (ticks : Int) (v : V4) (u : Int) (k : Nat) : List Nat := (List.range k).filter (pick ps zs ticks v u)
def sel (ps : List Nd) (zs : List Int) (ticks : Int) (v : V4) (u : Int) : List Nat := selk ps zs ticks v u 16
def ints (l : List Nat) : List Int := l.map fun (n : Nat) => (n : Int)

theorem selk_succ (ps : List Nd) (zs : List Int) (ticks : Int) (v : V4) (u : Int) (k : Nat) : selk ps zs ticks v u (k + 1) = if pick ps zs ticks v u k = true then selk ps zs ticks v u k ++ [k] else selk ps zs ticks v u k := by
  unfold selk
  rw [List.range_succ, List.filter_append]
  by_cases h : pick ps zs ticks v u k = true
  · rw [if_pos h]; simp [h]
  · rw [if_neg h]; simp [h]
theorem selk_pre (ps : List Nd) (zs : List Int) (ticks : Int) (v : V4) (u : Int) (k : Nat) (h : k ≤ 16) : ∃ r, sel ps zs ticks v u = selk ps zs ticks v u k ++ r := by
  unfold sel
  obtain ⟨d, hd⟩ : ∃ d, 16 = k + d := ⟨16 - k, by omega⟩
  rw [hd]
  clear h hd
  induction d with
  | zero => exact ⟨[], by simp⟩
  | succ d ih =>
    obtain ⟨r, hr⟩ := ih
    rw [show k + (d + 1) = (k + d) + 1 by omega, selk_succ, hr]
    split
    · exact ⟨r ++ [k + d], by simp⟩
    · exact ⟨r, rfl⟩
theorem sel_le {ps : List Nd} {zs : List Int} {ticks : Int} {v : V4} {u T : Int} (h : ∀ j, pick ps zs ticks v u j = true → pick ps zs ticks v T j = true) : (sel ps zs ticks v u).length ≤ (sel ps zs ticks v T).length := by
  unfold sel selk
  rw [← List.countP_eq_length_filter, ← List.countP_eq_length_filter]
  exact List.countP_mono_left fun j _ => h j

def FindRel (ps : List Nd) (zs : List Int) (many : Int) (v : V4) (ticks after t : Int) (xs : List Nat) (is : Bool) : Prop :=
  if 1 ≤ many ∧ 1 ≤ ticks ∧ v.right = true then
    (is = true ∧ max after 0 ≤ t ∧ t < 1099511627776 ∧ (xs.length : Int) = many ∧ (∃ r, sel ps zs ticks v t = xs ++ r) ∧ ∀ u, max after 0 ≤ u → u < t → ((sel ps zs ticks v u).length : Int) < many) ∨
    (is = false ∧ t = 0 ∧ xs = [] ∧ ∀ u, max after 0 ≤ u → u < 1099511627776 → ((sel ps zs ticks v u).length : Int) < many)
  else t = 0 ∧ xs = [] ∧ is = false

def FindPost (ps : List Nd) (zs : List Int) (many : Int) (v : V4) (ticks after : Int) (w : World) (e : Ending) (w' : World) : Prop :=
  ∃ t so n c xs is, e = .returned (.tuple #[.int .i64 t, .slice so n c, .bool is]) ∧ FindRel ps zs many v ticks after t xs is ∧ IntsAt w' so n (ints xs) ∧ n ≤ c ∧ (∀ b off, so = some ⟨b, off, none⟩ → w.heap.size ≤ b) ∧ Below w.heap.size w w'

theorem ints_nil (w : World) : IntsAt w none 0 (ints []) := ⟨rfl, by omega, fun i hi => by omega⟩

/-- a row of numbers of the call's own -/
def OwnI (w : World) (base : Nat) (sv : Value) (L : Nat) (xs : List Nat) : Prop := L = xs.length ∧ w.ownsRow base 3 1 sv L ((ints xs).map (.int .i64))
theorem OwnI.nil (w : World) (base : Nat) : OwnI w base (.slice none 0 0) 0 [] := ⟨rfl, World.ownsRow_nil _ _ _ _⟩
theorem OwnI.below {w w' : World} {base L : Nat} {sv : Value} {xs : List Nat} (h : OwnI w base sv L xs) (hb : Below w.heap.size w w') : OwnI w' base sv L xs := by
  obtain ⟨h1, h2, h3⟩ := h
  refine ⟨h1, h2, ?_⟩
  rcases h3 with h | ⟨g, cap, cur, hv, hg, hh, hr⟩
  · exact .inl h
  · exact .inr ⟨g, cap, cur, hv, hg, blk_below hb hh (blk_lt hh), hr⟩
theorem OwnI.at {w : World} {base g cap L : Nat} {xs : List Nat} (h : OwnI w base (.slice (some ⟨g, 0, none⟩) L cap) L xs) (hL : L ≤ 9223372036854775807) : IntsAt w (some ⟨g, 0, none⟩) L (ints xs) ∧ L ≤ cap ∧ base ≤ g := by
  obtain ⟨h1, h2⟩ := h
  have h3 := h2
  obtain ⟨_, h | ⟨g', cap', cur, hv, hb, hg, hc, hm, hs, ht⟩⟩ := h2
  · cases h.1
  · cases hv
    refine ⟨⟨by simp [ints, h1], hL, fun i hi => ⟨g, 0, rfl, blk_lt hg, ?_⟩⟩, hc, hb⟩
    rw [Nat.zero_add, h3.cellAt i (by omega)]
    simp [ints, zi, List.getD, show i < xs.length by omega]

/-- what stands throughout a search -/
structure FW (w : World) (gb gs cap : Nat) (po : Option Addr) (ps : List Nd) (B3 : Nat) (f : Nat → Bool) (ticks : Int) (v : V4) (wr : World) : Prop where
  pool : Pool wr gb gs po cap ps
  k1 : wr.heap[w.heap.size]? = some (.cells #[.pointer (some ⟨gb, 0, none⟩)] 51 (0, 0))
  k2 : wr.heap[w.heap.size + 1]? = some (.cells v.cells 23 (0, 0))
  k3 : wr.heap[w.heap.size + 1 + 1]? = some (.cells #[.int .i64 ticks] 3 (0, 0))
  met : wr.heap[B3]? = some (.cells (bits f) 114 (0, 0))
  low : Below w.heap.size w wr
theorem FW.below {w : World} {gb gs cap : Nat} {po : Option Addr} {ps : List Nd} {B3 : Nat} {f : Nat → Bool} {ticks : Int} {v : V4} {wr w' : World} (h : FW w gb gs cap po ps B3 f ticks v wr) (hb : Below wr.heap.size wr w') : FW w gb gs cap po ps B3 f ticks v w' :=
  ⟨h.pool.below hb, blk_below hb h.k1 (blk_lt h.k1), blk_below hb h.k2 (blk_lt h.k2), blk_below hb h.k3 (blk_lt h.k3), blk_below hb h.met (blk_lt h.met), h.low.trans (hb.mono h.low.size)⟩

set_option maxRecDepth 100000 in
set_option maxHeartbeats 3200000 in
theorem find_any (gb gs cap : Nat) (po : Option Addr) (ps : List Nd) (ao : Option Addr) (m c : Nat) (zs : List Int) (many : Int) (v : V4) (ticks after : Int) (w : World) (hp : Pool w gb gs po cap ps) (hz : IntsAt w ao m zs) :
    Calls Try.prog 36 #[.pointer (some ⟨gb, 0, none⟩), .slice ao m c, .int .i64 many, v.val, .int .i64 ticks, .int .i64 after] w (FindPost ps zs many v ticks after w) := by
  obtain ⟨i3, hi3, hz3, hz31, hz32⟩ := info_parts info3
  obtain ⟨W, hW⟩ : ∃ W, W = ((w.alloc (.cells #[.pointer (some ⟨gb, 0, none⟩)] 51 (0, 0))).alloc (.cells v.cells 23 (0, 0))).alloc (.cells #[.int .i64 ticks] 3 (0, 0)) := ⟨_, rfl⟩
  have hB : Below w.heap.size w W := by rw [hW]; exact (((Below.refl _ _).alloc (Nat.le_refl _) _).alloc (by simp) _).alloc (by simp; omega) _
  have w1 : W.heap[w.heap.size]? = some (.cells #[.pointer (some ⟨gb, 0, none⟩)] 51 (0, 0)) := by rw [hW]; exact blk_old _ (blk_old _ (blk_new _ _))
  have w2 : W.heap[w.heap.size + 1]? = some (.cells v.cells 23 (0, 0)) := by rw [hW]; exact blk_old _ (blk_at _ _ (by simp))
  have w3 : W.heap[w.heap.size + 1 + 1]? = some (.cells #[.int .i64 ticks] 3 (0, 0)) := by rw [hW]; exact blk_at _ _ (by simp)
  have hpW := hp.below hB
  have hzW := hz.below hB (Nat.le_refl _)
  replace hp := Lib.hid hp; replace hz := Lib.hid hz; replace hpW := Lib.hid hpW; replace hzW := Lib.hid hzW
  replace w1 := Lib.hid w1; replace w2 := Lib.hid w2; replace w3 := Lib.hid w3
  have bad : ¬ (1 ≤ many ∧ 1 ≤ ticks ∧ v.right = true) → ∀ w', Below w.heap.size w w' → FindPost ps zs many v ticks after w (.returned (.tuple #[.int .i64 0, .slice none 0 0, .bool false])) w' := fun h w' hb =>
    ⟨0, none, 0, 0, [], false, rfl, by unfold FindRel; rw [if_neg h]; exact ⟨rfl, rfl, rfl⟩, ints_nil _, Nat.le_refl _, fun b off h => by simp at h, hb⟩
  replace bad := Lib.hid bad
  by_cases q1 : many < 1
  · have d1 : decide (many < 1) = true := by simpa using q1
    have hbad := bad.out (by omega) W hB
    rw [hW] at hbad
    replace q1 := Lib.hid q1; replace hbad := Lib.hid hbad; replace hW := Lib.hid hW; replace hB := Lib.hid hB
    go_enter Try.func36, Try.ntmps36
    go_wp2
    go_step3
    go_wp2
    rw [Exit.noGoto_ret]
    go_ret3
    exact hbad.out
  have d1 : decide (many < 1) = false := by simpa using q1
  by_cases q2 : ticks < 1
  · have d2 : decide (ticks < 1) = true := by simpa using q2
    have hbad := bad.out (by omega) W hB
    rw [hW] at hbad
    replace q1 := Lib.hid q1; replace q2 := Lib.hid q2; replace hbad := Lib.hid hbad; replace hW := Lib.hid hW; replace hB := Lib.hid hB
    go_enter Try.func36, Try.ntmps36
    go_wp2
    go_step3
    go_wp2
    rw [Exit.noGoto_ret]
    go_ret3
    exact hbad.out
  have d2 : decide (ticks < 1) = false := by simpa using q2
  have hrt := right_any v W
  rw [hW] at hrt
  replace q1 := Lib.hid q1; replace q2 := Lib.hid q2; replace hrt := Lib.hid hrt; replace hW := Lib.hid hW; replace hB := Lib.hid hB
  go_enter Try.func36, Try.ntmps36
  go_wp2_with fail
  go_step3
  go_wp2_with fail
  refine hrt.out.mono ?_
  rintro e w4 ⟨rfl, hb4⟩
  rw [← hW.out] at hb4
  have hB4 : Below w.heap.size w w4 := hB.out.trans (hb4.mono hB.out.size)
  have hp4 := hpW.out.below hb4
  have hz4 := hzW.out.below hb4 (Nat.le_refl _)
  have k1 := blk_below hb4 w1.out (blk_lt w1.out)
  have k2 := blk_below hb4 w2.out (blk_lt w2.out)
  have k3 := blk_below hb4 w3.out (blk_lt w3.out)
  have x1 := blk_cell k1 0; simp at x1
  have lk1 := blk_lt k1
  replace k1 := Lib.hid k1; replace k2 := Lib.hid k2; replace k3 := Lib.hid k3; replace hb4 := Lib.hid hb4; replace hB4 := Lib.hid hB4; replace hp4 := Lib.hid hp4; replace hz4 := Lib.hid hz4
  by_cases q3 : v.right = true
  rotate_left
  · have q3' : v.right = false := by simpa using q3
    rw [q3']
    have hbad := bad.out (fun h => q3 h.2.2) w4 hB4.out
    replace q3 := Lib.hid q3; replace q3' := Lib.hid q3'; replace hbad := Lib.hid hbad
    go_wp2
    rw [Exit.noGoto_ret]
    go_ret3
    exact hbad.out
  rw [q3]
  replace q3 := Lib.hid q3
  go_wp2_with fail
  refine (counted_any gb gs cap po ps ao m c zs w4 hp4.out hz4.out).mono ?_
  rintro e w5 ⟨f, rfl, hf, hb5⟩
  have s4 := hB4.out.size
  have s5 := hb5.size
  have hone : (bits f).all (·.oneCell') = true := by simp [bits, Value.oneCell']
  obtain ⟨A, hA⟩ : ∃ A, A = max after 0 := ⟨_, rfl⟩
  have hmx : (if after < 0 then 0 else after) = A := by rw [hA]; omega
  have hA0 : 0 ≤ A := by omega
  have hFW0 : FW w gb gs cap po ps w5.heap.size f ticks v ((w5.alloc (.cells (bits fun _ => false) 114 (0, 0))).setRow w5.heap.size (bits f)) := by
    have hbb : Below w5.heap.size w5 ((w5.alloc (.cells (bits fun _ => false) 114 (0, 0))).setRow w5.heap.size (bits f)) := below_row ((Below.refl _ _).alloc (Nat.le_refl _) _) (Nat.le_refl _) _
    have hb := hb5.trans (hbb.mono s5)
    exact ⟨hp4.out.below hb, blk_below hb k1.out (blk_lt k1.out), blk_below hb k2.out (blk_lt k2.out), blk_below hb k3.out (blk_lt k3.out), setRow_heap _ _ _ _ 114 (0, 0) (blk_new _ _), hB4.out.trans (hb.mono s4)⟩
  replace hFW0 := Lib.hid hFW0; replace hf := Lib.hid hf; replace hb5 := Lib.hid hb5; replace hA := Lib.hid hA
  go_wp2_with (first | (refine wpList_store_row rfl 114 _ _ rfl w5.heap.size (bits f) rfl rfl 114 (bits fun _ => false) (by rw [← bits_zero]; exact blk_new _ _) info114 rfl hone ?_))
  go_step3
  go_wp2
  go_loopw [17, 18, 19, 20, 21, 22] (fun t _ _ _ _ _ wr => ∃ T : Int, t = .int .i64 T ∧ A ≤ T ∧ Hid (FW w gb gs cap po ps w5.heap.size f ticks v wr) ∧ Hid (∀ u, A ≤ u → u < T → ((sel ps zs ticks v u).length : Int) < many)) (fun t _ _ _ _ _ _ => (1099511627776 - intOf t).toNat)
  case atStart => exact ⟨A, rfl, Int.le_refl _, hFW0.out, fun u h1 h2 => by omega⟩
  case round =>
    obtain ⟨T, rfl, hAT, hFW, hno⟩ := hrel
    by_cases hT : T < 1099511627776
    rotate_left
    · have hfin : FindRel ps zs many v ticks after 0 [] false := by
        unfold FindRel
        rw [if_pos ⟨by have := q1.out; omega, by have := q2.out; omega, q3.out⟩]
        exact .inr ⟨rfl, rfl, rfl, fun u u1 u2 => hno.out u (by rw [hA.out]; exact u1) (by omega)⟩
      have d : decide (T < 1099511627776) = false := by simpa using hT
      replace hfin := Lib.hid hfin
      go_wp2
      go_ret3
      exact ⟨0, none, 0, 0, [], false, rfl, hfin.out, ints_nil _, Nat.le_refl _, (fun b off h => by simp at h), hFW.out.low⟩
    have d3 : decide (T < 1099511627776) = true := by simpa using hT
    obtain ⟨w0, hw0⟩ : ∃ w0, w0 = wr := ⟨_, rfl⟩
    have hF0 := hFW
    rw [← hw0] at hF0
    have hmet := hFW.out.met
    have lmet := blk_lt hmet
    replace hmet := Lib.hid hmet
    replace hw0 := Lib.hid hw0
    go_wp2_with (first | (refine wpList_load_row rfl 114 _ rfl w5.heap.size rfl 114 (bits f) (0, 0) _ hmet.out Try.underlying114 rfl info114 ?_))
    go_loopw [18, 19, 20, 21, 22, 47] (fun nx sv _ _ _ i wx => ∃ (k : Nat) (N : Int) (L : Nat) (xs : List Nat), i = .int .i64 k ∧ nx = .int .i64 N ∧ k ≤ 16 ∧ T < N ∧ N ≤ 1099511627776 ∧ (L : Int) < many ∧ L ≤ k ∧ Hid (Below w0.heap.size w0 wx) ∧ Hid (OwnI wx w0.heap.size sv L xs) ∧
      Hid (xs = selk ps zs ticks v T k) ∧ Hid (∀ j, j < k → f j = true → ¬ OkT (nd ps j).l ticks v T → ∀ u, T ≤ u → u < N → ¬ OkT (nd ps j).l ticks v u)) (fun _ _ _ _ _ i _ => 16 - (intOf i).toNat)
    case atStart =>
      refine ⟨0, 1099511627776, 0, [], rfl, rfl, by omega, hT, Int.le_refl _, by have := q1.out; omega, Nat.le_refl _, ?_, OwnI.nil _ _, rfl, fun j hj => by omega⟩
      rw [hw0.out]; exact Below.refl _ _
    case round =>
      obtain ⟨k, N, L, xs, rfl, rfl, hk, hTN, hNM, hLm, hLk, hB0, hown, hxs, hlow⟩ := hrel
      by_cases hk16 : k < 16
      · have hk1 : (k : Int) < 16 := by omega
        have hk0 : (0 : Int) ≤ (k : Int) := by omega
        have hidx := idx_bits f k hk16
        cases hfk : f k
        · replace hxs : Hid (xs = selk ps zs ticks v T (k + 1)) := by
            show xs = _
            rw [selk_succ, if_neg, hxs.out]
            intro h
            simp only [pick, Bool.and_eq_true, decide_eq_true_eq] at h
            have := (hf.out k).2 h.1
            rw [hfk] at this; cases this
          simp only [hfk] at hidx
          have hlow2 : ∀ j, j < k + 1 → f j = true → ¬ OkT (nd ps j).l ticks v T → ∀ u, T ≤ u → u < N → ¬ OkT (nd ps j).l ticks v u := fun j hj hfj => by
            by_cases e : j = k
            · subst e; rw [hfk] at hfj; cases hfj
            · exact hlow.out j (by omega) hfj
          replace hlow2 := Lib.hid hlow2; replace hfk := Lib.hid hfk
          go_wp2
          go_roundw
          case rel => exact ⟨k + 1, N, L, xs, by go_num, rfl, by omega, hTN, hNM, hLm, by omega, hB0.out, hown.out, hxs.out, hlow2.out⟩
          case measure => simp [intOf]; omega
        · have hcnt := (hf.out k).1 hfk
          have hFr := hF0.out.below hB0.out
          simp only [hfk] at hidx
          have hsoon := soonest_any gb gs cap po ps _ _ _ ticks v k T wr hFr.pool hFr.k1 hFr.k3 hFr.k2 hcnt.1 (by omega) hT (by have := q2.out; omega) q3.out
          replace hsoon := Lib.hid hsoon; replace hFr := Lib.hid hFr; replace hcnt := Lib.hid hcnt; replace hfk := Lib.hid hfk
          go_wp2_with fail
          (with_reducible refine hsoon.out.mono ?_)
          rintro e w6 ⟨x, rfl, hx, hb6⟩
          have hB6 : Below w0.heap.size w0 w6 := hB0.out.trans (hb6.mono hB0.out.size)
          have hown6 := hown.out.below hb6
          have s6 := hB6.size
          have sr := hB0.out.size
          by_cases hxT : T < x
          · have d4 : decide (T < x) = true := by simpa using hxT
            obtain ⟨N2, hN2⟩ : ∃ N2, N2 = min N x := ⟨_, rfl⟩
            have hmn : (if x < N then x else N) = N2 := by rw [hN2]; omega
            have hno2 : ¬ OkT (nd ps k).l ticks v T := hx.2.2.2 T (Int.le_refl _) hxT
            have hxs2 : xs = selk ps zs ticks v T (k + 1) := by
              rw [selk_succ, if_neg, hxs.out]
              intro h
              simp only [pick, Bool.and_eq_true, decide_eq_true_eq] at h
              exact hno2 h.2
            have hlow2 : ∀ j, j < k + 1 → f j = true → ¬ OkT (nd ps j).l ticks v T → ∀ u, T ≤ u → u < N2 → ¬ OkT (nd ps j).l ticks v u := fun j hj hfj h3 u u1 u2 => by
              by_cases e : j = k
              · subst e; exact hx.2.2.2 u u1 (by omega)
              · exact hlow.out j (by omega) hfj h3 u u1 (by omega)
            have hTN2 : T < N2 := by omega
            have hNM2 : N2 ≤ 1099511627776 := by omega
            replace hx := Lib.hid hx; replace hb6 := Lib.hid hb6; replace hB6 := Lib.hid hB6; replace hown6 := Lib.hid hown6; replace hxT := Lib.hid hxT; replace hN2 := Lib.hid hN2; replace hno2 := Lib.hid hno2; replace hxs2 := Lib.hid hxs2; replace hlow2 := Lib.hid hlow2
            go_wp2
            go_roundw
            case rel => exact ⟨k + 1, N2, L, xs, by go_num, rfl, by omega, hTN2, hNM2, hLm, by omega, hB6.out, hown6.out, hxs2.out, hlow2.out⟩
            case measure => simp [intOf]; omega
          · have hxe : x = T := by have := hx.1; omega
            subst hxe
            have d4 : decide (x < x) = false := by simp
            have hok : OkT (nd ps k).l ticks v x := hx.2.2.1 hT
            have hxs2 : xs ++ [k] = selk ps zs ticks v x (k + 1) := by
              rw [selk_succ, if_pos, hxs.out]
              simp only [pick, Bool.and_eq_true, decide_eq_true_eq]
              exact ⟨hcnt.out, hok⟩
            have hlow2 : ∀ j, j < k + 1 → f j = true → ¬ OkT (nd ps j).l ticks v x → ∀ u, x ≤ u → u < N → ¬ OkT (nd ps j).l ticks v u := fun j hj hfj h3 u u1 u2 => by
              by_cases e : j = k
              · subst e; exact absurd hok h3
              · exact hlow.out j (by omega) hfj h3 u u1 (by omega)
            have hownA := hown6.2.alloc (.cells #[.int .i64 (k : Int)] 3 (0, 0))
            have hnews : ∀ j u, ([.int .i64 (k : Int)] : List Value)[j]? = some u → (w6.alloc (.cells #[.int .i64 (k : Int)] 3 (0, 0))).cell? ((⟨w6.heap.size, 0, none⟩ : Addr).add j) = some u := by
              intro j u hu
              match j, hu with
              | 0, hu =>
                have := blk_cell (blk_new w6 (.cells #[.int .i64 (k : Int)] 3 (0, 0))) 0
                simp at hu; subst hu
                exact this
              | j + 1, hu => simp at hu
            have hone1 : ∀ u ∈ ([.int .i64 (k : Int)] : List Value), u.oneCell' = true := by simp [Value.oneCell']
            have h63 : L + 1 ≤ maxLen := by have : maxLen = 9223372036854775807 := by kernel_rfl
                                            omega
            have hby : (L + 1) * 8 ≤ 140737488355328 := by omega
            have hbas : w0.heap.size ≤ (w6.alloc (.cells #[.int .i64 (k : Int)] 3 (0, 0))).heap.size := by simp; omega
            have hlt := hown6.2.lt
            have hxl := hown6.1
            replace hx := Lib.hid hx; replace hb6 := Lib.hid hb6; replace hB6 := Lib.hid hB6; replace hown6 := Lib.hid hown6; replace hxT := Lib.hid hxT; replace hxs2 := Lib.hid hxs2; replace hlow2 := Lib.hid hlow2; replace hok := Lib.hid hok
            replace hownA := Lib.hid hownA; replace hnews := Lib.hid hnews; replace hone1 := Lib.hid hone1; replace h63 := Lib.hid h63; replace hby := Lib.hid hby; replace hbas := Lib.hid hbas; replace hlt := Lib.hid hlt; replace hxl := Lib.hid hxl
            by_cases hmany : (L : Int) + 1 = many
            · have d5 : ((L : Int) + 1 == many) = true := by simpa using hmany
              have hfin : FindRel ps zs many v ticks after x (xs ++ [k]) true := by
                unfold FindRel
                rw [if_pos ⟨by have := q1.out; omega, by have := q2.out; omega, q3.out⟩]
                refine .inl ⟨rfl, by rw [← hA.out]; exact hAT, hT, by rw [List.length_append, ← hxl.out]; simpa using hmany, ?_, fun u u1 u2 => hno.out u (by rw [hA.out]; exact u1) u2⟩
                rw [hxs2.out]
                exact selk_pre _ _ _ _ _ _ (by omega)
              replace hfin := Lib.hid hfin; replace hmany := Lib.hid hmany
              go_wp2_with (at_builtin; refine wpList_append_own _ rfl _ _ 48 rfl w0.heap.size 3 i3 _ 1 8 Try.underlying48 hi3 hz3 hz31 hz32 rfl (by decide) _ L _ rfl hownA.out ⟨w6.heap.size, 0, none⟩ 1 1 [.int .i64 (k : Int)] rfl rfl hnews.out hone1.out h63.out hby.out hbas.out ?_; intro v1 w7 hown7 hgrow _; obtain ⟨g, cap1, rfl⟩ := Joins.ownsRow_form hown7 (by omega); replace hown7 := Lib.hid hown7; replace hgrow := Lib.hid hgrow)
              go_ret3
              have hO : OwnI w7 w0.heap.size (.slice (some ⟨g, 0, none⟩) (L + 1) cap1) (L + 1) (xs ++ [k]) := ⟨by rw [List.length_append, ← hxl.out]; rfl, by simpa [ints] using hown7.out⟩
              obtain ⟨o1, o2, o3⟩ := hO.at (by omega)
              have hB7 : Below w0.heap.size w0 w7 := (hB6.out.alloc s6 _).grown hgrow.out hbas.out (fun k hk => (hlt.out k hk).1)
              have hl0 := hF0.out.low
              exact ⟨x, some ⟨g, 0, none⟩, L + 1, cap1, xs ++ [k], true, rfl, hfin.out, o1, o2, (fun b off e => by cases e; exact Nat.le_trans hl0.size o3), hl0.trans (hB7.mono hl0.size)⟩
            · have d5 : ((L : Int) + 1 == many) = false := by simpa using hmany
              have hLm2 : (L : Int) + 1 < many := by omega
              replace hmany := Lib.hid hmany
              go_wp2_with (at_builtin; refine wpList_append_own _ rfl _ _ 48 rfl w0.heap.size 3 i3 _ 1 8 Try.underlying48 hi3 hz3 hz31 hz32 rfl (by decide) _ L _ rfl hownA.out ⟨w6.heap.size, 0, none⟩ 1 1 [.int .i64 (k : Int)] rfl rfl hnews.out hone1.out h63.out hby.out hbas.out ?_; intro v1 w7 hown7 hgrow _; obtain ⟨g, cap1, rfl⟩ := Joins.ownsRow_form hown7 (by omega); replace hown7 := Lib.hid hown7; replace hgrow := Lib.hid hgrow)
              have hO : OwnI w7 w0.heap.size (.slice (some ⟨g, 0, none⟩) (L + 1) cap1) (L + 1) (xs ++ [k]) := ⟨by rw [List.length_append, ← hxl.out]; rfl, by simpa [ints] using hown7.out⟩
              have hB7 : Below w0.heap.size w0 w7 := (hB6.out.alloc s6 _).grown hgrow.out hbas.out (fun k hk => (hlt.out k hk).1)
              replace hO := Lib.hid hO; replace hB7 := Lib.hid hB7
              go_roundw
              case rel => exact ⟨k + 1, N, L + 1, xs ++ [k], by go_num, rfl, by omega, hTN, hNM, by simpa using hLm2, by omega, hB7.out, hO.out, hxs2.out, hlow2.out⟩
              case measure => simp [intOf]; omega
      · have hk1 : ¬ (k : Int) < 16 := by omega
        have hke : k = 16 := by omega
        have d6 : (N == T) = false := by rw [beq_eq_false_iff_ne]; omega
        have hFr := hF0.out.below hB0.out
        have hfew := hFr.pool.few
        have hnext : ∀ u, A ≤ u → u < N → ((sel ps zs ticks v u).length : Int) < many := fun u u1 u2 => by
          by_cases hu : u < T
          · exact hno.out u u1 hu
          · have hle : (sel ps zs ticks v u).length ≤ (sel ps zs ticks v T).length := sel_le fun j hj => by
              simp only [pick, Bool.and_eq_true, decide_eq_true_eq] at hj ⊢
              refine ⟨hj.1, Classical.byContradiction fun hc => ?_⟩
              exact hlow.out j (by have := hj.1.1; omega) ((hf.out j).2 hj.1) hc u (by omega) u2 hj.2
            have : sel ps zs ticks v T = xs := by rw [hxs.out, hke]; rfl
            rw [this, ← hown.out.1] at hle
            omega
        replace hke := Lib.hid hke; replace hFr := Lib.hid hFr; replace hnext := Lib.hid hnext
        go_wp2
        go_roundw
        case rel => exact ⟨N, rfl, by omega, hFr.out, hnext.out⟩
        case measure => simp [intOf]; omega
end Go.Proofs.Ytpjajiambbobhaa

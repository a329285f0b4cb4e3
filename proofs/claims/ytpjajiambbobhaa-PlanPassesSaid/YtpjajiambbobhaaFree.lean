/- (*Profile).Free, walked. -/
import Derived.Test.YtpjajiambbobhaaChg
import Derived.Deep.RegionHeld3
namespace Go.Proofs.Ytpjajiambbobhaa
open Go.RowKit

/-- the place of a tick -/
def pl : List St → Int → Nat
  | [], _ => 0
  | [_], _ => 0
  | _ :: s :: r, t => if s.t ≤ t then pl (s :: r) t + 1 else 0

theorem nth_zero (s : St) (r : List St) : nth (s :: r) 0 = s := rfl
theorem nth_succ (s : St) (r : List St) (i : Nat) : nth (s :: r) (i + 1) = nth r i := by simp [nth]
theorem rising_tail {s : St} {r : List St} (h : Rising (s :: r)) : Rising r := by
  intro i j hij hj
  have := h (i + 1) (j + 1) (by omega) (by simpa using hj)
  simpa [nth_succ] using this

theorem IsPlace.eq_pl {l : List St} {t : Int} {k : Nat} (h : IsPlace l t k) (hr : Rising l) : k = pl l t := by
  induction l generalizing k with
  | nil => exact absurd h.1 (by simp)
  | cons s r ih =>
    cases r with
    | nil => have := h.1; simp at this; simpa [pl] using this
    | cons s2 r2 =>
      simp only [pl]
      obtain ⟨h1, h2, h3⟩ := h
      by_cases hs : s2.t ≤ t
      · rw [if_pos hs]
        cases k with
        | zero => have := h3 1 (by omega) (by simp); simp only [nth_succ, nth_zero] at this; omega
        | succ k =>
          have := ih (k := k) ⟨by simpa using h1, by simpa [nth_succ] using h2, fun j hj hj2 => by have := h3 (j + 1) (by omega) (by simpa using hj2); simpa [nth_succ] using this⟩ (rising_tail hr)
          omega
      · rw [if_neg hs]
        cases k with
        | zero => rfl
        | succ k =>
          exfalso
          rw [nth_succ] at h2
          by_cases e : k = 0
          · subst e; rw [nth_zero] at h2; omega
          · have := hr 1 (k + 1) (by omega) h1
            simp only [nth_succ, nth_zero] at this; omega

/-- the least of an amount and of what is free at steps, up to a tick -/
def minOver (v : V4) (b : Int) : List St → V4
  | [] => v
  | s :: r => if b ≤ s.t then v else minOver (v.least s.f) b r
def minAll (v : V4) : List St → V4
  | [] => v
  | s :: r => minAll (v.least s.f) r
theorem minAll_snoc (v : V4) (l : List St) (s : St) : minAll v (l ++ [s]) = (minAll v l).least s.f := by
  induction l generalizing v with
  | nil => rfl
  | cons a l ih => exact ih _
theorem minOver_eq (b : Int) (l : List St) (n : Nat) (hn : n ≤ l.length) : ∀ v, (∀ j, j < n → (nth l j).t < b) → (n < l.length → b ≤ (nth l n).t) → minOver v b l = minAll v (l.take n) := by
  induction l generalizing n with
  | nil => intro v _ _; have : n = 0 := by simpa using hn
           subst this; rfl
  | cons s r ih =>
    intro v h1 h2
    cases n with
    | zero => simp only [minOver, List.take_zero, minAll]; rw [if_pos (by have := h2 (by simp); rwa [nth_zero] at this)]
    | succ n =>
      simp only [minOver, List.take_succ_cons, minAll]
      rw [if_neg (by have := h1 0 (by omega); rw [nth_zero] at this; omega)]
      exact ih n (by simpa using hn) _ (fun j hj => by have := h1 (j + 1) (by omega); rwa [nth_succ] at this) (fun h => by have := h2 (by simpa using h); rwa [nth_succ] at this)

def freeL (whole : V4) (l : List St) (fr to : Int) : V4 :=
  if min to 1099511627776 ≤ max fr 0 then whole else minOver whole (min to 1099511627776) (l.drop (pl l (max fr 0)))

theorem nth_drop (l : List St) (k j : Nat) : nth (l.drop k) j = nth l (k + j) := by simp [nth]

theorem slice_from2 {P : Program} {t e : TypeId} {i : TypeInfo} (hU : P.underlying t = some (.slice e)) (hi : P.info? e = some i) (b len cap n : Nat) (x : Int) (hx : x = n) (hn : n < len) (hc : len ≤ cap) (size : Nat) (hs : i.size = size) :
    ∃ m mc, (∀ w, (Instr.slice t (.slice (some ⟨b, 0, none⟩) len cap) (some (.int .i64 x)) none none).run P w = .ok (.slice (some ⟨b, n * size, none⟩) m mc) w) ∧ Hid (m = len - n) := by
  obtain ⟨ta, h1, h2⟩ := slice_from hU hi b len cap n x hx (by omega)
  obtain rfl := h2 (by omega)
  rw [hs] at h1
  exact ⟨_, _, h1, rfl⟩

theorem free_done {whole : V4} {l : List St} {k a m : Nat} {B : Int} (_hk : k < l.length) (hm : m = l.length - k) (ha : a ≤ m) (h1 : ∀ j, j < a → (nth l (k + j)).t < B) (h2 : a < m → B ≤ (nth l (k + a)).t) :
    minOver whole B (l.drop k) = minAll whole ((l.drop k).take a) :=
  minOver_eq B (l.drop k) a (by rw [List.length_drop]; omega) whole (fun j hj => by rw [nth_drop]; exact h1 j hj) (fun h => by rw [nth_drop]; exact h2 (by rw [List.length_drop] at h; omega))
theorem min_step (whole : V4) (l : List St) (k a : Nat) (h : k + a < l.length) : (minAll whole ((l.drop k).take a)).least (nth l (k + a)).f = minAll whole ((l.drop k).take (a + 1)) := by
  rw [take_succ_nth _ a (by rw [List.length_drop]; omega), minAll_snoc, nth_drop]

set_option maxRecDepth 100000 in
set_option maxHeartbeats 1600000 in
theorem free_any (pb sb cap : Nat) (whole : V4) (l : List St) (fr to : Int) (w : World) (hp : Prof w pb sb cap whole l) (hl : Loose l) :
    Calls Try.prog 22 #[.pointer (some ⟨pb, 0, none⟩), .int .i64 fr, .int .i64 to] w fun e w' => e = .returned (freeL whole l fr to).val ∧ Below w.heap.size w w' := by
  obtain ⟨i0, hi0, hz0, hz1, hz2⟩ := info_parts info43
  have hlen := hl.len
  have hcap := hp.row.le
  obtain ⟨A, hA⟩ : ∃ A, A = max fr 0 := ⟨_, rfl⟩
  obtain ⟨B, hB⟩ : ∃ B, B = min to 1099511627776 := ⟨_, rfl⟩
  have hfr : freeL whole l fr to = if B ≤ A then whole else minOver whole B (l.drop (pl l A)) := by rw [hA, hB]; rfl
  have c0 := blk_cell hp.head 0; have c1 := blk_cell hp.head 1; have c2 := blk_cell hp.head 2; have c3 := blk_cell hp.head 3; have c4 := blk_cell hp.head 4
  simp at c0 c1 c2 c3 c4
  have lpb := blk_lt hp.head
  have lsb := hp.row.lt
  replace hp := Lib.hid hp; replace hl := Lib.hid hl; replace hfr := Lib.hid hfr
  go_enter Try.func22, Try.ntmps22
  have hmx : (if fr < 0 then 0 else fr) = A := by rw [hA]; omega
  have hmn : (if 1099511627776 < to then 1099511627776 else to) = B := by rw [hB]; omega
  have hA0 : 0 ≤ A := by omega
  have hB0 : B ≤ 1099511627776 := by omega
  replace hA := Lib.hid hA; replace hB := Lib.hid hB
  by_cases hAB : B ≤ A
  · replace hfr := Lib.hid (hfr.out.trans (if_pos hAB))
    go_wp2
    refine bodyPost_ret (v := whole.val) (by simp [results, Try.results22, go_sem]) rfl ⟨by rw [hfr.out], ?_⟩
    exact ((Below.refl _ _).alloc (Nat.le_refl _) _).alloc (by simp) _
  · have hAM : A < 1099511627776 := by omega
    replace hfr := Lib.hid (hfr.out.trans (if_neg hAB))
    go_wp2_with fail
    have p4 : ∀ o1 o2, ((w.alloc o1).alloc o2).drew.cell? ⟨pb, 4, none⟩ = some (.slice (some ⟨sb, 0, none⟩) l.length cap) := fun o1 o2 => by
      rw [← c4]; exact World.cell?_of_block (w := w) ((Below.heap_alloc _ o2 pb (by simp; omega)).trans (Below.heap_alloc w o1 pb lpb))
    have hpw : ∀ o1 o2, Prof ((w.alloc o1).alloc o2).drew pb sb cap whole l := fun o1 o2 => by
      have hb : Below w.heap.size w ((w.alloc o1).alloc o2).drew := (((Below.refl _ _).alloc (Nat.le_refl _) _).alloc (by simp) _).drew
      exact ⟨blk_below hb hp.out.head lpb, hp.out.row.below hb lsb, hp.out.ne⟩
    replace p4 := Lib.hid p4; replace hpw := Lib.hid hpw
    go_region_held3 (fun w' => w'.cell? ⟨pb, 4, none⟩ = some (.slice (some ⟨sb, 0, none⟩) l.length cap))
      (first
        | go_keep
        | (rw [below_cell hb2 (by simp; omega)]; exact p4.out _ _))
      (first
        | (go_at_call 59
           refine (place_any pb sb cap whole l A _ (hpw.out _ _) hl.out hA0 (by omega)).mono ?_
           rintro e w2 ⟨k, rfl, hk, hb2⟩
           obtain ⟨m, mc, hs2, hm⟩ := slice_from2 (i := i0) Try.underlying30 hi0 sb l.length cap k (k : Int) rfl hk.1 hcap 5 hz1
           have hk1 := hk.1
           replace hk := Lib.hid hk))
    have hmb : m ≤ 1099511627777 := by have := hm.out; omega
    have hpl : k = pl l A := hk.out.eq_pl hl.out.rise
    have hfr2 : freeL whole l fr to = minOver whole B (l.drop k) := by rw [hpl]; exact hfr.out
    replace hpl := Lib.hid hpl; replace hfr2 := Lib.hid hfr2
    have hB2 : Below w.heap.size w w2 := ((((Below.refl _ _).alloc (Nat.le_refl _) _).alloc (by simp) _).drew).trans (hb2.mono (by simp; omega))
    have g1 := blk_below hb2 (blk_drew (blk_at (b := w.heap.size + 1) _ _ (by simp))) (by simp)
    have g0 := blk_below hb2 (blk_drew (blk_old _ (blk_new _ _))) (by simp; omega)
    replace hB2 := Lib.hid hB2; replace g0 := Lib.hid g0; replace g1 := Lib.hid g1; replace hb2 := Lib.hid hb2
    go_wp2
    go_loopw [34] (fun c wr => ∃ a : Nat, a ≤ m ∧ c = .int .i64 a ∧ Below w.heap.size w wr ∧ Hid (wr.heap[w.heap.size + 1]? = some (.cells (minAll whole ((l.drop k).take a)).cells 23 (0, 0))) ∧ Hid (wr.heap[w.heap.size]? = some (.cells V4.zero.cells 23 (0, 0))) ∧ Hid (∀ j, j < a → (nth l (k + j)).t < B)) (fun c _ => m - (intOf c).toNat)
    case atStart => exact ⟨0, Nat.zero_le _, rfl, hB2.out, g1.out, g0.out, by intro j hj; omega⟩
    case round =>
      obtain ⟨a, ham, rfl, hBr, G1, G0, hlt⟩ := hrel
      have e1 := blk_cell G1.out; have e1f := blk_free G1.out
      have e0 := blk_cell G0.out; have e0f := blk_free G0.out
      have x1 := e1 0; have x2 := e1 1; have x3 := e1 2; have x4 := e1 3
      have y1 := e0 0; have y2 := e0 1; have y3 := e0 2; have y4 := e0 3
      have l1 := blk_lt G1.out
      have l0 := blk_lt G0.out
      simp at x1 x2 x3 x4 y1 y2 y3 y4
      clear e1 e0
      have hfin : ∀ (hd : a < m → B ≤ (nth l (k + a)).t), freeL whole l fr to = minAll whole ((l.drop k).take a) := fun hd => by
        rw [hfr2.out]; exact free_done hk1 hm.out ham hlt.out hd
      replace hfin := Lib.hid hfin
      by_cases hc : a < m
      · have hc' : (a : Int) < m := by omega
        have ha0 : (0 : Int) ≤ (a : Int) := by omega
        obtain ⟨c0, c1, c2, c3, c4⟩ := (hp.out.row.below hBr lsb).cells (i := k + a) (by have := hm.out; omega)
        simp only [Nat.add_mul] at c0 c1 c2 c3 c4
        by_cases hb : (nth l (k + a)).t < B
        · have hb' : ¬ B ≤ (nth l (k + a)).t := by omega
          go_wp2_with fail
          refine (least_any (minAll whole ((l.drop k).take a)) (nth l (k + a)).f _).mono ?_
          rintro e w4 ⟨rfl, hb4⟩
          rw [min_step whole l k a (by have := hm.out; omega)]
          have hB4 : Below w.heap.size w w4 := (hBr.alloc hBr.size _).trans (hb4.mono (by have := hBr.size; simp; omega))
          have G1' := blk_below hb4 (blk_old _ G1.out) (by simp; omega)
          have G0' := blk_below hb4 (blk_old _ G0.out) (by simp; omega)
          have z1 := blk_cell G1'; have zf := blk_free G1'
          replace G1' := Lib.hid G1'; replace G0' := Lib.hid G0'; replace hB4 := Lib.hid hB4; replace hb4 := Lib.hid hb4
          clear x1 x2 x3 x4 y1 y2 y3 y4 c0 c1 c2 c3 c4 e1f e0f
          replace hBr := Lib.hid hBr
          go_wp2
          go_roundw
          case rel =>
            refine ⟨a + 1, by omega, by go_num, ?_, ?_, ?_, ?_⟩
            · exact (((hB4.out.setCell (by simp) _).setCell (by simp) _).setCell (by simp) _).setCell (by simp) _
            · unfold Hid
              rw [blk_set (blk_set (blk_set (blk_set G1'.out _ _) _ _) _ _) _ _]; simp
            · exact blk_set_other (by omega) _ (blk_set_other (by omega) _ (blk_set_other (by omega) _ (blk_set_other (by omega) _ G0'.out)))
            · intro j hj
              by_cases e : j = a
              · subst e; exact hb
              · exact hlt.out j (by omega)
          case measure => simp [intOf]; omega
        · have hb' : B ≤ (nth l (k + a)).t := by omega
          replace hfin := Lib.hid (hfin.out (fun _ => hb'))
          replace hBr := Lib.hid hBr
          clear e1f
          go_wp2
          refine bodyPost_ret (v := (minAll whole ((l.drop k).take a)).val) (by simp [results, Try.results22, go_sem, y1, y2, y3, y4, l0]) rfl ⟨by rw [hfin.out], ?_⟩
          refine Below.alloc ?_ (by have := hBr.out.size; simpa using this) _
          exact (((hBr.out.setCell (Nat.le_refl _) _).setCell (Nat.le_refl _) _).setCell (Nat.le_refl _) _).setCell (Nat.le_refl _) _
      · have hc' : ¬ (a : Int) < m := by omega
        replace hfin := Lib.hid (hfin.out (fun h => absurd h hc))
        replace hBr := Lib.hid hBr
        clear e1f
        go_wp2
        refine bodyPost_ret (v := (minAll whole ((l.drop k).take a)).val) (by simp [results, Try.results22, go_sem, y1, y2, y3, y4]) rfl ⟨by rw [hfin.out], ?_⟩
        exact (((hBr.out.setCell (Nat.le_refl _) _).setCell (Nat.le_refl _) _).setCell (Nat.le_refl _) _).setCell (Nat.le_refl _) _
end Go.Proofs.Ytpjajiambbobhaa

/- Steps in memory; a profile in memory; what a call may change. -/
import Derived.Test.YtpjajiambbobhaaVecb
namespace Go.Proofs.Ytpjajiambbobhaa
open Go.RowKit

/-- what is free from a tick on -/
structure St where
  t : Int
  f : V4
deriving DecidableEq

def St.zero : St := ⟨0, V4.zero⟩
abbrev St.val (s : St) : Value := .agg #[.int .i64 s.t, .int .i64 s.f.a, .int .i64 s.f.b, .int .i64 s.f.c, .int .i64 s.f.d]
def St.cells (s : St) : List Value := [.int .i64 s.t, .int .i64 s.f.a, .int .i64 s.f.b, .int .i64 s.f.c, .int .i64 s.f.d]
def flat (l : List St) : List Value := l.flatMap St.cells

theorem flat_length (l : List St) : (flat l).length = l.length * 5 := by
  induction l with
  | nil => rfl
  | cons s l ih => simp only [flat, List.flatMap_cons, List.length_append] at *; rw [ih]; simp [St.cells]; omega

theorem flat_append (l m : List St) : flat (l ++ m) = flat l ++ flat m := by simp [flat]
/-- the step at a place -/
def nth (l : List St) (i : Nat) : St := l.getD i St.zero
theorem flat_get (l : List St) (i j : Nat) (hi : i < l.length) (hj : j < 5) : (flat l)[i * 5 + j]? = (nth l i).cells[j]? := by
  induction l generalizing i with
  | nil => simp at hi
  | cons s l ih =>
    cases i with
    | zero =>
      simp only [nth, flat, List.flatMap_cons, Nat.zero_mul, Nat.zero_add, List.getD_cons_zero]
      rw [List.getElem?_append_left (by simp [St.cells]; omega)]
    | succ i =>
      have e : (i + 1) * 5 + j = s.cells.length + (i * 5 + j) := by simp [St.cells]; omega
      simp only [nth, flat, List.flatMap_cons, List.getD_cons_succ]
      rw [e, List.getElem?_append_right (by omega), Nat.add_sub_cancel_left]
      exact ih i (by simpa using hi)

/-- a row of steps in memory, at the head of its block; what lies behind its length is whatever it is -/
structure Row (w : World) (sb cap : Nat) (l : List St) : Prop where
  le : l.length ≤ cap
  max : cap ≤ 9223372036854775807
  blk : ∃ cur : Array Value, w.heap[sb]? = some (.cells cur 43 (0, 0)) ∧ cur.size = cap * 5 ∧ cur.toList.take (l.length * 5) = flat l

theorem Row.cell {w : World} {sb cap : Nat} {l : List St} (h : Row w sb cap l) {i j : Nat} (hi : i < l.length) (hj : j < 5) :
    w.cell? ⟨sb, i * 5 + j, none⟩ = (nth l i).cells[j]? := by
  obtain ⟨cur, hb, hs, ht⟩ := h.blk
  rw [blk_cell hb]
  have : (flat l)[i * 5 + j]? = cur[i * 5 + j]? := by
    rw [← ht, List.getElem?_take, if_pos (by omega)]; simp
  rw [← this]
  exact flat_get l i j hi hj

theorem Row.cells {w : World} {sb cap : Nat} {l : List St} (h : Row w sb cap l) {i : Nat} (hi : i < l.length) :
    w.cell? ⟨sb, i * 5, none⟩ = some (.int .i64 (nth l i).t) ∧ w.cell? ⟨sb, i * 5 + 1, none⟩ = some (.int .i64 (nth l i).f.a) ∧
    w.cell? ⟨sb, i * 5 + 2, none⟩ = some (.int .i64 (nth l i).f.b) ∧ w.cell? ⟨sb, i * 5 + 3, none⟩ = some (.int .i64 (nth l i).f.c) ∧
    w.cell? ⟨sb, i * 5 + 4, none⟩ = some (.int .i64 (nth l i).f.d) :=
  ⟨h.cell hi (j := 0) (by omega), h.cell hi (j := 1) (by omega), h.cell hi (j := 2) (by omega), h.cell hi (j := 3) (by omega), h.cell hi (j := 4) (by omega)⟩

theorem Row.of_block {w w' : World} {sb cap : Nat} {l : List St} (h : Row w sb cap l) (hb : w'.heap[sb]? = w.heap[sb]?) : Row w' sb cap l := by
  obtain ⟨a, b, cur, h1, h2⟩ := h
  exact ⟨a, b, cur, hb.trans h1, h2⟩
theorem Row.lt {w : World} {sb cap : Nat} {l : List St} (h : Row w sb cap l) : sb < w.heap.size := by
  obtain ⟨_, _, cur, h1, h2⟩ := h
  exact blk_lt h1
theorem Row.below {B : Nat} {w w' : World} {sb cap : Nat} {l : List St} (h : Row w sb cap l) (hb : Below B w w') (hlt : sb < B) : Row w' sb cap l := h.of_block (hb.block _ hlt)

theorem enters91 : ∀ args w, (callFunc 91 args).run Try.prog w = .ok (.enter 91 args) w := enters Try.func91 (by decide) (by simp [Try.f91])

theorem place1_any (s : St) (t : Int) (w : World) (h1 : -1099511627776 ≤ s.t) (h2 : s.t ≤ 1099511627776) (h3 : -1099511627776 ≤ t) (h4 : t ≤ 1099511627776) :
    Calls Try.prog 91 #[s.val, .int .i64 t] w fun e w' => e = .returned (.int .i64 (s.t - t)) ∧ Below w.heap.size w w' := by
  go_enter Try.func91, Try.ntmps91
  go_wp2
  go_ret
  exact ⟨rfl, (Below.refl _ _).alloc (Nat.le_refl _) _⟩

/-- the place of a tick among ticks that rise -/
def SearchPost (n : Nat) (T : Nat → Int) (t : Int) (w : World) (e : Ending) (w' : World) : Prop :=
  ∃ r : Nat, e = .returned (.tuple #[.int .i64 r, .bool (decide (r < n ∧ T r = t))]) ∧ r ≤ n ∧ (∀ k, k < r → T k < t) ∧ (∀ k, r ≤ k → k < n → t ≤ T k) ∧ Below w.heap.size w w'

def Rising (l : List St) : Prop := ∀ i j, i < j → j < l.length → (nth l i).t < (nth l j).t

theorem search_any (l : List St) (sb cap : Nat) (t : Int) (w : World) (hr : Row w sb cap l) (hl : ∀ i, i < l.length → 0 ≤ (nth l i).t ∧ (nth l i).t ≤ 1099511627776) (hrise : Rising l)
    (h3 : 0 ≤ t) (h4 : t ≤ 1099511627776) (hlen : l.length ≤ 1099511627776) :
    Calls Try.prog 90 #[.slice (some ⟨sb, 0, none⟩) l.length cap, .int .i64 t, .func (.func 91) #[] #[]] w (SearchPost l.length (fun i => (nth l i).t) t w) := by
  have hle := hr.le
  have hmax := hr.max
  have hr := Lib.hid hr; have hl := Lib.hid hl; have hrise := Lib.hid hrise
  go_enter Try.func90, Try.ntmps90
  go_wp2
  go_loopw [9, 10, 11] (fun i j _ wr => ∃ a b : Nat, a ≤ b ∧ b ≤ l.length ∧ i = .int .i64 a ∧ j = .int .i64 b ∧ Below w.heap.size w wr ∧ Hid (∀ k, k < a → (nth l k).t < t) ∧ Hid (∀ k, b ≤ k → k < l.length → t ≤ (nth l k).t)) (fun i j _ _ => (intOf j).toNat - (intOf i).toNat)
  case atStart => exact ⟨0, l.length, by omega, by omega, rfl, rfl, Below.refl _ _, by intro k hk; omega, by intro k hk; omega⟩
  case round =>
    obtain ⟨a, b, hab, hb, rfl, rfl, hB, ha, hbb⟩ := hrel
    by_cases hlt : a < b
    · have hlt' : (a : Int) < b := by omega
      have hab2 : (a : Int) + b ≤ 2199023255552 := by omega
      have hab0 : (0 : Int) ≤ (a : Int) + b := by omega
      have hsl : ((a : Int) + b) / 2 < l.length := by omega
      obtain ⟨c0, c1, c2, c3, c4⟩ := (hr.out.of_block (hB.block _ hr.out.lt)).cells (i := (a + b) / 2) (by omega)
      obtain ⟨l1, l2⟩ := hl.out ((a + b) / 2) (by omega)
      go_wp2_with fail
      refine (place1_any (nth l ((a + b) / 2)) t wr (by omega) (by omega) (by omega) h4).mono ?_
      rintro e w2 ⟨rfl, hb2⟩
      have hB2 := Lib.hid (hB.trans (hb2.mono hB.size))
      have hb2 := Lib.hid hb2
      clear hB
      by_cases hneg : (nth l ((a + b) / 2)).t - t < 0
      · go_wp2
        go_roundw
        case rel =>
          refine ⟨(a + b) / 2 + 1, b, by omega, by omega, by go_num, rfl, hB2.out, ?_, hbb⟩
          intro k hk
          by_cases h : k = (a + b) / 2
          · subst h; omega
          · have := hrise.out k ((a + b) / 2) (by omega) (by omega); omega
        case measure => simp [intOf]; omega
      · go_wp2
        go_roundw
        case rel =>
          refine ⟨a, (a + b) / 2, by omega, by omega, rfl, by go_num, hB2.out, ha, ?_⟩
          intro k hk hk2
          by_cases h : k = (a + b) / 2
          · subst h; omega
          · have := hrise.out ((a + b) / 2) k (by omega) (by omega); omega
        case measure => simp [intOf]; omega
    · have hab' : a = b := by omega
      subst hab'
      by_cases hn : a < l.length
      · have hn' : (a : Int) < l.length := by omega
        obtain ⟨c0, c1, c2, c3, c4⟩ := (hr.out.of_block (hB.block _ hr.out.lt)).cells (i := a) (by omega)
        obtain ⟨l1, l2⟩ := hl.out a (by omega)
        go_wp2_with fail
        refine (place1_any (nth l a) t wr (by omega) (by omega) (by omega) h4).mono ?_
        rintro e w2 ⟨rfl, hb2⟩
        have hB2 := Lib.hid (hB.trans (hb2.mono hB.size))
        have hb2 := Lib.hid hb2
        clear hB
        go_wp2
        go_ret2
        refine ⟨a, ?_, hb, ha, hbb, hB2.out⟩
        have e : ((nth l a).t - t == 0) = decide (a < l.length ∧ (nth l a).t = t) := by rw [Bool.eq_iff_iff]; simp [hn]; omega
        rw [← e]; rfl
      · have hn' : ¬ (a : Int) < l.length := by omega
        go_wp2
        go_ret2
        refine ⟨a, ?_, hb, ha, hbb, hB⟩
        simp [hn]

/-- the last step that is not behind a tick -/
def IsPlace (l : List St) (t : Int) (k : Nat) : Prop := k < l.length ∧ (nth l k).t ≤ t ∧ ∀ j, k < j → j < l.length → t < (nth l j).t

/-- what steps may be: they rise from 0 on, below the last tick; each is right and no more than the whole; neighbours are unlike -/
structure Good (whole : V4) (l : List St) : Prop where
  right : whole.right = true
  pos : 0 < l.length
  zero : (nth l 0).t = 0
  rise : Rising l
  last : ∀ i, i < l.length → (nth l i).t < 1099511627776
  free : ∀ i, i < l.length → (nth l i).f.right = true ∧ (nth l i).f.fits whole = true
  unlike : ∀ i, i + 1 < l.length → (nth l i).f ≠ (nth l (i + 1)).f

theorem rising_ge {l : List St} (h : Rising l) (h0 : 0 ≤ (nth l 0).t) : ∀ i, i < l.length → (i : Int) ≤ (nth l i).t := by
  intro i
  induction i with
  | zero => intro _; simpa using h0
  | succ i ih => intro hi; have := h i (i + 1) (by omega) hi; have := ih (by omega); omega

/-- a profile in memory -/
structure Prof (w : World) (pb sb cap : Nat) (whole : V4) (l : List St) : Prop where
  head : w.heap[pb]? = some (.cells #[.int .i64 whole.a, .int .i64 whole.b, .int .i64 whole.c, .int .i64 whole.d, .slice (some ⟨sb, 0, none⟩) l.length cap] 102 (0, 0))
  row : Row w sb cap l
  ne : pb ≠ sb

/-- steps that rise from 0 on -/
structure Loose (l : List St) : Prop where
  pos : 0 < l.length
  zero : (nth l 0).t = 0
  rise : Rising l
  last : ∀ i, i < l.length → (nth l i).t < 1099511627776
theorem Good.loose {whole : V4} {l : List St} (h : Good whole l) : Loose l := ⟨h.pos, h.zero, h.rise, h.last⟩
theorem Loose.ge {l : List St} (h : Loose l) (i : Nat) (hi : i < l.length) : (i : Int) ≤ (nth l i).t := rising_ge h.rise (by rw [h.zero]; omega) i hi
theorem Loose.len {l : List St} (h : Loose l) : l.length ≤ 1099511627776 := by
  have h1 := h.ge (l.length - 1) (by have := h.pos; omega)
  have h2 := h.last (l.length - 1) (by have := h.pos; omega)
  have := h.pos
  omega

def PlacePost (l : List St) (t : Int) (w : World) (e : Ending) (w' : World) : Prop := ∃ k : Nat, e = .returned (.int .i64 k) ∧ IsPlace l t k ∧ Below w.heap.size w w'

theorem place_any (pb sb cap : Nat) (whole : V4) (l : List St) (t : Int) (w : World) (hp : Prof w pb sb cap whole l) (hl : Loose l) (h3 : 0 ≤ t) (h4 : t ≤ 1099511627776) :
    Calls Try.prog 59 #[.pointer (some ⟨pb, 0, none⟩), .int .i64 t] w (PlacePost l t w) := by
  have c4 := blk_cell hp.head 4
  simp at c4
  have hlen := hl.len
  have hp := Lib.hid hp
  have hl := Lib.hid hl
  go_enter Try.func59, Try.ntmps59
  go_wp2_with fail
  refine (search_any l sb cap t w hp.out.row (fun i hi => ⟨by have := hl.out.ge i hi; omega, by have := hl.out.last i hi; omega⟩) hl.out.rise h3 h4 hlen).mono ?_
  rintro e w2 ⟨r, rfl, hr, h1, h2, hb2⟩
  have h1 := Lib.hid h1; have h2 := Lib.hid h2; have hb2 := Lib.hid hb2
  by_cases hf : r < l.length ∧ (nth l r).t = t
  · have hd : decide (r < l.length ∧ (nth l r).t = t) = true := by simpa using hf
    simp only [hd]
    have hf := Lib.hid hf; clear hd
    go_wp2
    go_ret
    refine ⟨r, rfl, ⟨hf.out.1, by rw [hf.out.2]; omega, ?_⟩, hb2.out⟩
    intro j hj hj2
    have := hl.out.rise r j hj hj2
    rw [hf.out.2] at this
    exact this
  · have hd : decide (r < l.length ∧ (nth l r).t = t) = false := by simpa using hf
    simp only [hd]
    have h0 : 0 < r := by
      apply Classical.byContradiction
      intro hc
      have : r = 0 := by omega
      subst this
      have h5 : t ≤ (nth l 0).t := h2.out 0 (Nat.le_refl _) hl.out.pos
      have hz := hl.out.zero
      have h6 : (nth l 0).t = t := by omega
      exact hf ⟨hl.out.pos, h6⟩
    have hf := Lib.hid hf; clear hd
    go_wp2
    go_ret
    refine ⟨r - 1, ?_, ⟨by omega, ?_, ?_⟩, hb2.out⟩
    · have e : ((r : Int) - 1) = ((r - 1 : Nat) : Int) := by omega
      rw [← e]; rfl
    · have := h1.out (r - 1) (by omega); omega
    · intro j hj hj2
      have hq := h2.out j (by omega) hj2
      by_cases hjr : j = r
      · subst hjr
        have : (nth l j).t ≠ t := fun h => hf.out ⟨hj2, h⟩
        omega
      · have := h2.out r (Nat.le_refl _) (by omega)
        have := hl.out.rise r j (by omega) hj2
        omega
end Go.Proofs.Ytpjajiambbobhaa

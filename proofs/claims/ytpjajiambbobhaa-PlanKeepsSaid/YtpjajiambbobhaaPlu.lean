/- corveelaw12.mixed: the asks with what they were promised, two of them turned, one gone, one come. -/
import Derived.Test.YtpjajiambbobhaaPlt
import Derived.Deep.MidRow
import Derived.Deep.Onto
import Derived.Deep.DeepCutAuto
namespace Go.Proofs.Ytpjajiambbobhaa
open Go.RowKit

theorem and1023 (n : Int) : Go.bits .and .i64 n 1023 = n % 1024 := by
  have h : (BitVec.ofInt 64 1023).toNat = 2 ^ 10 - 1 := by decide
  have key : (BitVec.ofInt 64 n &&& BitVec.ofInt 64 1023).toNat = (n % ((2 ^ 64 : Nat) : Int)).toNat % 2 ^ 10 := by
    rw [BitVec.toNat_and, BitVec.toNat_ofInt, h, Nat.and_two_pow_sub_one_eq_mod]
  show IntKind.i64.wrap ((BitVec.ofInt 64 n &&& BitVec.ofInt 64 1023).toNat : Nat) = n % 1024
  rw [key, IntKind.wrap_i64]
  omega
theorem and15 (n : Int) : Go.bits .and .i64 n 15 = n % 16 := by
  have h : (BitVec.ofInt 64 15).toNat = 2 ^ 4 - 1 := by decide
  have key : (BitVec.ofInt 64 n &&& BitVec.ofInt 64 15).toNat = (n % ((2 ^ 64 : Nat) : Int)).toNat % 2 ^ 4 := by
    rw [BitVec.toNat_and, BitVec.toNat_ofInt, h, Nat.and_two_pow_sub_one_eq_mod]
  show IntKind.i64.wrap ((BitVec.ofInt 64 n &&& BitVec.ofInt 64 15).toNat : Nat) = n % 16
  rw [key, IntKind.wrap_i64]
  omega
/-- cells of a row overlaid -/
def overL (xs : List Value) : Nat → List Value → List Value
  | _, [] => xs
  | o, v :: r => overL (xs.set o v) (o + 1) r
theorem overL_len (vs : List Value) : ∀ (o : Nat) (xs : List Value), (overL xs o vs).length = xs.length := by
  induction vs with
  | nil => intro o xs; exact rfl
  | cons v r ih => intro o xs; show (overL (xs.set o v) (o + 1) r).length = _; rw [ih]; simp
theorem overL_get (vs : List Value) : ∀ (o : Nat) (xs : List Value), o + vs.length ≤ xs.length → ∀ j, (overL xs o vs)[j]? = if o ≤ j ∧ j < o + vs.length then vs[j - o]? else xs[j]? := by
  induction vs with
  | nil => intro o xs _ j; simp [overL]; omega
  | cons v r ih =>
    intro o xs h j
    simp at h
    show (overL (xs.set o v) (o + 1) r)[j]? = _
    rw [ih (o + 1) (xs.set o v) (by simp; omega) j]
    by_cases c : j = o
    · subst c
      rw [if_neg (by omega), if_pos (by simp), List.getElem?_set_self (by omega)]
      simp
    · rw [List.getElem?_set_ne (by omega)]
      by_cases c2 : o + 1 ≤ j ∧ j < o + 1 + r.length
      · rw [if_pos c2, if_pos (by simp; omega), show j - o = (j - (o + 1)) + 1 by omega]; simp
      · rw [if_neg c2, if_neg (by simp; omega)]
theorem owns_over {base size n g cap : Nat} {e : TypeId} (vs : List Value) : ∀ (w : World) (o : Nat) (xs : List Value), w.ownsRow base e size (.slice (some ⟨g, 0, none⟩) n cap) n xs →
    (w.setCells g o vs).ownsRow base e size (.slice (some ⟨g, 0, none⟩) n cap) n (overL xs o vs) ∧ w.grownBy (w.setCells g o vs) (some g) := by
  induction vs with
  | nil => intro w o xs h; exact ⟨h, World.grownBy.refl _ _⟩
  | cons v r ih =>
    intro w o xs h
    obtain ⟨h1, h2⟩ := h.stored o v
    obtain ⟨h3, h4⟩ := ih _ (o + 1) _ h1
    exact ⟨h3, h2.trans h4⟩
theorem flatv_len {α : Type} {cells : α → Array Value} {sz : Nat} (hsz : ∀ x, (cells x).size = sz) (xs : List α) : (flatv cells xs).length = xs.length * sz := by
  induction xs with
  | nil => simp [flatv]
  | cons y ys ih =>
    rw [show flatv cells (y :: ys) = (cells y).toList ++ flatv cells ys from by simp [flatv], List.length_append, ih]
    simp [hsz, Nat.add_mul]; omega
theorem over_flat {α : Type} {cells : α → Array Value} {sz : Nat} (hsz : ∀ x, (cells x).size = sz) (h0 : 0 < sz) (xs : List α) {k : Nat} (hk : k < xs.length) (y : α) : overL (flatv cells xs) (k * sz) (cells y).toList = flatv cells (xs.set k y) := by
  have hl : (cells y).toList.length = sz := by simp [hsz]
  have hb : k * sz + sz ≤ xs.length * sz := by rw [← Nat.succ_mul]; exact Nat.mul_le_mul_right _ hk
  have hfl := flatv_len hsz xs
  apply List.ext_getElem?
  intro j
  rw [overL_get _ _ _ (by rw [hl, hfl]; exact hb)]
  rw [hl]
  by_cases hj : j < xs.length * sz
  · obtain ⟨i, r, hr, rfl⟩ : ∃ i r, r < sz ∧ j = i * sz + r := ⟨j / sz, j % sz, Nat.mod_lt _ h0, by rw [Nat.mul_comm]; exact (Nat.div_add_mod j sz).symm⟩
    have hi : i < xs.length := by
      apply Classical.byContradiction
      intro c
      have : xs.length * sz ≤ i * sz := Nat.mul_le_mul_right _ (by omega)
      omega
    have hx : xs[i]? = some xs[i] := List.getElem?_eq_getElem hi
    by_cases c : i = k
    · subst c
      rw [if_pos (by omega), flatv_get hsz (xs.set i y) (List.getElem?_set_self hi) hr]
      simp [show i * sz + r - i * sz = r by omega]
    · rw [flatv_get hsz xs hx hr, flatv_get hsz (xs.set k y) (x := xs[i]) (by rw [List.getElem?_set_ne (Ne.symm c)]; exact hx) hr, if_neg]
      intro h
      rcases Nat.lt_or_gt_of_ne c with c | c
      · have : (i + 1) * sz ≤ k * sz := Nat.mul_le_mul_right _ c
        rw [Nat.succ_mul] at this; omega
      · have : (k + 1) * sz ≤ i * sz := Nat.mul_le_mul_right _ c
        rw [Nat.succ_mul] at this; omega
  · have hk2 : ¬ (k * sz ≤ j ∧ j < k * sz + sz) := by omega
    rw [if_neg hk2, List.getElem?_eq_none (by rw [hfl]; omega), List.getElem?_eq_none (by rw [flatv_len hsz]; simp; omega)]
/-- a row of asks of one's own -/
def Arow (w : World) (base : Nat) (sv : Value) (xs : List Ask) : Prop := w.ownsRow base 84 10 sv xs.length (flatv Ask.cells xs)
structure MixA (w : World) (x : Scene) (l : Later) (A0 : List Ask) (av : Value) (wx : World) : Prop where
  ex : ∃ A M, SB w x l wx ∧ Arow wx (w.heap.size + 2) av A ∧ A.length ≤ 10 ∧ (A ++ M).Perm A0
theorem Arow.cells {w : World} {base g cap n : Nat} {xs : List Ask} (h : Arow w base (.slice (some ⟨g, 0, none⟩) n cap) xs) (hn : n = xs.length) {i : Nat} {a : Ask} (ha : xs[i]? = some a) : ∀ j, j < 10 → w.cell? ⟨g, i * 10 + j, none⟩ = a.cells[j]? := fun j hj => by
  subst hn
  have hi := (List.getElem?_eq_some_iff.1 ha).1
  have h1 : (i + 1) * 10 ≤ xs.length * 10 := Nat.mul_le_mul_right _ hi
  rw [World.ownsRow.cellAt h (i * 10 + j) (by omega), flatv_get (cells := Ask.cells) (sz := 10) (fun _ => rfl) xs ha hj]
theorem Arow.frozen {w : World} {base g cap n : Nat} {xs : List Ask} (h : Arow w base (.slice (some ⟨g, 0, none⟩) n cap) xs) (hn : n = xs.length) (o : Nat) : w.frozen? ⟨g, o, none⟩ = false := by
  subst hn; exact World.ownsRow.frozenAt h o
theorem Arow.there {w : World} {base g cap n : Nat} {xs : List Ask} (h : Arow w base (.slice (some ⟨g, 0, none⟩) n cap) xs) (hn : n = xs.length) {i : Nat} (hi : i < xs.length) : w.there g (i * 10) 10 := fun j hj => by
  subst hn
  obtain ⟨a, ha⟩ : ∃ a, xs[i]? = some a := ⟨_, List.getElem?_eq_getElem hi⟩
  refine ⟨?_, World.ownsRow.frozenAt h _⟩
  rw [h.cells rfl ha j hj]
  have : j < a.cells.size := hj
  rw [Array.getElem?_eq_getElem this]; rfl
theorem Arow.set {w : World} {base g cap n : Nat} {xs : List Ask} (h : Arow w base (.slice (some ⟨g, 0, none⟩) n cap) xs) (hn : n = xs.length) {k : Nat} (hk : k < xs.length) (y : Ask) : Arow (w.setCells g (k * 10) y.cells.toList) base (.slice (some ⟨g, 0, none⟩) n cap) (xs.set k y) ∧ w.grownBy (w.setCells g (k * 10) y.cells.toList) (some g) := by
  subst hn
  obtain ⟨h1, h2⟩ := owns_over y.cells.toList w (k * 10) _ h
  rw [over_flat (cells := Ask.cells) (sz := 10) (fun _ => rfl) (by decide) xs hk y] at h1
  unfold Arow
  rw [List.length_set]
  exact ⟨h1, h2⟩
theorem hi84s : (Try.prog.info? 84).map (·.size) = some 10 := by kernel_rfl
theorem news_take {w : World} {base g cap n : Nat} {xs : List Ask} (h : Arow w base (.slice (some ⟨g, 0, none⟩) n cap) xs) {k : Nat} : ∀ j u, (flatv Ask.cells (xs.take k))[j]? = some u → w.cell? ((⟨g, 0, none⟩ : Addr).add j) = some u := fun j u hu => by
  refine World.ownsRow.cells h rfl j u ?_
  rw [← List.take_append_drop k xs, flatv_append]
  rw [List.getElem?_append_left (List.getElem?_eq_some_iff.1 hu).1]
  exact hu
theorem news_drop {w : World} {base g cap n : Nat} {xs : List Ask} (h : Arow w base (.slice (some ⟨g, 0, none⟩) n cap) xs) {k : Nat} (hk : k ≤ xs.length) : ∀ j u, (flatv Ask.cells (xs.drop k))[j]? = some u → w.cell? ((⟨g, k * 10, none⟩ : Addr).add j) = some u := fun j u hu => by
  have := World.ownsRow.cells h rfl (k * 10 + j) u (by
    rw [← List.take_append_drop k xs, flatv_append]
    have hl := flatv_len (cells := Ask.cells) (sz := 10) (fun _ => rfl) (xs.take k)
    rw [List.length_take, Nat.min_eq_left hk] at hl
    rw [List.getElem?_append_right (by omega), hl, show k * 10 + j - k * 10 = j by omega]
    exact hu)
  rw [Addr.add_lit] at this
  rw [Addr.add_mid]
  simpa using this
theorem aflat_one (xs : List Ask) : ∀ u ∈ flatv Ask.cells xs, u.oneCell' = true := by
  intro u hu
  obtain ⟨a, _, h⟩ := List.mem_flatMap.1 hu
  exact ask_one a u h
theorem aflat_len (xs : List Ask) : (flatv Ask.cells xs).length = xs.length * 10 := flatv_len (cells := Ask.cells) (sz := 10) (fun _ => rfl) xs
theorem Arow.le {w : World} {base g cap n : Nat} {xs : List Ask} (h : Arow w base (.slice (some ⟨g, 0, none⟩) n cap) xs) : n ≤ cap := by
  rcases h.2 with ⟨h', _⟩ | ⟨g', cap', cur, h', _, _, hnc, _⟩
  · simp at h'
  · simp only [Value.slice.injEq, Option.some.injEq, Addr.mk.injEq, and_true] at h'
    obtain ⟨rfl, rfl, rfl⟩ := h'
    exact hnc
theorem owns_below' {w w' : World} {base g cap n : Nat} {xs : List Ask} (h : Arow w base (.slice (some ⟨g, 0, none⟩) n cap) xs) (hn : n = xs.length) (hb : Below w.heap.size w w') : Arow w' base (.slice (some ⟨g, 0, none⟩) n cap) xs := by
  subst hn; exact owns_below h hb (Nat.le_refl _)
structure MidS (w : World) (x : Scene) (l : Later) (g cap n : Nat) (A : List Ask) (bx : Nat) (a0 : Ask) (av : Value) (wx : World) : Prop where
  eq : av = .slice (some ⟨g, 0, none⟩) n cap
  row : Arow wx (w.heap.size + 2) (.slice (some ⟨g, 0, none⟩) n cap) A
  sb : SB w x l wx
  box : wx.heap[bx]? = some a0.obj
def MixedPost (l : Later) (A0 : List Ask) (w : World) (e : Ending) (w' : World) : Prop :=
  ∃ sv A B M c, e = .returned (.tuple #[sv, .int .i64 A.length]) ∧ Arow w' w.heap.size sv (A ++ c :: B) ∧ c.start = -1 ∧ c.go = none ∧ c.gn = 0 ∧ c.gc = 0 ∧ c.gzs = [] ∧ c.po = l.comes.po ∧ c.pn = l.comes.pn ∧ c.pc = l.comes.pc ∧ c.pzs = l.comes.pzs ∧ (A ++ B ++ M).Perm A0 ∧ (A ++ B).length ≤ 10 ∧ Below w.heap.size w w'

set_option maxRecDepth 100000 in
set_option maxHeartbeats 6400000 in
theorem mixed_any (x : Scene) (l : Later) (so : Option Addr) (sc : Nat) (slots : List Slot) (w : World) (hx : x.ok w) (hl : l.ok w) (hs : SlotsAt w so x.an slots) (h10 : x.an ≤ 10) :
    Calls Try.prog 52 #[x.val, l.val, .slice so x.an sc] w (MixedPost l (againL x.asks slots) w) := by
  obtain ⟨i84, hi, hz, hz1, hz2⟩ := info_parts info84
  have hS0 := SB.new hx hl
  have hal := hx.asks.len
  have hsl := hs.len
  have hlen : (againL x.asks slots).length = x.an := by rw [again_len _ _ (by omega)]; exact hal
  have hB0 : Below w.heap.size w ((w.alloc x.obj).alloc l.obj) := hS0.low
  have hag := again_any x.ao so x.an x.ac sc x.asks slots ((w.alloc x.obj).alloc l.obj) hS0.xok.asks (hs.below hB0 (fun _ h => h.below hB0)) (by omega)
  obtain ⟨c0, c1, c2, c3, c4⟩ := scene_cells hS0.xb
  have lx := blk_lt hS0.xb
  replace hx := Lib.hid hx; replace hl := Lib.hid hl; replace hS0 := Lib.hid hS0; replace hal := Lib.hid hal; replace hsl := Lib.hid hsl; replace hag := Lib.hid hag; replace hs := Lib.hid hs; replace hlen := Lib.hid hlen; replace hB0 := Lib.hid hB0
  clear c0 c1 c2 c3
  go_enter Try.func52, Try.ntmps52
  go_wp2_with fail
  refine hag.out.mono ?_
  rintro e w1 ⟨sv, rfl, hown, hnil, hb1⟩
  have hS1 := hS0.out.below hb1
  have hA1 : Arow w1 (w.heap.size + 2) sv (againL x.asks slots) := by
    unfold Arow
    rw [hlen.out, ← hal.out]
    exact hown.mono (by simp)
  clear c4 lx
  obtain ⟨y0, y1, y2, y3, y4, y5, y6, y7, y8, y9, y10, y11, y12, y13, y14⟩ := later_cells hS1.lb
  have ly := blk_lt hS1.lb
  replace hb1 := Lib.hid hb1; replace hS1 := Lib.hid hS1; replace hA1 := Lib.hid hA1; replace hown := Lib.hid hown
  by_cases q0 : x.an = 0
  · have hsv := hnil (by rw [hal.out]; exact q0)
    subst hsv
    replace hnil := Lib.hid hnil
    have hA0 : againL x.asks slots = [] := List.length_eq_zero_iff.1 (by rw [hlen.out]; exact q0)
    replace q0 := Lib.hid q0; replace hA0 := Lib.hid hA0
    go_upto_if 22 with fail
    go_cut [8] (fun av wx => MixA w x l (againL x.asks slots) av wx)
    case first =>
      go_wp2
      go_meet
      case rel => exact ⟨⟨[], [], hS1.out, World.ownsRow_nil _ _ _ _, Nat.zero_le _, by rw [hA0.out]; exact List.Perm.nil⟩⟩
    case rest =>
      clear y0 y1 y2 y3 y4 y5 y6 y7 y8 y9 y10 y11 y12 y13 y14 ly
      obtain ⟨A, M, hS, hA, hAl, hper⟩ := hcut.ex
      clear hcut
      have lyc := blk_lt hS.lb
      obtain ⟨y0, y1, y2, y3, y4, y5, y6, y7, y8, y9, y10, y11, y12, y13, y14⟩ := later_cells hS.lb
      clear y0 y1 y2 y14
      obtain ⟨c, hc⟩ : ∃ c : Ask, c = { l.comes with start := -1, go := none, gn := 0, gc := 0, gzs := [] } := ⟨_, rfl⟩
      have hG := and1023 l.at_
      obtain ⟨G3, hGe3⟩ : ∃ G3, G3 = l.at_ % 1024 := ⟨_, rfl⟩
      rw [← hGe3] at hG
      have hG30 : 0 ≤ G3 := by omega
      have hG31 : G3 ≤ 1023 := by omega
      have ec : c.cells = #[.int .i64 l.comes.id, .slice l.comes.po l.comes.pn l.comes.pc, .int .i64 l.comes.nodes, .int .i64 l.comes.v.a, .int .i64 l.comes.v.b, .int .i64 l.comes.v.c, .int .i64 l.comes.v.d, .int .i64 l.comes.ticks, .int .i64 (-1), .slice none 0 0] := by rw [hc]
      obtain ⟨WB, hWB⟩ : ∃ WB, WB = wc.alloc (.cells c.cells 84 (0, 0)) := ⟨_, rfl⟩
      have hbB : Below wc.heap.size wc WB := by rw [hWB]; exact (Below.refl _ _).alloc (Nat.le_refl _) _
      have hxB : WB.heap[wc.heap.size]? = some c.obj := by rw [hWB]; exact blk_new _ _
      have hzB : WB.heap.size = wc.heap.size + 1 := by rw [hWB]; simp
      have hSB := hS.below hbB
      rw [ec] at hWB
      have hbasB : w.heap.size + 2 ≤ WB.heap.size := by omega
      have hcone := ask_one c
      rcases Joins.ownsRow_forms hA with ⟨rfl, h0⟩ | ⟨gg, cp, rfl⟩
      · have hA0 : A = [] := List.length_eq_zero_iff.1 h0
        replace hGe3 := Lib.hid hGe3; replace hA0 := Lib.hid hA0; replace h0 := Lib.hid h0; replace hA := Lib.hid hA; replace hS := Lib.hid hS; replace hper := Lib.hid hper; replace hc := Lib.hid hc; replace hbB := Lib.hid hbB; replace hxB := Lib.hid hxB; replace hzB := Lib.hid hzB; replace hSB := Lib.hid hSB; replace hbasB := Lib.hid hbasB; replace hcone := Lib.hid hcone; replace ec := Lib.hid ec
        have hWB' := Lib.hid hWB
        clear hWB
        go_upto_region 17 with fail
        rw [← hWB'.out]
        clear y3 y4 y5 y6 y7 y8 y9 y10 y11 y12 y13 hG
        obtain ⟨z0, z1, z2, z3, z4, z5, z6, z7, z8, z9⟩ := ask_cells hxB.out
        have lz := blk_lt hxB.out
        have hnil0 : WB.ownsRow (w.heap.size + 2) 84 10 (.slice none 0 0) 0 [] := World.ownsRow_nil _ _ _ _
        have hnil1 := hnil0.alloc (.cells c.cells 84 (0, 0))
        have hnews := cells_new WB c.cells 84
        have h63 := maxLen_ge (n := 0) (by omega)
        have hby : (0 + 1) * 112 ≤ 140737488355328 := by omega
        have hbas1 : w.heap.size + 2 ≤ (WB.alloc (.cells c.cells 84 (0, 0))).heap.size := by rw [World.size_alloc]; have := hbasB.out; omega
        replace hnil0 := Lib.hid hnil0; replace hnil1 := Lib.hid hnil1; replace hnews := Lib.hid hnews; replace h63 := Lib.hid h63; replace hby := Lib.hid hby; replace hbas1 := Lib.hid hbas1
        go_upto_region 19 with (at_builtin; refine wpList_append_own_none rfl _ _ 75 rfl (w.heap.size + 2) 84 i84 10 Try.underlying75 hi (.slice none 0 0) 0 [] rfl hnil0.out rfl ?_)
        go_upto_region 20 with (at_builtin; refine wpList_append_own _ rfl _ _ 75 rfl (w.heap.size + 2) 84 i84 _ 10 112 Try.underlying75 hi hz hz1 hz2 rfl ten_pos (.slice none 0 0) 0 _ rfl hnil1.out ⟨WB.heap.size, 0, none⟩ 1 1 c.cells.toList rfl rfl hnews.out hcone.out h63.out hby.out hbas1.out ?_; intro v1 w9 hown9 hgrow _; replace hown9 := Lib.hid hown9; replace hgrow := Lib.hid hgrow)
        have hb9 : Below WB.heap.size WB w9 := ((Below.refl _ _).alloc (Nat.le_refl _) _).grown hgrow.out (by rw [World.size_alloc]; omega) (fun k e => by cases e)
        have hlow9 : Below w.heap.size w w9 := hSB.out.low.trans (hb9.mono hSB.out.low.size)
        have hR : Arow w9 w.heap.size v1 ([] ++ c :: []) := by
          have h := hown9.out
          rw [List.nil_append] at h
          unfold Arow
          rw [show flatv Ask.cells ([] ++ c :: []) = c.cells.toList from flatv_one _ _]
          exact h.mono (by omega)
        replace hb9 := Lib.hid hb9; replace hlow9 := Lib.hid hlow9; replace hR := Lib.hid hR
        go_wp2_with (at_builtin; refine wpList_append_own_none rfl _ _ 75 rfl (w.heap.size + 2) 84 i84 10 Try.underlying75 hi v1 1 _ rfl hown9.out rfl ?_)
        go_ret2
        exact ⟨v1, [], [], M, c, rfl, hR.out, by rw [hc.out], by rw [hc.out], by rw [hc.out], by rw [hc.out], by rw [hc.out], by rw [hc.out], by rw [hc.out], by rw [hc.out], by rw [hc.out], by have h := hper.out; rw [hA0.out] at h; exact h, by simp, hlow9.out⟩
      · obtain ⟨n, hn⟩ : ∃ n, n = A.length := ⟨_, rfl⟩
        have hA' : Arow wc (w.heap.size + 2) (.slice (some ⟨gg, 0, none⟩) n cp) A := by rw [hn]; exact hA
        have hAB : Arow WB (w.heap.size + 2) (.slice (some ⟨gg, 0, none⟩) n cp) A := owns_below' hA' hn hbB
        have hn10 : n ≤ 10 := by omega
        obtain ⟨T, hT⟩ : ∃ T : Nat, G3 % ((n : Int) + 1) = T := ⟨(G3 % ((n : Int) + 1)).toNat, by have := Int.emod_nonneg G3 (b := (n : Int) + 1) (by omega); omega⟩
        have hTl : T ≤ n := by have := Int.emod_lt_of_pos G3 (b := (n : Int) + 1) (by omega); omega
        have hcpl := hA'.le
        have hggl := (hAB.lt gg rfl).2
        rw [← hn]
        replace hGe3 := Lib.hid hGe3; replace hA := Lib.hid hA; replace hA' := Lib.hid hA'; replace hAB := Lib.hid hAB; replace hS := Lib.hid hS; replace hper := Lib.hid hper; replace hc := Lib.hid hc; replace hbB := Lib.hid hbB; replace hxB := Lib.hid hxB; replace hSB := Lib.hid hSB; replace hcone := Lib.hid hcone; replace ec := Lib.hid ec; replace hn := Lib.hid hn
        have hzB' := Lib.hid hzB
        have hbasB' := Lib.hid hbasB
        clear hzB hbasB
        have hWB' := Lib.hid hWB
        clear hWB
        go_upto_region 17 with fail
        try rw [hT]
        rw [← hWB'.out]
        clear y3 y4 y5 y6 y7 y8 y9 y10 y11 y12 y13 hG hT
        obtain ⟨z0, z1, z2, z3, z4, z5, z6, z7, z8, z9⟩ := ask_cells hxB.out
        have lz := blk_lt hxB.out
        have hs1 : ∀ w, (Instr.slice 75 (.slice (some ⟨gg, 0, none⟩) n cp) none (some (.int .i64 (T : Int))) none).run Try.prog w = .ok (.slice (some ⟨gg, 0, none⟩) T cp) w :=
          fun w => slice_upto_g Try.underlying75 hi ⟨gg, 0, none⟩ n cp T _ rfl (by omega) w
        obtain ⟨ta, hs2, hta⟩ := slice_from (P := Try.prog) Try.underlying75 hi gg n cp T (T : Int) rfl hTl
        have hnil0 : WB.ownsRow WB.heap.size 84 10 (.slice none 0 0) 0 [] := World.ownsRow_nil _ _ _ _
        have hn1 := news_take hAB.out (k := T)
        have hl1 : (flatv Ask.cells (A.take T)).length = T * 10 := by rw [aflat_len, List.length_take, Nat.min_eq_left (by have := hn.out; omega)]
        have ho1 := aflat_one (A.take T)
        have h63 : 0 + T ≤ maxLen := by have := maxLen_ge (n := T) (by omega); omega
        have hby : (0 + T) * 112 ≤ 140737488355328 := by omega
        replace hs2 := Lib.hid hs2; replace hta := Lib.hid hta; replace hnil0 := Lib.hid hnil0; replace hn1 := Lib.hid hn1; replace hl1 := Lib.hid hl1; replace ho1 := Lib.hid ho1; replace h63 := Lib.hid h63; replace hby := Lib.hid hby
        go_upto_region 19 with (at_builtin; refine wpList_append_own _ rfl _ _ 75 rfl WB.heap.size 84 i84 _ 10 112 Try.underlying75 hi hz hz1 hz2 rfl ten_pos (.slice none 0 0) 0 _ rfl hnil0.out ⟨gg, 0, none⟩ T cp (flatv Ask.cells (A.take T)) rfl hl1.out hn1.out ho1.out h63.out hby.out (Nat.le_refl _) ?_; intro v1 w9 hown9 hgrow _; replace hown9 := Lib.hid hown9; replace hgrow := Lib.hid hgrow)
        clear hs1
        have hb9 : Below WB.heap.size WB w9 := (Below.refl _ _).grown hgrow.out (Nat.le_refl _) (fun k e => by cases e)
        have hown9' : w9.ownsRow WB.heap.size 84 10 v1 T (flatv Ask.cells (A.take T)) := by have h := hown9.out; rwa [Nat.zero_add, List.nil_append] at h
        have hx9 := blk_below hb9 hxB.out (blk_lt hxB.out)
        have hownA := hown9'.alloc (.cells c.cells 84 (0, 0))
        have hnews := cells_new w9 c.cells 84
        have h63 := maxLen_ge (n := T) (by omega)
        have hby : (T + 1) * 112 ≤ 140737488355328 := by omega
        have hbas9 : WB.heap.size ≤ (w9.alloc (.cells c.cells 84 (0, 0))).heap.size := by rw [World.size_alloc]; have := hb9.size; omega
        have hlt9 := hown9'.lt
        clear z0 z1 z2 z3 z4 z5 z6 z7 z8 z9 lz
        obtain ⟨z0, z1, z2, z3, z4, z5, z6, z7, z8, z9⟩ := ask_cells hx9
        have lz := blk_lt hx9
        replace hb9 := Lib.hid hb9; replace hown9' := Lib.hid hown9'; replace hx9 := Lib.hid hx9; replace hownA := Lib.hid hownA; replace hnews := Lib.hid hnews; replace h63 := Lib.hid h63; replace hby := Lib.hid hby; replace hbas9 := Lib.hid hbas9; replace hlt9 := Lib.hid hlt9
        go_upto_region 20 with (at_builtin; refine wpList_append_own _ rfl _ _ 75 rfl WB.heap.size 84 i84 _ 10 112 Try.underlying75 hi hz hz1 hz2 rfl ten_pos v1 T _ rfl hownA.out ⟨w9.heap.size, 0, none⟩ 1 1 c.cells.toList rfl rfl hnews.out hcone.out h63.out hby.out hbas9.out ?_; intro v2 w10 hown10 hgrow2 _; replace hown10 := Lib.hid hown10; replace hgrow2 := Lib.hid hgrow2)
        clear z0 z1 z2 z3 z4 z5 z6 z7 z8 z9 lz
        have hb10 : Below WB.heap.size WB w10 := (hb9.out.alloc hb9.out.size _).grown hgrow2.out hbas9.out (fun k hk => (hlt9.out k hk).1)
        have hA10 := owns_below' hAB.out hn.out hb10
        have hl2 : (flatv Ask.cells (A.drop T)).length = (n - T) * 10 := by rw [aflat_len, List.length_drop, hn.out]
        have hn2 : ∀ j u, (flatv Ask.cells (A.drop T))[j]? = some u → w10.cell? (ta.add j) = some u := fun j u hu => by
          by_cases hcc : T < cp
          · rw [hta.out hcc, hz1]
            exact news_drop hA10 (by rw [← hn.out]; exact hTl) j u hu
          · have := (List.getElem?_eq_some_iff.1 hu).1
            rw [hl2] at this
            have h2 : n - T = 0 := by omega
            rw [h2] at this
            omega
        have ho2 := aflat_one (A.drop T)
        have h63c : T + 1 + (n - T) ≤ maxLen := by have := maxLen_ge (n := n) (by omega); omega
        have hbyc : (T + 1 + (n - T)) * 112 ≤ 140737488355328 := by omega
        have hlt10 := hown10.out.lt
        have hbas10 := hb10.size
        replace hb10 := Lib.hid hb10; replace hA10 := Lib.hid hA10; replace hl2 := Lib.hid hl2; replace hn2 := Lib.hid hn2; replace ho2 := Lib.hid ho2; replace h63c := Lib.hid h63c; replace hbyc := Lib.hid hbyc; replace hlt10 := Lib.hid hlt10; replace hbas10 := Lib.hid hbas10
        have hs2' := hs2.out
        go_wp2_with (at_builtin; refine wpList_append_own _ rfl _ _ 75 rfl WB.heap.size 84 i84 _ 10 112 Try.underlying75 hi hz hz1 hz2 rfl ten_pos v2 (T + 1) _ rfl hown10.out ta (n - T) (cp - T) (flatv Ask.cells (A.drop T)) rfl hl2.out hn2.out ho2.out h63c.out hbyc.out hbas10.out ?_; intro v3 w11 hown11 hgrow3 _; replace hown11 := Lib.hid hown11; replace hgrow3 := Lib.hid hgrow3)
        have hb11 : Below WB.heap.size WB w11 := hb10.out.grown hgrow3.out hbas10.out (fun k hk => (hlt10.out k hk).1)
        have hlow11 : Below w.heap.size w w11 := hSB.out.low.trans (hb11.mono hSB.out.low.size)
        have hlT : (A.take T).length = T := by rw [List.length_take, Nat.min_eq_left (by rw [← hn.out]; exact hTl)]
        have hR : Arow w11 w.heap.size v3 (A.take T ++ c :: A.drop T) := by
          have h := hown11.out
          have e1 : (A.take T ++ c :: A.drop T).length = T + 1 + (n - T) := by rw [List.length_append, hlT, List.length_cons, List.length_drop, hn.out]; omega
          unfold Arow
          rw [e1, flatv_append, show flatv Ask.cells (c :: A.drop T) = c.cells.toList ++ flatv Ask.cells (A.drop T) from by simp [flatv], ← List.append_assoc]
          exact h.mono (by have := hbasB'.out; omega)
        have hpp : (A.take T ++ A.drop T ++ M).Perm (againL x.asks slots) := by rw [List.take_append_drop]; exact hper.out
        replace hb11 := Lib.hid hb11; replace hlow11 := Lib.hid hlow11; replace hR := Lib.hid hR; replace hpp := Lib.hid hpp; replace hlT := Lib.hid hlT
        go_ret2
        exact ⟨v3, A.take T, A.drop T, M, c, by rw [hlT.out]; rfl, hR.out, by rw [hc.out], by rw [hc.out], by rw [hc.out], by rw [hc.out], by rw [hc.out], by rw [hc.out], by rw [hc.out], by rw [hc.out], by rw [hc.out], hpp.out, by rw [List.take_append_drop, ← hn.out]; exact hn10, hlow11.out⟩
  · have hA1' := hA1.out
    obtain ⟨g, cap, rfl⟩ := Joins.ownsRow_form hA1' (by rw [hlen.out]; omega)
    clear hnil
    have d0 : decide (0 < (x.an : Int)) = true := by simp; omega
    have d0' : decide (0 < x.an) = true := by simp; omega
    have hn0 : 0 < x.an := by omega
    have hn0' : (0 : Int) < x.an := by omega
    rw [hlen.out]
    replace hA1' := Lib.hid hA1'
    go_upto_if 22 with fail
    go_cut [8] (fun av wx => MixA w x l (againL x.asks slots) av wx)
    case first =>
      have hG := and1023 l.turn
      obtain ⟨G, hGe⟩ : ∃ G, G = l.turn % 1024 := ⟨_, rfl⟩
      rw [← hGe] at hG
      have hG0 : 0 ≤ G := by omega
      have hG1 : G ≤ 1023 := by omega
      obtain ⟨K, hK⟩ : ∃ K : Nat, G % (x.an : Int) = K := ⟨(G % (x.an : Int)).toNat, by have := Int.emod_nonneg G (b := x.an) (by omega); omega⟩
      have hKl : K < x.an := by have := Int.emod_lt_of_pos G (b := x.an) (by omega); omega
      obtain ⟨a0, ha0⟩ : ∃ a, (againL x.asks slots)[0]? = some a := ⟨_, List.getElem?_eq_getElem (by rw [hlen.out]; omega)⟩
      obtain ⟨aK, haK⟩ : ∃ a, (againL x.asks slots)[K]? = some a := ⟨_, List.getElem?_eq_getElem (by rw [hlen.out]; omega)⟩
      have hA1n : Arow w1 (w.heap.size + 2) (.slice (some ⟨g, 0, none⟩) x.an cap) (againL x.asks slots) := by have h := hA1'.out; rwa [hlen.out] at h
      have f0 := hA1n.cells hlen.out.symm ha0
      have fK := hA1n.cells hlen.out.symm haK
      have e0 := f0 0 (by omega); have e1 := f0 1 (by omega); have e2 := f0 2 (by omega); have e3 := f0 3 (by omega); have e4 := f0 4 (by omega); have e5 := f0 5 (by omega); have e6 := f0 6 (by omega); have e7 := f0 7 (by omega); have e8 := f0 8 (by omega); have e9 := f0 9 (by omega)
      have k0 := fK 0 (by omega); have k1 := fK 1 (by omega); have k2 := fK 2 (by omega); have k3 := fK 3 (by omega); have k4 := fK 4 (by omega); have k5 := fK 5 (by omega); have k6 := fK 6 (by omega); have k7 := fK 7 (by omega); have k8 := fK 8 (by omega); have k9 := fK 9 (by omega)
      simp at e0 e1 e2 e3 e4 e5 e6 e7 e8 e9 k0 k1 k2 k3 k4 k5 k6 k7 k8 k9
      have hgl := (hA1n.lt g rfl).2
      have hgb := (hA1n.lt g rfl).1
      clear f0 fK
      have hKi : (K : Int) < x.an := by omega
      have hKi0 : (0 : Int) ≤ (K : Int) := by omega
      obtain ⟨W2, hW2⟩ : ∃ W2, W2 = w1.alloc (.cells a0.cells 84 (0, 0)) := ⟨_, rfl⟩
      have hb2 : Below w1.heap.size w1 W2 := by rw [hW2]; exact (Below.refl _ _).alloc (Nat.le_refl _) _
      have hA2 : Arow W2 (w.heap.size + 2) (.slice (some ⟨g, 0, none⟩) x.an cap) (againL x.asks slots) := by rw [hW2]; exact World.ownsRow.alloc hA1n _
      have hx2 : W2.heap[w1.heap.size]? = some a0.obj := by rw [hW2]; exact blk_new _ _
      have hS2 := hS1.out.below hb2
      have hl3 : x.an = ((againL x.asks slots).set 0 aK).length := by rw [List.length_set]; exact hlen.out.symm
      have hper : (((againL x.asks slots).set 0 aK).set K a0).Perm (againL x.asks slots) := by
        have h := @List.set_set_perm _ (againL x.asks slots) 0 K (by rw [hlen.out]; omega) (by rw [hlen.out]; exact hKl)
        have e1 : (againL x.asks slots)[K]'(by rw [hlen.out]; exact hKl) = aK := (List.getElem?_eq_some_iff.1 haK).2
        have e2 : (againL x.asks slots)[0]'(by rw [hlen.out]; omega) = a0 := (List.getElem?_eq_some_iff.1 ha0).2
        rw [e1, e2] at h
        exact h
      replace hGe := Lib.hid hGe; replace ha0 := Lib.hid ha0; replace haK := Lib.hid haK; replace hA1n := Lib.hid hA1n; replace hA2 := Lib.hid hA2; replace hx2 := Lib.hid hx2; replace hS2 := Lib.hid hS2; replace hl3 := Lib.hid hl3; replace hper := Lib.hid hper; replace hgb := Lib.hid hgb; replace hb2 := Lib.hid hb2
      have hW2' := Lib.hid hW2
      clear hW2
      go_upto_region 5 with fail
      try rw [hK]
      rw [← hW2'.out]
      clear hG hK e0 e1 e2 e3 e4 e5 e6 e7 e8 e9 k0 k1 k2 k3 k4 k5 k6 k7 k8 k9
      clear y0 y1 y2 y3 y4 y5 y6 y7 y8 y9 y10 y11 y12 y13 y14
      have fK := hA2.out.cells hlen.out.symm haK.out
      have k0 := fK 0 (by omega); have k1 := fK 1 (by omega); have k2 := fK 2 (by omega); have k3 := fK 3 (by omega); have k4 := fK 4 (by omega); have k5 := fK 5 (by omega); have k6 := fK 6 (by omega); have k7 := fK 7 (by omega); have k8 := fK 8 (by omega); have k9 := fK 9 (by omega)
      simp at k0 k1 k2 k3 k4 k5 k6 k7 k8 k9
      have f0 := hA2.out.cells hlen.out.symm ha0.out
      have e0 := f0 0 (by omega); have e1 := f0 1 (by omega); have e2 := f0 2 (by omega); have e3 := f0 3 (by omega); have e4 := f0 4 (by omega); have e5 := f0 5 (by omega); have e6 := f0 6 (by omega); have e7 := f0 7 (by omega); have e8 := f0 8 (by omega); have e9 := f0 9 (by omega)
      simp at e0 e1 e2 e3 e4 e5 e6 e7 e8 e9
      clear fK f0
      have hfz : ∀ o, W2.frozen? ⟨g, o, none⟩ = false := fun o => hA2.out.frozen hlen.out.symm o
      have hgl2 := (hA2.out.lt g rfl).2
      go_cut [8] (fun av wx => MidS w x l g cap x.an ((againL x.asks slots).set 0 aK) w1.heap.size a0 av wx)
      case first =>
        have hA3 := (hA2.out.set hlen.out.symm (k := 0) (by rw [hlen.out]; omega) aK).1
        have hg3 := (hA2.out.set hlen.out.symm (k := 0) (by rw [hlen.out]; omega) aK).2
        have hS3 := hS2.out.grown hx.out hl.out hg3 (fun k e => by cases e; exact hgb.out) (Nat.le_refl _) (by have := blk_lt hS2.out.lb; omega)
        have hx3 := (hg3.block _ (blk_lt hx2.out) (fun e => by cases e; omega)).trans hx2.out
        replace hA3 := Lib.hid hA3; replace hg3 := Lib.hid hg3; replace hS3 := Lib.hid hS3; replace hx3 := Lib.hid hx3
        go_wp2
        go_meet
        case rel => exact ⟨rfl, hA3.out, hS3.out, hx3.out⟩
      case rest =>
        obtain ⟨hav, hA3, hS3, hx3⟩ := hcut
        clear hfz e0 e1 e2 e3 e4 e5 e6 e7 e8 e9 k0 k1 k2 k3 k4 k5 k6 k7 k8 k9
        obtain ⟨b3, hb3⟩ : ∃ b, ((againL x.asks slots).set 0 aK)[K]? = some b := ⟨_, List.getElem?_eq_getElem (by rw [← hl3.out]; exact hKl)⟩
        have fK := hA3.cells hl3.out hb3
        have k0 := fK 0 (by omega); have k1 := fK 1 (by omega); have k2 := fK 2 (by omega); have k3 := fK 3 (by omega); have k4 := fK 4 (by omega); have k5 := fK 5 (by omega); have k6 := fK 6 (by omega); have k7 := fK 7 (by omega); have k8 := fK 8 (by omega); have k9 := fK 9 (by omega)
        simp at k0 k1 k2 k3 k4 k5 k6 k7 k8 k9
        obtain ⟨z0, z1, z2, z3, z4, z5, z6, z7, z8, z9⟩ := ask_cells hx3
        have lz := blk_lt hx3
        have hfz : ∀ o, wc.frozen? ⟨g, o, none⟩ = false := fun o => hA3.frozen hl3.out o
        have hgl3 := (hA3.lt g rfl).2
        have hA4 := (hA3.set hl3.out (k := K) (by rw [← hl3.out]; exact hKl) a0).1
        have hg4 := (hA3.set hl3.out (k := K) (by rw [← hl3.out]; exact hKl) a0).2
        have hS4 := hS3.grown hx.out hl.out hg4 (fun k e => by cases e; exact hgb.out) (Nat.le_refl _) (by have := blk_lt hS3.lb; omega)
        obtain ⟨y0, y1, y2, y3, y4, y5, y6, y7, y8, y9, y10, y11, y12, y13, y14⟩ := later_cells hS3.lb
        have ly3 := blk_lt hS3.lb
        have hgne : g ≠ w.heap.size + 1 := by have := hgb.out; omega
        clear fK hb3
        subst hav
        replace hA3 := Lib.hid hA3; replace hS3 := Lib.hid hS3; replace hx3 := Lib.hid hx3; replace hA4 := Lib.hid hA4; replace hg4 := Lib.hid hg4; replace hS4 := Lib.hid hS4
        go_upto_region 6 with fail
        go_cut [8] (fun av wx => MidS w x l g cap x.an (((againL x.asks slots).set 0 aK).set K a0) w1.heap.size a0 av wx)
        case first =>
          have hx4 := (hg4.out.block _ (blk_lt hx3.out) (fun e => by cases e; omega)).trans hx3.out
          replace hx4 := Lib.hid hx4
          go_wp2
          go_meet
          case rel => exact ⟨rfl, hA4.out, hS4.out, hx4.out⟩
        case rest =>
          obtain ⟨hav, hA5, hS5, _⟩ := hcut
          clear hfz z0 z1 z2 z3 z4 z5 z6 z7 z8 z9 k0 k1 k2 k3 k4 k5 k6 k7 k8 k9 y0 y1 y2 y3 y4 y5 y6 y7 y8 y9 y10 y11 y12 y13 y14 ly3 lz
          subst hav
          obtain ⟨A', hA'⟩ : ∃ A', A' = ((againL x.asks slots).set 0 aK).set K a0 := ⟨_, rfl⟩
          rw [← hA'] at hA5
          have hl5 : A'.length = x.an := by rw [hA', List.length_set]; exact hl3.out.symm
          have hp5 : A'.Perm (againL x.asks slots) := by rw [hA']; exact hper.out
          have y2 := (later_cells hS5.lb).2.2.1
          have ly5 := blk_lt hS5.lb
          have hcap := hA5.le
          have hgl5 := (hA5.lt g rfl).2
          have hG := and1023 l.goes
          obtain ⟨G2, hGe2⟩ : ∃ G2, G2 = l.goes % 1024 := ⟨_, rfl⟩
          rw [← hGe2] at hG
          have hG20 : 0 ≤ G2 := by omega
          have hG21 : G2 ≤ 1023 := by omega
          obtain ⟨J, hJ⟩ : ∃ J : Nat, G2 % ((x.an : Int) + 1) = J := ⟨(G2 % ((x.an : Int) + 1)).toNat, by have := Int.emod_nonneg G2 (b := (x.an : Int) + 1) (by omega); omega⟩
          have hJl : J ≤ x.an := by have := Int.emod_lt_of_pos G2 (b := (x.an : Int) + 1) (by omega); omega
          replace hGe2 := Lib.hid hGe2; replace hA' := Lib.hid hA'; replace hA5 := Lib.hid hA5; replace hS5 := Lib.hid hS5; replace hl5 := Lib.hid hl5; replace hp5 := Lib.hid hp5
          go_upto_region 8 with fail
          try rw [hJ]
          clear hG hJ y2
          by_cases qJ : J < x.an
          rotate_left
          · have dJ : decide ((J : Int) < x.an) = false := by simp; omega
            have dJ2 : decide (J < x.an) = false := by simp; omega
            replace qJ := Lib.hid qJ
            go_wp2
            go_meet
            case rel => exact ⟨⟨A', [], hS5.out, by have h := hA5.out; rwa [← hl5.out] at h, by rw [hl5.out]; exact h10, by simpa using hp5.out⟩⟩
          have dJ : decide ((J : Int) < x.an) = true := by simp; omega
          have dJ2 : decide (J < x.an) = true := by simp; omega
          have hs1 : ∀ w, (Instr.slice 75 (.slice (some ⟨g, 0, none⟩) x.an cap) none (some (.int .i64 (J : Int))) none).run Try.prog w = .ok (.slice (some ⟨g, 0, none⟩) J cap) w :=
            fun w => slice_upto_g Try.underlying75 hi ⟨g, 0, none⟩ x.an cap J _ rfl (by omega) w
          obtain ⟨ta, hs2, hta⟩ := slice_from (P := Try.prog) Try.underlying75 hi g x.an cap (J + 1) ((J : Int) + 1) (by omega) (by omega)
          have hnil0 : wc.ownsRow (w.heap.size + 2) 84 10 (.slice none 0 0) 0 [] := World.ownsRow_nil _ _ _ _
          have hn1 := news_take hA5.out (k := J)
          have hl1 : (flatv Ask.cells (A'.take J)).length = J * 10 := by rw [aflat_len, List.length_take, Nat.min_eq_left (by rw [hl5.out]; omega)]
          have ho1 := aflat_one (A'.take J)
          have h63 : 0 + J ≤ maxLen := by have := maxLen_ge (n := J) (by omega); omega
          have hby : (0 + J) * 112 ≤ 140737488355328 := by omega
          have hbas : w.heap.size + 2 ≤ wc.heap.size := by omega
          replace qJ := Lib.hid qJ; replace hs2 := Lib.hid hs2; replace hta := Lib.hid hta; replace hnil0 := Lib.hid hnil0; replace hn1 := Lib.hid hn1; replace hl1 := Lib.hid hl1; replace ho1 := Lib.hid ho1; replace h63 := Lib.hid h63; replace hby := Lib.hid hby; replace hbas := Lib.hid hbas
          go_upto_region 11 with (at_builtin; refine wpList_append_own _ rfl _ _ 75 rfl (w.heap.size + 2) 84 i84 _ 10 112 Try.underlying75 hi hz hz1 hz2 rfl ten_pos (.slice none 0 0) 0 _ rfl hnil0.out ⟨g, 0, none⟩ J cap (flatv Ask.cells (A'.take J)) rfl hl1.out hn1.out ho1.out h63.out hby.out hbas.out ?_; intro v1 w9 hown9 hgrow _; replace hown9 := Lib.hid hown9; replace hgrow := Lib.hid hgrow)
          clear hs1
          have hb9 : Below wc.heap.size wc w9 := (Below.refl _ _).grown hgrow.out (Nat.le_refl _) (fun k e => by cases e)
          have hA9 : Arow w9 (w.heap.size + 2) (.slice (some ⟨g, 0, none⟩) x.an cap) A' := owns_below hA5.out hb9 (Nat.le_refl _)
          have hS9 := hS5.out.below hb9
          have hown9' : w9.ownsRow (w.heap.size + 2) 84 10 v1 J (flatv Ask.cells (A'.take J)) := by have h := hown9.out; rwa [Nat.zero_add, List.nil_append] at h
          have hl2 : (flatv Ask.cells (A'.drop (J + 1))).length = (x.an - (J + 1)) * 10 := by rw [aflat_len, List.length_drop, hl5.out]
          have hn2 : ∀ j u, (flatv Ask.cells (A'.drop (J + 1)))[j]? = some u → w9.cell? (ta.add j) = some u := fun j u hu => by
            by_cases hc : J + 1 < cap
            · rw [hta.out hc, hz1]
              exact news_drop hA9 (by rw [hl5.out]; have := qJ.out; omega) j u hu
            · have := (List.getElem?_eq_some_iff.1 hu).1
              rw [hl2] at this
              have h2 : x.an - (J + 1) = 0 := by omega
              rw [h2] at this
              omega
          have ho2 := aflat_one (A'.drop (J + 1))
          have h63b : J + (x.an - (J + 1)) ≤ maxLen := by have := maxLen_ge (n := x.an) (by omega); have := qJ.out; omega
          have hbyb : (J + (x.an - (J + 1))) * 112 ≤ 140737488355328 := by have := qJ.out; omega
          have hbasb : w.heap.size + 2 ≤ w9.heap.size := Nat.le_trans hbas.out hb9.size
          have hlt9 := hown9'.lt
          replace hb9 := Lib.hid hb9; replace hA9 := Lib.hid hA9; replace hS9 := Lib.hid hS9; replace hown9' := Lib.hid hown9'; replace hl2 := Lib.hid hl2; replace hn2 := Lib.hid hn2; replace ho2 := Lib.hid ho2; replace h63b := Lib.hid h63b; replace hbyb := Lib.hid hbyb; replace hbasb := Lib.hid hbasb; replace hlt9 := Lib.hid hlt9
          have hs2' := hs2.out
          go_wp2_with (at_builtin; refine wpList_append_own _ rfl _ _ 75 rfl (w.heap.size + 2) 84 i84 _ 10 112 Try.underlying75 hi hz hz1 hz2 rfl ten_pos v1 J _ rfl hown9'.out ta (x.an - (J + 1)) (cap - (J + 1)) (flatv Ask.cells (A'.drop (J + 1))) rfl hl2.out hn2.out ho2.out h63b.out hbyb.out hbasb.out ?_; intro v2 w10 hown10 hgrow2 _; replace hown10 := Lib.hid hown10; replace hgrow2 := Lib.hid hgrow2)
          have hS10 := hS9.out.grown hx.out hl.out hgrow2.out (fun k hk => (hlt9.out k hk).1) (Nat.le_refl _) hbasb.out
          obtain ⟨y, hy⟩ : ∃ y, A'[J]? = some y := ⟨_, List.getElem?_eq_getElem (by rw [hl5.out]; exact qJ.out)⟩
          have hlenA : (A'.take J ++ A'.drop (J + 1)).length = J + (x.an - (J + 1)) := by rw [List.length_append, List.length_take, List.length_drop, hl5.out, Nat.min_eq_left (by have := qJ.out; omega)]
          have hA10 : Arow w10 (w.heap.size + 2) v2 (A'.take J ++ A'.drop (J + 1)) := by
            unfold Arow
            rw [hlenA, flatv_append]
            exact hown10.out
          have hpp : (A'.take J ++ A'.drop (J + 1) ++ [y]).Perm (againL x.asks slots) := by
            refine List.Perm.trans ?_ hp5.out
            conv => rhs; rw [split_at hy]
            rw [List.append_assoc]
            exact List.Perm.append_left _ List.perm_append_comm
          replace hS10 := Lib.hid hS10; replace hy := Lib.hid hy; replace hlenA := Lib.hid hlenA; replace hA10 := Lib.hid hA10; replace hpp := Lib.hid hpp
          go_meet
          case rel => exact ⟨⟨_, [y], hS10.out, hA10.out, by rw [hlenA.out]; have := qJ.out; omega, hpp.out⟩⟩
    case rest =>
      clear y0 y1 y2 y3 y4 y5 y6 y7 y8 y9 y10 y11 y12 y13 y14 ly
      obtain ⟨A, M, hS, hA, hAl, hper⟩ := hcut.ex
      clear hcut
      have lyc := blk_lt hS.lb
      obtain ⟨y0, y1, y2, y3, y4, y5, y6, y7, y8, y9, y10, y11, y12, y13, y14⟩ := later_cells hS.lb
      clear y0 y1 y2 y14
      obtain ⟨c, hc⟩ : ∃ c : Ask, c = { l.comes with start := -1, go := none, gn := 0, gc := 0, gzs := [] } := ⟨_, rfl⟩
      have hG := and1023 l.at_
      obtain ⟨G3, hGe3⟩ : ∃ G3, G3 = l.at_ % 1024 := ⟨_, rfl⟩
      rw [← hGe3] at hG
      have hG30 : 0 ≤ G3 := by omega
      have hG31 : G3 ≤ 1023 := by omega
      have ec : c.cells = #[.int .i64 l.comes.id, .slice l.comes.po l.comes.pn l.comes.pc, .int .i64 l.comes.nodes, .int .i64 l.comes.v.a, .int .i64 l.comes.v.b, .int .i64 l.comes.v.c, .int .i64 l.comes.v.d, .int .i64 l.comes.ticks, .int .i64 (-1), .slice none 0 0] := by rw [hc]
      obtain ⟨WB, hWB⟩ : ∃ WB, WB = wc.alloc (.cells c.cells 84 (0, 0)) := ⟨_, rfl⟩
      have hbB : Below wc.heap.size wc WB := by rw [hWB]; exact (Below.refl _ _).alloc (Nat.le_refl _) _
      have hxB : WB.heap[wc.heap.size]? = some c.obj := by rw [hWB]; exact blk_new _ _
      have hzB : WB.heap.size = wc.heap.size + 1 := by rw [hWB]; simp
      have hSB := hS.below hbB
      rw [ec] at hWB
      have hbasB : w.heap.size + 2 ≤ WB.heap.size := by omega
      have hcone := ask_one c
      rcases Joins.ownsRow_forms hA with ⟨rfl, h0⟩ | ⟨gg, cp, rfl⟩
      · have hA0 : A = [] := List.length_eq_zero_iff.1 h0
        replace hGe3 := Lib.hid hGe3; replace hA0 := Lib.hid hA0; replace h0 := Lib.hid h0; replace hA := Lib.hid hA; replace hS := Lib.hid hS; replace hper := Lib.hid hper; replace hc := Lib.hid hc; replace hbB := Lib.hid hbB; replace hxB := Lib.hid hxB; replace hzB := Lib.hid hzB; replace hSB := Lib.hid hSB; replace hbasB := Lib.hid hbasB; replace hcone := Lib.hid hcone; replace ec := Lib.hid ec
        have hWB' := Lib.hid hWB
        clear hWB
        go_upto_region 17 with fail
        rw [← hWB'.out]
        clear y3 y4 y5 y6 y7 y8 y9 y10 y11 y12 y13 hG
        obtain ⟨z0, z1, z2, z3, z4, z5, z6, z7, z8, z9⟩ := ask_cells hxB.out
        have lz := blk_lt hxB.out
        have hnil0 : WB.ownsRow (w.heap.size + 2) 84 10 (.slice none 0 0) 0 [] := World.ownsRow_nil _ _ _ _
        have hnil1 := hnil0.alloc (.cells c.cells 84 (0, 0))
        have hnews := cells_new WB c.cells 84
        have h63 := maxLen_ge (n := 0) (by omega)
        have hby : (0 + 1) * 112 ≤ 140737488355328 := by omega
        have hbas1 : w.heap.size + 2 ≤ (WB.alloc (.cells c.cells 84 (0, 0))).heap.size := by rw [World.size_alloc]; have := hbasB.out; omega
        replace hnil0 := Lib.hid hnil0; replace hnil1 := Lib.hid hnil1; replace hnews := Lib.hid hnews; replace h63 := Lib.hid h63; replace hby := Lib.hid hby; replace hbas1 := Lib.hid hbas1
        go_upto_region 19 with (at_builtin; refine wpList_append_own_none rfl _ _ 75 rfl (w.heap.size + 2) 84 i84 10 Try.underlying75 hi (.slice none 0 0) 0 [] rfl hnil0.out rfl ?_)
        go_upto_region 20 with (at_builtin; refine wpList_append_own _ rfl _ _ 75 rfl (w.heap.size + 2) 84 i84 _ 10 112 Try.underlying75 hi hz hz1 hz2 rfl ten_pos (.slice none 0 0) 0 _ rfl hnil1.out ⟨WB.heap.size, 0, none⟩ 1 1 c.cells.toList rfl rfl hnews.out hcone.out h63.out hby.out hbas1.out ?_; intro v1 w9 hown9 hgrow _; replace hown9 := Lib.hid hown9; replace hgrow := Lib.hid hgrow)
        have hb9 : Below WB.heap.size WB w9 := ((Below.refl _ _).alloc (Nat.le_refl _) _).grown hgrow.out (by rw [World.size_alloc]; omega) (fun k e => by cases e)
        have hlow9 : Below w.heap.size w w9 := hSB.out.low.trans (hb9.mono hSB.out.low.size)
        have hR : Arow w9 w.heap.size v1 ([] ++ c :: []) := by
          have h := hown9.out
          rw [List.nil_append] at h
          unfold Arow
          rw [show flatv Ask.cells ([] ++ c :: []) = c.cells.toList from flatv_one _ _]
          exact h.mono (by omega)
        replace hb9 := Lib.hid hb9; replace hlow9 := Lib.hid hlow9; replace hR := Lib.hid hR
        go_wp2_with (at_builtin; refine wpList_append_own_none rfl _ _ 75 rfl (w.heap.size + 2) 84 i84 10 Try.underlying75 hi v1 1 _ rfl hown9.out rfl ?_)
        go_ret2
        exact ⟨v1, [], [], M, c, rfl, hR.out, by rw [hc.out], by rw [hc.out], by rw [hc.out], by rw [hc.out], by rw [hc.out], by rw [hc.out], by rw [hc.out], by rw [hc.out], by rw [hc.out], by have h := hper.out; rw [hA0.out] at h; exact h, by simp, hlow9.out⟩
      · obtain ⟨n, hn⟩ : ∃ n, n = A.length := ⟨_, rfl⟩
        have hA' : Arow wc (w.heap.size + 2) (.slice (some ⟨gg, 0, none⟩) n cp) A := by rw [hn]; exact hA
        have hAB : Arow WB (w.heap.size + 2) (.slice (some ⟨gg, 0, none⟩) n cp) A := owns_below' hA' hn hbB
        have hn10 : n ≤ 10 := by omega
        obtain ⟨T, hT⟩ : ∃ T : Nat, G3 % ((n : Int) + 1) = T := ⟨(G3 % ((n : Int) + 1)).toNat, by have := Int.emod_nonneg G3 (b := (n : Int) + 1) (by omega); omega⟩
        have hTl : T ≤ n := by have := Int.emod_lt_of_pos G3 (b := (n : Int) + 1) (by omega); omega
        have hcpl := hA'.le
        have hggl := (hAB.lt gg rfl).2
        rw [← hn]
        replace hGe3 := Lib.hid hGe3; replace hA := Lib.hid hA; replace hA' := Lib.hid hA'; replace hAB := Lib.hid hAB; replace hS := Lib.hid hS; replace hper := Lib.hid hper; replace hc := Lib.hid hc; replace hbB := Lib.hid hbB; replace hxB := Lib.hid hxB; replace hSB := Lib.hid hSB; replace hcone := Lib.hid hcone; replace ec := Lib.hid ec; replace hn := Lib.hid hn
        have hzB' := Lib.hid hzB
        have hbasB' := Lib.hid hbasB
        clear hzB hbasB
        have hWB' := Lib.hid hWB
        clear hWB
        go_upto_region 17 with fail
        try rw [hT]
        rw [← hWB'.out]
        clear y3 y4 y5 y6 y7 y8 y9 y10 y11 y12 y13 hG hT
        obtain ⟨z0, z1, z2, z3, z4, z5, z6, z7, z8, z9⟩ := ask_cells hxB.out
        have lz := blk_lt hxB.out
        have hs1 : ∀ w, (Instr.slice 75 (.slice (some ⟨gg, 0, none⟩) n cp) none (some (.int .i64 (T : Int))) none).run Try.prog w = .ok (.slice (some ⟨gg, 0, none⟩) T cp) w :=
          fun w => slice_upto_g Try.underlying75 hi ⟨gg, 0, none⟩ n cp T _ rfl (by omega) w
        obtain ⟨ta, hs2, hta⟩ := slice_from (P := Try.prog) Try.underlying75 hi gg n cp T (T : Int) rfl hTl
        have hnil0 : WB.ownsRow WB.heap.size 84 10 (.slice none 0 0) 0 [] := World.ownsRow_nil _ _ _ _
        have hn1 := news_take hAB.out (k := T)
        have hl1 : (flatv Ask.cells (A.take T)).length = T * 10 := by rw [aflat_len, List.length_take, Nat.min_eq_left (by have := hn.out; omega)]
        have ho1 := aflat_one (A.take T)
        have h63 : 0 + T ≤ maxLen := by have := maxLen_ge (n := T) (by omega); omega
        have hby : (0 + T) * 112 ≤ 140737488355328 := by omega
        replace hs2 := Lib.hid hs2; replace hta := Lib.hid hta; replace hnil0 := Lib.hid hnil0; replace hn1 := Lib.hid hn1; replace hl1 := Lib.hid hl1; replace ho1 := Lib.hid ho1; replace h63 := Lib.hid h63; replace hby := Lib.hid hby
        go_upto_region 19 with (at_builtin; refine wpList_append_own _ rfl _ _ 75 rfl WB.heap.size 84 i84 _ 10 112 Try.underlying75 hi hz hz1 hz2 rfl ten_pos (.slice none 0 0) 0 _ rfl hnil0.out ⟨gg, 0, none⟩ T cp (flatv Ask.cells (A.take T)) rfl hl1.out hn1.out ho1.out h63.out hby.out (Nat.le_refl _) ?_; intro v1 w9 hown9 hgrow _; replace hown9 := Lib.hid hown9; replace hgrow := Lib.hid hgrow)
        clear hs1
        have hb9 : Below WB.heap.size WB w9 := (Below.refl _ _).grown hgrow.out (Nat.le_refl _) (fun k e => by cases e)
        have hown9' : w9.ownsRow WB.heap.size 84 10 v1 T (flatv Ask.cells (A.take T)) := by have h := hown9.out; rwa [Nat.zero_add, List.nil_append] at h
        have hx9 := blk_below hb9 hxB.out (blk_lt hxB.out)
        have hownA := hown9'.alloc (.cells c.cells 84 (0, 0))
        have hnews := cells_new w9 c.cells 84
        have h63 := maxLen_ge (n := T) (by omega)
        have hby : (T + 1) * 112 ≤ 140737488355328 := by omega
        have hbas9 : WB.heap.size ≤ (w9.alloc (.cells c.cells 84 (0, 0))).heap.size := by rw [World.size_alloc]; have := hb9.size; omega
        have hlt9 := hown9'.lt
        clear z0 z1 z2 z3 z4 z5 z6 z7 z8 z9 lz
        obtain ⟨z0, z1, z2, z3, z4, z5, z6, z7, z8, z9⟩ := ask_cells hx9
        have lz := blk_lt hx9
        replace hb9 := Lib.hid hb9; replace hown9' := Lib.hid hown9'; replace hx9 := Lib.hid hx9; replace hownA := Lib.hid hownA; replace hnews := Lib.hid hnews; replace h63 := Lib.hid h63; replace hby := Lib.hid hby; replace hbas9 := Lib.hid hbas9; replace hlt9 := Lib.hid hlt9
        go_upto_region 20 with (at_builtin; refine wpList_append_own _ rfl _ _ 75 rfl WB.heap.size 84 i84 _ 10 112 Try.underlying75 hi hz hz1 hz2 rfl ten_pos v1 T _ rfl hownA.out ⟨w9.heap.size, 0, none⟩ 1 1 c.cells.toList rfl rfl hnews.out hcone.out h63.out hby.out hbas9.out ?_; intro v2 w10 hown10 hgrow2 _; replace hown10 := Lib.hid hown10; replace hgrow2 := Lib.hid hgrow2)
        clear z0 z1 z2 z3 z4 z5 z6 z7 z8 z9 lz
        have hb10 : Below WB.heap.size WB w10 := (hb9.out.alloc hb9.out.size _).grown hgrow2.out hbas9.out (fun k hk => (hlt9.out k hk).1)
        have hA10 := owns_below' hAB.out hn.out hb10
        have hl2 : (flatv Ask.cells (A.drop T)).length = (n - T) * 10 := by rw [aflat_len, List.length_drop, hn.out]
        have hn2 : ∀ j u, (flatv Ask.cells (A.drop T))[j]? = some u → w10.cell? (ta.add j) = some u := fun j u hu => by
          by_cases hcc : T < cp
          · rw [hta.out hcc, hz1]
            exact news_drop hA10 (by rw [← hn.out]; exact hTl) j u hu
          · have := (List.getElem?_eq_some_iff.1 hu).1
            rw [hl2] at this
            have h2 : n - T = 0 := by omega
            rw [h2] at this
            omega
        have ho2 := aflat_one (A.drop T)
        have h63c : T + 1 + (n - T) ≤ maxLen := by have := maxLen_ge (n := n) (by omega); omega
        have hbyc : (T + 1 + (n - T)) * 112 ≤ 140737488355328 := by omega
        have hlt10 := hown10.out.lt
        have hbas10 := hb10.size
        replace hb10 := Lib.hid hb10; replace hA10 := Lib.hid hA10; replace hl2 := Lib.hid hl2; replace hn2 := Lib.hid hn2; replace ho2 := Lib.hid ho2; replace h63c := Lib.hid h63c; replace hbyc := Lib.hid hbyc; replace hlt10 := Lib.hid hlt10; replace hbas10 := Lib.hid hbas10
        have hs2' := hs2.out
        go_wp2_with (at_builtin; refine wpList_append_own _ rfl _ _ 75 rfl WB.heap.size 84 i84 _ 10 112 Try.underlying75 hi hz hz1 hz2 rfl ten_pos v2 (T + 1) _ rfl hown10.out ta (n - T) (cp - T) (flatv Ask.cells (A.drop T)) rfl hl2.out hn2.out ho2.out h63c.out hbyc.out hbas10.out ?_; intro v3 w11 hown11 hgrow3 _; replace hown11 := Lib.hid hown11; replace hgrow3 := Lib.hid hgrow3)
        have hb11 : Below WB.heap.size WB w11 := hb10.out.grown hgrow3.out hbas10.out (fun k hk => (hlt10.out k hk).1)
        have hlow11 : Below w.heap.size w w11 := hSB.out.low.trans (hb11.mono hSB.out.low.size)
        have hlT : (A.take T).length = T := by rw [List.length_take, Nat.min_eq_left (by rw [← hn.out]; exact hTl)]
        have hR : Arow w11 w.heap.size v3 (A.take T ++ c :: A.drop T) := by
          have h := hown11.out
          have e1 : (A.take T ++ c :: A.drop T).length = T + 1 + (n - T) := by rw [List.length_append, hlT, List.length_cons, List.length_drop, hn.out]; omega
          unfold Arow
          rw [e1, flatv_append, show flatv Ask.cells (c :: A.drop T) = c.cells.toList ++ flatv Ask.cells (A.drop T) from by simp [flatv], ← List.append_assoc]
          exact h.mono (by have := hbasB'.out; omega)
        have hpp : (A.take T ++ A.drop T ++ M).Perm (againL x.asks slots) := by rw [List.take_append_drop]; exact hper.out
        replace hb11 := Lib.hid hb11; replace hlow11 := Lib.hid hlow11; replace hR := Lib.hid hR; replace hpp := Lib.hid hpp; replace hlT := Lib.hid hlT
        go_ret2
        exact ⟨v3, A.take T, A.drop T, M, c, by rw [hlT.out]; rfl, hR.out, by rw [hc.out], by rw [hc.out], by rw [hc.out], by rw [hc.out], by rw [hc.out], by rw [hc.out], by rw [hc.out], by rw [hc.out], by rw [hc.out], hpp.out, by rw [List.take_append_drop, ← hn.out]; exact hn10, hlow11.out⟩
end Go.Proofs.Ytpjajiambbobhaa

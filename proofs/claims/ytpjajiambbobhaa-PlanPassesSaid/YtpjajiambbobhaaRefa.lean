/- The document's profile: what is left at a tick, the ticks, what is free. Conditions: the rows lie in memory. -/
import Derived.Test.YtpjajiambbobhaaGtkp
import Derived.Laws.AppendOwnNone
import Derived.Test.YtpjajiambbobhaaGtakew
import Derived.Test.YtpjajiambbobhaaVec
import Derived.Test.YtpjajiambbobhaaGin
import Derived.OwnWalk
/- The document's profile (a whole and the changes, one by one), in memory and plainly; append of a row of one's own. -/
namespace Go.Proofs.Ytpjajiambbobhaa
open Go.RowKit

structure Ch where
  fr : Int
  tt : Int
  v : V4
  back : Bool
def Ch.zero : Ch := ⟨0, 0, V4.zero, false⟩
abbrev Ch.cells (c : Ch) : Array Value := #[.int .i64 c.fr, .int .i64 c.tt, .int .i64 c.v.a, .int .i64 c.v.b, .int .i64 c.v.c, .int .i64 c.v.d, .bool c.back]
abbrev Ch.val (c : Ch) : Value := .agg #[.int .i64 c.fr, .int .i64 c.tt, .int .i64 c.v.a, .int .i64 c.v.b, .int .i64 c.v.c, .int .i64 c.v.d, .bool c.back]
def ch (l : List Ch) (i : Nat) : Ch := l.getD i Ch.zero
def flatC (l : List Ch) : List Value := l.flatMap fun c => c.cells.toList

theorem info151 : (Try.prog.info? 151).map (fun i => (i.zero, i.size, i.bytes)) = some (some (.agg #[.int .i64 0, .int .i64 0, .int .i64 0, .int .i64 0, .int .i64 0, .int .i64 0, .bool false]), 7, 56) := by kernel_rfl
theorem info119 : (Try.prog.info? 119).map (fun i => (i.zero, i.size, i.bytes)) = some (some (.agg #[.int .i64 0, .int .i64 0, .int .i64 0, .int .i64 0, .slice none 0 0]), 5, 56) := by kernel_rfl

theorem flatC_length (l : List Ch) : (flatC l).length = l.length * 7 := by
  unfold flatC
  induction l with
  | nil => rfl
  | cons c r ih => rw [List.flatMap_cons, List.length_append, ih]; simp; omega
theorem flatC_append (l r : List Ch) : flatC (l ++ r) = flatC l ++ flatC r := by simp [flatC]
theorem flatC_one (c : Ch) : flatC [c] = c.cells.toList := by simp [flatC]
theorem flatC_get (l : List Ch) {i j : Nat} (hi : i < l.length) (hj : j < 7) : (flatC l)[i * 7 + j]? = (ch l i).cells[j]? := by
  unfold flatC
  induction l generalizing i with
  | nil => simp at hi
  | cons c r ih =>
    rw [List.flatMap_cons]
    cases i with
    | zero =>
      rw [List.getElem?_append_left (by simp; omega)]
      simp [ch]
    | succ i =>
      rw [List.getElem?_append_right (by simp; omega)]
      have := ih (i := i) (by simpa using hi)
      rw [show (i + 1) * 7 + j - c.cells.toList.length = i * 7 + j by simp; omega, this]
      simp [ch]
theorem flatC_oneCell (l : List Ch) : ∀ u ∈ flatC l, u.oneCell' = true := by
  intro u hu
  obtain ⟨c, _, h⟩ := List.mem_flatMap.1 hu
  simp at h
  rcases h with rfl | rfl | rfl | rfl | rfl | rfl | rfl <;> rfl

/-- a row of changes in memory -/
def CRow (w : World) (sv : Value) (cs : List Ch) : Prop := w.ownsRow 0 151 7 sv cs.length (flatC cs)
theorem owns_below {w w' : World} {base size n B : Nat} {e : TypeId} {v : Value} {xs : List Value} (h : w.ownsRow base e size v n xs) (hb : Below B w w') (hB : w.heap.size ≤ B) : w'.ownsRow base e size v n xs := by
  obtain ⟨h1, h2⟩ := h
  refine ⟨h1, ?_⟩
  rcases h2 with h | ⟨g, cap, cur, hv, hg, hh, hr⟩
  · exact .inl h
  · exact .inr ⟨g, cap, cur, hv, hg, blk_below hb hh (Nat.lt_of_lt_of_le (blk_lt hh) hB), hr⟩
theorem owns_mono {w : World} {base base' size n : Nat} {e : TypeId} {v : Value} {xs : List Value} (h : w.ownsRow base e size v n xs) (hb : base' ≤ base) : w.ownsRow base' e size v n xs :=
  ⟨h.1, h.2.imp id fun ⟨g, cap, cur, h1, h2, h3⟩ => ⟨g, cap, cur, h1, Nat.le_trans hb h2, h3⟩⟩
theorem CRow.below {w w' : World} {sv : Value} {cs : List Ch} {B : Nat} (h : CRow w sv cs) (hb : Below B w w') (hB : w.heap.size ≤ B) : CRow w' sv cs := owns_below h hb hB
theorem CRow.cells {w : World} {g cap n : Nat} {cs : List Ch} (h : CRow w (.slice (some ⟨g, 0, none⟩) n cap) cs) (hn : n = cs.length) {i : Nat} (hi : i < cs.length) :
    w.cell? ⟨g, i * 7, none⟩ = some (.int .i64 (ch cs i).fr) ∧ w.cell? ⟨g, i * 7 + 1, none⟩ = some (.int .i64 (ch cs i).tt) ∧ w.cell? ⟨g, i * 7 + 2, none⟩ = some (.int .i64 (ch cs i).v.a) ∧ w.cell? ⟨g, i * 7 + 3, none⟩ = some (.int .i64 (ch cs i).v.b) ∧
    w.cell? ⟨g, i * 7 + 4, none⟩ = some (.int .i64 (ch cs i).v.c) ∧ w.cell? ⟨g, i * 7 + 5, none⟩ = some (.int .i64 (ch cs i).v.d) ∧ w.cell? ⟨g, i * 7 + 6, none⟩ = some (.bool (ch cs i).back) := by
  subst hn
  have key : ∀ j, j < 7 → w.cell? ⟨g, i * 7 + j, none⟩ = (ch cs i).cells[j]? := fun j hj => by
    rw [World.ownsRow.cellAt h (i * 7 + j) (by omega), flatC_get cs hi hj]
  exact ⟨key 0 (by omega), key 1 (by omega), key 2 (by omega), key 3 (by omega), key 4 (by omega), key 5 (by omega), key 6 (by omega)⟩

/-- append to a row of one's own of another such row, nil or not -/
theorem wpList_append_row {P : Program} {w : World} {ops : Array Oper} {rest : List Oper} {o : Oper} {a : Act} {Q : Exit → Act → World → Prop} (hgd : o.guard = none) (s x : Operand) (t : TypeId)
    (ho : o.op = .call { callee := .builtin .append, args := #[s, x], argTypes := #[t, t] })
    (base : Nat) (e : TypeId) (i : TypeInfo) (z : Value) (size bytes : Nat) (ht : P.underlying t = some (.slice e)) (hi : P.info? e = some i) (hz : i.zero = some z)
    (hsize : i.size = size) (hby : i.bytes = bytes) (hzs : z.cells.size = size) (hsz : 0 < size)
    (v : Value) (n : Nat) (xs : List Value) (hs : a.eval s = v) (hown : w.ownsRow base e size v n xs)
    (X : Value) (m : Nat) (news : List Value) (hx : a.eval x = X) (hX : w.ownsRow 0 e size X m news) (h1 : ∀ u ∈ news, u.oneCell' = true)
    (h63 : n + m ≤ maxLen) (hbytes : (n + m) * bytes ≤ 140737488355328) (hbase : base ≤ w.heap.size)
    (h : ∀ v' w', w'.ownsRow base e size v' (n + m) (xs ++ news) → w.grownBy w' v.ownBlock → wpList P ops Q rest (a.put o.dst v') w') : wpList P ops Q (o :: rest) a w := by
  have hX' := hX
  rcases hX.2 with ⟨rfl, rfl⟩ | ⟨g, cap, cur, rfl, hg, hh, _⟩
  · have hn : news = [] := List.eq_nil_of_length_eq_zero (by simpa using hX.1)
    subst hn
    refine wpList_append_own_none hgd s x t ho base e i size ht hi v n xs hs hown hx ?_
    exact h v w (by simpa using hown) (World.grownBy.refl _ _)
  · exact wpList_append_own w hgd s x t ho base e i z size bytes ht hi hz hsize hby hzs hsz v n xs hs hown ⟨g, 0, none⟩ m cap news hx hX.1 (hX'.cells rfl) h1 h63 hbytes hbase fun v' w' a b _ => h v' w' a b

/-- what is left at a tick, change by change -/
def stepC (t : Int) (acc : V4) (c : Ch) : V4 := if t < c.fr ∨ c.tt ≤ t then acc else if c.back = true then add4 acc c.v else sub4 acc c.v
def atK (whole : V4) (cs : List Ch) (k : Nat) (t : Int) : V4 := (cs.take k).foldl (stepC t) whole
def atR (whole : V4) (cs : List Ch) (t : Int) : V4 := cs.foldl (stepC t) whole
def atF (whole : V4) (cs : List Ch) (t : Int) : V4 := if 0 ≤ t ∧ t < 1099511627776 then atR whole cs t else whole
theorem atK_succ {whole : V4} {cs : List Ch} {k : Nat} (t : Int) (h : k < cs.length) : atK whole cs (k + 1) t = stepC t (atK whole cs k t) (ch cs k) := by
  unfold atK
  rw [List.take_add_one, List.foldl_append]
  simp [ch, h, List.getD]
theorem atK_all (whole : V4) (cs : List Ch) (t : Int) : atK whole cs cs.length t = atR whole cs t := by simp [atK, atR]
theorem atR_app (whole : V4) (cs : List Ch) (c : Ch) (t : Int) : atR whole (cs ++ [c]) t = stepC t (atR whole cs t) c := by simp [atR]
/-- amounts that may be -/
def Fair (cs : List Ch) : Prop := ∀ i, i < cs.length → (ch cs i).v.right = true ∧ 0 ≤ (ch cs i).fr ∧ (ch cs i).fr < (ch cs i).tt ∧ (ch cs i).tt ≤ 1099511627776
def Bd (N : Int) (v : V4) : Prop := (-N ≤ v.a ∧ v.a ≤ N) ∧ (-N ≤ v.b ∧ v.b ≤ N) ∧ (-N ≤ v.c ∧ v.c ≤ N) ∧ (-N ≤ v.d ∧ v.d ≤ N)
theorem stepC_bd {N t : Int} {acc : V4} {c : Ch} (h : Bd N acc) (hc : c.v.right = true) : Bd (N + 1073741824) (stepC t acc c) := by
  have := right_iff.1 hc
  unfold stepC Bd at *
  split
  · omega
  · split <;> simp only [add4, sub4] <;> omega
theorem atK_bd {whole : V4} {cs : List Ch} (hw : whole.right = true) (hf : Fair cs) (t : Int) {k : Nat} (hk : k ≤ cs.length) : Bd (1073741824 * (k + 1)) (atK whole cs k t) := by
  induction k with
  | zero =>
    have := right_iff.1 hw
    simp only [atK, List.take_zero, List.foldl_nil, Bd]
    omega
  | succ k ih =>
    rw [atK_succ t (by omega)]
    have := stepC_bd (t := t) (ih (by omega)) (hf k (by omega)).1
    have e : (1073741824 : Int) * ((k : Int) + 1) + 1073741824 = 1073741824 * (((k + 1 : Nat) : Int) + 1) := by omega
    rwa [e] at this
end Go.Proofs.Ytpjajiambbobhaa

/- corveeref06.Profile.At: what is left at a tick, change by change. -/
namespace Go.Proofs.Ytpjajiambbobhaa
open Go.RowKit

abbrev pval (whole : V4) (sv : Value) : Value := .agg #[.int .i64 whole.a, .int .i64 whole.b, .int .i64 whole.c, .int .i64 whole.d, sv]
abbrev pcells (whole : V4) (sv : Value) : Array Value := #[.int .i64 whole.a, .int .i64 whole.b, .int .i64 whole.c, .int .i64 whole.d, sv]
theorem CRow.form {w : World} {sv : Value} {cs : List Ch} (h : CRow w sv cs) : ∃ ao cap, sv = .slice ao cs.length cap ∧ (0 < cs.length → ∃ g, ao = some ⟨g, 0, none⟩ ∧ g < w.heap.size) := by
  rcases h.2 with ⟨rfl, h0⟩ | ⟨g, cap, cur, rfl, _, hh, _⟩
  · exact ⟨none, 0, by rw [h0], fun h1 => by omega⟩
  · exact ⟨some ⟨g, 0, none⟩, cap, rfl, fun _ => ⟨g, rfl, blk_lt hh⟩⟩

theorem below3w (w : World) (o1 o2 o3 : Obj) : Below w.heap.size w (((w.alloc o1).alloc o2).alloc o3) := (((Below.refl _ _).alloc (Nat.le_refl _) _).alloc (by simp) _).alloc (by simp; omega) _
structure AtW (w : World) (whole : V4) (sv : Value) (acc : V4) (wr : World) : Prop where
  p : wr.heap[w.heap.size]? = some (.cells (pcells whole sv) 119 (0, 0))
  r : wr.heap[w.heap.size + 1]? = some (.cells V4.zero.cells 23 (0, 0))
  v : wr.heap[w.heap.size + 1 + 1]? = some (.cells acc.cells 23 (0, 0))
  low : Below w.heap.size w wr
theorem AtW.alloc {w wr : World} {whole acc : V4} {sv : Value} (h : AtW w whole sv acc wr) (o : Obj) : AtW w whole sv acc (wr.alloc o) :=
  ⟨blk_old _ h.p, blk_old _ h.r, blk_old _ h.v, h.low.alloc h.low.size _⟩
theorem AtW.set {w wr : World} {whole acc : V4} {sv : Value} (h : AtW w whole sv acc wr) (v : V4) :
    AtW w whole sv v ((((wr.setCell ⟨w.heap.size + 1 + 1, 0, none⟩ (.int .i64 v.a)).setCell ⟨w.heap.size + 1 + 1, 1, none⟩ (.int .i64 v.b)).setCell ⟨w.heap.size + 1 + 1, 2, none⟩ (.int .i64 v.c)).setCell ⟨w.heap.size + 1 + 1, 3, none⟩ (.int .i64 v.d)) :=
  ⟨blk_set_other (by omega) _ (blk_set_other (by omega) _ (blk_set_other (by omega) _ (blk_set_other (by omega) _ h.p))), blk_set_other (by omega) _ (blk_set_other (by omega) _ (blk_set_other (by omega) _ (blk_set_other (by omega) _ h.r))),
    set4 h.v v, low4 h.low (by omega) _ _ _ _⟩
theorem AtW.drew {w wr : World} {whole acc : V4} {sv : Value} (h : AtW w whole sv acc wr) : AtW w whole sv acc wr.drew := ⟨h.p, h.r, h.v, h.low.drew⟩
theorem AtW.drewN {w wr : World} {whole acc : V4} {sv : Value} (h : AtW w whole sv acc wr) (n : Nat) : AtW w whole sv acc (wr.drewN n) := ⟨h.p, h.r, h.v, ⟨h.low.os, h.low.tape, h.low.output, h.low.size, h.low.block⟩⟩

set_option maxRecDepth 100000 in
set_option maxHeartbeats 3200000 in
theorem rat_any (whole : V4) (sv : Value) (cs : List Ch) (t : Int) (w : World) (hc : CRow w sv cs) (hw : whole.right = true) (hf : Fair cs) (hn : cs.length ≤ 1000000) :
    Calls Try.prog 110 #[pval whole sv, .int .i64 t] w fun e w' => e = .returned (atF whole cs t).val ∧ Below w.heap.size w w' := by
  obtain ⟨ao, cap, rfl, hao⟩ := hc.form
  have hone : ∀ v : V4, v.cells.all (·.oneCell') = true := fun v => by simp [Value.oneCell']
  have hout : ¬ (0 ≤ t ∧ t < 1099511627776) → atF whole cs t = whole := fun h => if_neg h
  obtain ⟨n, hnn⟩ : ∃ n, n = cs.length := ⟨_, rfl⟩
  rw [← hnn] at hao hn hc
  rw [← hnn]
  replace hc := Lib.hid hc; replace hf := Lib.hid hf; replace hao := Lib.hid hao; replace hone := Lib.hid hone; replace hout := Lib.hid hout; replace hw := Lib.hid hw; replace hnn := Lib.hid hnn
  obtain ⟨W, hW⟩ : ∃ W, W = ((w.alloc (.cells (pcells whole (.slice ao n cap)) 119 (0, 0))).alloc (.cells V4.zero.cells 23 (0, 0))).alloc (.cells whole.cells 23 (0, 0)) := ⟨_, rfl⟩
  have hA0 : AtW w whole (.slice ao n cap) whole W := by
    rw [hW]
    exact ⟨blk_old _ (blk_old _ (blk_new _ _)), blk_old _ (blk_at _ _ (by simp)), blk_at _ _ (by simp), below3w w _ _ _⟩
  by_cases q1 : t < 0
  · have d1 : decide (t < 0) = true := by simpa using q1
    rw [hout.out (by omega)]
    replace q1 := Lib.hid q1; replace hA0 := Lib.hid hA0; replace hW := Lib.hid hW
    go_enter Try.func110, Try.ntmps110
    go_wp2
    refine bodyPost_ret (v := whole.val) (by simp [results, Try.results110, go_sem]) rfl ⟨rfl, ?_⟩
    exact below3w w _ _ _
  have d1 : decide (t < 0) = false := by simpa using q1
  by_cases q2 : 1099511627776 ≤ t
  · have d2 : decide (1099511627776 ≤ t) = true := by simpa using q2
    rw [hout.out (by omega)]
    replace q1 := Lib.hid q1; replace q2 := Lib.hid q2; replace hA0 := Lib.hid hA0; replace hW := Lib.hid hW
    go_enter Try.func110, Try.ntmps110
    go_wp2
    refine bodyPost_ret (v := whole.val) (by simp [results, Try.results110, go_sem]) rfl ⟨rfl, ?_⟩
    exact below3w w _ _ _
  have d2 : decide (1099511627776 ≤ t) = false := by simpa using q2
  have hin : atF whole cs t = atR whole cs t := if_pos (by omega)
  rw [hin]
  rw [hW] at hA0
  clear hin hW W
  replace q1 := Lib.hid q1; replace q2 := Lib.hid q2; replace hA0 := Lib.hid hA0
  go_enter Try.func110, Try.ntmps110
  go_wp2
  go_loopw [6, 7, 8] (fun i _ _ wr => ∃ (k : Nat) (acc : V4), i = .int .i64 k ∧ k ≤ n ∧ Hid (acc = atK whole cs k t) ∧ Hid (AtW w whole (.slice ao n cap) acc wr)) (fun i _ _ _ => n - (intOf i).toNat)
  case atStart => exact ⟨0, whole, rfl, Nat.zero_le _, (rfl : whole = atK whole cs 0 t), hA0.out⟩
  case round =>
    obtain ⟨k, acc, rfl, hk, hacc, hA⟩ := hrel
    have c4 := blk_cell hA.out.p 4
    simp at c4
    have p0 := blk_cell hA.out.v 0; have p1 := blk_cell hA.out.v 1; have p2 := blk_cell hA.out.v 2; have p3 := blk_cell hA.out.v 3
    simp at p0 p1 p2 p3
    have lA := blk_lt hA.out.p; have lR := blk_lt hA.out.r; have lV := blk_lt hA.out.v
    by_cases hc1 : k < n
    · have hc2 : (k : Int) < n := by omega
      have hk0 : (0 : Int) ≤ (k : Int) := by omega
      have hkl : k < cs.length := by rw [← hnn.out]; exact hc1
      obtain ⟨g, rfl, hg⟩ := hao.out (by omega)
      have hcr := CRow.below hc.out hA.out.low (Nat.le_refl _)
      obtain ⟨a0, a1, a2, a3, a4, a5, a6⟩ := hcr.cells hnn.out hkl
      have lg := Nat.lt_of_lt_of_le hg hA.out.low.size
      have hfk := hf.out k hkl
      have hbd := atK_bd hw.out hf.out t (k := k) (by omega)
      rw [← hacc.out] at hbd
      have hsu := atK_succ (whole := whole) (cs := cs) t hkl
      rw [← hacc.out] at hsu
      obtain ⟨x, hx⟩ : ∃ x, x = ch cs k := ⟨_, rfl⟩
      rw [← hx] at a0 a1 a2 a3 a4 a5 a6 hfk hsu
      have hvr := right_iff.1 hfk.1
      obtain ⟨b0, b1, b2, b3⟩ := hbd
      have s0 : IntKind.i64.wrap (acc.a + x.v.a) = acc.a + x.v.a := IntWalk.i64_in _ (by omega)
      have s1 : IntKind.i64.wrap (acc.b + x.v.b) = acc.b + x.v.b := IntWalk.i64_in _ (by omega)
      have s2 : IntKind.i64.wrap (acc.c + x.v.c) = acc.c + x.v.c := IntWalk.i64_in _ (by omega)
      have s3 : IntKind.i64.wrap (acc.d + x.v.d) = acc.d + x.v.d := IntWalk.i64_in _ (by omega)
      have e0 : IntKind.i64.wrap (acc.a - x.v.a) = acc.a - x.v.a := IntWalk.i64_in _ (by omega)
      have e1 : IntKind.i64.wrap (acc.b - x.v.b) = acc.b - x.v.b := IntWalk.i64_in _ (by omega)
      have e2 : IntKind.i64.wrap (acc.c - x.v.c) = acc.c - x.v.c := IntWalk.i64_in _ (by omega)
      have e3 : IntKind.i64.wrap (acc.d - x.v.d) = acc.d - x.v.d := IntWalk.i64_in _ (by omega)
      have f0 := blk_free hA.out.v 0; have f1 := blk_free hA.out.v 1; have f2 := blk_free hA.out.v 2; have f3 := blk_free hA.out.v 3
      clear b0 b1 b2 b3 hvr hfk hcr
      replace hx := Lib.hid hx; replace hsu := Lib.hid hsu
      by_cases q3 : t < x.fr
      · have d3 : decide (t < x.fr) = true := by simpa using q3
        have hn2 : acc = atK whole cs (k + 1) t := by rw [hsu.out]; unfold stepC; rw [if_pos (.inl q3)]
        replace q3 := Lib.hid q3; replace hn2 := Lib.hid hn2
        go_wp2
        go_roundw
        case rel => exact ⟨k + 1, acc, by go_num, by omega, hn2.out, hA.out.alloc _⟩
        case measure => simp [intOf]; omega
      have d3 : decide (t < x.fr) = false := by simpa using q3
      by_cases q4 : x.tt ≤ t
      · have d4 : decide (x.tt ≤ t) = true := by simpa using q4
        have hn2 : acc = atK whole cs (k + 1) t := by rw [hsu.out]; unfold stepC; rw [if_pos (.inr q4)]
        replace q3 := Lib.hid q3; replace q4 := Lib.hid q4; replace hn2 := Lib.hid hn2
        go_wp2
        go_roundw
        case rel => exact ⟨k + 1, acc, by go_num, by omega, hn2.out, hA.out.alloc _⟩
        case measure => simp [intOf]; omega
      have d4 : decide (x.tt ≤ t) = false := by simpa using q4
      have hno : ¬ (t < x.fr ∨ x.tt ≤ t) := by omega
      cases hb : x.back
      · have hn2 : sub4 acc x.v = atK whole cs (k + 1) t := by rw [hsu.out]; unfold stepC; rw [if_neg hno, if_neg (by rw [hb]; simp)]
        rw [hb] at a6
        replace q3 := Lib.hid q3; replace q4 := Lib.hid q4; replace hn2 := Lib.hid hn2; replace hno := Lib.hid hno
        go_wp2
        refine wp_loop_rounds 5 ?_
        rw [rounds_succ]
        go_wp2
        go_region
        go_wp2
        rw [rounds_succ]
        go_wp2
        go_region
        go_wp2
        rw [rounds_succ]
        go_wp2
        go_region
        go_wp2
        rw [rounds_succ]
        go_wp2
        go_region
        go_wp2
        rw [rounds_succ]
        go_wp2
        go_roundw
        case rel => exact ⟨k + 1, sub4 acc x.v, by go_num, by omega, hn2.out, ((hA.out.set (sub4 acc x.v)).alloc _).drew.drew.drew.drew⟩
        case measure => simp [intOf]; omega
      · have hn2 : add4 acc x.v = atK whole cs (k + 1) t := by rw [hsu.out]; unfold stepC; rw [if_neg hno, if_pos hb]
        rw [hb] at a6
        replace q3 := Lib.hid q3; replace q4 := Lib.hid q4; replace hn2 := Lib.hid hn2; replace hno := Lib.hid hno
        go_wp2
        refine wp_loop_rounds 5 ?_
        rw [rounds_succ]
        go_wp2
        go_region
        go_wp2
        rw [rounds_succ]
        go_wp2
        go_region
        go_wp2
        rw [rounds_succ]
        go_wp2
        go_region
        go_wp2
        rw [rounds_succ]
        go_wp2
        go_region
        go_wp2
        rw [rounds_succ]
        go_wp2
        go_roundw
        case rel => exact ⟨k + 1, add4 acc x.v, by go_num, by omega, hn2.out, ((hA.out.set (add4 acc x.v)).alloc _).drew.drew.drew.drew⟩
        case measure => simp [intOf]; omega
    · have hc2 : ¬ (k : Int) < n := by omega
      have hkn : k = cs.length := by rw [← hnn.out]; omega
      have hfin : atR whole cs t = acc := by rw [hacc.out, hkn, atK_all]
      have f0 := blk_free hA.out.r 0; have f1 := blk_free hA.out.r 1; have f2 := blk_free hA.out.r 2; have f3 := blk_free hA.out.r 3
      have r0 := blk_cell hA.out.r 0; have r1 := blk_cell hA.out.r 1; have r2 := blk_cell hA.out.r 2; have r3 := blk_cell hA.out.r 3
      simp at r0 r1 r2 r3
      replace hkn := Lib.hid hkn; replace hfin := Lib.hid hfin
      go_wp2
      refine bodyPost_ret (v := acc.val) (by simp [results, Try.results110, go_sem, r0, r1, r2, r3]) rfl ⟨by rw [hfin.out], ?_⟩
      exact low4 hA.out.low (by omega) _ _ _ _
end Go.Proofs.Ytpjajiambbobhaa

/- corveeref03.Least: the lesser of two amounts, one by one. -/
namespace Go.Proofs.Ytpjajiambbobhaa
open Go.RowKit

set_option maxRecDepth 100000 in
theorem least3_any (u v : V4) (w : World) : Calls Try.prog 109 #[u.val, v.val] w fun e w' => e = .returned (u.least v).val ∧ Below w.heap.size w w' := by
  have m0 : (if v.a < u.a then v.a else u.a) = (u.least v).a := by simp only [V4.least]; omega
  have m1 : (if v.b < u.b then v.b else u.b) = (u.least v).b := by simp only [V4.least]; omega
  have m2 : (if v.c < u.c then v.c else u.c) = (u.least v).c := by simp only [V4.least]; omega
  have m3 : (if v.d < u.d then v.d else u.d) = (u.least v).d := by simp only [V4.least]; omega
  generalize u.least v = l at *
  go_enter Try.func109, Try.ntmps109
  go_wp2
  refine bodyPost_ret (v := l.val) (by simp [results, Try.results109, go_sem]) rfl ⟨rfl, ?_⟩
  exact (((Below.refl _ _).alloc (Nat.le_refl _) _).alloc (by simp) _).alloc (by simp; omega) _
end Go.Proofs.Ytpjajiambbobhaa

/- corveeref06.put: a row with one number more, once, if it lies between. -/
namespace Go.Proofs.Ytpjajiambbobhaa
open Go.RowKit

/-- a row of numbers that a call of the document's has made -/
def IRow (w : World) (sv : Value) (zs : List Int) : Prop := w.ownsRow 0 3 1 sv zs.length (zs.map (.int .i64))
theorem IRow.below {w w' : World} {sv : Value} {zs : List Int} {B : Nat} (h : IRow w sv zs) (hb : Below B w w') (hB : w.heap.size ≤ B) : IRow w' sv zs := owns_below h hb hB
theorem IRow.form {w : World} {sv : Value} {zs : List Int} (h : IRow w sv zs) : ∃ ao cap, sv = .slice ao zs.length cap ∧ zs.length ≤ cap ∧ cap ≤ 9223372036854775807 ∧ (0 < zs.length → ∃ g, ao = some ⟨g, 0, none⟩ ∧ g < w.heap.size) := by
  have mx : maxLen = 9223372036854775807 := by kernel_rfl
  rcases h.2 with ⟨rfl, h0⟩ | ⟨g, cap, cur, rfl, _, hh, h1, h2, _⟩
  · exact ⟨none, 0, by rw [h0], by omega, by omega, fun h1 => by omega⟩
  · exact ⟨some ⟨g, 0, none⟩, cap, rfl, h1, by omega, fun _ => ⟨g, rfl, blk_lt hh⟩⟩
theorem IRow.ints {w : World} {ao : Option Addr} {n cap : Nat} {zs : List Int} (h : IRow w (.slice ao n cap) zs) (hn : n = zs.length) (hmax : n ≤ 9223372036854775807) : IntsAt w ao n zs := by
  subst hn
  refine ⟨rfl, hmax, fun i hi => ?_⟩
  obtain ⟨ao', cap', e, _, _, hg⟩ := h.form
  cases e
  obtain ⟨g, rfl, hlt⟩ := hg (by omega)
  refine ⟨g, 0, rfl, hlt, ?_⟩
  rw [Nat.zero_add, World.ownsRow.cellAt h i (by omega)]
  simp [zi, List.getD, hi]
theorem IRow.at {w : World} {g n cap : Nat} {zs : List Int} (h : IRow w (.slice (some ⟨g, 0, none⟩) n cap) zs) (hn : n = zs.length) {j : Nat} (hj : j < zs.length) : w.cell? ⟨g, j, none⟩ = (zs.map (Value.int .i64))[j]? := by
  subst hn
  exact World.ownsRow.cellAt h j (by omega)
theorem owns_take {w : World} {g cap L k : Nat} {zs : List Int} (h : IRow w (.slice (some ⟨g, 0, none⟩) L cap) zs) (hL : L = zs.length) (hk : k ≤ L) : w.ownsRow 0 3 1 (.slice (some ⟨g, 0, none⟩) k cap) k ((zs.take k).map (.int .i64)) := by
  refine ⟨by simp; omega, .inr ?_⟩
  rcases h.2 with ⟨h', _⟩ | ⟨g', cap', cur, h', hb, hg, h1, h2, h3, h4⟩
  · simp at h'
  · cases h'
    refine ⟨g, cap, cur, rfl, hb, hg, by omega, h2, h3, ?_⟩
    rw [List.map_take, ← h4, List.take_take]
    congr 1
    omega

theorem one_new (w : World) (n : Int) : ∀ j u, ([.int .i64 n] : List Value)[j]? = some u → (w.alloc (.cells #[.int .i64 n] 3 (0, 0))).cell? ((⟨w.heap.size, 0, none⟩ : Addr).add j) = some u := by
  intro j u hu
  match j, hu with
  | 0, hu =>
    have := blk_cell (blk_new w (.cells #[.int .i64 n] 3 (0, 0))) 0
    simp at hu; subst hu
    exact this
  | j + 1, hu => simp at hu
theorem below_cell2 {B : Nat} {w w' : World} (h : Below B w w') {g o : Nat} {ta : Addr} (hg : g < B) (e : ta = ⟨g, o, none⟩) (j : Nat) : w'.cell? (ta.add j) = w.cell? (ta.add j) := by
  subst e
  rw [Addr.add_lit]
  exact below_cell h hg
theorem nil_own (B : Nat) : ∀ k, (Value.slice none 0 0).ownBlock = some k → B ≤ k := fun k hk => by simp [Value.ownBlock] at hk
theorem size_alloc {B : Nat} {w : World} (h : B ≤ w.heap.size) (o : Obj) : B ≤ (w.alloc o).heap.size := by simp; omega
def PutPost (zs : List Int) (n fr tt : Int) (w : World) (e : Ending) (w' : World) : Prop :=
  ∃ sv' zs', e = .returned sv' ∧ IRow w' sv' zs' ∧ (∀ x, x ∈ zs' ↔ x ∈ zs ∨ (x = n ∧ fr ≤ n ∧ n < tt)) ∧ zs'.length ≤ zs.length + 1 ∧ zs.length ≤ zs'.length ∧ Below w.heap.size w w'

theorem info3p : (Try.prog.info? 3).map (fun i => (i.zero, i.size, i.bytes)) = some (some (.int .i64 0), 1, 8) := by kernel_rfl

set_option maxRecDepth 100000 in
set_option maxHeartbeats 3200000 in
theorem put_any (sv : Value) (zs : List Int) (n fr tt : Int) (w : World) (hz : IRow w sv zs) (hnil : fr ≤ n → n < tt → 0 < zs.length) (hlen : zs.length ≤ 1000000) :
    Calls Try.prog 116 #[sv, .int .i64 n, .int .i64 fr, .int .i64 tt] w (PutPost zs n fr tt w) := by
  obtain ⟨i3, hi3, hz3, hz31, hz32⟩ := info_parts info3
  have same : ¬ (fr ≤ n ∧ n < tt) ∨ n ∈ zs → PutPost zs n fr tt w (.returned sv) w := fun h =>
    ⟨sv, zs, rfl, hz, fun x => ⟨.inl, fun hx => by
      rcases hx with hx | ⟨rfl, a, b⟩
      · exact hx
      · rcases h with h | h
        · exact absurd ⟨a, b⟩ h
        · exact h⟩, by omega, by omega, Below.refl _ _⟩
  obtain ⟨ao, cap, rfl, hLc, hcm, hao⟩ := hz.form
  obtain ⟨L, hL⟩ : ∃ L, L = zs.length := ⟨_, rfl⟩
  rw [← hL] at hao hLc hlen same hnil hz ⊢
  replace same := Lib.hid same; replace hz := Lib.hid hz; replace hL := Lib.hid hL
  by_cases q1 : n < fr
  · have d1 : decide (n < fr) = true := by simpa using q1
    have hs := same.out (.inl (by omega))
    replace q1 := Lib.hid q1; replace hs := Lib.hid hs; replace hnil := Lib.hid hnil; replace hao := Lib.hid hao
    go_enter Try.func116, Try.ntmps116
    go_wp2
    go_ret
    exact hs.out
  have d1 : decide (n < fr) = false := by simpa using q1
  by_cases q2 : tt ≤ n
  · have d2 : decide (tt ≤ n) = true := by simpa using q2
    have hs := same.out (.inl (by omega))
    replace q1 := Lib.hid q1; replace q2 := Lib.hid q2; replace hs := Lib.hid hs; replace hnil := Lib.hid hnil; replace hao := Lib.hid hao
    go_enter Try.func116, Try.ntmps116
    go_wp2
    go_ret
    exact hs.out
  have d2 : decide (tt ≤ n) = false := by simpa using q2
  have hin : fr ≤ n ∧ n < tt := by omega
  have hL0 := hnil hin.1 hin.2
  obtain ⟨g, rfl, hg⟩ := hao hL0
  have hzi := hz.out.ints hL.out (by omega)
  replace q1 := Lib.hid q1; replace q2 := Lib.hid q2; replace hin := Lib.hid hin; replace hzi := Lib.hid hzi
  clear hao hnil
  go_enter Try.func116, Try.ntmps116
  go_wp2
  go_loopw [9] (fun i wr => ∃ k : Nat, i = .int .i64 k ∧ k ≤ L ∧ wr = w) (fun i _ => L - (intOf i).toNat)
  case atStart => exact ⟨0, rfl, Nat.zero_le _, rfl⟩
  case round =>
    obtain ⟨k, rfl, hk, rfl⟩ := hrel
    have hk0 : (0 : Int) ≤ (k : Int) := by omega
    have hslT := fun W => slice_upto_g (w := W) Try.underlying48 hi3 ⟨g, 0, none⟩ L cap k (k : Int) rfl (by omega)
    obtain ⟨ta, hslF, hta⟩ := slice_from Try.underlying48 hi3 g L cap k (k : Int) rfl (by omega)
    have fin : Hid (∀ (v3 : Value) (w6 : World), w6.ownsRow wr.heap.size 3 1 v3 (k + 1 + (L - k)) ((((zs.take k).map (.int .i64)) ++ [.int .i64 n]) ++ (zs.drop k).map (.int .i64)) → Below wr.heap.size wr w6 → PutPost zs n fr tt wr (.returned v3) w6) := by
      intro v3 w6 h1 h2
      have e : zs.take k ++ [n] ++ zs.drop k = (zs.take k ++ [n]) ++ zs.drop k := rfl
      have hl : ((zs.take k ++ [n]) ++ zs.drop k).length = k + 1 + (L - k) := by simp [← hL.out]; omega
      refine ⟨v3, (zs.take k ++ [n]) ++ zs.drop k, rfl, ?_, fun x => ?_, by rw [hl, ← hL.out]; omega, by rw [hl, ← hL.out]; omega, h2⟩
      · unfold IRow
        rw [hl, List.map_append, List.map_append]
        exact owns_mono h1 (Nat.zero_le _)
      · have : x ∈ zs ↔ x ∈ zs.take k ∨ x ∈ zs.drop k := by
          rw [← List.mem_append, List.take_append_drop]
        rw [this]
        simp only [List.mem_append, List.mem_singleton]
        constructor
        · rintro ((h | h) | h)
          · exact .inl (.inl h)
          · exact .inr ⟨h, hin.out⟩
          · exact .inl (.inr h)
        · rintro ((h | h) | h)
          · exact .inl (.inl h)
          · exact .inr h
          · exact .inl (.inr h.1)
    have hone1 : ∀ (xs : List Int), ∀ u ∈ xs.map (Value.int .i64), u.oneCell' = true := fun xs u hu => by
      obtain ⟨_, _, rfl⟩ := List.mem_map.1 hu; rfl
    have h63 : 0 + k ≤ maxLen := by
      have : maxLen = 9223372036854775807 := by kernel_rfl
      omega
    have h63b : 0 + k + 1 ≤ maxLen := by
      have : maxLen = 9223372036854775807 := by kernel_rfl
      omega
    have h63c : 0 + k + 1 + (L - k) ≤ maxLen := by
      have : maxLen = 9223372036854775807 := by kernel_rfl
      omega
    have hby : (0 + k) * 8 ≤ 140737488355328 := by omega
    have hbyb : (0 + k + 1) * 8 ≤ 140737488355328 := by omega
    have hbyc : (0 + k + 1 + (L - k)) * 8 ≤ 140737488355328 := by omega
    have hsrc1 : Hid (wr.ownsRow 0 3 1 (.slice (some ⟨g, 0, none⟩) k cap) k ((zs.take k).map (.int .i64))) := owns_take hz.out hL.out hk
    have hnil0 : Hid (wr.ownsRow wr.heap.size 3 1 (.slice none 0 0) 0 []) := World.ownsRow_nil _ _ _ _
    have hdrop : Hid (((zs.drop k).map (Value.int .i64)).length = (L - k) * 1) := by simp [Hid, hL.out]
    have hrow : Hid (∀ j u, ((zs.drop k).map (Value.int .i64))[j]? = some u → k < cap ∧ wr.cell? (ta.add j) = some u) := by
      intro j u hu
      have hj : j < zs.length - k := by
        have := (List.getElem?_eq_some_iff.1 hu).1
        simpa using this
      have hkc : k < cap := by rw [← hL.out] at hj; omega
      refine ⟨hkc, ?_⟩
      rw [hta hkc, Addr.add_lit]
      have hz1 : i3.size = 1 := hz31
      rw [hz1, Nat.mul_one, hz.out.at hL.out (j := k + j) (by omega), ← hu]
      simp [List.getElem?_drop]
    replace hone1 := Lib.hid hone1; replace h63 := Lib.hid h63; replace h63b := Lib.hid h63b; replace h63c := Lib.hid h63c; replace hby := Lib.hid hby; replace hbyb := Lib.hid hbyb; replace hbyc := Lib.hid hbyc
    by_cases hc : k < L
    · have hc1 : (k : Int) < L := by omega
      obtain ⟨b', off', e', _, a0⟩ := hzi.out.cell k hc
      cases e'
      obtain ⟨y, hy⟩ : ∃ y, y = zi zs k := ⟨_, rfl⟩
      rw [← hy, Nat.zero_add] at a0
      by_cases q3 : y < n
      · have d3 : decide (y < n) = true := by simpa using q3
        replace q3 := Lib.hid q3; replace hy := Lib.hid hy
        clear hslT hslF hta
        go_wp2
        go_roundw
        case rel => exact ⟨k + 1, by go_num, by omega, trivial⟩
        case measure => simp [intOf]; omega
      have d3 : decide (y < n) = false := by simpa using q3
      by_cases q4 : y = n
      · have d4 : (y == n) = true := by simpa using q4
        have hs := same.out (.inr (mem_zi.2 ⟨k, by rw [← hL.out]; exact hc, by rw [← hy]; exact q4⟩))
        replace q3 := Lib.hid q3; replace q4 := Lib.hid q4; replace hy := Lib.hid hy; replace hs := Lib.hid hs
        clear hslT hslF hta
        go_wp2
        go_ret
        exact hs.out
      have d4 : (y == n) = false := by simpa using q4
      replace q3 := Lib.hid q3; replace q4 := Lib.hid q4; replace hy := Lib.hid hy
      go_wp2_with (first
        | (at_builtin; refine wpList_append_row rfl _ _ 48 rfl wr.heap.size 3 i3 _ 1 8 Try.underlying48 hi3 hz3 hz31 hz32 rfl Nat.one_pos (.slice none 0 0) 0 [] rfl hnil0.out (.slice (some ⟨g, 0, none⟩) k cap) k _ rfl hsrc1.out (hone1.out _) h63.out hby.out (Nat.le_refl _) ?_; intro v1 w2 hown2 hgrow2; have hB2 : Below wr.heap.size wr w2 := (Below.refl _ _).grown hgrow2 (Nat.le_refl _) (nil_own _); have s2 := hB2.size; have hown2a := World.ownsRow.alloc hown2 (.cells #[.int .i64 n] 3 (0, 0)); have hnews : ∀ j u, ([.int .i64 n] : List Value)[j]? = some u → (w2.alloc (.cells #[.int .i64 n] 3 (0, 0))).cell? ((⟨w2.heap.size, 0, none⟩ : Addr).add j) = some u := one_new w2 n; have hbas : wr.heap.size ≤ (w2.alloc (.cells #[.int .i64 n] 3 (0, 0))).heap.size := size_alloc s2 _; replace hown2 := Lib.hid hown2; replace hgrow2 := Lib.hid hgrow2; replace hB2 := Lib.hid hB2; replace hown2a := Lib.hid hown2a; replace hnews := Lib.hid hnews; replace hbas := Lib.hid hbas)
        | (at_builtin; refine wpList_append_own _ rfl _ _ 48 rfl wr.heap.size 3 i3 _ 1 8 Try.underlying48 hi3 hz3 hz31 hz32 rfl Nat.one_pos v1 (0 + k) _ rfl hown2a.out ⟨w2.heap.size, 0, none⟩ 1 1 [.int .i64 n] rfl rfl hnews.out (hone1.out [n]) h63b.out hbyb.out hbas.out ?_; intro v2 w4 hown4 hgrow4 _; have hB4 : Below wr.heap.size wr w4 := (hB2.out.alloc s2 _).grown hgrow4 hbas.out (fun k hk => (World.ownsRow.lt hown2.out k hk).1); have hrow4 : ∀ j u, ((zs.drop k).map (Value.int .i64))[j]? = some u → w4.cell? (ta.add j) = some u := (fun j u hu => (below_cell2 hB4 hg (hta (hrow.out j u hu).1) j).trans (hrow.out j u hu).2); have s4 := hB4.size; replace hown4 := Lib.hid hown4; replace hgrow4 := Lib.hid hgrow4; replace hB4 := Lib.hid hB4; replace hrow4 := Lib.hid hrow4)
        | (at_builtin; refine wpList_append_own _ rfl _ _ 48 rfl wr.heap.size 3 i3 _ 1 8 Try.underlying48 hi3 hz3 hz31 hz32 rfl Nat.one_pos v2 (0 + k + 1) _ rfl hown4.out ta (L - k) (cap - k) _ rfl hdrop.out hrow4.out (hone1.out _) h63c.out hbyc.out s4 ?_; intro v3 w6 hown6 hgrow6 _; have hB6 : Below wr.heap.size wr w6 := hB4.out.grown hgrow6 s4 (fun k hk => (World.ownsRow.lt hown4.out k hk).1); replace hown6 := Lib.hid hown6; replace hgrow6 := Lib.hid hgrow6; replace hB6 := Lib.hid hB6))
      go_ret
      exact fin.out v3 w6 (by simpa using hown6.out) hB6.out
    · have hc1 : ¬ (k : Int) < L := by omega
      go_wp2_with (first
        | (at_builtin; refine wpList_append_row rfl _ _ 48 rfl wr.heap.size 3 i3 _ 1 8 Try.underlying48 hi3 hz3 hz31 hz32 rfl Nat.one_pos (.slice none 0 0) 0 [] rfl hnil0.out (.slice (some ⟨g, 0, none⟩) k cap) k _ rfl hsrc1.out (hone1.out _) h63.out hby.out (Nat.le_refl _) ?_; intro v1 w2 hown2 hgrow2; have hB2 : Below wr.heap.size wr w2 := (Below.refl _ _).grown hgrow2 (Nat.le_refl _) (nil_own _); have s2 := hB2.size; have hown2a := World.ownsRow.alloc hown2 (.cells #[.int .i64 n] 3 (0, 0)); have hnews : ∀ j u, ([.int .i64 n] : List Value)[j]? = some u → (w2.alloc (.cells #[.int .i64 n] 3 (0, 0))).cell? ((⟨w2.heap.size, 0, none⟩ : Addr).add j) = some u := one_new w2 n; have hbas : wr.heap.size ≤ (w2.alloc (.cells #[.int .i64 n] 3 (0, 0))).heap.size := size_alloc s2 _; replace hown2 := Lib.hid hown2; replace hgrow2 := Lib.hid hgrow2; replace hB2 := Lib.hid hB2; replace hown2a := Lib.hid hown2a; replace hnews := Lib.hid hnews; replace hbas := Lib.hid hbas)
        | (at_builtin; refine wpList_append_own _ rfl _ _ 48 rfl wr.heap.size 3 i3 _ 1 8 Try.underlying48 hi3 hz3 hz31 hz32 rfl Nat.one_pos v1 (0 + k) _ rfl hown2a.out ⟨w2.heap.size, 0, none⟩ 1 1 [.int .i64 n] rfl rfl hnews.out (hone1.out [n]) h63b.out hbyb.out hbas.out ?_; intro v2 w4 hown4 hgrow4 _; have hB4 : Below wr.heap.size wr w4 := (hB2.out.alloc s2 _).grown hgrow4 hbas.out (fun k hk => (World.ownsRow.lt hown2.out k hk).1); have hrow4 : ∀ j u, ((zs.drop k).map (Value.int .i64))[j]? = some u → w4.cell? (ta.add j) = some u := (fun j u hu => (below_cell2 hB4 hg (hta (hrow.out j u hu).1) j).trans (hrow.out j u hu).2); have s4 := hB4.size; replace hown4 := Lib.hid hown4; replace hgrow4 := Lib.hid hgrow4; replace hB4 := Lib.hid hB4; replace hrow4 := Lib.hid hrow4)
        | (at_builtin; refine wpList_append_own _ rfl _ _ 48 rfl wr.heap.size 3 i3 _ 1 8 Try.underlying48 hi3 hz3 hz31 hz32 rfl Nat.one_pos v2 (0 + k + 1) _ rfl hown4.out ta (L - k) (cap - k) _ rfl hdrop.out hrow4.out (hone1.out _) h63c.out hbyc.out s4 ?_; intro v3 w6 hown6 hgrow6 _; have hB6 : Below wr.heap.size wr w6 := hB4.out.grown hgrow6 s4 (fun k hk => (World.ownsRow.lt hown4.out k hk).1); replace hown6 := Lib.hid hown6; replace hgrow6 := Lib.hid hgrow6; replace hB6 := Lib.hid hB6))
      go_ret
      exact fin.out v3 w6 (by simpa using hown6.out) hB6.out
end Go.Proofs.Ytpjajiambbobhaa

/- corveeref06.Profile.Ticks: the ticks at which something may change. -/
namespace Go.Proofs.Ytpjajiambbobhaa
open Go.RowKit

def Met (cs : List Ch) (k : Nat) (x : Int) : Prop := ∃ j, j < k ∧ (x = (ch cs j).fr ∨ x = (ch cs j).tt)
def TicK (cs : List Ch) (F T : Int) (k : Nat) (zs : List Int) : Prop := (∀ x, x ∈ zs ↔ (F < T ∧ x = F) ∨ (F ≤ x ∧ x < T ∧ Met cs k x)) ∧ zs.length ≤ 1 + 2 * k ∧ (F < T → 0 < zs.length)
theorem TicK.step {cs : List Ch} {F T : Int} {k : Nat} {zs z1 z2 : List Int} (h : TicK cs F T k zs) (h1 : ∀ x, x ∈ z1 ↔ x ∈ zs ∨ (x = (ch cs k).fr ∧ F ≤ (ch cs k).fr ∧ (ch cs k).fr < T)) (l1 : z1.length ≤ zs.length + 1) (m1 : zs.length ≤ z1.length)
    (h2 : ∀ x, x ∈ z2 ↔ x ∈ z1 ∨ (x = (ch cs k).tt ∧ F ≤ (ch cs k).tt ∧ (ch cs k).tt < T)) (l2 : z2.length ≤ z1.length + 1) (m2 : z1.length ≤ z2.length) : TicK cs F T (k + 1) z2 := by
  obtain ⟨a, b, c⟩ := h
  refine ⟨fun x => ?_, by omega, fun h => by have := c h; omega⟩
  rw [h2, h1, a]
  constructor
  · rintro (((h | ⟨p, q, j, hj, e⟩) | ⟨e, p, q⟩) | ⟨e, p, q⟩)
    · exact .inl h
    · exact .inr ⟨p, q, j, by omega, e⟩
    · exact .inr ⟨by omega, by omega, k, by omega, .inl e⟩
    · exact .inr ⟨by omega, by omega, k, by omega, .inr e⟩
  · rintro (h | ⟨p, q, j, hj, e⟩)
    · exact .inl (.inl (.inl h))
    · by_cases hjk : j = k
      · subst hjk
        rcases e with e | e
        · exact .inl (.inr ⟨e, by omega, by omega⟩)
        · exact .inr ⟨e, by omega, by omega⟩
      · exact .inl (.inl (.inr ⟨p, q, j, by omega, e⟩))

def TicPost (cs : List Ch) (fr tt : Int) (w : World) (e : Ending) (w' : World) : Prop :=
  ∃ sv zs, e = .returned sv ∧ IRow w' sv zs ∧ TicK cs (max fr 0) (min tt 1099511627776) cs.length zs ∧ Below w.heap.size w w'

set_option maxRecDepth 100000 in
set_option maxHeartbeats 1600000 in
theorem tic_any (whole : V4) (sv : Value) (cs : List Ch) (fr tt : Int) (w : World) (hc : CRow w sv cs) (hn : cs.length ≤ 100000) :
    Calls Try.prog 108 #[pval whole sv, .int .i64 fr, .int .i64 tt] w (TicPost cs fr tt w) := by
  obtain ⟨i3, hi3, hz3, hz31, hz32⟩ := info_parts info3
  obtain ⟨ao, cap, rfl, hao⟩ := hc.form
  obtain ⟨n, hnn⟩ : ∃ n, n = cs.length := ⟨_, rfl⟩
  rw [← hnn] at hao hn hc
  rw [← hnn]
  obtain ⟨F, hF⟩ : ∃ F, F = max fr 0 := ⟨_, rfl⟩
  obtain ⟨T, hT⟩ : ∃ T, T = min tt 1099511627776 := ⟨_, rfl⟩
  have hmx : (if fr < 0 then 0 else fr) = F := by rw [hF]; omega
  have hmn : (if 1099511627776 < tt then 1099511627776 else tt) = T := by rw [hT]; omega
  have hB0 : Below w.heap.size w (w.alloc (.cells (pcells whole (.slice ao n cap)) 119 (0, 0))) := (Below.refl _ _).alloc (Nat.le_refl _) _
  have hp0 : (w.alloc (.cells (pcells whole (.slice ao n cap)) 119 (0, 0))).heap[w.heap.size]? = some (.cells (pcells whole (.slice ao n cap)) 119 (0, 0)) := blk_new _ _
  obtain ⟨W, hW⟩ : ∃ W, W = w.alloc (.cells (pcells whole (.slice ao n cap)) 119 (0, 0)) := ⟨_, rfl⟩
  rw [← hW] at hB0 hp0
  have hW' := hW
  have sW : W.heap.size = w.heap.size + 1 := by rw [hW]; simp
  replace hc := Lib.hid hc; replace hao := Lib.hid hao; replace hnn := Lib.hid hnn; replace hF := Lib.hid hF; replace hT := Lib.hid hT; replace hB0 := Lib.hid hB0; replace hp0 := Lib.hid hp0; replace hW := Lib.hid hW; replace hW' := Lib.hid hW'
  by_cases q1 : F < T
  · have d1 : decide (F < T) = true := by simpa using q1
    have hown0 : Hid ((W.alloc (.cells #[.int .i64 F] 3 (0, 0))).ownsRow w.heap.size 3 1 (.slice none 0 0) 0 []) := World.ownsRow_nil _ _ _ _
    have hnews : Hid (∀ j u, ([.int .i64 F] : List Value)[j]? = some u → (W.alloc (.cells #[.int .i64 F] 3 (0, 0))).cell? ((⟨w.heap.size + 1, 0, none⟩ : Addr).add j) = some u) := by
      have := one_new W F
      rw [sW] at this
      exact this
    have hone1 : Hid (∀ u ∈ ([.int .i64 F] : List Value), u.oneCell' = true) := by
      show ∀ u ∈ ([.int .i64 F] : List Value), u.oneCell' = true
      simp [Value.oneCell']
    have h63 : Hid (0 + 1 ≤ maxLen) := by show 0 + 1 ≤ maxLen; decide
    have hby : Hid ((0 + 1) * 8 ≤ 140737488355328) := by show (0 + 1) * 8 ≤ _; decide
    have hbas : Hid (w.heap.size ≤ (W.alloc (.cells #[.int .i64 F] 3 (0, 0))).heap.size) := size_alloc hB0.out.size _
    replace q1 := Lib.hid q1
    rw [hW'.out] at hown0 hnews hbas
    go_enter Try.func108, Try.ntmps108
    go_wp2_with (at_builtin; refine wpList_append_own _ rfl _ _ 48 rfl w.heap.size 3 i3 _ 1 8 Try.underlying48 hi3 hz3 hz31 hz32 rfl Nat.one_pos (.slice none 0 0) 0 [] rfl hown0.out ⟨w.heap.size + 1, 0, none⟩ 1 1 [.int .i64 F] rfl rfl hnews.out hone1.out h63.out hby.out hbas.out ?_; intro v1 w2 hown2 hgrow2 _; replace hown2 := Lib.hid hown2; replace hgrow2 := Lib.hid hgrow2)
    have hI0 : IRow w2 v1 [F] := by
      have := owns_mono (base' := 0) hown2.out (Nat.zero_le _)
      simpa [IRow] using this
    have hG0 := (Below.refl _ _).grown hgrow2.out (Nat.le_refl _) (nil_own _)
    have hL0 : Below w.heap.size w w2 := by
      have := hB0.out
      rw [hW'.out] at this
      exact (this.alloc this.size _).trans (hG0.mono (by simp; omega))
    have hP0 : w2.heap[w.heap.size]? = some (.cells (pcells whole (.slice ao n cap)) 119 (0, 0)) := blk_below hG0 (blk_old _ (blk_new _ _)) (by simp; omega)
    have hS0 : TicK cs F T 0 [F] := by
      refine ⟨fun x => ?_, by simp, fun _ => by simp⟩
      simp only [List.mem_singleton]
      constructor
      · exact fun h => .inl ⟨q1.out, h⟩
      · rintro (h | ⟨_, _, j, hj, _⟩)
        · exact h.2
        · omega
    replace hI0 := Lib.hid hI0; replace hG0 := Lib.hid hG0; replace hL0 := Lib.hid hL0; replace hP0 := Lib.hid hP0; replace hS0 := Lib.hid hS0
    go_loopw [7, 8] (fun sv i wr => ∃ (k : Nat) (s1 : Value) (z1 : List Int), i = .int .i64 k ∧ s1 = sv ∧ k ≤ n ∧ Hid (IRow wr s1 z1) ∧ Hid (TicK cs F T k z1) ∧ Hid (wr.heap[w.heap.size]? = some (.cells (pcells whole (.slice ao n cap)) 119 (0, 0))) ∧ Hid (Below w.heap.size w wr)) (fun _ i _ => n - (intOf i).toNat)
    case atStart => exact ⟨0, _, _, rfl, rfl, Nat.zero_le _, hI0.out, hS0.out, hP0.out, hL0.out⟩
    case round =>
      obtain ⟨k, s1, z1, rfl, rfl, hk, hI, hS, hP, hL⟩ := hrel
      have c4 := blk_cell hP.out 4
      simp at c4
      have lP := blk_lt hP.out
      by_cases hc1 : k < n
      · have hc2 : (k : Int) < n := by omega
        have hk0 : (0 : Int) ≤ (k : Int) := by omega
        have hkl : k < cs.length := by rw [← hnn.out]; exact hc1
        obtain ⟨g, rfl, hg⟩ := hao.out (by omega)
        have hcr := CRow.below hc.out hL.out (Nat.le_refl _)
        obtain ⟨a0, a1, a2, a3, a4, a5, a6⟩ := hcr.cells hnn.out hkl
        clear a2 a3 a4 a5 a6
        have lg := Nat.lt_of_lt_of_le hg hL.out.size
        obtain ⟨x, hx⟩ : ∃ x, x = (ch cs k).fr := ⟨_, rfl⟩
        obtain ⟨y, hy⟩ : ∃ y, y = (ch cs k).tt := ⟨_, rfl⟩
        rw [← hx] at a0
        rw [← hy] at a1
        have hput := put_any s1 z1 x F T wr hI.out (fun h1 h2 => hS.out.2.2 (by omega)) (by have := hS.out.2.1; omega)
        replace hx := Lib.hid hx; replace hy := Lib.hid hy; replace hput := Lib.hid hput; replace hcr := Lib.hid hcr
        go_wp2_with fail
        refine hput.out.mono ?_
        rintro e w5 ⟨s5, z5, rfl, hI5, hm5, hl5, hl5', hb5⟩
        have b0 := (below_cell (o := k * 7) hb5 lg).trans a0
        have b1 := (below_cell (o := k * 7 + 1) hb5 lg).trans a1
        have hP5 := blk_below hb5 hP.out lP
        have c5 := blk_cell hP5 4
        simp at c5
        have lP5 := blk_lt hP5
        have lg5 : g < w5.heap.size := Nat.lt_of_lt_of_le lg hb5.size
        have hL5 := hL.out.trans (hb5.mono hL.out.size)
        have hput5 := put_any s5 z5 y F T w5 hI5 (fun h1 h2 => by have := hS.out.2.2 (by omega); omega) (by have := hS.out.2.1; omega)
        clear a0 a1 c4 lP
        replace hI5 := Lib.hid hI5; replace hm5 := Lib.hid hm5; replace hl5 := Lib.hid hl5; replace hl5' := Lib.hid hl5'; replace hb5 := Lib.hid hb5; replace hP5 := Lib.hid hP5; replace hL5 := Lib.hid hL5; replace hput5 := Lib.hid hput5
        go_wp2_with fail
        refine hput5.out.mono ?_
        rintro e w6 ⟨s6, z6, rfl, hI6, hm6, hl6, hl6', hb6⟩
        have hP6 := blk_below hb6 hP5.out lP5
        have hL6 := hL5.out.trans (hb6.mono hL5.out.size)
        have hS6 : TicK cs F T (k + 1) z6 := hS.out.step (by rw [← hx.out]; exact hm5.out) hl5.out hl5'.out (by rw [← hy.out]; exact hm6) hl6 hl6'
        replace hI6 := Lib.hid hI6; replace hm6 := Lib.hid hm6; replace hl6 := Lib.hid hl6; replace hl6' := Lib.hid hl6'; replace hb6 := Lib.hid hb6; replace hP6 := Lib.hid hP6; replace hL6 := Lib.hid hL6; replace hS6 := Lib.hid hS6
        go_wp2
        go_roundw
        case rel => exact ⟨k + 1, s6, z6, by go_num, rfl, by omega, hI6.out, hS6.out, hP6.out, hL6.out⟩
        case measure => simp [intOf]; omega
      · have hc2 : ¬ (k : Int) < n := by omega
        have hkn : k = cs.length := by rw [← hnn.out]; omega
        replace hkn := Lib.hid hkn
        go_wp2
        go_ret
        refine ⟨s1, z1, rfl, hI.out, ?_, hL.out⟩
        rw [← hF.out, ← hT.out, ← hkn.out]
        exact hS.out
  · have d1 : decide (F < T) = false := by simpa using q1
    have hI0 : IRow W (.slice none 0 0) [] := World.ownsRow_nil _ _ _ _
    have hL0 := hB0.out
    have hP0 := hp0.out
    have hS0 : TicK cs F T 0 [] := by
      refine ⟨fun x => ?_, by simp, fun h => absurd h q1⟩
      constructor
      · exact fun h => by simp at h
      · rintro (h | ⟨_, _, j, hj, _⟩)
        · exact absurd h.1 q1
        · omega
    rw [hW'.out] at hI0 hL0 hP0
    replace q1 := Lib.hid q1
    replace hI0 := Lib.hid hI0; replace hL0 := Lib.hid hL0; replace hP0 := Lib.hid hP0; replace hS0 := Lib.hid hS0
    go_enter Try.func108, Try.ntmps108
    go_wp2
    go_loopw [7, 8] (fun sv i wr => ∃ (k : Nat) (s1 : Value) (z1 : List Int), i = .int .i64 k ∧ s1 = sv ∧ k ≤ n ∧ Hid (IRow wr s1 z1) ∧ Hid (TicK cs F T k z1) ∧ Hid (wr.heap[w.heap.size]? = some (.cells (pcells whole (.slice ao n cap)) 119 (0, 0))) ∧ Hid (Below w.heap.size w wr)) (fun _ i _ => n - (intOf i).toNat)
    case atStart => exact ⟨0, _, _, rfl, rfl, Nat.zero_le _, hI0.out, hS0.out, hP0.out, hL0.out⟩
    case round =>
      obtain ⟨k, s1, z1, rfl, rfl, hk, hI, hS, hP, hL⟩ := hrel
      have c4 := blk_cell hP.out 4
      simp at c4
      have lP := blk_lt hP.out
      by_cases hc1 : k < n
      · have hc2 : (k : Int) < n := by omega
        have hk0 : (0 : Int) ≤ (k : Int) := by omega
        have hkl : k < cs.length := by rw [← hnn.out]; exact hc1
        obtain ⟨g, rfl, hg⟩ := hao.out (by omega)
        have hcr := CRow.below hc.out hL.out (Nat.le_refl _)
        obtain ⟨a0, a1, a2, a3, a4, a5, a6⟩ := hcr.cells hnn.out hkl
        clear a2 a3 a4 a5 a6
        have lg := Nat.lt_of_lt_of_le hg hL.out.size
        obtain ⟨x, hx⟩ : ∃ x, x = (ch cs k).fr := ⟨_, rfl⟩
        obtain ⟨y, hy⟩ : ∃ y, y = (ch cs k).tt := ⟨_, rfl⟩
        rw [← hx] at a0
        rw [← hy] at a1
        have hput := put_any s1 z1 x F T wr hI.out (fun h1 h2 => hS.out.2.2 (by omega)) (by have := hS.out.2.1; omega)
        replace hx := Lib.hid hx; replace hy := Lib.hid hy; replace hput := Lib.hid hput; replace hcr := Lib.hid hcr
        go_wp2_with fail
        refine hput.out.mono ?_
        rintro e w5 ⟨s5, z5, rfl, hI5, hm5, hl5, hl5', hb5⟩
        have b0 := (below_cell (o := k * 7) hb5 lg).trans a0
        have b1 := (below_cell (o := k * 7 + 1) hb5 lg).trans a1
        have hP5 := blk_below hb5 hP.out lP
        have c5 := blk_cell hP5 4
        simp at c5
        have lP5 := blk_lt hP5
        have lg5 : g < w5.heap.size := Nat.lt_of_lt_of_le lg hb5.size
        have hL5 := hL.out.trans (hb5.mono hL.out.size)
        have hput5 := put_any s5 z5 y F T w5 hI5 (fun h1 h2 => by have := hS.out.2.2 (by omega); omega) (by have := hS.out.2.1; omega)
        clear a0 a1 c4 lP
        replace hI5 := Lib.hid hI5; replace hm5 := Lib.hid hm5; replace hl5 := Lib.hid hl5; replace hl5' := Lib.hid hl5'; replace hb5 := Lib.hid hb5; replace hP5 := Lib.hid hP5; replace hL5 := Lib.hid hL5; replace hput5 := Lib.hid hput5
        go_wp2_with fail
        refine hput5.out.mono ?_
        rintro e w6 ⟨s6, z6, rfl, hI6, hm6, hl6, hl6', hb6⟩
        have hP6 := blk_below hb6 hP5.out lP5
        have hL6 := hL5.out.trans (hb6.mono hL5.out.size)
        have hS6 : TicK cs F T (k + 1) z6 := hS.out.step (by rw [← hx.out]; exact hm5.out) hl5.out hl5'.out (by rw [← hy.out]; exact hm6) hl6 hl6'
        replace hI6 := Lib.hid hI6; replace hm6 := Lib.hid hm6; replace hl6 := Lib.hid hl6; replace hl6' := Lib.hid hl6'; replace hb6 := Lib.hid hb6; replace hP6 := Lib.hid hP6; replace hL6 := Lib.hid hL6; replace hS6 := Lib.hid hS6
        go_wp2
        go_roundw
        case rel => exact ⟨k + 1, s6, z6, by go_num, rfl, by omega, hI6.out, hS6.out, hP6.out, hL6.out⟩
        case measure => simp [intOf]; omega
      · have hc2 : ¬ (k : Int) < n := by omega
        have hkn : k = cs.length := by rw [← hnn.out]; omega
        replace hkn := Lib.hid hkn
        go_wp2
        go_ret
        refine ⟨s1, z1, rfl, hI.out, ?_, hL.out⟩
        rw [← hF.out, ← hT.out, ← hkn.out]
        exact hS.out
end Go.Proofs.Ytpjajiambbobhaa

/- What the document's profile has free is what the steps tell: the plain law. Plain theorems: no condition. -/
namespace Go.Proofs.Ytpjajiambbobhaa

/-- the document's changes tell what the steps tell -/
structure RelC (whole : V4) (cs : List Ch) (l : List St) : Prop where
  inv : Inv whole l
  fair : Fair cs
  same : ∀ u, 0 ≤ u → u < 1099511627776 → atR whole cs u = val l u

theorem atR_same {whole : V4} {cs : List Ch} {t u : Int} (h : ∀ i, i < cs.length → (t < (ch cs i).fr ↔ u < (ch cs i).fr) ∧ ((ch cs i).tt ≤ t ↔ (ch cs i).tt ≤ u)) : atR whole cs t = atR whole cs u := by
  have key : ∀ k, k ≤ cs.length → atK whole cs k t = atK whole cs k u := by
    intro k hk
    induction k with
    | zero => simp [atK]
    | succ k ih =>
      rw [atK_succ t (by omega), atK_succ u (by omega), ih (by omega)]
      have hh := h k (by omega)
      unfold stepC
      simp only [hh.1, hh.2]
  rw [← atK_all, ← atK_all]
  exact key _ (Nat.le_refl _)

theorem last_tick (zs : List Int) (F u : Int) (h : F ∈ zs) (hF : F ≤ u) : ∃ t, t ∈ zs ∧ t ≤ u ∧ ∀ x ∈ zs, x ≤ u → x ≤ t := by
  induction zs generalizing F with
  | nil => simp at h
  | cons z r ih =>
    by_cases hr : ∃ y ∈ r, y ≤ u
    · obtain ⟨y, hy, hyu⟩ := hr
      obtain ⟨t, ht, htu, hall⟩ := ih y hy hyu
      by_cases hz : z ≤ u ∧ t < z
      · exact ⟨z, by simp, hz.1, fun x hx hxu => by
          rcases List.mem_cons.1 hx with rfl | hx
          · omega
          · have := hall x hx hxu; omega⟩
      · exact ⟨t, by simp [ht], htu, fun x hx hxu => by
          rcases List.mem_cons.1 hx with rfl | hx
          · omega
          · exact hall x hx hxu⟩
    · have hz : z = F := by
        rcases List.mem_cons.1 h with e | e
        · exact e.symm
        · exact absurd ⟨F, e, hF⟩ hr
      subst hz
      exact ⟨z, by simp, hF, fun x hx hxu => by
        rcases List.mem_cons.1 hx with rfl | hx
        · omega
        · exact absurd ⟨x, hx, hxu⟩ hr⟩

/-- between two ticks nothing changes -/
theorem RelC.tick {whole : V4} {cs : List Ch} {l : List St} (h : RelC whole cs l) {F T : Int} {zs : List Int} (hz : TicK cs F T cs.length zs) (h0 : 0 ≤ F) (h1 : T ≤ 1099511627776) {u : Int} (hu : F ≤ u) (hu2 : u < T) :
    ∃ t, t ∈ zs ∧ F ≤ t ∧ t ≤ u ∧ val l t = val l u := by
  have hFz : F ∈ zs := (hz.1 F).2 (.inl ⟨by omega, rfl⟩)
  obtain ⟨t, ht, htu, hall⟩ := last_tick zs F u hFz hu
  have hFt : F ≤ t := hall F hFz hu
  refine ⟨t, ht, hFt, htu, ?_⟩
  rw [← h.same t (by omega) (by omega), ← h.same u (by omega) (by omega)]
  refine atR_same fun i hi => ⟨?_, ?_⟩
  · constructor
    · intro h2
      apply Classical.byContradiction
      intro hc
      have := hall (ch cs i).fr ((hz.1 _).2 (.inr ⟨by omega, by omega, i, hi, .inl rfl⟩)) (by omega)
      omega
    · intro h2; omega
  · constructor
    · intro h2; omega
    · intro h2
      apply Classical.byContradiction
      intro hc
      have := hall (ch cs i).tt ((hz.1 _).2 (.inr ⟨by omega, by omega, i, hi, .inr rfl⟩)) (by omega)
      omega

theorem minAll_app (v : V4) (l : List St) (s : St) : minAll v (l ++ [s]) = (minAll v l).least s.f := by
  induction l generalizing v with
  | nil => rfl
  | cons x r ih => exact ih (v.least x.f)
def tickSt (whole : V4) (cs : List Ch) (zs : List Int) : List St := zs.map fun t => ⟨t, atF whole cs t⟩
theorem tickSt_succ (whole : V4) (cs : List Ch) (zs : List Int) {k : Nat} (hk : k < zs.length) : minAll whole (tickSt whole cs (zs.take (k + 1))) = (minAll whole (tickSt whole cs (zs.take k))).least (atF whole cs (zi zs k)) := by
  have e : zs.take (k + 1) = zs.take k ++ [zi zs k] := by
    rw [List.take_add_one]
    simp [zi, List.getD, hk]
  rw [e]
  unfold tickSt
  rw [List.map_append]
  exact minAll_app _ _ _
theorem RelC.free {whole : V4} {cs : List Ch} {l : List St} (h : RelC whole cs l) {fr tt : Int} {zs : List Int} (hz : TicK cs (max fr 0) (min tt 1099511627776) cs.length zs) : minAll whole (tickSt whole cs zs) = freeL whole l fr tt := by
  have hin : ∀ t, t ∈ zs → max fr 0 ≤ t ∧ t < min tt 1099511627776 := fun t ht => by
    rcases (hz.1 t).1 ht with ⟨a, b⟩ | ⟨a, b, _⟩
    · omega
    · exact ⟨a, b⟩
  have hat : ∀ t, t ∈ zs → atF whole cs t = val l t := fun t ht => by
    have := hin t ht
    unfold atF
    rw [if_pos (by omega), h.same t (by omega) (by omega)]
  obtain ⟨lo1, lo2⟩ := minAll_low whole (tickSt whole cs zs)
  obtain ⟨ma, mb, mc, md⟩ := minAll_at whole (tickSt whole cs zs)
  have hx : ∀ x, x ∈ tickSt whole cs zs → ∃ t, t ∈ zs ∧ x.f = val l t := fun x hx => by
    obtain ⟨t, ht, rfl⟩ := List.mem_map.1 hx
    exact ⟨t, ht, hat t ht⟩
  have m : IsMin whole (fun u => max fr 0 ≤ u ∧ u < min tt 1099511627776) (val l) (minAll whole (tickSt whole cs zs)) := by
    refine ⟨fun u hu => ?_, lo1, ?_, ?_, ?_, ?_⟩
    · obtain ⟨t, ht, _, _, e⟩ := h.tick hz (by omega) (by omega) hu.1 hu.2
      rw [← e, ← hat t ht]
      exact lo2 ⟨t, atF whole cs t⟩ (List.mem_map.2 ⟨t, ht, rfl⟩)
    · rcases ma with e | ⟨x, h1, e⟩
      · exact .inl e
      · obtain ⟨t, ht, e2⟩ := hx x h1
        exact .inr ⟨t, hin t ht, by rw [e, e2]⟩
    · rcases mb with e | ⟨x, h1, e⟩
      · exact .inl e
      · obtain ⟨t, ht, e2⟩ := hx x h1
        exact .inr ⟨t, hin t ht, by rw [e, e2]⟩
    · rcases mc with e | ⟨x, h1, e⟩
      · exact .inl e
      · obtain ⟨t, ht, e2⟩ := hx x h1
        exact .inr ⟨t, hin t ht, by rw [e, e2]⟩
    · rcases md with e | ⟨x, h1, e⟩
      · exact .inl e
      · obtain ⟨t, ht, e2⟩ := hx x h1
        exact .inr ⟨t, hin t ht, by rw [e, e2]⟩
  exact m.unique (free_min h.inv.loose fr tt) fun _ _ => rfl
end Go.Proofs.Ytpjajiambbobhaa

/- corveeref06.Profile.Free: what is free from one tick to below another one. -/
namespace Go.Proofs.Ytpjajiambbobhaa
open Go.RowKit

structure FrW (w : World) (whole : V4) (sv : Value) (acc : V4) (wr : World) : Prop where
  p : wr.heap[w.heap.size]? = some (.cells (pcells whole sv) 119 (0, 0))
  r : wr.heap[w.heap.size + 1]? = some (.cells V4.zero.cells 23 (0, 0))
  v : wr.heap[w.heap.size + 1 + 1]? = some (.cells acc.cells 23 (0, 0))
  low : Below w.heap.size w wr
theorem FrW.below {w wr w' : World} {whole acc : V4} {sv : Value} (h : FrW w whole sv acc wr) (hb : Below wr.heap.size wr w') : FrW w whole sv acc w' :=
  ⟨blk_below hb h.p (blk_lt h.p), blk_below hb h.r (blk_lt h.r), blk_below hb h.v (blk_lt h.v), h.low.trans (hb.mono h.low.size)⟩
theorem FrW.set {w wr : World} {whole acc : V4} {sv : Value} (h : FrW w whole sv acc wr) (v : V4) :
    FrW w whole sv v ((((wr.setCell ⟨w.heap.size + 1 + 1, 0, none⟩ (.int .i64 v.a)).setCell ⟨w.heap.size + 1 + 1, 1, none⟩ (.int .i64 v.b)).setCell ⟨w.heap.size + 1 + 1, 2, none⟩ (.int .i64 v.c)).setCell ⟨w.heap.size + 1 + 1, 3, none⟩ (.int .i64 v.d)) :=
  ⟨blk_set_other (by omega) _ (blk_set_other (by omega) _ (blk_set_other (by omega) _ (blk_set_other (by omega) _ h.p))), blk_set_other (by omega) _ (blk_set_other (by omega) _ (blk_set_other (by omega) _ (blk_set_other (by omega) _ h.r))),
    set4 h.v v, low4 h.low (by omega) _ _ _ _⟩

theorem IRow.setV {w : World} {sv : Value} {zs : List Int} {b : Nat} {cs : Array Value} (h : IRow w sv zs) (hv : w.heap[b]? = some (.cells cs 23 (0, 0))) (v0 v1 v2 v3 : Value) :
    IRow ((((w.setCell ⟨b, 0, none⟩ v0).setCell ⟨b, 1, none⟩ v1).setCell ⟨b, 2, none⟩ v2).setCell ⟨b, 3, none⟩ v3) sv zs := by
  obtain ⟨h1, h2⟩ := h
  refine ⟨h1, ?_⟩
  rcases h2 with h | ⟨g, cap, cur, e, hb, hg, hr⟩
  · exact .inl h
  · have hne : g ≠ b := fun c => by rw [c, hv] at hg; simp at hg
    exact .inr ⟨g, cap, cur, e, hb, blk_set_other hne _ (blk_set_other hne _ (blk_set_other hne _ (blk_set_other hne _ hg))), hr⟩
def PCells (b : Nat) (whole : V4) (sv : Value) (w' : World) : Prop :=
  w'.cell? ⟨b, 0, none⟩ = some (.int .i64 whole.a) ∧ w'.cell? ⟨b, 1, none⟩ = some (.int .i64 whole.b) ∧ w'.cell? ⟨b, 2, none⟩ = some (.int .i64 whole.c) ∧ w'.cell? ⟨b, 3, none⟩ = some (.int .i64 whole.d) ∧ w'.cell? ⟨b, 4, none⟩ = some sv
theorem pcells_at {w : World} {b : Nat} {whole : V4} {sv : Value} (h : w.heap[b]? = some (.cells (pcells whole sv) 119 (0, 0))) : PCells b whole sv w := ⟨blk_cell h 0, blk_cell h 1, blk_cell h 2, blk_cell h 3, blk_cell h 4⟩

set_option maxRecDepth 100000 in
set_option maxHeartbeats 3200000 in
theorem rfree_any (whole : V4) (sv : Value) (cs : List Ch) (l : List St) (fr tt : Int) (w : World) (hc : CRow w sv cs) (hn : cs.length ≤ 100000) (hR : RelC whole cs l) :
    Calls Try.prog 80 #[pval whole sv, .int .i64 fr, .int .i64 tt] w fun e w' => e = .returned (freeL whole l fr tt).val ∧ Below w.heap.size w w' := by
  obtain ⟨W, hW⟩ : ∃ W, W = ((w.alloc (.cells (pcells whole sv) 119 (0, 0))).alloc (.cells V4.zero.cells 23 (0, 0))).alloc (.cells whole.cells 23 (0, 0)) := ⟨_, rfl⟩
  have hA0 : FrW w whole sv whole W := by
    rw [hW]
    exact ⟨blk_old _ (blk_old _ (blk_new _ _)), blk_old _ (blk_at _ _ (by simp)), blk_at _ _ (by simp), below3w w _ _ _⟩
  have htic := tic_any whole sv cs fr tt W (hc.below hA0.low (Nat.le_refl _)) hn
  rw [hW] at htic
  replace hA0 := Lib.hid hA0; replace hW := Lib.hid hW; replace htic := Lib.hid htic; replace hc := Lib.hid hc; replace hR := Lib.hid hR; replace hn := Lib.hid hn
  go_enter Try.func80, Try.ntmps80
  go_wp2_with fail
  refine htic.out.mono ?_
  rintro e w2 ⟨s2, zs, rfl, hI2, hT2, hb2⟩
  rw [← hW.out] at hb2
  have hA2 := hA0.out.below hb2
  obtain ⟨ao, cap, rfl, hLc, hcm, hao⟩ := hI2.form
  obtain ⟨L, hL⟩ : ∃ L, L = zs.length := ⟨_, rfl⟩
  have hLn : L ≤ 9223372036854775807 := by omega
  rw [← hL] at hI2 hLc hao ⊢
  have hz2 := hI2.ints hL hLn
  replace hI2 := Lib.hid hI2; replace hT2 := Lib.hid hT2; replace hb2 := Lib.hid hb2; replace hA2 := Lib.hid hA2; replace hL := Lib.hid hL; replace hz2 := Lib.hid hz2; replace hao := Lib.hid hao
  go_wp2
  go_loopw [9] (fun i wr => ∃ (k : Nat) (acc : V4), i = .int .i64 k ∧ k ≤ L ∧ Hid (acc = minAll whole (tickSt whole cs (zs.take k))) ∧ Hid (FrW w whole sv acc wr) ∧ Hid (IRow wr (.slice ao L cap) zs)) (fun i _ => L - (intOf i).toNat)
  case atStart => exact ⟨0, whole, rfl, Nat.zero_le _, (rfl : whole = minAll whole (tickSt whole cs (zs.take 0))), hA2.out, hI2.out⟩
  case round =>
    obtain ⟨k, acc, rfl, hk, hacc, hA, hB⟩ := hrel
    have p0 := blk_cell hA.out.v 0; have p1 := blk_cell hA.out.v 1; have p2 := blk_cell hA.out.v 2; have p3 := blk_cell hA.out.v 3
    simp at p0 p1 p2 p3
    have lA := blk_lt hA.out.p; have lR := blk_lt hA.out.r; have lV := blk_lt hA.out.v
    by_cases hc1 : k < L
    · have hc2 : (k : Int) < L := by omega
      have hk0 : (0 : Int) ≤ (k : Int) := by omega
      obtain ⟨g, hg1, hg⟩ := hao.out (by omega)
      subst hg1
      have hzr := hB.out.ints hL.out hLn
      obtain ⟨b', off', e', lg, b0⟩ := hzr.cell k hc1
      cases e'
      rw [Nat.zero_add] at b0
      clear hzr hg
      obtain ⟨x, hx⟩ : ∃ x, x = zi zs k := ⟨_, rfl⟩
      rw [← hx] at b0
      obtain ⟨c0, c1, c2, c3, c4⟩ := pcells_at hA.out.p
      have hsu := tickSt_succ whole cs zs (k := k) (by rw [← hL.out]; exact hc1)
      rw [← hacc.out, ← hx] at hsu
      obtain ⟨y, hy⟩ : ∃ y, y = atF whole cs x := ⟨_, rfl⟩
      obtain ⟨z, hz⟩ : ∃ z, z = acc.least y := ⟨_, rfl⟩
      rw [← hy, ← hz] at hsu
      have hat := rat_any whole sv cs x wr.drew (hc.out.below hA.out.low.drew (Nat.le_refl _)) hR.out.inv.right hR.out.fair (by have := hn.out; omega)
      rw [← hy] at hat
      have hA1 : FrW w whole sv acc wr.drew := hA.out.below (Below.refl _ _).drew
      have hB1 : IRow wr.drew (.slice (some ⟨g, 0, none⟩) L cap) zs := hB.out
      replace hx := Lib.hid hx; replace hsu := Lib.hid hsu; replace hy := Lib.hid hy; replace hz := Lib.hid hz; replace hat := Lib.hid hat; replace hA1 := Lib.hid hA1; replace hB1 := Lib.hid hB1
      go_wp2_with fail
      go_region_with (first
        | (go_at_call 110
           refine hat.out.mono ?_
           rintro e w5 ⟨rfl, hb5⟩
           have hA5 := hA1.out.below hb5
           have hB5 := hB1.out.below hb5 (Nat.le_refl _)
           have q0 := blk_cell hA5.v 0; have q1 := blk_cell hA5.v 1; have q2 := blk_cell hA5.v 2; have q3 := blk_cell hA5.v 3
           simp at q0 q1 q2 q3
           replace hb5 := Lib.hid hb5; replace hA5 := Lib.hid hA5; replace hB5 := Lib.hid hB5)
        | (go_at_call 109
           refine (least3_any acc y w5).mono ?_
           rintro e w6 ⟨rfl, hb6⟩
           have hA6 := hA5.out.below hb6
           have hB6 := hB5.out.below hb6 (Nat.le_refl _)
           rw [← hz.out]
           have f0 := blk_free hA6.v 0; have f1 := blk_free hA6.v 1; have f2 := blk_free hA6.v 2; have f3 := blk_free hA6.v 3
           have r0 := blk_cell hA6.v 0; have r1 := blk_cell hA6.v 1; have r2 := blk_cell hA6.v 2; have r3 := blk_cell hA6.v 3
           simp at r0 r1 r2 r3
           replace hb6 := Lib.hid hb6; replace hA6 := Lib.hid hA6; replace hB6 := Lib.hid hB6))
      all_goals
        go_wp2
        go_roundw
        case rel => exact ⟨k + 1, z, by go_num, by omega, hsu.out.symm, hA6.out.set z, hB6.out.setV hA6.out.v _ _ _ _⟩
        case measure => simp [intOf]; omega
    · have hc2 : ¬ (k : Int) < L := by omega
      have hkL : k = zs.length := by rw [← hL.out]; omega
      have hfin : acc = freeL whole l fr tt := by
        rw [hacc.out, hkL, List.take_length]
        exact hR.out.free hT2.out
      have f0 := blk_free hA.out.r 0; have f1 := blk_free hA.out.r 1; have f2 := blk_free hA.out.r 2; have f3 := blk_free hA.out.r 3
      have r0 := blk_cell hA.out.r 0; have r1 := blk_cell hA.out.r 1; have r2 := blk_cell hA.out.r 2; have r3 := blk_cell hA.out.r 3
      simp at r0 r1 r2 r3
      replace hkL := Lib.hid hkL; replace hfin := Lib.hid hfin
      go_wp2
      refine bodyPost_ret (v := acc.val) (by simp [results, Try.results80, go_sem, r0, r1, r2, r3]) rfl ⟨by rw [hfin.out], ?_⟩
      exact low4 hA.out.low (by omega) _ _ _ _
end Go.Proofs.Ytpjajiambbobhaa

/- plan: asks, places, a slot is taken, a slot is found. -/
import Derived.Test.YtpjajiambbobhaaGnil
import Derived.Test.YtpjajiambbobhaaGin
import Derived.Test.YtpjajiambbobhaaRefa
/- plan: an ask in memory; slices.Index and Contains; can, end, places. -/
namespace Go.Proofs.Ytpjajiambbobhaa
open Go.RowKit

structure Ask where
  id : Int
  po : Option Addr
  pn : Nat
  pc : Nat
  pzs : List Int
  nodes : Int
  v : V4
  ticks : Int
  start : Int
  go : Option Addr
  gn : Nat
  gc : Nat
  gzs : List Int
def Ask.zero : Ask := ⟨0, none, 0, 0, [], 0, V4.zero, 0, 0, none, 0, 0, []⟩
abbrev Ask.cells (a : Ask) : Array Value := #[.int .i64 a.id, .slice a.po a.pn a.pc, .int .i64 a.nodes, .int .i64 a.v.a, .int .i64 a.v.b, .int .i64 a.v.c, .int .i64 a.v.d, .int .i64 a.ticks, .int .i64 a.start, .slice a.go a.gn a.gc]
abbrev Ask.val (a : Ask) : Value := .agg #[.int .i64 a.id, .slice a.po a.pn a.pc, .int .i64 a.nodes, .int .i64 a.v.a, .int .i64 a.v.b, .int .i64 a.v.c, .int .i64 a.v.d, .int .i64 a.ticks, .int .i64 a.start, .slice a.go a.gn a.gc]
def Ask.obj (a : Ask) : Obj := .cells a.cells 84 (0, 0)
structure Ask.ok (w : World) (a : Ask) : Prop where
  places : IntsAt w a.po a.pn a.pzs
  ple : a.pn ≤ a.pc
  gang : IntsAt w a.go a.gn a.gzs
  gle : a.gn ≤ a.gc
theorem Ask.ok.below {w w' : World} {a : Ask} {B : Nat} (h : a.ok w) (hb : Below B w w') (hB : w.heap.size ≤ B) : a.ok w' := ⟨h.places.below hb hB, h.ple, h.gang.below hb hB, h.gle⟩
theorem ask_cells {w : World} {b : Nat} {a : Ask} (h : w.heap[b]? = some a.obj) : w.cell? ⟨b, 0, none⟩ = some (.int .i64 a.id) ∧ w.cell? ⟨b, 1, none⟩ = some (.slice a.po a.pn a.pc) ∧ w.cell? ⟨b, 2, none⟩ = some (.int .i64 a.nodes) ∧
    w.cell? ⟨b, 3, none⟩ = some (.int .i64 a.v.a) ∧ w.cell? ⟨b, 4, none⟩ = some (.int .i64 a.v.b) ∧ w.cell? ⟨b, 5, none⟩ = some (.int .i64 a.v.c) ∧ w.cell? ⟨b, 6, none⟩ = some (.int .i64 a.v.d) ∧ w.cell? ⟨b, 7, none⟩ = some (.int .i64 a.ticks) ∧
    w.cell? ⟨b, 8, none⟩ = some (.int .i64 a.start) ∧ w.cell? ⟨b, 9, none⟩ = some (.slice a.go a.gn a.gc) :=
  ⟨blk_cell h 0, blk_cell h 1, blk_cell h 2, blk_cell h 3, blk_cell h 4, blk_cell h 5, blk_cell h 6, blk_cell h 7, blk_cell h 8, blk_cell h 9⟩

/-- a row of truth values in memory -/
def bi (bs : List Bool) (i : Nat) : Bool := bs.getD i false
structure BoolsAt (w : World) (ao : Option Addr) (n : Nat) (bs : List Bool) : Prop where
  len : bs.length = n
  max : n ≤ 9223372036854775807
  cell : ∀ i, i < n → ∃ b off, ao = some ⟨b, off, none⟩ ∧ b < w.heap.size ∧ w.cell? ⟨b, off + i, none⟩ = some (.bool (bi bs i))
theorem BoolsAt.below {w w' : World} {ao : Option Addr} {n : Nat} {bs : List Bool} (h : BoolsAt w ao n bs) {B : Nat} (hb : Below B w w') (hB : w.heap.size ≤ B) : BoolsAt w' ao n bs :=
  ⟨h.len, h.max, fun i hi => by
    obtain ⟨b, off, e, hlt, hc⟩ := h.cell i hi
    exact ⟨b, off, e, Nat.lt_of_lt_of_le hlt hb.size, (below_cell hb (by omega)).trans hc⟩⟩

/-- the table: a pool's place, what is up, the tick -/
structure Tab (w : World) (tb gb : Nat) (uo : Option Addr) (un uc : Nat) (bs : List Bool) (now : Int) : Prop where
  head : w.heap[tb]? = some (.cells #[.pointer (some ⟨gb, 0, none⟩), .slice uo un uc, .int .i64 now] 127 (0, 0))
  up : BoolsAt w uo un bs
theorem Tab.below {w w' : World} {tb gb un uc : Nat} {uo : Option Addr} {bs : List Bool} {now : Int} (h : Tab w tb gb uo un uc bs now) (hb : Below w.heap.size w w') : Tab w' tb gb uo un uc bs now := ⟨blk_below hb h.head (blk_lt h.head), h.up.below hb (Nat.le_refl _)⟩

def IdxPost (zs : List Int) (x : Int) (w : World) (e : Ending) (w' : World) : Prop := ∃ r : Int, e = .returned (.int .i64 r) ∧ (0 ≤ r ↔ x ∈ zs) ∧ w' = w
set_option maxRecDepth 100000 in
set_option maxHeartbeats 800000 in
theorem index_any (ao : Option Addr) (n c : Nat) (zs : List Int) (x : Int) (w : World) (hz : IntsAt w ao n zs) : Calls Try.prog 118 #[.slice ao n c, .int .i64 x] w (IdxPost zs x w) := by
  have hlen := hz.len
  have hmax := hz.max
  replace hz := Lib.hid hz; replace hlen := Lib.hid hlen
  go_enter Try.func118, Try.ntmps118
  go_wp2
  go_loopw [5, 8] (fun _ i wr => ∃ k : Nat, i = .int .i64 k ∧ k ≤ n ∧ Hid (∀ j, j < k → zi zs j ≠ x) ∧ wr = w) (fun _ i _ => n - (intOf i).toNat)
  case atStart => exact ⟨0, rfl, Nat.zero_le _, (fun j h => by omega), rfl⟩
  case round =>
    obtain ⟨k, rfl, hk, hall, rfl⟩ := hrel
    by_cases hc : k < n
    · have hc1 : (k : Int) < n := by omega
      have hk0 : (0 : Int) ≤ (k : Int) := by omega
      obtain ⟨b, off, rfl, hb, a0⟩ := hz.out.cell k hc
      obtain ⟨y, hy⟩ : ∃ y, y = zi zs k := ⟨_, rfl⟩
      rw [← hy] at a0
      by_cases q : x = y
      · have d : (x == y) = true := by simpa using q
        have hm : x ∈ zs := mem_zi.2 ⟨k, by rw [hlen.out]; exact hc, by rw [← hy]; exact q.symm⟩
        replace hy := Lib.hid hy; replace q := Lib.hid q; replace hm := Lib.hid hm
        go_wp2
        go_ret
        exact ⟨k, rfl, ⟨fun _ => hm.out, fun _ => by omega⟩, rfl⟩
      · have d : (x == y) = false := by simpa using q
        have hn : ∀ j, j < k + 1 → zi zs j ≠ x := fun j hj => by
          by_cases e : j = k
          · subst e; rw [← hy]; exact fun h => q h.symm
          · exact hall.out j (by omega)
        replace hy := Lib.hid hy; replace q := Lib.hid q; replace hn := Lib.hid hn
        go_wp2
        go_roundw
        case rel => exact ⟨k + 1, by go_num, by omega, hn.out, trivial⟩
        case measure => simp [intOf]; omega
    · have hc1 : ¬ (k : Int) < n := by omega
      have hm : ¬ x ∈ zs := fun h => by
        obtain ⟨j, hj, e⟩ := mem_zi.1 h
        exact hall.out j (by rw [hlen.out] at hj; omega) e
      replace hm := Lib.hid hm
      go_wp2
      go_ret
      exact ⟨-1, rfl, ⟨fun h => (by omega), fun h => absurd h hm.out⟩, rfl⟩
theorem contains_any (ao : Option Addr) (n c : Nat) (zs : List Int) (x : Int) (w : World) (hz : IntsAt w ao n zs) : Calls Try.prog 117 #[.slice ao n c, .int .i64 x] w (InPost zs x w) := by
  have hi := index_any ao n c zs x w hz
  replace hi := Lib.hid hi
  go_enter Try.func117, Try.ntmps117
  go_wp2_with fail
  refine hi.out.mono ?_
  rintro e w2 ⟨r, rfl, hr, rfl⟩
  by_cases q : 0 ≤ r
  · have d : decide (0 ≤ r) = true := by simpa using q
    have hm := hr.1 q
    replace q := Lib.hid q; replace hm := Lib.hid hm
    clear hr
    go_wp2
    go_ret
    exact ⟨true, rfl, ⟨fun _ => hm.out, fun _ => rfl⟩, rfl⟩
  · have d : decide (0 ≤ r) = false := by simpa using q
    have hm : ¬ x ∈ zs := fun h => q (hr.2 h)
    replace q := Lib.hid q; replace hm := Lib.hid hm
    clear hr
    go_wp2
    go_ret
    exact ⟨false, rfl, ⟨fun h => (by cases h), fun h => absurd h hm.out⟩, rfl⟩

def Ask.can (a : Ask) : Bool := decide (0 < a.nodes) && decide (0 < a.ticks) && a.v.right
set_option maxRecDepth 100000 in
theorem can_any (a : Ask) (w : World) : Calls Try.prog 111 #[a.val] w fun e w' => e = .returned (.bool a.can) ∧ Below w.heap.size w w' := by
  have hB : Below w.heap.size w (w.alloc a.obj) := (Below.refl _ _).alloc (Nat.le_refl _) _
  replace hB := Lib.hid hB
  by_cases q1 : 0 < a.nodes
  rotate_left
  · have d1 : decide (0 < a.nodes) = false := by simpa using q1
    have e : a.can = false := by simp [Ask.can, d1]
    rw [e]
    replace q1 := Lib.hid q1; replace e := Lib.hid e
    go_enter Try.func111, Try.ntmps111
    go_wp2
    go_ret
    exact ⟨rfl, hB.out⟩
  have d1 : decide (0 < a.nodes) = true := by simpa using q1
  by_cases q2 : 0 < a.ticks
  rotate_left
  · have d2 : decide (0 < a.ticks) = false := by simpa using q2
    have e : a.can = false := by simp [Ask.can, d2]
    rw [e]
    replace q1 := Lib.hid q1; replace q2 := Lib.hid q2; replace e := Lib.hid e
    go_enter Try.func111, Try.ntmps111
    go_wp2
    go_ret
    exact ⟨rfl, hB.out⟩
  have d2 : decide (0 < a.ticks) = true := by simpa using q2
  have e : a.can = a.v.right := by simp [Ask.can, d1, d2]
  rw [e]
  replace q1 := Lib.hid q1; replace q2 := Lib.hid q2; replace e := Lib.hid e
  go_enter Try.func111, Try.ntmps111
  go_wp2_with fail
  refine (right_any a.v _).mono ?_
  rintro e2 w2 ⟨rfl, hb2⟩
  have hB2 := hB.out.trans (hb2.mono hB.out.size)
  replace hB2 := Lib.hid hB2; replace hb2 := Lib.hid hb2
  go_wp2
  go_ret
  exact ⟨rfl, hB2.out⟩

/-- the tick behind so many; beyond the last one: one that cannot be -/
def endT (fr ticks : Int) : Int := if 1099511627776 - fr < ticks then 1099511627777 else fr + ticks
theorem end_any (fr ticks : Int) (w : World) (h0 : 0 ≤ fr) (h1 : fr ≤ 1099511627776) (h2 : -9223372036854775808 ≤ ticks) : Calls Try.prog 113 #[.int .i64 fr, .int .i64 ticks] w fun e w' => e = .returned (.int .i64 (endT fr ticks)) ∧ w' = w := by
  have e1 : IntKind.i64.wrap (1099511627776 - fr) = 1099511627776 - fr := IntWalk.i64_in _ (by omega)
  unfold endT
  by_cases q : 1099511627776 - fr < ticks
  · have d : decide (1099511627776 - fr < ticks) = true := by simpa using q
    rw [if_pos q]
    replace q := Lib.hid q
    go_enter Try.func113, Try.ntmps113
    go_wp2
    go_ret
    exact ⟨rfl, rfl⟩
  · have d : decide (1099511627776 - fr < ticks) = false := by simpa using q
    have e2 : IntKind.i64.wrap (fr + ticks) = fr + ticks := IntWalk.i64_in _ (by omega)
    rw [if_neg q]
    replace q := Lib.hid q
    go_enter Try.func113, Try.ntmps113
    go_wp2
    go_ret
    exact ⟨rfl, rfl⟩
end Go.Proofs.Ytpjajiambbobhaa

/- plan: the places of an ask; whether a gang is an ask's. -/
namespace Go.Proofs.Ytpjajiambbobhaa
open Go.RowKit

def plcOk (bs : List Bool) (zs : List Int) (i : Nat) : Bool := bi bs i && decide ((i : Int) ∈ zs)
def plck (bs : List Bool) (zs : List Int) (k : Nat) : List Nat := (List.range k).filter (plcOk bs zs)
/-- the places of an ask that are up, rising -/
def plc (bs : List Bool) (zs : List Int) : List Nat := plck bs zs bs.length
theorem plck_succ (bs : List Bool) (zs : List Int) (k : Nat) : plck bs zs (k + 1) = if plcOk bs zs k = true then plck bs zs k ++ [k] else plck bs zs k := by
  unfold plck
  rw [List.range_succ, List.filter_append]
  by_cases h : plcOk bs zs k = true
  · rw [if_pos h]; simp [h]
  · rw [if_neg h]; simp [h]

def PlcPost (bs : List Bool) (zs : List Int) (w : World) (e : Ending) (w' : World) : Prop :=
  ∃ so n c, e = .returned (.slice so n c) ∧ IntsAt w' so n (ints (plc bs zs)) ∧ n ≤ c ∧ (∀ b off, so = some ⟨b, off, none⟩ → w.heap.size ≤ b) ∧ Below w.heap.size w w'

set_option maxRecDepth 100000 in
set_option maxHeartbeats 1600000 in
theorem places_any (tb gb un uc : Nat) (uo : Option Addr) (bs : List Bool) (now : Int) (a : Ask) (w : World) (ht : Tab w tb gb uo un uc bs now) (hz : IntsAt w a.po a.pn a.pzs) (hu : un ≤ 1000000) :
    Calls Try.prog 114 #[.pointer (some ⟨tb, 0, none⟩), a.val] w (PlcPost bs a.pzs w) := by
  obtain ⟨i3, hi3, hz3, hz31, hz32⟩ := info_parts info3
  have hB0 : Below w.heap.size w (w.alloc a.obj) := (Below.refl _ _).alloc (Nat.le_refl _) _
  have hx0 : (w.alloc a.obj).heap[w.heap.size]? = some a.obj := blk_new _ _
  have hlen := ht.up.len
  have t1 := blk_cell ht.head 1
  simp at t1
  have lt := blk_lt ht.head
  replace ht := Lib.hid ht; replace hz := Lib.hid hz; replace hB0 := Lib.hid hB0; replace hx0 := Lib.hid hx0; replace hlen := Lib.hid hlen
  go_enter Try.func114, Try.ntmps114
  go_wp2
  go_loopw [5, 6, 7, 13] (fun ov _ _ i wr => ∃ (k L : Nat) (xs : List Nat), i = .int .i64 k ∧ k ≤ un ∧ L ≤ k ∧ Hid (Below w.heap.size w wr) ∧ Hid (wr.heap[w.heap.size]? = some a.obj) ∧ Hid (OwnI wr (w.heap.size + 1) ov L xs) ∧ Hid (xs = plck bs a.pzs k)) (fun _ _ _ i _ => un - (intOf i).toNat)
  case atStart => exact ⟨0, 0, [], rfl, by omega, Nat.le_refl _, hB0.out, hx0.out, OwnI.nil _ _, rfl⟩
  case round =>
    obtain ⟨k, L, xs, rfl, hk, hLk, hB, hx, hown, hxs⟩ := hrel
    by_cases hc : k < un
    · have hc1 : (k : Int) < un := by omega
      have hk0 : (0 : Int) ≤ (k : Int) := by omega
      obtain ⟨b, off, rfl, hb, a0⟩ := ht.out.up.cell k hc
      have b0 := (below_cell hB.out hb).trans a0
      clear a0
      have sz := hB.out.size
      cases hbk : bi bs k
      · rw [hbk] at b0
        have hxs2 : xs = plck bs a.pzs (k + 1) := by rw [plck_succ, if_neg (by simp [plcOk, hbk]), hxs.out]
        replace hxs2 := Lib.hid hxs2; replace hbk := Lib.hid hbk
        go_wp2
        go_roundw
        case rel => exact ⟨k + 1, L, xs, by go_num, by omega, by omega, hB.out, hx.out, hown.out, hxs2.out⟩
        case measure => simp [intOf]; omega
      · rw [hbk] at b0
        have x1 := (ask_cells hx.out).2.1
        have lx := blk_lt hx.out
        have hco := contains_any a.po a.pn a.pc a.pzs (k : Int) wr (hz.out.below hB.out (Nat.le_refl _))
        replace hco := Lib.hid hco
        go_wp2_with fail
        refine hco.out.mono ?_
        rintro e w2 ⟨r, rfl, hr, rfl⟩
        have hp : plcOk bs a.pzs k = r := by
          simp only [plcOk, hbk, Bool.true_and]
          rw [Bool.eq_iff_iff, decide_eq_true_iff]
          exact hr.symm
        clear hr
        replace hbk := Lib.hid hbk
        cases r
        · have hxs2 : xs = plck bs a.pzs (k + 1) := by rw [plck_succ, if_neg (by rw [hp]; simp), hxs.out]
          replace hxs2 := Lib.hid hxs2; replace hp := Lib.hid hp
          go_wp2
          go_roundw
          case rel => exact ⟨k + 1, L, xs, by go_num, by omega, by omega, hB.out, hx.out, hown.out, hxs2.out⟩
          case measure => simp [intOf]; omega
        · have hxs2 : xs ++ [k] = plck bs a.pzs (k + 1) := by rw [plck_succ, if_pos hp, hxs.out]
          have hsz1 : w.heap.size + 1 ≤ w2.heap.size := lx
          have hownA := hown.out.2.alloc (.cells #[.int .i64 (k : Int)] 3 (0, 0))
          have hnews := one_new w2 (k : Int)
          have hone1 : ∀ u ∈ ([.int .i64 (k : Int)] : List Value), u.oneCell' = true := by simp [Value.oneCell']
          have h63 : L + 1 ≤ maxLen := by
            have : maxLen = 9223372036854775807 := by kernel_rfl
            omega
          have hby : (L + 1) * 8 ≤ 140737488355328 := by omega
          have hbas := size_alloc hsz1 (.cells #[.int .i64 (k : Int)] 3 (0, 0))
          have hlt := hown.out.2.lt
          have hxl := hown.out.1
          replace hxs2 := Lib.hid hxs2; replace hp := Lib.hid hp; replace hownA := Lib.hid hownA; replace hnews := Lib.hid hnews; replace hone1 := Lib.hid hone1; replace h63 := Lib.hid h63; replace hby := Lib.hid hby; replace hbas := Lib.hid hbas; replace hlt := Lib.hid hlt; replace hxl := Lib.hid hxl
          go_wp2_with (at_builtin; refine wpList_append_own _ rfl _ _ 48 rfl (w.heap.size + 1) 3 i3 _ 1 8 Try.underlying48 hi3 hz3 hz31 hz32 rfl Nat.one_pos _ L _ rfl hownA.out ⟨w2.heap.size, 0, none⟩ 1 1 [.int .i64 (k : Int)] rfl rfl hnews.out hone1.out h63.out hby.out hbas.out ?_; intro v1 w9 hown9 hgrow _; obtain ⟨g, cap1, rfl⟩ := Joins.ownsRow_form hown9 (Nat.succ_pos _); replace hown9 := Lib.hid hown9; replace hgrow := Lib.hid hgrow)
          have hO9 : OwnI w9 (w.heap.size + 1) (.slice (some ⟨g, 0, none⟩) (L + 1) cap1) (L + 1) (xs ++ [k]) := ⟨by rw [List.length_append, ← hxl.out]; rfl, by simpa [ints] using hown9.out⟩
          have hG : Below (w.heap.size + 1) w2 w9 := ((Below.refl _ _).alloc hsz1 _).grown hgrow.out hbas.out (fun k hk => (hlt.out k hk).1)
          have hB9 := hB.out.trans (hG.mono (Nat.le_succ _))
          have hx9 := blk_below hG hx.out (Nat.lt_succ_self _)
          replace hO9 := Lib.hid hO9; replace hB9 := Lib.hid hB9; replace hx9 := Lib.hid hx9; replace hG := Lib.hid hG
          go_roundw
          case rel => exact ⟨k + 1, L + 1, xs ++ [k], by go_num, by omega, by omega, hB9.out, hx9.out, hO9.out, hxs2.out⟩
          case measure => simp [intOf]; omega
    · have hc1 : ¬ (k : Int) < un := by omega
      have hkn : k = bs.length := by rw [hlen.out]; omega
      have hx2 : xs = plc bs a.pzs := by unfold plc; rw [hxs.out, hkn]
      have hL0 : L ≤ 9223372036854775807 := by omega
      replace hkn := Lib.hid hkn; replace hx2 := Lib.hid hx2
      have hown' := hown.out
      rcases Joins.ownsRow_forms hown'.2 with ⟨rfl, h0⟩ | ⟨g, cap1, rfl⟩
      · have hx0 : xs = [] := by have := hown'.1; rw [h0] at this; exact List.length_eq_zero_iff.1 this.symm
        replace hown' := Lib.hid hown'; replace h0 := Lib.hid h0; replace hx0 := Lib.hid hx0
        go_wp2
        go_ret
        refine ⟨none, 0, 0, rfl, ?_, Nat.le_refl _, (fun b off h => by simp at h), hB.out⟩
        rw [← hx2.out, hx0.out]; exact ints_nil _
      · obtain ⟨o1, o2, o3⟩ := hown'.at hL0
        replace hown' := Lib.hid hown'; replace o1 := Lib.hid o1; replace o2 := Lib.hid o2; replace o3 := Lib.hid o3
        go_wp2
        go_ret
        refine ⟨some ⟨g, 0, none⟩, L, cap1, rfl, ?_, o2.out, (fun b off e => by cases e; exact Nat.le_of_succ_le o3.out), hB.out⟩
        rw [← hx2.out]; exact o1.out
end Go.Proofs.Ytpjajiambbobhaa

/- plan: whether a gang is an ask's; a slot is taken for an ask. -/
namespace Go.Proofs.Ytpjajiambbobhaa
open Go.RowKit

structure OfAsk (bs : List Bool) (a : Ask) (zs : List Int) : Prop where
  inn : ∀ i, i < zs.length → zi zs i ∈ ints (plc bs a.pzs)
  rise : ∀ i, i + 1 < zs.length → zi zs i < zi zs (i + 1)
  len : (zs.length : Int) = a.nodes
def OfPost (bs : List Bool) (a : Ask) (zs : List Int) (w : World) (e : Ending) (w' : World) : Prop := ∃ b : Bool, e = .returned (.bool b) ∧ (b = true ↔ OfAsk bs a zs) ∧ Below w.heap.size w w'

set_option maxRecDepth 100000 in
set_option maxHeartbeats 1600000 in
theorem of_any (tb gb un uc : Nat) (uo : Option Addr) (bs : List Bool) (now : Int) (a : Ask) (ao : Option Addr) (m c : Nat) (zs : List Int) (w : World) (ht : Tab w tb gb uo un uc bs now) (hp : IntsAt w a.po a.pn a.pzs) (hu : un ≤ 1000000) (hz : IntsAt w ao m zs) :
    Calls Try.prog 112 #[.pointer (some ⟨tb, 0, none⟩), a.val, .slice ao m c] w (OfPost bs a zs w) := by
  obtain ⟨W, hW⟩ : ∃ W, W = w.alloc a.obj := ⟨_, rfl⟩
  have hB0 : Below w.heap.size w W := by rw [hW]; exact (Below.refl _ _).alloc (Nat.le_refl _) _
  have hx0 : W.heap[w.heap.size]? = some a.obj := by rw [hW]; exact blk_new _ _
  have hpl := places_any tb gb un uc uo bs now a W (ht.below hB0) (hp.below hB0 (Nat.le_refl _)) hu
  rw [hW] at hpl
  have hlen := hz.len
  have hmax := hz.max
  replace ht := Lib.hid ht; replace hp := Lib.hid hp; replace hz := Lib.hid hz; replace hB0 := Lib.hid hB0; replace hx0 := Lib.hid hx0; replace hpl := Lib.hid hpl; replace hlen := Lib.hid hlen; replace hW := Lib.hid hW
  go_enter Try.func112, Try.ntmps112
  go_wp2_with fail
  refine hpl.out.mono ?_
  rintro e w2 ⟨so, sn, sc, rfl, hs2, _, _, hb2⟩
  rw [← hW.out] at hb2
  have hB2 : Below w.heap.size w w2 := hB0.out.trans (hb2.mono hB0.out.size)
  have hx2 := blk_below hb2 hx0.out (blk_lt hx0.out)
  replace hs2 := Lib.hid hs2; replace hb2 := Lib.hid hb2; replace hB2 := Lib.hid hB2; replace hx2 := Lib.hid hx2
  go_wp2
  go_loopw [8, 9, 15] (fun _ _ i wr => ∃ k : Nat, i = .int .i64 k ∧ k ≤ m ∧ Hid (∀ i, i < k → zi zs i ∈ ints (plc bs a.pzs) ∧ (∀ j, i = j + 1 → zi zs j < zi zs i)) ∧ wr = w2) (fun _ _ i _ => m - (intOf i).toNat)
  case atStart => exact ⟨0, rfl, Nat.zero_le _, (fun i h => absurd h (Nat.not_lt_zero i)), rfl⟩
  case round =>
    obtain ⟨k, rfl, hk, hall, rfl⟩ := hrel
    by_cases hc : k < m
    · have hc1 : (k : Int) < m := by omega
      have hk0 : (0 : Int) ≤ (k : Int) := by omega
      obtain ⟨b, off, rfl, hb, a0⟩ := hz.out.cell k hc
      have b0 := (below_cell hB2.out hb).trans a0
      clear a0
      obtain ⟨x, hx⟩ : ∃ x, x = zi zs k := ⟨_, rfl⟩
      rw [← hx] at b0
      have bad : Hid (¬ (x ∈ ints (plc bs a.pzs) ∧ ∀ j, k = j + 1 → zi zs j < x) → ¬ OfAsk bs a zs) := fun h hg => by
        have hkz : k < zs.length := by rw [hlen.out]; exact hc
        refine h ⟨by rw [hx]; exact hg.inn k hkz, fun j e => ?_⟩
        subst e
        rw [hx]; exact hg.rise j hkz
      have hco := contains_any so sn sc (ints (plc bs a.pzs)) x wr hs2.out
      replace hx := Lib.hid hx; replace hco := Lib.hid hco
      go_wp2_with fail
      refine hco.out.mono ?_
      rintro e w3 ⟨r, rfl, hr, rfl⟩
      cases r with
      | false =>
        have hbad := bad.out (fun h => by have := hr.2 h.1; cases this)
        clear hr
        replace hbad := Lib.hid hbad
        go_wp2
        go_ret
        exact ⟨false, rfl, ⟨fun h => (by cases h), fun h => absurd h hbad.out⟩, hB2.out⟩
      | true =>
        have hin := hr.1 rfl
        clear hr
        replace hin := Lib.hid hin
        by_cases k0 : k = 0
        · have dk : decide (0 < (k : Int)) = false := by simp; omega
          have dk2 : decide (0 < k) = false := by simp; omega
          have hnext : ∀ i, i < k + 1 → zi zs i ∈ ints (plc bs a.pzs) ∧ (∀ j, i = j + 1 → zi zs j < zi zs i) := fun i hi => by
            have : i = k := by omega
            subst this
            exact ⟨by rw [← hx.out]; exact hin.out, fun j e => by omega⟩
          replace k0 := Lib.hid k0; replace hnext := Lib.hid hnext
          go_wp2
          go_roundw
          case rel => exact ⟨k + 1, by go_num, by omega, hnext.out, trivial⟩
          case measure => simp [intOf]; omega
        · obtain ⟨j, hj⟩ : ∃ j, k = j + 1 := ⟨k - 1, by omega⟩
          have dk : decide (0 < (k : Int)) = true := by simp; omega
          have dk2 : decide (0 < k) = true := by simp; omega
          have ej : IntKind.i64.wrap ((k : Int) - 1) = (j : Int) := by rw [IntWalk.i64_in _ (by omega)]; omega
          have hj1 : (j : Int) < m := by omega
          have hj0 : (0 : Int) ≤ (j : Int) := by omega
          obtain ⟨b', off', e', hb', a1⟩ := hz.out.cell j (by omega)
          cases e'
          have b1 := (below_cell hB2.out hb').trans a1
          clear a1
          obtain ⟨y, hy⟩ : ∃ y, y = zi zs j := ⟨_, rfl⟩
          rw [← hy] at b1
          by_cases q3 : x ≤ y
          · have d3 : decide (x ≤ y) = true := by simpa using q3
            have hbad := bad.out (fun h => by have := h.2 j hj; rw [← hy] at this; omega)
            replace q3 := Lib.hid q3; replace hbad := Lib.hid hbad; replace hy := Lib.hid hy; replace hj := Lib.hid hj; replace k0 := Lib.hid k0
            go_wp2
            go_ret
            exact ⟨false, rfl, ⟨fun h => (by cases h), fun h => absurd h hbad.out⟩, hB2.out⟩
          · have d3 : decide (x ≤ y) = false := by simpa using q3
            have hnext : ∀ i, i < k + 1 → zi zs i ∈ ints (plc bs a.pzs) ∧ (∀ j, i = j + 1 → zi zs j < zi zs i) := fun i hi => by
              by_cases e : i = k
              · subst e
                refine ⟨by rw [← hx.out]; exact hin.out, fun j2 e => ?_⟩
                have : j2 = j := by omega
                subst this
                rw [← hx.out, ← hy]; omega
              · exact hall.out i (by omega)
            replace q3 := Lib.hid q3; replace hnext := Lib.hid hnext; replace hy := Lib.hid hy; replace hj := Lib.hid hj; replace k0 := Lib.hid k0
            go_wp2
            go_roundw
            case rel => exact ⟨k + 1, by go_num, by omega, hnext.out, trivial⟩
            case measure => simp [intOf]; omega
    · have hc1 : ¬ (k : Int) < m := by omega
      have hkm : k = m := by omega
      have x2 := (ask_cells hx2.out).2.2.1
      have lx := blk_lt hx2.out
      by_cases q : (m : Int) = a.nodes
      · have d : ((m : Int) == a.nodes) = true := by simpa using q
        have hyes : OfAsk bs a zs := ⟨fun i hi => (hall.out i (by rw [hlen.out] at hi; omega)).1, fun i hi => (hall.out (i + 1) (by rw [hlen.out] at hi; omega)).2 i rfl, by rw [hlen.out]; exact q⟩
        replace q := Lib.hid q; replace hyes := Lib.hid hyes
        go_wp2
        go_ret
        exact ⟨true, rfl, ⟨fun _ => hyes.out, fun _ => rfl⟩, hB2.out⟩
      · have d : ((m : Int) == a.nodes) = false := by simpa using q
        have hno : ¬ OfAsk bs a zs := fun h => q (by rw [← hlen.out]; exact h.len)
        replace q := Lib.hid q; replace hno := Lib.hid hno
        go_wp2
        go_ret
        exact ⟨false, rfl, ⟨fun h => (by cases h), fun h => absurd h hno.out⟩, hB2.out⟩

def TakePre (bs : List Bool) (now : Int) (a : Ask) (start : Int) (zs : List Int) : Prop := a.can = true ∧ now ≤ start ∧ start ≤ 1099511627776 ∧ OfAsk bs a zs
def TakeAPost (gb gs cap : Nat) (po : Option Addr) (ps : List Nd) (bs : List Bool) (now : Int) (a : Ask) (start : Int) (zs : List Int) (w : World) (e : Ending) (w' : World) : Prop :=
  ∃ (b : Bool) (ps' : List Nd), e = .returned (.bool b) ∧ Pool w' gb gs po cap ps' ∧ Kin w ps ps' ∧ Mod (Mine ps) w w' ∧
    ((¬ TakePre bs now a start zs ∧ b = false ∧ ps' = ps) ∨ (TakePre bs now a start zs ∧ ∃ r, TookG ps zs start (endT start a.ticks) a.v r ps' ∧ (b = true ↔ r = 0)))

theorem not_mineT {w : World} {gb gs cap b : Nat} {po : Option Addr} {ps : List Nd} {o : Array Value} {T : TypeId} (hp : Pool w gb gs po cap ps) (hb : w.heap[b]? = some (.cells o T (0, 0))) (h1 : T ≠ 102) (h2 : T ≠ 43) : ¬ Mine ps b := by
  rintro ⟨i, hi, c | c⟩
  · have := (hp.prof i hi).head
    rw [← c, hb] at this
    simp at this
    exact h1 this.2
  · obtain ⟨cur2, h3, _⟩ := (hp.prof i hi).row.blk
    rw [← c, hb] at h3
    simp at h3
    exact h2 h3.2
theorem Mod.of_below2 {S : Nat → Prop} {w w' : World} (h : Below w.heap.size w w') : Mod S w w' := ⟨h.os, h.tape, h.output, h.size, fun b hb _ => h.block b hb⟩
theorem Mod.comp2 {S : Nat → Prop} {w w1 w2 : World} (h : Mod S w w1) (k : Mod S w1 w2) : Mod S w w2 :=
  ⟨k.os.trans h.os, k.tape.trans h.tape, k.output.trans h.output, Nat.le_trans h.size k.size, fun b hb hS => (k.block b (Nat.lt_of_lt_of_le hb h.size) hS).trans (h.block b hb hS)⟩

set_option maxRecDepth 100000 in
set_option maxHeartbeats 3200000 in
theorem takea_any (gb gs cap : Nat) (po : Option Addr) (ps : List Nd) (tb un uc : Nat) (uo : Option Addr) (bs : List Bool) (now : Int) (a : Ask) (start : Int) (ao : Option Addr) (m c : Nat) (zs : List Int) (w : World) (hP : Pool w gb gs po cap ps) (ht : Tab w tb gb uo un uc bs now)
    (hp : IntsAt w a.po a.pn a.pzs) (hu : un ≤ 1000000) (hz : IntsAt w ao m zs) (hoff : 0 < m → Off ao (Mine ps)) (hmc : m ≤ c) (hnow : 0 ≤ now) :
    Calls Try.prog 82 #[.pointer (some ⟨tb, 0, none⟩), a.val, .int .i64 start, .slice ao m c] w (TakeAPost gb gs cap po ps bs now a start zs w) := by
  obtain ⟨W, hW⟩ : ∃ W, W = w.alloc a.obj := ⟨_, rfl⟩
  have hB0 : Below w.heap.size w W := by rw [hW]; exact (Below.refl _ _).alloc (Nat.le_refl _) _
  have hx0 : W.heap[w.heap.size]? = some a.obj := by rw [hW]; exact blk_new _ _
  have bad : ¬ TakePre bs now a start zs → ∀ w', Below w.heap.size w w' → TakeAPost gb gs cap po ps bs now a start zs w (.returned (.bool false)) w' := fun h w' hb => ⟨false, ps, rfl, hP.below hb, Kin.refl _ _, Mod.of_below2 hb, .inl ⟨h, rfl, rfl⟩⟩
  have hcn := can_any a W
  rw [hW] at hcn
  replace hP := Lib.hid hP; replace ht := Lib.hid ht; replace hp := Lib.hid hp; replace hz := Lib.hid hz; replace hoff := Lib.hid hoff; replace hB0 := Lib.hid hB0; replace hx0 := Lib.hid hx0; replace hcn := Lib.hid hcn; replace hW := Lib.hid hW; replace bad := Lib.hid bad
  go_enter Try.func82, Try.ntmps82
  go_wp2_with fail
  refine hcn.out.mono ?_
  rintro e w1 ⟨rfl, hb1⟩
  rw [← hW.out] at hb1
  have hB1 : Below w.heap.size w w1 := hB0.out.trans (hb1.mono hB0.out.size)
  have hx1 := blk_below hb1 hx0.out (blk_lt hx0.out)
  have ht1 := ht.out.below hB1
  have c2 := blk_cell ht1.head 2
  simp at c2
  have lt := blk_lt ht1.head
  obtain ⟨y0, y1, y2, y3, y4, y5, y6, y7, y8, y9⟩ := ask_cells hx1
  have lx := blk_lt hx1
  replace hb1 := Lib.hid hb1; replace hB1 := Lib.hid hB1; replace hx1 := Lib.hid hx1; replace ht1 := Lib.hid ht1
  cases hcan : a.can
  · have hbad := bad.out (fun h => by have := h.1; rw [hcan] at this; cases this) w1 hB1.out
    replace hcan := Lib.hid hcan; replace hbad := Lib.hid hbad
    go_wp2
    go_ret
    exact hbad.out
  by_cases q1 : start < now
  · have d1 : decide (start < now) = true := by simpa using q1
    have hbad := bad.out (fun h => by have := h.2.1; omega) w1 hB1.out
    replace hcan := Lib.hid hcan; replace hbad := Lib.hid hbad; replace q1 := Lib.hid q1
    go_wp2
    go_ret
    exact hbad.out
  have d1 : decide (start < now) = false := by simpa using q1
  by_cases q2 : 1099511627776 < start
  · have d2 : decide (1099511627776 < start) = true := by simpa using q2
    have hbad := bad.out (fun h => by have := h.2.2.1; omega) w1 hB1.out
    replace hcan := Lib.hid hcan; replace hbad := Lib.hid hbad; replace q1 := Lib.hid q1; replace q2 := Lib.hid q2
    go_wp2
    go_ret
    exact hbad.out
  have d2 : decide (1099511627776 < start) = false := by simpa using q2
  have hof := of_any tb gb un uc uo bs now a ao m c zs w1 ht1.out (hp.out.below hB1.out (Nat.le_refl _)) hu (hz.out.below hB1.out (Nat.le_refl _))
  have hs0 : 0 ≤ start := by omega
  have hs1 : start ≤ 1099511627776 := by omega
  replace hof := Lib.hid hof; replace q1 := Lib.hid q1; replace q2 := Lib.hid q2
  have hcan' := Lib.hid hcan
  clear hcan
  go_wp2_with fail
  refine hof.out.mono ?_
  rintro e w2 ⟨b, rfl, hb, hb2⟩
  have hB2 : Below w.heap.size w w2 := hB1.out.trans (hb2.mono hB1.out.size)
  have hx2 := blk_below hb2 hx1.out (blk_lt hx1.out)
  have ht2 := ht.out.below hB2
  clear c2 lt y0 y1 y2 y3 y4 y5 y6 y7 y8 y9 lx
  cases b with
  | false =>
    have hbad := bad.out (fun h => by have := hb.2 h.2.2.2; cases this) w2 hB2
    replace hbad := Lib.hid hbad; replace hB2 := Lib.hid hB2; replace hx2 := Lib.hid hx2; replace ht2 := Lib.hid ht2; replace hb2 := Lib.hid hb2
    clear hb
    go_wp2
    go_ret
    exact hbad.out
  | true =>
    have hyes := hb.1 rfl
    clear hb
    have htk : ∀ W', Below w2.heap.size w2 W' → Calls Try.prog 35 #[.pointer (some ⟨gb, 0, none⟩), .slice ao m c, .int .i64 start, .int .i64 (endT start a.ticks), a.v.val] W' (GPost (TookG ps zs start (endT start a.ticks) a.v) gb gs cap po ps W') :=
      fun W' h => gtake_any gb gs cap po ps ao m c zs start (endT start a.ticks) a.v W' (hP.out.below (hB2.trans (h.mono hB2.size))) (hz.out.below (hB2.trans (h.mono hB2.size)) (Nat.le_refl _)) hoff.out hmc
    have htc : -9223372036854775808 ≤ a.ticks := by
      have := hcan'.out
      simp [Ask.can] at this
      omega
    have hen : ∀ W', Calls Try.prog 113 #[.int .i64 start, .int .i64 a.ticks] W' fun e w' => e = .returned (.int .i64 (endT start a.ticks)) ∧ w' = W' := fun W' => end_any start a.ticks W' hs0 hs1 htc
    have c0 := blk_cell ht2.head 0
    simp at c0
    have lt := blk_lt ht2.head
    obtain ⟨y0, y1, y2, y3, y4, y5, y6, y7, y8, y9⟩ := ask_cells hx2
    have lx := blk_lt hx2
    have htn : ¬ Mine ps tb := not_mineT (hP.out.below hB2) ht2.head (by decide) (by decide)
    have hxn : ¬ Mine ps w.heap.size := not_mineT (hP.out.below hB2) hx2 (by decide) (by decide)
    have hBd : Below w2.heap.size w2 w2.drew := (Below.refl _ _).drew
    replace htn := Lib.hid htn; replace hxn := Lib.hid hxn
    clear y0 y1 y2 y8 y9
    replace hyes := Lib.hid hyes; replace hB2 := Lib.hid hB2; replace hx2 := Lib.hid hx2; replace ht2 := Lib.hid ht2; replace hb2 := Lib.hid hb2; replace htk := Lib.hid htk; replace hen := Lib.hid hen; replace hBd := Lib.hid hBd; replace htc := Lib.hid htc
    go_wp2_with fail
    go_region_held3 (fun w' => w'.cell? ⟨tb, 0, none⟩ = some (.pointer (some ⟨gb, 0, none⟩)) ∧ w'.cell? ⟨w.heap.size, 3, none⟩ = some (.int .i64 a.v.a) ∧ w'.cell? ⟨w.heap.size, 4, none⟩ = some (.int .i64 a.v.b) ∧ w'.cell? ⟨w.heap.size, 5, none⟩ = some (.int .i64 a.v.c) ∧ w'.cell? ⟨w.heap.size, 6, none⟩ = some (.int .i64 a.v.d) ∧ w'.cell? ⟨w.heap.size, 7, none⟩ = some (.int .i64 a.ticks))
      (first
        | (go_keep; done)
        | (refine ⟨(hm5.out tb lt htn.out _).trans c0, (hm5.out _ lx hxn.out _).trans y3, (hm5.out _ lx hxn.out _).trans y4, (hm5.out _ lx hxn.out _).trans y5, (hm5.out _ lx hxn.out _).trans y6, (hm5.out _ lx hxn.out _).trans y7⟩))
      (first
        | (go_at_call 113
           refine (hen.out _).mono ?_
           rintro e w4 ⟨rfl, rfl⟩)
        | (go_at_call 35
           refine (htk.out _ hBd.out).mono ?_
           rintro e w5 ⟨r, ps', rfl, hT, hp5, hk5, hm5'⟩
           have hm5 : Hid (∀ b, b < w2.heap.size → ¬ Mine ps b → ∀ o, w5.cell? ⟨b, o, none⟩ = w2.cell? ⟨b, o, none⟩) := fun b hb hn o => World.cell?_of_block (a := ⟨b, o, none⟩) (w := w2) (hm5'.block b hb hn)
           replace hT := Lib.hid hT; replace hp5 := Lib.hid hp5; replace hk5 := Lib.hid hk5; replace hm5' := Lib.hid hm5'))
    have hmod : Mod (Mine ps) w w5 := (Mod.of_below2 hB2.out).comp2 ((Mod.of_below2 hBd.out).comp2 hm5'.out)
    have hkin : Kin w ps ps' := hk5.out.back (Nat.le_trans hB2.out.size hBd.out.size)
    have hpre : TakePre bs now a start zs := ⟨hcan'.out, by have := q1.out; omega, hs1, hyes.out⟩
    replace hmod := Lib.hid hmod; replace hkin := Lib.hid hkin; replace hpre := Lib.hid hpre
    go_wp2
    go_ret
    exact ⟨r == 0, ps', rfl, hp5.out, hkin.out, hmod.out, .inr ⟨hpre.out, r, hT.out, by simp⟩⟩
end Go.Proofs.Ytpjajiambbobhaa

/- plan: a slot is found for an ask, and taken. -/
namespace Go.Proofs.Ytpjajiambbobhaa
open Go.RowKit

def FindA (ps : List Nd) (bs : List Bool) (now : Int) (a : Ask) (st : Int) (so : Option Addr) (sn : Nat) (ps' : List Nd) (w' : World) : Prop :=
  (a.can = false ∧ st = -1 ∧ so = none ∧ sn = 0 ∧ ps' = ps) ∨
  (a.can = true ∧ ∃ t xs is, FindRel ps (ints (plc bs a.pzs)) a.nodes a.v a.ticks now t xs is ∧ (is = false → st = -1 ∧ so = none ∧ sn = 0 ∧ ps' = ps) ∧
    (is = true → st = t ∧ IntsAt w' so sn (ints xs) ∧ ∃ r, TookG ps (ints xs) t (t + a.ticks) a.v r ps'))
def FindAPost (gb gs cap : Nat) (po : Option Addr) (ps : List Nd) (bs : List Bool) (now : Int) (a : Ask) (w : World) (e : Ending) (w' : World) : Prop :=
  ∃ st so sn sc ps', e = .returned (.agg #[.int .i64 a.id, .int .i64 st, .slice so sn sc]) ∧ Pool w' gb gs po cap ps' ∧ Kin w ps ps' ∧ Mod (Mine ps) w w' ∧ sn ≤ sc ∧ (∀ b off, so = some ⟨b, off, none⟩ → w.heap.size ≤ b ∧ ¬ Mine ps' b) ∧ FindA ps bs now a st so sn ps' w'

structure FdW (w : World) (a : Ask) (st : Int) (so : Option Addr) (sn sc : Nat) (wr : World) : Prop where
  ask : wr.heap[w.heap.size]? = some a.obj
  r : wr.heap[w.heap.size + 1]? = some (.cells #[.int .i64 0, .int .i64 0, .slice none 0 0] 88 (0, 0))
  s : wr.heap[w.heap.size + 1 + 1]? = some (.cells #[.int .i64 a.id, .int .i64 st, .slice so sn sc] 88 (0, 0))
theorem FdW.below {w wr w' : World} {a : Ask} {st : Int} {so : Option Addr} {sn sc : Nat} (h : FdW w a st so sn sc wr) (hb : Below wr.heap.size wr w') : FdW w a st so sn sc w' := ⟨blk_below hb h.ask (blk_lt h.ask), blk_below hb h.r (blk_lt h.r), blk_below hb h.s (blk_lt h.s)⟩
theorem FdW.mod {w wr w' : World} {a : Ask} {st : Int} {so : Option Addr} {sn sc : Nat} {S : Nat → Prop} (h : FdW w a st so sn sc wr) (hm : Mod S wr w') (hs : ∀ b, S b → b < w.heap.size) : FdW w a st so sn sc w' :=
  ⟨(hm.block _ (blk_lt h.ask) (fun c => by have := hs _ c; omega)).trans h.ask, (hm.block _ (blk_lt h.r) (fun c => by have := hs _ c; omega)).trans h.r, (hm.block _ (blk_lt h.s) (fun c => by have := hs _ c; omega)).trans h.s⟩

/-- the result is stored -/
theorem low3 {w0 w : World} {B b : Nat} (h : Below B w0 w) (hb : B ≤ b) (v0 v1 v2 : Value) : Below B w0 (((w.setCell ⟨b, 0, none⟩ v0).setCell ⟨b, 1, none⟩ v1).setCell ⟨b, 2, none⟩ v2) := ((h.setCell hb _).setCell hb _).setCell hb _

theorem IntsAt.setCell {w : World} {ao : Option Addr} {n : Nat} {zs : List Int} (h : IntsAt w ao n zs) (c : Addr) (v : Value) (hc : ∀ b off, ao = some ⟨b, off, none⟩ → b ≠ c.block) : IntsAt (w.setCell c v) ao n zs :=
  ⟨h.len, h.max, fun i hi => by
    obtain ⟨b, off, e, hlt, hx⟩ := h.cell i hi
    exact ⟨b, off, e, by simpa [World.setCell] using hlt, (World.cell?_of_block (a := ⟨b, off + i, none⟩) (w := w) (Below.heap_setCell _ _ _ _ (hc b off e))).trans hx⟩⟩
theorem FdW.set {w wr : World} {a : Ask} {st st' : Int} {so so' : Option Addr} {sn sc sn' sc' : Nat} (h : FdW w a st so sn sc wr) :
    FdW w a st' so' sn' sc' ((wr.setCell ⟨w.heap.size + 1 + 1, 1, none⟩ (.int .i64 st')).setCell ⟨w.heap.size + 1 + 1, 2, none⟩ (.slice so' sn' sc')) := by
  have hne : ∀ b, b ≠ w.heap.size + 1 + 1 → ((wr.setCell ⟨w.heap.size + 1 + 1, 1, none⟩ (.int .i64 st')).setCell ⟨w.heap.size + 1 + 1, 2, none⟩ (.slice so' sn' sc')).heap[b]? = wr.heap[b]? := fun b hb => by
    rw [Below.heap_setCell _ _ _ _ hb, Below.heap_setCell _ _ _ _ hb]
  refine ⟨(hne _ (by omega)).trans h.ask, (hne _ (by omega)).trans h.r, ?_⟩
  exact blk_set (blk_set h.s 1 _) 2 _

set_option maxRecDepth 100000 in
set_option maxHeartbeats 6400000 in
theorem finda_any (gb gs cap : Nat) (po : Option Addr) (ps : List Nd) (tb un uc : Nat) (uo : Option Addr) (bs : List Bool) (now : Int) (a : Ask) (w : World) (hP : Pool w gb gs po cap ps) (ht : Tab w tb gb uo un uc bs now)
    (hp : IntsAt w a.po a.pn a.pzs) (hu : un ≤ 1000000) :
    Calls Try.prog 83 #[.pointer (some ⟨tb, 0, none⟩), a.val] w (FindAPost gb gs cap po ps bs now a w) := by
  obtain ⟨W, hW⟩ : ∃ W, W = ((w.alloc a.obj).alloc (.cells #[.int .i64 0, .int .i64 0, .slice none 0 0] 88 (0, 0))).alloc (.cells #[.int .i64 a.id, .int .i64 (-1), .slice none 0 0] 88 (0, 0)) := ⟨_, rfl⟩
  have hB0 : Below w.heap.size w W := by rw [hW]; exact below3w w _ _ _
  have hD0 : FdW w a (-1) none 0 0 W := by
    rw [hW]
    exact ⟨blk_old _ (blk_old _ (blk_new _ _)), blk_old _ (blk_at _ _ (by simp)), blk_at _ _ (by simp)⟩
  have hcn := can_any a W
  rw [hW] at hcn
  have hml : ∀ b, Mine ps b → b < w.heap.size := fun b hb => hP.mine_lt hb
  replace hP := Lib.hid hP; replace ht := Lib.hid ht; replace hp := Lib.hid hp; replace hB0 := Lib.hid hB0; replace hD0 := Lib.hid hD0; replace hcn := Lib.hid hcn; replace hW := Lib.hid hW; replace hml := Lib.hid hml
  go_enter Try.func83, Try.ntmps83
  go_wp2_with fail
  refine hcn.out.mono ?_
  rintro e w1 ⟨rfl, hb1⟩
  rw [← hW.out] at hb1
  have hB1 : Below w.heap.size w w1 := hB0.out.trans (hb1.mono hB0.out.size)
  have hD1 := hD0.out.below hb1
  have hP1 := hP.out.below hB1
  have ht1 := ht.out.below hB1
  have s0 := blk_cell hD1.s 0; have s1 := blk_cell hD1.s 1; have s2 := blk_cell hD1.s 2
  have r0 := blk_cell hD1.r 0; have r1 := blk_cell hD1.r 1; have r2 := blk_cell hD1.r 2
  have f0 := blk_free hD1.r 0; have f1 := blk_free hD1.r 1; have f2 := blk_free hD1.r 2
  simp at s0 s1 s2 r0 r1 r2
  have ls := blk_lt hD1.s; have lr := blk_lt hD1.r
  replace hb1 := Lib.hid hb1; replace hB1 := Lib.hid hB1; replace hD1 := Lib.hid hD1; replace hP1 := Lib.hid hP1; replace ht1 := Lib.hid ht1
  have fin : Hid (∀ (wr : World) (st : Int) (so : Option Addr) (sn sc : Nat) (ps' : List Nd), Pool wr gb gs po cap ps' → Kin w ps ps' → Mod (Mine ps) w wr → wr.heap[w.heap.size + 1]? = some (.cells #[.int .i64 0, .int .i64 0, .slice none 0 0] 88 (0, 0)) → sn ≤ sc → (∀ b off, so = some ⟨b, off, none⟩ → w.heap.size ≤ b ∧ b ≠ w.heap.size + 1 ∧ ¬ Mine ps' b) → FindA ps bs now a st so sn ps' wr →
      FindAPost gb gs cap po ps bs now a w (.returned (.agg #[.int .i64 a.id, .int .i64 st, .slice so sn sc])) (((wr.setCell ⟨w.heap.size + 1, 0, none⟩ (.int .i64 a.id)).setCell ⟨w.heap.size + 1, 1, none⟩ (.int .i64 st)).setCell ⟨w.heap.size + 1, 2, none⟩ (.slice so sn sc))) := by
    intro wr st so sn sc ps' h1 h2 h3 h4 h5 h6 h7
    have hne : ∀ b, b ≠ w.heap.size + 1 → (((wr.setCell ⟨w.heap.size + 1, 0, none⟩ (.int .i64 a.id)).setCell ⟨w.heap.size + 1, 1, none⟩ (.int .i64 st)).setCell ⟨w.heap.size + 1, 2, none⟩ (.slice so sn sc)).heap[b]? = wr.heap[b]? := fun b hb => by
      rw [Below.heap_setCell _ _ _ _ hb, Below.heap_setCell _ _ _ _ hb, Below.heap_setCell _ _ _ _ hb]
    have hm := not_mineT h1 h4 (by decide) (by decide)
    have hgb : gb ≠ w.heap.size + 1 := fun e => by have := h1.head; rw [e, h4] at this; simp at this
    refine ⟨st, so, sn, sc, ps', rfl, ⟨(hne _ hgb).trans h1.head, h1.addr, fun i hi => ?_, fun i hi => ?_, h1.inv, h1.apart, h1.own, h1.few⟩, h2, ⟨h3.os, h3.tape, h3.output, by simpa [World.setCell] using h3.size, fun b hb hS => (hne b (by omega)).trans (h3.block b hb hS)⟩, h5, fun b off e => ⟨(h6 b off e).1, (h6 b off e).2.2⟩, ?_⟩
    · have h2 : gs ≠ w.heap.size + 1 := fun e => by
        have := h1.ptr i hi
        rw [e, blk_cell h4 i] at this
        match i, this with
        | 0, h => simp at h
        | 1, h => simp at h
        | 2, h => simp at h
        | i + 3, h => simp at h
      exact (World.cell?_of_block (a := ⟨gs, i, none⟩) (w := wr) (hne _ h2)).trans (h1.ptr i hi)
    · have hq := h1.prof i hi
      exact ⟨(hne _ (fun e => hm ⟨i, hi, .inl e.symm⟩)).trans hq.head, hq.row.of_block (hne _ (fun e => hm ⟨i, hi, .inr e.symm⟩)), hq.ne⟩
    · rcases h7 with c | ⟨c, t, xs, is, d1, d2, d3⟩
      · exact .inl c
      · refine .inr ⟨c, t, xs, is, d1, d2, fun hi => ?_⟩
        obtain ⟨e1, e2, e3⟩ := d3 hi
        refine ⟨e1, ⟨e2.len, e2.max, fun i hi => ?_⟩, e3⟩
        obtain ⟨b, off, e, hlt, hc⟩ := e2.cell i hi
        exact ⟨b, off, e, by simpa [World.setCell] using hlt, (World.cell?_of_block (a := ⟨b, off + i, none⟩) (w := wr) (hne b (h6 b off e).2.1)).trans hc⟩
  cases hcan : a.can
  · replace hcan := Lib.hid hcan
    go_wp2
    refine bodyPost_ret (v := .agg #[.int .i64 a.id, .int .i64 (-1), .slice none 0 0]) (by simp [results, Try.results83, go_sem, r0, r1, r2]) rfl ?_
    exact fin.out _ (-1) none 0 0 ps hP1.out (Kin.refl _ _) (Mod.of_below2 hB1.out) hD1.out.r (Nat.le_refl _) (fun b off h => by simp at h) (.inl ⟨hcan.out, rfl, rfl, rfl, rfl⟩)
  have hcan' := Lib.hid hcan
  clear hcan s0 s1 s2 r0 r1 r2 f0 f1 f2 ls lr
  have hpl := places_any tb gb un uc uo bs now a w1.drew (ht1.out.below (Below.refl _ _).drew) (hp.out.below hB1.out.drew (Nat.le_refl _)) hu
  have c0 := blk_cell ht1.out.head 0; have c2 := blk_cell ht1.out.head 2
  simp at c0 c2
  have lt := blk_lt ht1.out.head
  obtain ⟨y0, y1, y2, y3, y4, y5, y6, y7, y8, y9⟩ := ask_cells hD1.out.ask
  have lx := blk_lt hD1.out.ask
  have hcur : Below w1.heap.size w1 w1.drew := (Below.refl _ _).drew
  have hS0 : Hid (∀ w' : World, Below w1.heap.size w1 w' → w'.cell? ⟨tb, 0, none⟩ = some (.pointer (some ⟨gb, 0, none⟩)) ∧ w'.cell? ⟨tb, 2, none⟩ = some (.int .i64 now) ∧ w'.cell? ⟨w.heap.size, 0, none⟩ = some (.int .i64 a.id) ∧ w'.cell? ⟨w.heap.size, 1, none⟩ = some (.slice a.po a.pn a.pc) ∧ w'.cell? ⟨w.heap.size, 2, none⟩ = some (.int .i64 a.nodes) ∧ w'.cell? ⟨w.heap.size, 3, none⟩ = some (.int .i64 a.v.a) ∧ w'.cell? ⟨w.heap.size, 4, none⟩ = some (.int .i64 a.v.b) ∧ w'.cell? ⟨w.heap.size, 5, none⟩ = some (.int .i64 a.v.c) ∧ w'.cell? ⟨w.heap.size, 6, none⟩ = some (.int .i64 a.v.d) ∧ w'.cell? ⟨w.heap.size, 7, none⟩ = some (.int .i64 a.ticks) ∧ w'.cell? ⟨w.heap.size, 8, none⟩ = some (.int .i64 a.start) ∧ w'.cell? ⟨w.heap.size, 9, none⟩ = some (.slice a.go a.gn a.gc)) := fun w' h =>
    ⟨(below_cell h lt).trans c0, (below_cell h lt).trans c2, (below_cell h lx).trans y0, (below_cell h lx).trans y1, (below_cell h lx).trans y2, (below_cell h lx).trans y3, (below_cell h lx).trans y4, (below_cell h lx).trans y5, (below_cell h lx).trans y6, (below_cell h lx).trans y7, (below_cell h lx).trans y8, (below_cell h lx).trans y9⟩
  have hfd : ∀ so sn sc W', Below w1.heap.size w1 W' → IntsAt W' so sn (ints (plc bs a.pzs)) → Calls Try.prog 36 #[.pointer (some ⟨gb, 0, none⟩), .slice so sn sc, .int .i64 a.nodes, a.v.val, .int .i64 a.ticks, .int .i64 now] W' (FindPost ps (ints (plc bs a.pzs)) a.nodes a.v a.ticks now W') :=
    fun so sn sc W' h hz => find_any gb gs cap po ps so sn sc (ints (plc bs a.pzs)) a.nodes a.v a.ticks now W' (hP1.out.below h) hz
  replace hpl := Lib.hid hpl; replace hcur := Lib.hid hcur; replace hfd := Lib.hid hfd
  go_wp2_with fail
  go_region_held3 (fun w' => w'.cell? ⟨tb, 0, none⟩ = some (.pointer (some ⟨gb, 0, none⟩)) ∧ w'.cell? ⟨tb, 2, none⟩ = some (.int .i64 now) ∧ w'.cell? ⟨w.heap.size, 0, none⟩ = some (.int .i64 a.id) ∧ w'.cell? ⟨w.heap.size, 1, none⟩ = some (.slice a.po a.pn a.pc) ∧ w'.cell? ⟨w.heap.size, 2, none⟩ = some (.int .i64 a.nodes) ∧ w'.cell? ⟨w.heap.size, 3, none⟩ = some (.int .i64 a.v.a) ∧ w'.cell? ⟨w.heap.size, 4, none⟩ = some (.int .i64 a.v.b) ∧ w'.cell? ⟨w.heap.size, 5, none⟩ = some (.int .i64 a.v.c) ∧ w'.cell? ⟨w.heap.size, 6, none⟩ = some (.int .i64 a.v.d) ∧ w'.cell? ⟨w.heap.size, 7, none⟩ = some (.int .i64 a.ticks) ∧ w'.cell? ⟨w.heap.size, 8, none⟩ = some (.int .i64 a.start) ∧ w'.cell? ⟨w.heap.size, 9, none⟩ = some (.slice a.go a.gn a.gc))
    (first
      | with_reducible exact hS0.out _ hcur.out)
    (first
      | (go_at_call 114
         refine hpl.out.mono ?_
         rintro e w5 ⟨so5, sn5, sc5, rfl, hz5, _, _, hb5⟩
         replace hcur := Lib.hid (hcur.out.trans (hb5.mono hcur.out.size))
         replace hz5 := Lib.hid hz5; replace hb5 := Lib.hid hb5)
      | (go_at_call 36
         refine (hfd.out _ _ _ _ hcur.out hz5.out).mono ?_
         rintro e w6 ⟨t6, so6, sn6, sc6, xs6, is6, rfl, hR6, hz6, hc6, hf6, hb6⟩
         have hfr6 : Hid (∀ b off, so6 = some ⟨b, off, none⟩ → w1.heap.size ≤ b) := fun b off e => Nat.le_trans hcur.out.size (hf6 b off e)
         replace hcur := Lib.hid (hcur.out.trans (hb6.mono hcur.out.size))
         replace hR6 := Lib.hid hR6; replace hz6 := Lib.hid hz6; replace hf6 := Lib.hid hf6; replace hb6 := Lib.hid hb6))
  have hD6 := hD1.out.below hcur.out
  have hB6 : Below w.heap.size w w6 := hB1.out.trans (hcur.out.mono hB1.out.size)
  have hP6 := hP.out.below hB6
  have s0 := blk_cell hD6.s 0; have s1 := blk_cell hD6.s 1; have s2 := blk_cell hD6.s 2
  have fs1 := blk_free hD6.s 1; have fs2 := blk_free hD6.s 2
  have r0 := blk_cell hD6.r 0; have r1 := blk_cell hD6.r 1; have r2 := blk_cell hD6.r 2
  have f0 := blk_free hD6.r 0; have f1 := blk_free hD6.r 1; have f2 := blk_free hD6.r 2
  simp at s0 s1 s2 r0 r1 r2
  have ls := blk_lt hD6.s; have lr := blk_lt hD6.r
  clear c0 c2 lt y0 y1 y2 y3 y4 y5 y6 y7 y8 y9 lx
  replace hD6 := Lib.hid hD6; replace hB6 := Lib.hid hB6; replace hP6 := Lib.hid hP6
  cases is6 with
  | false =>
    have hfin : FindA ps bs now a (-1) none 0 ps w6 := .inr ⟨hcan'.out, t6, xs6, false, hR6.out, fun _ => ⟨rfl, rfl, rfl, rfl⟩, fun h => (by cases h)⟩
    replace hfin := Lib.hid hfin
    go_wp2
    refine bodyPost_ret (v := .agg #[.int .i64 a.id, .int .i64 (-1), .slice none 0 0]) (by simp [results, Try.results83, go_sem, r0, r1, r2]) rfl ?_
    exact fin.out _ (-1) none 0 0 ps hP6.out (Kin.refl _ _) (Mod.of_below2 hB6.out) hD6.out.r (Nat.le_refl _) (fun b off h => by simp at h) hfin.out
  | true =>
    have hF := hR6.out.found
    have ew : IntKind.i64.wrap (t6 + a.ticks) = t6 + a.ticks := IntWalk.i64_in _ (by have := hF.ge; have := hF.fin; have := hF.ticks1; omega)
    have hfr2 : ∀ b off, so6 = some ⟨b, off, none⟩ → w.heap.size + 1 + 1 < b := fun b off e => Nat.lt_of_lt_of_le (blk_lt hD1.out.s) (hfr6.out b off e)
    obtain ⟨W7, hW7⟩ : ∃ W7, W7 = (w6.setCell ⟨w.heap.size + 1 + 1, 1, none⟩ (.int .i64 t6)).setCell ⟨w.heap.size + 1 + 1, 2, none⟩ (.slice so6 sn6 sc6) := ⟨_, rfl⟩
    have hB7 : Below w.heap.size w W7 := by rw [hW7]; exact (hB6.out.setCell (by show w.heap.size ≤ w.heap.size + 1 + 1; omega) _).setCell (by show w.heap.size ≤ w.heap.size + 1 + 1; omega) _
    have hD7 : FdW w a t6 so6 sn6 sc6 W7 := by rw [hW7]; exact hD6.out.set
    have hz7 : IntsAt W7 so6 sn6 (ints xs6) := by rw [hW7]; exact (hz6.out.setCell _ _ (fun b off e => by have := hfr2 b off e; show b ≠ w.heap.size + 1 + 1; omega)).setCell _ _ (fun b off e => by have := hfr2 b off e; show b ≠ w.heap.size + 1 + 1; omega)
    have ht7 := ht.out.below hB7
    have hP7 := hP.out.below hB7
    have hoff : 0 < sn6 → Off so6 (Mine ps) := fun _ b off e hm => by have := hfr2 b off e; have := hml.out b hm; omega
    have htk : ∀ W', Below W7.heap.size W7 W' → Calls Try.prog 35 #[.pointer (some ⟨gb, 0, none⟩), .slice so6 sn6 sc6, .int .i64 t6, .int .i64 (t6 + a.ticks), a.v.val] W' (GPost (TookG ps (ints xs6) t6 (t6 + a.ticks) a.v) gb gs cap po ps W') :=
      fun W' h => gtake_any gb gs cap po ps so6 sn6 sc6 (ints xs6) t6 (t6 + a.ticks) a.v W' (hP7.below h) (hz7.below h (Nat.le_refl _)) hoff hc6
    have c0 := blk_cell ht7.head 0
    simp at c0
    have lt := blk_lt ht7.head
    obtain ⟨y0, y1, y2, y3, y4, y5, y6, y7, y8, y9⟩ := ask_cells hD7.ask
    have lx := blk_lt hD7.ask
    have htn : ¬ Mine ps tb := not_mineT hP7 ht7.head (by decide) (by decide)
    have hxn : ¬ Mine ps w.heap.size := not_mineT hP7 hD7.ask (by decide) (by decide)
    have hBd : Below W7.heap.size W7 W7.drew := (Below.refl _ _).drew
    clear y0 y1 y2 y8 y9
    replace hF := Lib.hid hF; replace hfr2 := Lib.hid hfr2; replace hB7 := Lib.hid hB7; replace hD7 := Lib.hid hD7; replace hz7 := Lib.hid hz7; replace ht7 := Lib.hid ht7; replace hP7 := Lib.hid hP7; replace hoff := Lib.hid hoff; replace htk := Lib.hid htk; replace htn := Lib.hid htn; replace hxn := Lib.hid hxn; replace hBd := Lib.hid hBd
    have hSK : Hid (∀ w' : World, (∀ b, b < W7.heap.size → ¬ Mine ps b → ∀ o, w'.cell? ⟨b, o, none⟩ = W7.cell? ⟨b, o, none⟩) → w'.cell? ⟨tb, 0, none⟩ = some (.pointer (some ⟨gb, 0, none⟩)) ∧ w'.cell? ⟨w.heap.size, 3, none⟩ = some (.int .i64 a.v.a) ∧ w'.cell? ⟨w.heap.size, 4, none⟩ = some (.int .i64 a.v.b) ∧ w'.cell? ⟨w.heap.size, 5, none⟩ = some (.int .i64 a.v.c) ∧ w'.cell? ⟨w.heap.size, 6, none⟩ = some (.int .i64 a.v.d) ∧ w'.cell? ⟨w.heap.size, 7, none⟩ = some (.int .i64 a.ticks)) :=
      fun w' h => ⟨(h tb lt htn.out _).trans c0, (h _ lx hxn.out _).trans y3, (h _ lx hxn.out _).trans y4, (h _ lx hxn.out _).trans y5, (h _ lx hxn.out _).trans y6, (h _ lx hxn.out _).trans y7⟩
    go_wp2_with fail
    rw [← hW7]
    replace hW7 := Lib.hid hW7
    clear s0 s1 s2 fs1 fs2 r0 r1 r2 f0 f1 f2 ls lr
    go_region_held3 (fun w' => w'.cell? ⟨tb, 0, none⟩ = some (.pointer (some ⟨gb, 0, none⟩)) ∧ w'.cell? ⟨w.heap.size, 3, none⟩ = some (.int .i64 a.v.a) ∧ w'.cell? ⟨w.heap.size, 4, none⟩ = some (.int .i64 a.v.b) ∧ w'.cell? ⟨w.heap.size, 5, none⟩ = some (.int .i64 a.v.c) ∧ w'.cell? ⟨w.heap.size, 6, none⟩ = some (.int .i64 a.v.d) ∧ w'.cell? ⟨w.heap.size, 7, none⟩ = some (.int .i64 a.ticks))
      (first
        | (go_keep; done)
        | with_reducible exact hSK.out _ hm8.out)
      (first
        | (go_at_call 35
           refine (htk.out _ hBd.out).mono ?_
           rintro e w8 ⟨r8, ps', rfl, hT, hp8, hk8, hm8'⟩
           have hm8 : Hid (∀ b, b < W7.heap.size → ¬ Mine ps b → ∀ o, w8.cell? ⟨b, o, none⟩ = W7.cell? ⟨b, o, none⟩) := fun b hb hn o => World.cell?_of_block (a := ⟨b, o, none⟩) (w := W7) (hm8'.block b hb hn)
           replace hT := Lib.hid hT; replace hp8 := Lib.hid hp8; replace hk8 := Lib.hid hk8; replace hm8' := Lib.hid hm8'))
    have hD8 := hD7.out.mod ((Mod.of_below2 hBd.out).comp2 hm8'.out) hml.out
    have hmod : Mod (Mine ps) w w8 := (Mod.of_below2 hB7.out).comp2 ((Mod.of_below2 hBd.out).comp2 hm8'.out)
    have hkin : Kin w ps ps' := hk8.out.back (Nat.le_trans hB7.out.size hBd.out.size)
    have hz8 : IntsAt w8 so6 sn6 (ints xs6) := hz7.out.mod ((Mod.of_below2 hBd.out).comp2 hm8'.out) hoff.out
    have hfin : FindA ps bs now a t6 so6 sn6 ps' w8 := .inr ⟨hcan'.out, t6, xs6, true, hR6.out, fun h => (by cases h), fun _ => ⟨rfl, hz8, r8, hT.out⟩⟩
    have hlast : ∀ b off, so6 = some ⟨b, off, none⟩ → w.heap.size ≤ b ∧ b ≠ w.heap.size + 1 ∧ ¬ Mine ps' b := fun b off e => by
      have h1 := hfr2.out b off e
      refine ⟨by omega, by omega, fun hm => ?_⟩
      rcases hk8.out.mine hm with c | c
      · have := hml.out b c; omega
      · by_cases h0 : 0 < sn6
        · obtain ⟨b', off', e', hlt, _⟩ := hz7.out.cell 0 h0
          rw [e] at e'; cases e'
          have := hBd.out.size
          omega
        · have := hF.out.len; have := hF.out.many1; have := hz7.out.len
          simp [ints] at this
          omega
    have s0 := blk_cell hD8.s 0; have s1 := blk_cell hD8.s 1; have s2 := blk_cell hD8.s 2
    have r0 := blk_cell hD8.r 0; have r1 := blk_cell hD8.r 1; have r2 := blk_cell hD8.r 2
    have f0 := blk_free hD8.r 0; have f1 := blk_free hD8.r 1; have f2 := blk_free hD8.r 2
    simp at s0 s1 s2 r0 r1 r2
    have ls := blk_lt hD8.s; have lr := blk_lt hD8.r
    clear c0 lt y3 y4 y5 y6 y7 lx
    replace hD8 := Lib.hid hD8; replace hmod := Lib.hid hmod; replace hkin := Lib.hid hkin; replace hz8 := Lib.hid hz8; replace hfin := Lib.hid hfin; replace hlast := Lib.hid hlast
    go_wp2
    refine bodyPost_ret (v := .agg #[.int .i64 a.id, .int .i64 t6, .slice so6 sn6 sc6]) (by simp [results, Try.results83, go_sem, r0, r1, r2]) rfl ?_
    exact fin.out _ t6 so6 sn6 sc6 ps' hp8.out hkin.out hmod.out hD8.out.r hc6 hlast.out hfin.out
end Go.Proofs.Ytpjajiambbobhaa

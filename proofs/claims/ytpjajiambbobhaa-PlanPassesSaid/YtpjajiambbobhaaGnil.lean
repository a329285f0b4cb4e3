/- What a pool that is none answers; what a node of a pool has free. -/
import Derived.Test.YtpjajiambbobhaaOpeng
import Derived.Test.YtpjajiambbobhaaGtake
import Derived.Test.YtpjajiambbobhaaLaw
namespace Go.Proofs.Ytpjajiambbobhaa
open Go.RowKit

theorem each_nil (v f g : Value) (w : World) : Calls Try.prog 72 #[.pointer none, v, f, g] w fun e w' => e = .returned (.int .i64 1) ∧ w' = w := by
  go_enter Try.func72, Try.ntmps72
  go_wp2_with fail
  refine (gang_none _ _).mono ?_
  rintro e w2 ⟨rfl, rfl⟩
  go_wp2
  go_ret
  exact ⟨rfl, rfl⟩
theorem below3 (w : World) (o1 o2 o3 : Obj) : Below w.heap.size w (((w.alloc o1).alloc o2).alloc o3) := (((Below.refl _ _).alloc (Nat.le_refl _) _).alloc (by simp) _).alloc (by simp; omega) _
set_option maxRecDepth 100000 in
theorem gtake_nil (sv : Value) (fr tt : Int) (v : V4) (w : World) : Calls Try.prog 35 #[.pointer none, sv, .int .i64 fr, .int .i64 tt, v.val] w fun e w' => e = .returned (.int .i64 1) ∧ Below w.heap.size w w' := by
  go_enter Try.func35, Try.ntmps35
  go_wp2_with fail
  refine (each_nil _ _ _ _).mono ?_
  rintro e w2 ⟨rfl, rfl⟩
  go_wp2
  go_ret
  exact ⟨rfl, below3 _ _ _ _⟩
set_option maxRecDepth 100000 in
theorem ggive_nil (sv : Value) (fr tt : Int) (v : V4) (w : World) : Calls Try.prog 40 #[.pointer none, sv, .int .i64 fr, .int .i64 tt, v.val] w fun e w' => e = .returned (.int .i64 1) ∧ Below w.heap.size w w' := by
  go_enter Try.func40, Try.ntmps40
  go_wp2_with fail
  refine (each_nil _ _ _ _).mono ?_
  rintro e w2 ⟨rfl, rfl⟩
  go_wp2
  go_ret
  exact ⟨rfl, below3 _ _ _ _⟩
set_option maxRecDepth 100000 in
theorem find_nil (sv : Value) (many : Int) (v : V4) (ticks after : Int) (w : World) :
    Calls Try.prog 36 #[.pointer none, sv, .int .i64 many, v.val, .int .i64 ticks, .int .i64 after] w fun e w' => e = .returned (.tuple #[.int .i64 0, .slice none 0 0, .bool false]) ∧ Below w.heap.size w w' := by
  go_enter Try.func36, Try.ntmps36
  go_wp2
  go_step3
  go_wp2
  rw [Exit.noGoto_ret]
  go_ret3
  exact ⟨rfl, below3 _ _ _ _⟩
set_option maxRecDepth 100000 in
theorem open_nil (sv : Value) (fr tt : Int) (v : V4) (w : World) : Calls Try.prog 42 #[.pointer none, sv, .int .i64 fr, .int .i64 tt, v.val] w fun e w' => e = .returned (.slice none 0 0) ∧ Below w.heap.size w w' := by
  go_enter Try.func42, Try.ntmps42
  go_wp2
  go_ret
  exact ⟨rfl, (Below.refl _ _).alloc (Nat.le_refl _) _⟩
set_option maxRecDepth 100000 in
theorem freeg_nil (i fr tt : Int) (w : World) : Calls Try.prog 39 #[.pointer none, .int .i64 i, .int .i64 fr, .int .i64 tt] w fun e w' => e = .returned (⟨0, 0, 0, 0⟩ : V4).val ∧ Below w.heap.size w w' := by
  go_enter Try.func39, Try.ntmps39
  go_wp2
  refine bodyPost_ret (v := V4.zero.val) (by simp [results, Try.results39, go_sem, V4.zero]) rfl ⟨rfl, ?_⟩
  exact (Below.refl _ _).alloc (Nat.le_refl _) _

/-- what a node has free; of what is no node: nothing -/
def freeG (ps : List Nd) (i fr tt : Int) : V4 := if 0 ≤ i ∧ i < ps.length then freeL (nd ps i.toNat).whole (nd ps i.toNat).l fr tt else V4.zero
theorem info23s : (Try.prog.info? 23).map (·.size) = some 4 := by kernel_rfl

set_option maxRecDepth 100000 in
set_option maxHeartbeats 800000 in
theorem freeg_any (gb gs cap : Nat) (po : Option Addr) (ps : List Nd) (i fr tt : Int) (w : World) (hp : Pool w gb gs po cap ps) :
    Calls Try.prog 39 #[.pointer (some ⟨gb, 0, none⟩), .int .i64 i, .int .i64 fr, .int .i64 tt] w fun e w' => e = .returned (freeG ps i fr tt).val ∧ Below w.heap.size w w' := by
  have hno : ¬ (0 ≤ i ∧ i < ps.length) → freeG ps i fr tt = V4.zero := fun h => if_neg h
  replace hno := Lib.hid hno
  by_cases q1 : i < 0
  · have d1 : decide (i < 0) = true := by simpa using q1
    have e := hno.out (by omega)
    rw [e]
    clear hp e
    replace q1 := Lib.hid q1
    go_enter Try.func39, Try.ntmps39
    go_wp2
    refine bodyPost_ret (v := V4.zero.val) (by simp [results, Try.results39, go_sem, V4.zero]) rfl ⟨rfl, ?_⟩
    exact (Below.refl _ _).alloc (Nat.le_refl _) _
  have d1 : decide (i < 0) = false := by simpa using q1
  obtain ⟨n, hn⟩ : ∃ n, n = ps.length := ⟨_, rfl⟩
  have hh := hp.head
  rw [← hn] at hh
  have c0 := blk_cell hh 0
  simp at c0
  have lgb := blk_lt hh
  by_cases q2 : (n : Int) ≤ i
  · have d2 : decide ((n : Int) ≤ i) = true := by simpa using q2
    have e := hno.out (by omega)
    rw [e]
    clear hp e hh
    replace q1 := Lib.hid q1; replace q2 := Lib.hid q2; replace hn := Lib.hid hn
    go_enter Try.func39, Try.ntmps39
    go_wp2
    refine bodyPost_ret (v := V4.zero.val) (by simp [results, Try.results39, go_sem, V4.zero]) rfl ⟨rfl, ?_⟩
    exact (Below.refl _ _).alloc (Nat.le_refl _) _
  have d2 : decide ((n : Int) ≤ i) = false := by simpa using q2
  obtain ⟨k, rfl⟩ : ∃ k : Nat, i = (k : Int) := ⟨i.toNat, by omega⟩
  have hkn : k < n := by omega
  have hkn1 : (k : Int) < n := by omega
  have hk0 : (0 : Int) ≤ (k : Int) := by omega
  have hpo := hp.addr (by omega)
  subst hpo
  have p0 := hp.ptr k (by omega)
  have lgs := World.block_lt_of_cell? w _ p0
  have hpd := hp.prof k (by omega)
  have hil := (hp.inv k (by omega)).loose
  obtain ⟨pb, hpb⟩ : ∃ pb, pb = (nd ps k).pb := ⟨_, rfl⟩
  rw [← hpb] at p0 hpd
  obtain ⟨F, hF⟩ : ∃ F, F = freeL (nd ps k).whole (nd ps k).l fr tt := ⟨_, rfl⟩
  have e : freeG ps (k : Int) fr tt = F := by unfold freeG; rw [if_pos (by omega), hF]; simp
  rw [e]
  have hB : Below w.heap.size w (w.alloc (.cells V4.zero.cells 23 (0, 0))) := (Below.refl _ _).alloc (Nat.le_refl _) _
  have hfree := free_any pb _ _ _ _ fr tt (w.alloc (.cells V4.zero.cells 23 (0, 0))) (hpd.below hB hpd.lt.1 hpd.lt.2) hil
  rw [← hF] at hfree
  replace hp := Lib.hid hp; replace hno := Lib.hid hno; replace q1 := Lib.hid q1; replace q2 := Lib.hid q2; replace hn := Lib.hid hn; replace hh := Lib.hid hh; replace hpd := Lib.hid hpd; replace hil := Lib.hid hil; replace hpb := Lib.hid hpb; replace hF := Lib.hid hF
  replace e := Lib.hid e; replace hB := Lib.hid hB; replace hfree := Lib.hid hfree
  go_enter Try.func39, Try.ntmps39
  go_wp2_with fail
  refine hfree.out.mono ?_
  rintro e2 w2 ⟨rfl, hb2⟩
  have hz : w2.heap[w.heap.size]? = some (.cells V4.zero.cells 23 (0, 0)) := blk_below hb2 (blk_new _ _) (by simp)
  have hone : F.cells.all (·.oneCell') = true := by simp [Value.oneCell']
  have hend := setRow_heap w2 w.heap.size _ F.cells 23 (0, 0) hz
  have hBe : Below w.heap.size w (w2.setRow w.heap.size F.cells) := below_row (hB.out.trans (hb2.mono hB.out.size)) (Nat.le_refl _) F.cells
  clear c0 p0 lgb lgs
  replace hz := Lib.hid hz; replace hb2 := Lib.hid hb2; replace hend := Lib.hid hend; replace hBe := Lib.hid hBe
  go_wp2_with (first | (refine wpList_store_row rfl 23 _ _ rfl w.heap.size F.cells rfl rfl 23 _ hz.out info23s rfl hone ?_))
  refine bodyPost_ret (v := F.val) ?_ rfl ?_
  · exact results_cell_row rfl _ _ w.heap.size 23 F.cells (0, 0) _ rfl hend.out Try.underlying23 rfl info23s
  · exact ⟨rfl, hBe.out⟩
end Go.Proofs.Ytpjajiambbobhaa

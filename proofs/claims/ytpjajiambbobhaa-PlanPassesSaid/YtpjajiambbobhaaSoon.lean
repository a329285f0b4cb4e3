/- The tick from which a node has an amount: (*Pool).Find's closure; what a gang's first tick is, plainly. -/
import Derived.Test.YtpjajiambbobhaaCount
import Derived.Test.YtpjajiambbobhaaEarly
import Derived.Test.YtpjajiambbobhaaGtake
namespace Go.Proofs.Ytpjajiambbobhaa
open Go.RowKit

/-- free all along, within the ticks that there are -/
def OkT (l : List St) (ticks : Int) (v : V4) (u : Int) : Prop := OkAt l ticks v u ∧ u + ticks ≤ 1099511627776
instance (l : List St) (ticks : Int) (v : V4) (u : Int) : Decidable (OkAt l ticks v u) := by unfold OkAt; infer_instance
instance (l : List St) (ticks : Int) (v : V4) (u : Int) : Decidable (OkT l ticks v u) := by unfold OkT; infer_instance
instance (zs : List Int) (k i : Nat) : Decidable (Among zs k i) := by unfold Among; infer_instance

def SoonP (l : List St) (ticks : Int) (v : V4) (T x : Int) : Prop :=
  T ≤ x ∧ x ≤ 1099511627776 ∧ (x < 1099511627776 → OkT l ticks v x) ∧ ∀ u, T ≤ u → u < x → ¬ OkT l ticks v u
theorem soon_of {l : List St} {ticks T t : Int} {v : V4} {is : Bool} (h : EarlyRel l T ticks v t is) (h0 : 0 ≤ T) (h1 : T < 1099511627776) (h2 : 1 ≤ ticks) (h3 : v.right = true) :
    SoonP l ticks v T (if is = true then t else 1099511627776) := by
  unfold EarlyRel at h
  rw [if_pos ⟨h2, h3, h1⟩, show max T 0 = T by omega] at h
  rcases h with ⟨rfl, a, b, c, d⟩ | ⟨rfl, _, d⟩
  · rw [if_pos rfl]; exact ⟨a, by omega, fun _ => ⟨c, b⟩, fun u u1 u2 h => d u u1 u2 h.1⟩
  · rw [if_neg (by simp)]; exact ⟨by omega, by omega, fun h => by omega, fun u u1 u2 h => d u u1 h.2 h.1⟩

def SoonPost (l : List St) (ticks : Int) (v : V4) (T : Int) (w : World) (e : Ending) (w' : World) : Prop :=
  ∃ x, e = .returned (.int .i64 x) ∧ SoonP l ticks v T x ∧ Below w.heap.size w w'

theorem enters74 : ∀ args w, (callFunc 74 args).run Try.prog w = .ok (.enter 74 args) w := enters Try.func74 (by decide) (by simp [Try.f74])

set_option maxRecDepth 100000 in
set_option maxHeartbeats 1600000 in
theorem soonest_any (gb gs cap : Nat) (po : Option Addr) (ps : List Nd) (k1 k2 k3 : Nat) (ticks : Int) (v : V4) (i : Nat) (T : Int) (w : World) (hp : Pool w gb gs po cap ps)
    (h1 : w.heap[k1]? = some (.cells #[.pointer (some ⟨gb, 0, none⟩)] 51 (0, 0))) (h2 : w.heap[k2]? = some (.cells #[.int .i64 ticks] 3 (0, 0))) (h3 : w.heap[k3]? = some (.cells v.cells 23 (0, 0)))
    (hi : i < ps.length) (hT0 : 0 ≤ T) (hT1 : T < 1099511627776) (ht : 1 ≤ ticks) (hv : v.right = true) :
    Calls Try.prog 74 #[.int .i64 i, .int .i64 T, .pointer (some ⟨k1, 0, none⟩), .pointer (some ⟨k2, 0, none⟩), .pointer (some ⟨k3, 0, none⟩)] w (SoonPost (nd ps i).l ticks v T w) := by
  have hpo := hp.addr (by omega)
  subst hpo
  have hh := hp.head
  have hfew := hp.few
  have hprof := hp.prof i hi
  have hinv := hp.inv i hi
  have c0 := blk_cell hh 0; have p0 := hp.ptr i hi
  have x := blk_cell h1 0; have y := blk_cell h2 0
  have d0 := blk_cell h3 0; have d1 := blk_cell h3 1; have d2 := blk_cell h3 2; have d3 := blk_cell h3 3
  simp at c0 x y d0 d1 d2 d3
  have lgb := blk_lt hh; have lgs := World.block_lt_of_cell? w _ p0
  have l1 := blk_lt h1; have l2 := blk_lt h2; have l3 := blk_lt h3
  have hsoon : Hid (∀ t is, EarlyRel (nd ps i).l T ticks v t is → SoonP (nd ps i).l ticks v T (if is = true then t else 1099511627776)) := fun t is h => soon_of h hT0 hT1 ht hv
  have he := early_any _ _ _ _ _ T ticks v w.drew hprof.drew hinv.loose (by omega)
  obtain ⟨n, hn⟩ : ∃ n, n = ps.length := ⟨_, rfl⟩
  have hi1 : (i : Int) < n := by omega
  have hin : i < n := by omega
  have hi0 : (0 : Int) ≤ (i : Int) := by omega
  rw [← hn] at c0 hfew
  obtain ⟨pb, hpb⟩ : ∃ pb, pb = (nd ps i).pb := ⟨_, rfl⟩
  rw [← hpb] at p0 he
  clear hp h1 h2 h3 hh hprof hinv hn hpb hi
  replace he := Lib.hid he
  replace hT0 := Lib.hid hT0; replace hT1 := Lib.hid hT1; replace ht := Lib.hid ht; replace hv := Lib.hid hv
  go_enter Try.func74, Try.ntmps74
  go_wp2_with fail
  go_region_held3 (fun w' => w'.cell? ⟨k1, 0, none⟩ = some (.pointer (some ⟨gb, 0, none⟩)) ∧ w'.cell? ⟨gb, 0, none⟩ = some (.slice (some ⟨gs, 0, none⟩) n cap) ∧ w'.cell? ⟨gs, i, none⟩ = some (.pointer (some ⟨pb, 0, none⟩)) ∧
      w'.cell? ⟨k2, 0, none⟩ = some (.int .i64 ticks) ∧ w'.cell? ⟨k3, 0, none⟩ = some (.int .i64 v.a) ∧ w'.cell? ⟨k3, 1, none⟩ = some (.int .i64 v.b) ∧ w'.cell? ⟨k3, 2, none⟩ = some (.int .i64 v.c) ∧ w'.cell? ⟨k3, 3, none⟩ = some (.int .i64 v.d))
    (first
      | (go_keep; done)
      | (go_split_ands; refine ⟨?_, ?_, ?_, ?_, ?_, ?_, ?_, ?_⟩ <;> (rw [below_cell hb2.out (by simpa using ‹_›)]; assumption)))
    (first
      | (go_at_call 26
         refine he.out.mono ?_
         rintro e w2 ⟨t, is, rfl, hR, hb2⟩
         replace hR := Lib.hid hR; replace hb2 := Lib.hid hb2))
  have hB2 : Below w.heap.size w w2 := undrew hb2.out
  replace hB2 := Lib.hid hB2
  have hS := hsoon.out t is hR.out
  cases is
  · rw [if_neg (by simp)] at hS
    replace hS := Lib.hid hS
    go_wp2
    go_ret
    exact ⟨_, rfl, hS.out, hB2.out⟩
  · rw [if_pos rfl] at hS
    replace hS := Lib.hid hS
    go_wp2
    go_ret
    exact ⟨_, rfl, hS.out, hB2.out⟩
end Go.Proofs.Ytpjajiambbobhaa

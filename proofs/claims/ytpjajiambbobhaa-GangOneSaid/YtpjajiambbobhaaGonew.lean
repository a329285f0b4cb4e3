/- corveelaw07.GangOne, walked: it answers true. Conditions: the rows that come in lie in memory; the act's tick is a machine's number. -/
import Derived.Test.YtpjajiambbobhaaGfirst
import Derived.Test.YtpjajiambbobhaaGone
namespace Go.Proofs.Ytpjajiambbobhaa
open Go.RowKit

theorem three_vecs (x : V4) (w : World) : VecsAt (w.alloc (.cells #[.int .i64 x.a, .int .i64 x.b, .int .i64 x.c, .int .i64 x.d, .int .i64 x.a, .int .i64 x.b, .int .i64 x.c, .int .i64 x.d, .int .i64 x.a, .int .i64 x.b, .int .i64 x.c, .int .i64 x.d] 23 (0, 0))) (some ⟨w.heap.size, 0, none⟩) 3 [x, x, x] := by
  refine ⟨rfl, by omega, fun i hi => ⟨w.heap.size, 0, rfl, by simp, ?_⟩⟩
  have hb := fun o => blk_cell (blk_new w (.cells #[.int .i64 x.a, .int .i64 x.b, .int .i64 x.c, .int .i64 x.d, .int .i64 x.a, .int .i64 x.b, .int .i64 x.c, .int .i64 x.d, .int .i64 x.a, .int .i64 x.b, .int .i64 x.c, .int .i64 x.d] 23 (0, 0))) o
  rcases three hi with rfl | rfl | rfl
  · exact ⟨hb 0, hb 1, hb 2, hb 3⟩
  · exact ⟨hb 4, hb 5, hb 6, hb 7⟩
  · exact ⟨hb 8, hb 9, hb 10, hb 11⟩
theorem three_ints (w : World) (a b c : Int) : IntsAt (w.alloc (.cells #[.int .i64 a, .int .i64 b, .int .i64 c] 3 (0, 0))) (some ⟨w.heap.size, 0, none⟩) 3 [a, b, c] := by
  refine ⟨rfl, by omega, fun i hi => ⟨w.heap.size, 0, rfl, by simp, ?_⟩⟩
  have hb := fun o => blk_cell (blk_new w (.cells #[.int .i64 a, .int .i64 b, .int .i64 c] 3 (0, 0))) o
  rcases three hi with rfl | rfl | rfl
  · exact hb 0
  · exact hb 1
  · exact hb 2
theorem six_ints (w : World) : IntsAt (w.alloc (.cells #[.int .i64 2, .int .i64 0, .int .i64 1, .int .i64 0, .int .i64 7, .int .i64 (-1)] 3 (0, 0))) (some ⟨w.heap.size, 0, none⟩) 6 [2, 0, 1, 0, 7, -1] := by
  refine ⟨rfl, by omega, fun i hi => ⟨w.heap.size, 0, rfl, by simp, ?_⟩⟩
  have hb := fun o => blk_cell (blk_new w (.cells #[.int .i64 2, .int .i64 0, .int .i64 1, .int .i64 0, .int .i64 7, .int .i64 (-1)] 3 (0, 0))) o
  have : i = 0 ∨ i = 1 ∨ i = 2 ∨ i = 3 ∨ i = 4 ∨ i = 5 := by omega
  rcases this with rfl | rfl | rfl | rfl | rfl | rfl
  · exact hb 0
  · exact hb 1
  · exact hb 2
  · exact hb 3
  · exact hb 4
  · exact hb 5

/-- a profile beside a pool -/
theorem Pool.beside {w : World} {gb gs cap pb sb pc : Nat} {po : Option Addr} {ps : List Nd} {whole : V4} {l : List St} (h : Pool w gb gs po cap ps) (hp : Prof w pb sb pc whole l) (h0 : 0 < ps.length) (hl : 0 < l.length) : gb ≠ pb ∧ gb ≠ sb ∧ gs ≠ pb ∧ gs ≠ sb := by
  have h1 := h.head
  have h2 := hp.head
  obtain ⟨cur, h3, _⟩ := hp.row.blk
  have h4 := h.ptr 0 h0
  have h5 := (hp.row.cells hl).1
  refine ⟨fun e => ?_, fun e => ?_, fun e => ?_, fun e => ?_⟩
  · rw [e, h2] at h1; simp at h1
  · rw [e, h3] at h1; simp at h1
  · have h6 := blk_cell h2 0
    rw [← e] at h6
    rw [h6] at h4
    simp at h4
  · rw [← e, Nat.zero_mul] at h5
    rw [h5] at h4
    simp at h4
theorem Pool.mod {w w' : World} {gb gs cap : Nat} {po : Option Addr} {ps : List Nd} {S : Nat → Prop} (h : Pool w gb gs po cap ps) (hm : Mod S w w') (h1 : ¬ S gb) (h2 : ¬ S gs) (h3 : ∀ b, Mine ps b → ¬ S b) : Pool w' gb gs po cap ps :=
  ⟨(hm.block gb (blk_lt h.head) h1).trans h.head, h.addr, fun i hi => (World.cell?_of_block (a := ⟨gs, i, none⟩) (w := w) (hm.block gs (h.gslt (by omega)) h2)).trans (h.ptr i hi),
    fun i hi => by
      have hp := h.prof i hi
      exact ⟨(hm.block _ hp.lt.1 (h3 _ ⟨i, hi, .inl rfl⟩)).trans hp.head, hp.row.of_block (hm.block _ hp.lt.2 (h3 _ ⟨i, hi, .inr rfl⟩)), hp.ne⟩, h.inv, h.apart, h.own, h.few⟩

structure G1 (w : World) (whole : V4) (a : Actg) (wr : World) : Prop where
  one : wr.heap[w.heap.size]? = some (.cells whole.cells 23 (0, 0))
  box : wr.heap[w.heap.size + 1]? = some a.obj
  low : Below w.heap.size w wr
theorem G1.below {w : World} {whole : V4} {a : Actg} {wr w' : World} (h : G1 w whole a wr) (hb : Below wr.heap.size wr w') : G1 w whole a w' := ⟨blk_below hb h.one (blk_lt h.one), blk_below hb h.box (blk_lt h.box), h.low.trans (hb.mono h.low.size)⟩
theorem G1.mod {w : World} {whole : V4} {a : Actg} {wr w' : World} {S : Nat → Prop} (h : G1 w whole a wr) (hm : Mod S wr w') (hs : ∀ b, S b → w.heap.size + 2 ≤ b) : G1 w whole a w' :=
  ⟨(hm.block _ (blk_lt h.one) (fun c => by have := hs _ c; omega)).trans h.one, (hm.block _ (blk_lt h.box) (fun c => by have := hs _ c; omega)).trans h.box, below_mod h.low hm (fun k hk => by have := hs k hk; omega) h.low.size⟩

/-- the profile and the pool, alike, apart -/
structure Both (w wr : World) (pb sb pc : Nat) (whole : V4) (l : List St) (gb gs : Nat) (po : Option Addr) (cap : Nat) (q : List Nd) : Prop where
  prof : Prof wr pb sb pc whole l
  inv : Inv whole l
  pool : Pool wr gb gs po cap q
  same : Alike q whole l
  apart : ∀ b, Mine q b → b ≠ pb ∧ b ≠ sb
  mine : ∀ b, Mine q b → w.heap.size + 2 ≤ b
  own : w.heap.size + 2 ≤ pb ∧ w.heap.size + 2 ≤ sb
theorem Both.below {w wr w' : World} {pb sb pc gb gs cap : Nat} {whole : V4} {l : List St} {po : Option Addr} {q : List Nd} (h : Both w wr pb sb pc whole l gb gs po cap q) (hb : Below wr.heap.size wr w') : Both w w' pb sb pc whole l gb gs po cap q :=
  ⟨h.prof.below hb h.prof.lt.1 h.prof.lt.2, h.inv, h.pool.below hb, h.same, h.apart, h.mine, h.own⟩

theorem Both.step {w w0 w1 w2 w3 : World} {pb sb pc gb gs cap sb' pc' : Nat} {whole v : V4} {l l' : List St} {po : Option Addr} {q q' : List Nd} {fr tt r r' : Int} (h : Both w w0 pb sb pc whole l gb gs po cap q) (hsz : w.heap.size + 2 ≤ w0.heap.size)
    (hT : TakeRel whole l fr tt v r l') (hp : Prof w1 pb sb' pc' whole l') (hs : sb' = sb ∨ w0.heap.size ≤ sb') (hm : Mod (fun b => b = pb ∨ b = sb) w0 w1) (hb : Below w1.heap.size w1 w2)
    (hG : TookG q [0, 1, 2] fr tt v r' q') (hq : Pool w3 gb gs po cap q') (hk : Kin w2 q q') (hm2 : Mod (Mine q) w2 w3) : r = r' ∧ Both w w3 pb sb' pc' whole l' gb gs po cap q' := by
  obtain ⟨hi, ht⟩ := take_facts h.inv hT
  obtain ⟨e, hal⟩ := h.same.step h.inv hi hk.len hk.whole hq.inv ht hG
  have hml : ∀ b, Mine q b → b < w0.heap.size := fun b hb => h.pool.mine_lt hb
  have hp2 : Prof w2 pb sb' pc' whole l' := hp.below hb hp.lt.1 hp.lt.2
  have n1 : ¬ Mine q pb := fun c => (h.apart _ c).1 rfl
  have n2 : ¬ Mine q sb' := fun c => by
    rcases hs with e | e
    · exact (h.apart _ c).2 e
    · have := hml _ c; omega
  have s1 := hm.size
  have s2 := hb.size
  refine ⟨e, ⟨(hm2.block _ hp2.lt.1 n1).trans hp2.head, hp2.row.of_block (hm2.block _ hp2.lt.2 n2), hp2.ne⟩, hi, hq, hal, fun b hb => ?_, fun b hb => ?_, h.own.1, ?_⟩
  · rcases hk.mine hb with c | c
    · exact ⟨(h.apart b c).1, fun e => by subst e; exact n2 c⟩
    · have := hp2.lt; omega
  · rcases hk.mine hb with c | c
    · exact h.mine b c
    · omega
  · rcases hs with e | e
    · rw [e]; exact h.own.2
    · omega
end Go.Proofs.Ytpjajiambbobhaa

/- The document's Pass walked beside the program's; corveelaw12.PlanPasses answers true. -/
import Derived.Test.YtpjajiambbobhaaPmx
import Derived.Maps.AppendAt
import Derived.Deep.DeepCutAuto
/- corveeref12.Same, walked: rows of slots that read alike are the same. -/
namespace Go.Proofs.Ytpjajiambbobhaa
open Go.RowKit

structure AlikeS (xs ys : List Slot) : Prop where
  len : ys.length = xs.length
  one : ∀ (i : Nat) (x y : Slot), xs[i]? = some x → ys[i]? = some y → y.id = x.id ∧ y.start = x.start ∧ y.gzs = x.gzs

set_option maxRecDepth 100000 in
set_option maxHeartbeats 6400000 in
theorem sames_any (so to_ : Option Addr) (sn sc tn tc : Nat) (xs ys : List Slot) (w : World) (hx : SlotsAt w so sn xs) (hy : SlotsAt w to_ tn ys) (hA : AlikeS xs ys) : Calls Try.prog 51 #[.slice so sn sc, .slice to_ tn tc] w fun e w' => e = .returned (.bool true) ∧ Below w.heap.size w w' := by
  have hmx := hx.max
  have hnt : tn = sn := by rw [← hx.len, ← hy.len]; exact hA.len
  subst hnt
  have d : ((tn : Int) != (tn : Int)) = false := by simp
  replace hx := Lib.hid hx; replace hy := Lib.hid hy; replace hA := Lib.hid hA
  go_enter Try.func51, Try.ntmps51
  go_wp2
  go_loopw [5] (fun i wr => ∃ k : Nat, i = .int .i64 k ∧ k ≤ tn ∧ Hid (Below w.heap.size w wr)) (fun i _ => tn - (intOf i).toNat)
  case atStart => exact ⟨0, rfl, Nat.zero_le _, Below.refl _ _⟩
  case round =>
    obtain ⟨k, rfl, hk, hlow⟩ := hrel
    by_cases hc : k < tn
    · have hc1 : (k : Int) < tn := by omega
      have hk0 : (0 : Int) ≤ (k : Int) := by omega
      obtain ⟨x, hxx⟩ := hx.out.get hc
      obtain ⟨y, hyy⟩ := hy.out.get hc
      obtain ⟨e1, e2, e3⟩ := hA.out.one k x y hxx hyy
      obtain ⟨b1, off, rfl, hb, s0, hxo⟩ := hx.out.cell k x hxx
      obtain ⟨b2, off2, rfl, hb2, u0, hyo⟩ := hy.out.cell k y hyy
      have t0 := s0 0 (by omega); have t1 := s0 1 (by omega); have t2 := s0 2 (by omega)
      have v0 := u0 0 (by omega); have v1 := u0 1 (by omega); have v2 := u0 2 (by omega)
      simp at t0 t1 t2 v0 v1 v2
      rw [e1] at v0
      rw [e2] at v1
      have d1 : (x.id != x.id) = false := by simp
      have d2 : (x.start != x.start) = false := by simp
      clear s0 u0
      have hST : Hid (∀ w' : World, Below w.heap.size w w' → w'.cell? ⟨b1, off + k * 3, none⟩ = some (.int .i64 x.id) ∧ w'.cell? ⟨b1, off + k * 3 + 1, none⟩ = some (.int .i64 x.start) ∧ w'.cell? ⟨b1, off + k * 3 + 2, none⟩ = some (.slice x.go x.gn x.gc) ∧ w'.cell? ⟨b2, off2 + k * 3, none⟩ = some (.int .i64 x.id) ∧ w'.cell? ⟨b2, off2 + k * 3 + 1, none⟩ = some (.int .i64 x.start) ∧ w'.cell? ⟨b2, off2 + k * 3 + 2, none⟩ = some (.slice y.go y.gn y.gc)) := fun w' h => ⟨(below_cell h hb).trans t0, (below_cell h hb).trans t1, (below_cell h hb).trans t2, (below_cell h hb2).trans v0, (below_cell h hb2).trans v1, (below_cell h hb2).trans v2⟩
      have hsm := fun W' (h : Below w.heap.size w W') => samei_any x.go y.go x.gn y.gn x.gc y.gc x.gzs y.gzs W' ((hxo.below h).gang) ((hyo.below h).gang)
      have hcur : Below w.heap.size w wr.drew := hlow.out.drew
      clear t0 t1 t2 v0 v1 v2
      replace hxx := Lib.hid hxx; replace hyy := Lib.hid hyy; replace e1 := Lib.hid e1; replace e2 := Lib.hid e2; replace e3 := Lib.hid e3; replace hxo := Lib.hid hxo; replace hyo := Lib.hid hyo; replace hsm := Lib.hid hsm; replace hcur := Lib.hid hcur
      go_upto_region 6 with fail
      go_region_held3 (fun w' => w'.cell? ⟨b1, off + k * 3, none⟩ = some (.int .i64 x.id) ∧ w'.cell? ⟨b1, off + k * 3 + 1, none⟩ = some (.int .i64 x.start) ∧ w'.cell? ⟨b1, off + k * 3 + 2, none⟩ = some (.slice x.go x.gn x.gc) ∧ w'.cell? ⟨b2, off2 + k * 3, none⟩ = some (.int .i64 x.id) ∧ w'.cell? ⟨b2, off2 + k * 3 + 1, none⟩ = some (.int .i64 x.start) ∧ w'.cell? ⟨b2, off2 + k * 3 + 2, none⟩ = some (.slice y.go y.gn y.gc))
        (first
          | with_reducible exact hST.out _ hcur.out)
        (first
          | (go_at_call 41
             refine (hsm.out _ hcur.out).mono ?_
             rintro e w4 ⟨b, rfl, hbx, hb4⟩
             have hbt : b = true := hbx.2 e3.out.symm
             clear hbx
             subst hbt
             replace hcur := Lib.hid (hcur.out.trans (hb4.mono hcur.out.size))
             replace hb4 := Lib.hid hb4))
      all_goals
        go_wp2
        go_roundw
        case rel => exact ⟨k + 1, by go_num, by omega, hcur.out⟩
        case measure => simp [intOf]; omega
    · have hc1 : ¬ (k : Int) < tn := by omega
      go_wp2
      go_ret
      exact ⟨rfl, hlow.out⟩
end Go.Proofs.Ytpjajiambbobhaa

/- What stands in corveeref12.Pass's loops. -/
namespace Go.Proofs.Ytpjajiambbobhaa
open Go.RowKit

theorem owns_block {w : World} {base size n g : Nat} {e : TypeId} {v : Value} {xs : List Value} (h : w.ownsRow base e size v n xs) (hg : v.ownBlock = some g) : ∃ cur, w.heap[g]? = some (.cells cur e (0, 0)) := by
  rcases h.2 with ⟨hv, _⟩ | ⟨g', cap, cur, hv, _, hh, _⟩
  · rw [hv] at hg; simp [Value.ownBlock] at hg
  · rw [hv] at hg
    have e' : g' = g := by simpa [Value.ownBlock] using hg
    subst e'
    exact ⟨cur, hh⟩
theorem grown_block {w w' : World} {base size n b : Nat} {T e : TypeId} {kv : Value} {ks : List Value} {o : Array Value} (hk : w.ownsRow base T size kv n ks) (hg : w.grownBy w' kv.ownBlock) (hb : w.heap[b]? = some (.cells o e (0, 0))) (hT : e ≠ T) : w'.heap[b]? = w.heap[b]? :=
  hg.block b (blk_lt hb) (fun c => by
    have c' : kv.ownBlock = some b := by first | exact c | exact c.symm
    obtain ⟨cur, h⟩ := owns_block hk c'
    rw [hb] at h
    simp at h
    exact hT h.2)
theorem owns_grown {w w' : World} {base base2 size size2 n n2 : Nat} {e T : TypeId} {v kv : Value} {xs ks : List Value} (h : w.ownsRow base e size v n xs) (hk : w.ownsRow base2 T size2 kv n2 ks) (hT : e ≠ T) (hg : w.grownBy w' kv.ownBlock) : w'.ownsRow base e size v n xs :=
  owns_same h (fun g c => by
    obtain ⟨cur, hb⟩ := owns_block h c
    exact grown_block hk hg hb hT)
theorem RRow.grown {w w' : World} {sv kv : Value} {rs : List Rp} {base n : Nat} {ks : List Value} {size : Nat} {T : TypeId} (h : RRow w sv rs) (hk : w.ownsRow base T size kv n ks) (hT : T = 4 ∨ T = 88) (hg : w.grownBy w' kv.ownBlock) : RRow w' sv rs :=
  ⟨owns_grown h.1 hk (by rcases hT with rfl | rfl <;> decide) hg, fun i hi => owns_grown (h.2 i hi) hk (by rcases hT with rfl | rfl <;> decide) hg⟩

/-- what stands while it is told what is kept -/
structure PwR (w : World) (p : Nat) (sv : Value) (rs : List Rp) (kv : Value) (k : Nat) (ks : List Value) (wr : World) : Prop where
  low : Below w.heap.size w wr
  box : wr.heap[p]? = some (.cells #[sv] 67 (0, 0))
  pw : w.heap.size ≤ p
  row : RRow wr sv rs
  kept : wr.ownsRow w.heap.size 4 1 kv k ks
theorem PwR.below {w wr w' : World} {p k : Nat} {sv kv : Value} {rs : List Rp} {ks : List Value} (h : PwR w p sv rs kv k ks wr) (hb : Below wr.heap.size wr w') : PwR w p sv rs kv k ks w' :=
  ⟨h.low.trans (hb.mono h.low.size), blk_below hb h.box (blk_lt h.box), h.pw, h.row.below hb (Nat.le_refl _), owns_below h.kept hb (Nat.le_refl _)⟩
theorem PwR.setQ {w wr : World} {p k : Nat} {sv sv' kv : Value} {rs rs' : List Rp} {ks : List Value} (h : PwR w p sv rs kv k ks wr) (hr : RRow wr sv' rs') : PwR w p sv' rs' kv k ks (wr.setCell ⟨p, 0, none⟩ sv') :=
  ⟨h.low.setCell h.pw _, by rw [blk_set h.box]; rfl, h.pw, hr.setQ h.box _, owns_setT h.kept h.box (by decide) 0 _⟩
theorem PwR.snoc {w wr w9 : World} {p k : Nat} {sv kv kv' : Value} {rs : List Rp} {ks : List Value} {b : Value} (h : PwR w p sv rs kv k ks wr) (hg : (wr.alloc (.cells #[b] 4 (0, 0))).grownBy w9 kv.ownBlock) (ho : w9.ownsRow w.heap.size 4 1 kv' (k + 1) (ks ++ [b])) : PwR w p sv rs kv' (k + 1) (ks ++ [b]) w9 := by
  have h' := h.below ((Below.refl _ _).alloc (Nat.le_refl _) (.cells #[b] 4 (0, 0)))
  exact ⟨h'.low.grown hg h'.low.size (fun c e => (h'.kept.lt c e).1), (grown_block h'.kept hg h'.box (by decide)).trans h'.box, h'.pw, h'.row.grown h'.kept (.inl rfl) hg, ho⟩
def RPassPost (slots : List Slot) (r : Int) (w : World) (e : Ending) (w' : World) : Prop :=
  ∃ so n sc ys, e = .returned (.tuple #[.slice so n sc, .int .i64 r]) ∧ SlotsAt w' so n ys ∧ AlikeS slots ys ∧ Below w.heap.size w w'
theorem alike_nil : AlikeS [] [] := ⟨rfl, fun i x y h => by simp at h⟩
theorem slots_none (w : World) : SlotsAt w none 0 [] := ⟨rfl, by omega, fun i y h => by simp at h⟩

set_option maxRecDepth 100000 in
set_option maxHeartbeats 6400000 in
theorem rpass_err (vo uo ho ao : Option Addr) (n c un uc m mc l lc : Nat) (vs : List V4) (now : Int) (hs : List Hold) (r : Int) (w : World) (hv : VecsAt w vo n vs) (hh : HoldsAt w ho m hs) (hr : r ≠ 0) (hL : LayRel vs un now hs r []) (hm8 : m ≤ 8) :
    Calls Try.prog 50 #[.slice vo n c, .slice uo un uc, .int .i64 now, .slice ho m mc, .slice ao l lc] w (RPassPost [] r w) := by
  have hb := rbase_any vo uo ho n c un uc m mc vs now hs r [] w hv hh hL hm8
  have d : (r != 0) = true := by simpa using hr
  replace hv := Lib.hid hv; replace hh := Lib.hid hh; replace hL := Lib.hid hL; replace hr := Lib.hid hr; replace hb := Lib.hid hb
  go_enter Try.func50, Try.ntmps50
  go_wp2_with fail
  refine hb.out.mono ?_
  rintro e w1 ⟨so1, n1, c1, rfl, hb1, _⟩
  have hlow : Below w.heap.size w (w1.alloc (.cells #[.slice so1 n1 c1] 67 (0, 0))) := hb1.alloc hb1.size _
  replace hb1 := Lib.hid hb1; replace hlow := Lib.hid hlow
  go_wp2
  go_ret2
  exact ⟨none, 0, 0, [], rfl, slots_none _, alike_nil, hlow.out⟩
end Go.Proofs.Ytpjajiambbobhaa

/- What stands in the second loop of corveeref12.Pass. -/
namespace Go.Proofs.Ytpjajiambbobhaa
open Go.RowKit

theorem slot_keep {w w' : World} {s : Slot} (h : s.ok w) (hsz : w.heap.size ≤ w'.heap.size) (hb : ∀ b off, s.go = some ⟨b, off, none⟩ → b < w.heap.size → w'.heap[b]? = w.heap[b]?) : s.ok w' :=
  ⟨⟨h.gang.len, h.gang.max, fun i hi => by
    obtain ⟨b, off, e, hlt, hc⟩ := h.gang.cell i hi
    exact ⟨b, off, e, by omega, (World.cell?_of_block (a := ⟨b, off + i, none⟩) (w := w) (hb b off e hlt)).trans hc⟩⟩, h.gle⟩
structure SwR (w : World) (p : Nat) (sv : Value) (rs : List Rp) (kv : Value) (l : Nat) (ks : List Value) (rv : Value) (k : Nat) (ys : List Slot) (wr : World) : Prop where
  pw : PwR w p sv rs kv l ks wr
  own : wr.ownsRow w.heap.size 88 3 rv k (flatv Slot.cells ys)
  len : ys.length = k
  ok : ∀ s, s ∈ ys → s.ok wr ∧ ∀ b off, s.go = some ⟨b, off, none⟩ → p < b ∧ b < wr.heap.size ∧ rv.ownBlock ≠ some b
theorem SwR.below {w wr w' : World} {p l k : Nat} {sv kv rv : Value} {rs : List Rp} {ks : List Value} {ys : List Slot} (h : SwR w p sv rs kv l ks rv k ys wr) (hb : Below wr.heap.size wr w') : SwR w p sv rs kv l ks rv k ys w' :=
  ⟨h.pw.below hb, owns_below h.own hb (Nat.le_refl _), h.len, fun s hs => ⟨(h.ok s hs).1.below hb, fun b off e => by obtain ⟨h1, h2, h3⟩ := (h.ok s hs).2 b off e; exact ⟨h1, Nat.lt_of_lt_of_le h2 hb.size, h3⟩⟩⟩
theorem SwR.setQ {w wr : World} {p l k : Nat} {sv sv' kv rv : Value} {rs rs' : List Rp} {ks : List Value} {ys : List Slot} (h : SwR w p sv rs kv l ks rv k ys wr) (hr : RRow wr sv' rs') : SwR w p sv' rs' kv l ks rv k ys (wr.setCell ⟨p, 0, none⟩ sv') :=
  ⟨h.pw.setQ hr, owns_setT h.own h.pw.box (by decide) 0 _, h.len, fun s hs => by
    have hsz : (wr.setCell ⟨p, 0, none⟩ sv').heap.size = wr.heap.size := by simp [World.setCell]
    refine ⟨slot_keep (h.ok s hs).1 (by omega) fun b off e hlt => ?_, fun b off e => ?_⟩
    · have h1 := ((h.ok s hs).2 b off e).1
      have hb : wr.heap[b]? = some wr.heap[b] := Array.getElem?_eq_getElem hlt
      rw [hb]
      exact blk_set_other (by omega) _ hb
    · rw [hsz]; exact (h.ok s hs).2 b off e⟩
theorem SwR.snoc {w wr w9 : World} {p l k : Nat} {sv kv rv rv' : Value} {rs : List Rp} {ks : List Value} {ys : List Slot} {s : Slot} (h : SwR w p sv rs kv l ks rv k ys wr) (hs : s.ok wr) (hsb : ∀ b off, s.go = some ⟨b, off, none⟩ → p < b ∧ b < wr.heap.size ∧ rv.ownBlock ≠ some b)
    (hg : (wr.alloc (.cells s.cells 88 (0, 0))).grownBy w9 rv.ownBlock) (ho : w9.ownsRow w.heap.size 88 3 rv' (k + 1) (flatv Slot.cells ys ++ s.cells.toList)) (hb : rv'.ownBlock = rv.ownBlock ∨ rv'.ownBlock = some (wr.alloc (.cells s.cells 88 (0, 0))).heap.size) : SwR w p sv rs kv l ks rv' (k + 1) (ys ++ [s]) w9 := by
  have h' := h.below ((Below.refl _ _).alloc (Nat.le_refl _) (.cells s.cells 88 (0, 0)))
  have hsz : wr.heap.size + 1 ≤ w9.heap.size := by have := hg.size; simpa using this
  have keep : ∀ x : Slot, x.ok wr → (∀ b off, x.go = some ⟨b, off, none⟩ → p < b ∧ b < wr.heap.size ∧ rv.ownBlock ≠ some b) → x.ok w9 ∧ ∀ b off, x.go = some ⟨b, off, none⟩ → p < b ∧ b < w9.heap.size ∧ rv'.ownBlock ≠ some b := fun x hx hxb => by
    refine ⟨slot_keep hx (by omega) fun b off e hlt => ?_, fun b off e => ?_⟩
    · have h3 := (hxb b off e).2.2
      exact (hg.block b (by simp; omega) (fun c => h3 (by first | exact c | exact c.symm))).trans (Below.heap_alloc wr _ b hlt)
    · obtain ⟨h1, h2, h3⟩ := hxb b off e
      refine ⟨h1, by omega, fun c => ?_⟩
      rcases hb with e' | e'
      · exact h3 (e'.symm.trans c)
      · rw [e'] at c
        simp at c
        omega
  refine ⟨⟨h'.pw.low.grown hg h'.pw.low.size (fun c e => (h'.own.lt c e).1), (grown_block h'.own hg h'.pw.box (by decide)).trans h'.pw.box, h'.pw.pw, h'.pw.row.grown h'.own (.inr rfl) hg, owns_grown h'.pw.kept h'.own (by decide) hg⟩, by rw [flatv_append, flatv_one]; exact ho, by simp [h.len], fun x hx => ?_⟩
  rcases List.mem_append.1 hx with hx | hx
  · exact keep x (h.ok x hx).1 (h.ok x hx).2
  · have : x = s := by simpa using hx
    subst this
    exact keep x hs hsb
end Go.Proofs.Ytpjajiambbobhaa

/- corveeref12.Pass, walked beside plan.Pass: it promises the same. UNDER WAY. -/
namespace Go.Proofs.Ytpjajiambbobhaa
open Go.RowKit

theorem bool_one (b : Bool) : ∀ u ∈ [Value.bool b], u.oneCell' = true := by simp [Value.oneCell']
theorem Twin.up {rs : List Rp} {ps : List Nd} {N M : Nat} (h : Twin rs ps N) (hN : N ≤ M) : Twin rs ps M := ⟨h.len, fun i hi => ⟨(h.one i hi).1, (h.one i hi).2.1, by have := (h.one i hi).2.2; omega⟩⟩
theorem Twin.inv {rs : List Rp} {ps : List Nd} {N : Nat} (h : Twin rs ps N) : ∀ i, i < ps.length → Inv (nd ps i).whole (nd ps i).l := fun i hi => by
  have := h.one i (by rw [h.len]; exact hi)
  rw [← this.1]; exact this.2.1.inv
theorem AlikeS.snoc {xs ys : List Slot} {x y : Slot} (h : AlikeS xs ys) (h1 : y.id = x.id) (h2 : y.start = x.start) (h3 : y.gzs = x.gzs) : AlikeS (xs ++ [x]) (ys ++ [y]) :=
  ⟨by simp [h.len], fun i a b ha hb => by
    have hl := h.len
    by_cases c : i < xs.length
    · rw [List.getElem?_append_left c] at ha
      rw [List.getElem?_append_left (by omega)] at hb
      exact h.one i a b ha hb
    · rw [List.getElem?_append_right (by omega)] at ha
      rw [List.getElem?_append_right (by omega)] at hb
      rw [hl] at hb
      obtain ⟨e, he⟩ : ∃ e, e = i - xs.length := ⟨_, rfl⟩
      rw [← he] at ha hb
      cases e with
      | zero => simp at ha hb; subst ha hb; exact ⟨h1, h2, h3⟩
      | succ e => simp at ha⟩
/-- behind the question whether it is kept -/
structure KpC (w : World) (p : Nat) (kv : Value) (l : Nat) (ks : List Value) (rv : Value) (k : Nat) (ys : List Slot) (wa : World) (a : Ask) (N : Nat) (q : List Nd) (wx : World) : Prop where
  ex : ∃ so n c rs, SwR w p (.slice so n c) rs kv l ks rv k ys wx ∧ Twin rs q N
  ask : wx.heap[wa.heap.size]? = some a.obj

set_option maxRecDepth 100000 in
set_option maxHeartbeats 12800000 in
theorem rpass_any (vo uo ho ao : Option Addr) (n c un uc m mc l lc : Nat) (vs : List V4) (bs : List Bool) (now : Int) (hs : List Hold) (asks : List Ask) (slots : List Slot) (w : World) (hv : VecsAt w vo n vs) (hu : BoolsAt w uo un bs) (hh : HoldsAt w ho m hs) (ha : AsksAt w ao l asks)
    (hR : PassRel vs now bs hs asks slots) (hm8 : m ≤ 8) (hl : l ≤ 1000) (hun : un ≤ 1000000) :
    Calls Try.prog 50 #[.slice vo n c, .slice uo un uc, .int .i64 now, .slice ho m mc, .slice ao l lc] w (RPassPost slots 0 w) := by
  have hbl := hu.len
  have hal := ha.len
  have hhl := hh.len
  obtain ⟨i4, hi, hz, hz1, hz2⟩ := info_parts info4
  obtain ⟨ps, q1, q2, st, rd, hL, hCK, hst, hCR, hrd, hrs⟩ := hR.go
  have hb := rbase_any vo uo ho n c un uc m mc vs now hs 0 ps w hv hh (by rw [← hbl]; exact hL) hm8
  obtain ⟨i8, hi8, hz8, hz81, hz82⟩ := info_parts info88
  obtain ⟨hok, hHeld, _⟩ := lay_held hL
  have hKO := (kept_chain hCK hHeld).2
  have hps16 : ps.length ≤ 16 := by rw [hHeld.len]; exact hok.few
  have hnow := hok.lo
  have hnow2 := hok.hi
  have hstl : st.length = l := by rw [← hal, ← hst]; simp
  have hC0 : Chain (KeptR now bs) (st.drop 0) ps q1 := hCK
  clear hHeld
  replace hv := Lib.hid hv; replace hu := Lib.hid hu; replace hh := Lib.hid hh; replace ha := Lib.hid ha; replace hbl := Lib.hid hbl; replace hal := Lib.hid hal; replace hhl := Lib.hid hhl; replace hb := Lib.hid hb; replace hL := Lib.hid hL; replace hok := Lib.hid hok; replace hps16 := Lib.hid hps16; replace hCK := Lib.hid hCK; replace hst := Lib.hid hst; replace hCR := Lib.hid hCR; replace hrd := Lib.hid hrd; replace hrs := Lib.hid hrs; replace hR := Lib.hid hR; replace hstl := Lib.hid hstl; replace hC0 := Lib.hid hC0; replace hKO := Lib.hid hKO
  go_enter Try.func50, Try.ntmps50
  go_wp2_with fail
  refine hb.out.mono ?_
  rintro e w1 ⟨so1, n1, c1, rfl, hb1, hrow⟩
  obtain ⟨rs1, hrow1, htw1⟩ := hrow rfl
  obtain ⟨W1, hW1⟩ : ∃ W1, W1 = w1.alloc (.cells #[.slice so1 n1 c1] 67 (0, 0)) := ⟨_, rfl⟩
  have hbW : Below w1.heap.size w1 W1 := by rw [hW1]; exact (Below.refl _ _).alloc (Nat.le_refl _) _
  have hp1 : W1.heap[w1.heap.size]? = some (.cells #[.slice so1 n1 c1] 67 (0, 0)) := by rw [hW1]; exact blk_new _ _
  have hlow1 := hb1.trans (hbW.mono hb1.size)
  have hPW : PwR w w1.heap.size (.slice so1 n1 c1) rs1 (.slice none 0 0) 0 ((st.take 0).map fun x => Value.bool x.2) W1 :=
    ⟨hlow1, hp1, hb1.size, hrow1.below hbW (Nat.le_refl _), World.ownsRow_nil _ _ _ _⟩
  rw [hhl.out] at htw1
  replace hrow1 := Lib.hid hrow1; replace htw1 := Lib.hid htw1; replace hbW := Lib.hid hbW; replace hp1 := Lib.hid hp1; replace hlow1 := Lib.hid hlow1; replace hb1 := Lib.hid hb1; replace hrow := Lib.hid hrow; replace hPW := Lib.hid hPW
  have hW1' := Lib.hid hW1
  clear hW1
  go_wp2
  rw [← hW1'.out]
  go_loopw [14, 15, 16, 17, 18, 19, 20, 21, 22] (fun kv i _ _ _ _ _ _ _ wr => ∃ (k : Nat) (mm : List Nd) (rs : List Rp) (ro : Option Addr) (rn rc : Nat), i = .int .i64 k ∧ k ≤ l ∧ Hid (PwR w w1.heap.size (.slice ro rn rc) rs kv k ((st.take k).map fun x => Value.bool x.2) wr) ∧ Hid (Twin rs mm (m + k)) ∧ Hid (mm.length ≤ 16) ∧ Hid (Chain (KeptR now bs) (st.drop k) mm q1)) (fun _ i _ _ _ _ _ _ _ _ => l - (intOf i).toNat)
  case atStart => exact ⟨0, ps, rs1, so1, n1, c1, rfl, Nat.zero_le _, hPW.out, htw1.out, hps16.out, hC0.out⟩
  case round =>
    obtain ⟨k, mm, rs, ro, rn, rc, rfl, hk, hP, htw, h16, hC⟩ := hrel
    by_cases hc : k < l
    · have hc1 : (k : Int) < l := by omega
      have hk0 : (0 : Int) ≤ (k : Int) := by omega
      obtain ⟨a, hax⟩ := ha.out.get hc
      obtain ⟨b', off', rfl, hb', a0', hao⟩ := ha.out.cell k a hax
      have hlow := hP.out.low
      have a0 := (below_cell hlow hb').trans (a0' 0 (by omega)); have a1 := (below_cell hlow hb').trans (a0' 1 (by omega)); have a2 := (below_cell hlow hb').trans (a0' 2 (by omega)); have a3 := (below_cell hlow hb').trans (a0' 3 (by omega)); have a4 := (below_cell hlow hb').trans (a0' 4 (by omega)); have a5 := (below_cell hlow hb').trans (a0' 5 (by omega)); have a6 := (below_cell hlow hb').trans (a0' 6 (by omega)); have a7 := (below_cell hlow hb').trans (a0' 7 (by omega)); have a8 := (below_cell hlow hb').trans (a0' 8 (by omega)); have a9 := (below_cell hlow hb').trans (a0' 9 (by omega))
      simp at a0 a1 a2 a3 a4 a5 a6 a7 a8 a9
      clear a0'
      obtain ⟨bk, hsk⟩ : ∃ bk, st[k]? = some (a, bk) := by
        have h := hax
        rw [← hst.out, List.getElem?_map] at h
        cases hx : st[k]? with
        | none => rw [hx] at h; cases h
        | some y =>
          rw [hx] at h
          obtain ⟨y1, y2⟩ := y
          simp at h
          exact ⟨y2, by rw [h]⟩
      obtain ⟨m2, hK, hC2⟩ : ∃ m2, KeptR now bs (a, bk) mm m2 ∧ Chain (KeptR now bs) (st.drop (k + 1)) m2 q1 := by
        have h := hC.out
        rw [List.drop_eq_getElem_cons (List.getElem?_eq_some_iff.1 hsk).1, (List.getElem?_eq_some_iff.1 hsk).2] at h
        exact h
      have htake : (st.take (k + 1)).map (fun x => Value.bool x.2) = (st.take k).map (fun x => Value.bool x.2) ++ [.bool bk] := by rw [take_snoc hsk]; simp
      obtain ⟨F, hF⟩ : ∃ F, F = from_ now a := ⟨_, rfl⟩
      have hmx : (if a.start < now then now else a.start) = F := by rw [hF]; unfold from_; omega
      have hFn : now ≤ F := by rw [hF]; unfold from_; omega
      have hno : ¬ (0 ≤ a.start ∧ TakePre bs now a F a.gzs) → bk = false ∧ m2 = mm := fun h => by
        rcases hK with ⟨_, e1, e2⟩ | ⟨_, _, e1, e2⟩ | ⟨e1, e2, _⟩
        · exact ⟨e1, e2⟩
        · exact ⟨e1, e2⟩
        · exact absurd ⟨e1, hF ▸ e2⟩ h
      have htw2 : Twin rs mm (m + (k + 1)) := ⟨htw.out.len, fun i hi => ⟨(htw.out.one i hi).1, (htw.out.one i hi).2.1, by have := (htw.out.one i hi).2.2; omega⟩⟩
      obtain ⟨WA, hWA⟩ : ∃ WA, WA = wr.alloc (.cells a.cells 84 (0, 0)) := ⟨_, rfl⟩
      have hbA : Below wr.heap.size wr WA := by rw [hWA]; exact (Below.refl _ _).alloc (Nat.le_refl _) _
      have hxA : WA.heap[wr.heap.size]? = some a.obj := by rw [hWA]; exact blk_new _ _
      have hPA := hP.out.below hbA
      have hcan := rcan_any a WA
      obtain ⟨cn, hcn⟩ : ∃ cn, cn = a.can := ⟨_, rfl⟩
      rw [← hcn] at hcan
      obtain ⟨z0, z1, z2, z3, z4, z5, z6, z7, z8, z9⟩ := ask_cells hxA
      have lz := blk_lt hxA
      replace hax := Lib.hid hax; replace hao := Lib.hid hao; replace hlow := Lib.hid hlow; replace hsk := Lib.hid hsk; replace hK := Lib.hid hK; replace hC2 := Lib.hid hC2; replace htake := Lib.hid htake; replace hF := Lib.hid hF; replace hFn := Lib.hid hFn; replace hno := Lib.hid hno; replace htw2 := Lib.hid htw2; replace hbA := Lib.hid hbA; replace hxA := Lib.hid hxA; replace hPA := Lib.hid hPA; replace hcan := Lib.hid hcan; replace hcn := Lib.hid hcn
      have hWA' := Lib.hid hWA
      clear hWA
      go_wp2_with fail
      rw [← hWA'.out]
      clear a0 a1 a2 a3 a4 a5 a6 a7 a8 a9
      refine hcan.out.mono ?_
      rintro e w3 ⟨rfl, hb3⟩
      have hP3 := hPA.out.below hb3
      have hx3 := blk_below hb3 hxA.out lz
      clear z0 z1 z2 z3 z4 z5 z6 z7 z8 z9 lz
      obtain ⟨z0, z1, z2, z3, z4, z5, z6, z7, z8, z9⟩ := ask_cells hx3
      have lz := blk_lt hx3
      have hof := rof_any un uc uo bs a a.go a.gn a.gc a.gzs w3 (hu.out.below hP3.low (Nat.le_refl _)) ((hao.out.below' hP3.low).places) hun ((hao.out.below' hP3.low).gang)
      replace hb3 := Lib.hid hb3; replace hP3 := Lib.hid hP3; replace hx3 := Lib.hid hx3; replace hof := Lib.hid hof
      go_wp2_with fail
      refine hof.out.mono ?_
      rintro e w4 ⟨g, rfl, hg, hb4⟩
      have hP4 := hP3.out.below hb4
      have hx4 := blk_below hb4 hx3.out lz
      clear z0 z1 z2 z3 z4 z5 z6 z7 z8 z9 lz
      obtain ⟨z0, z1, z2, z3, z4, z5, z6, z7, z8, z9⟩ := ask_cells hx4
      have lz := blk_lt hx4
      have hg' := Lib.hid hg
      clear hg
      replace hb4 := Lib.hid hb4; replace hP4 := Lib.hid hP4; replace hx4 := Lib.hid hx4
      cases cn with
      | false =>
        obtain ⟨e1, e2⟩ := hno.out (fun h => by have := h.2.1; rw [← hcn.out] at this; cases this)
        subst e1 e2
        have hownA := (hP4.out).kept.alloc (.cells #[.bool false] 4 (0, 0))
        have hnews := cells_new w4 #[.bool false] 4
        have hone := bool_one false
        have h63 := maxLen_ge (n := k) (by omega)
        have hby : (k + 1) * 1 ≤ 140737488355328 := by omega
        have hbas : w.heap.size ≤ (w4.alloc (.cells #[.bool false] 4 (0, 0))).heap.size := size_alloc (hP4.out).low.size _
        have hPP := hP4.out
        replace hownA := Lib.hid hownA; replace hnews := Lib.hid hnews; replace hone := Lib.hid hone; replace h63 := Lib.hid h63; replace hby := Lib.hid hby; replace hbas := Lib.hid hbas; replace hPP := Lib.hid hPP
        go_wp2_with (at_builtin; refine wpList_append_own _ rfl _ _ 73 rfl (w.heap.size) 4 i4 _ 1 1 Try.underlying73 hi hz hz1 hz2 rfl (Nat.succ_pos _) _ k _ rfl hownA.out ⟨w4.heap.size, 0, none⟩ 1 1 [.bool false] rfl rfl hnews.out hone.out h63.out hby.out hbas.out ?_; intro v1 w9 hown9 hgrow _; replace hown9 := Lib.hid hown9; replace hgrow := Lib.hid hgrow)
        have hP9 := hPP.out.snoc hgrow.out hown9.out
        replace hP9 := Lib.hid hP9
        go_wp2
        go_roundw
        case rel => exact ⟨k + 1, _, rs, ro, rn, rc, by go_num, by omega, by rw [htake.out]; exact hP9.out, htw2.out, h16.out, hC2.out⟩
        case measure => simp [intOf]; omega
      | true =>
      cases g with
      | false =>
        obtain ⟨e1, e2⟩ := hno.out (fun h => by have := hg'.out.2 h.2.2.2.2; cases this)
        subst e1 e2
        have hownA := (hP4.out).kept.alloc (.cells #[.bool false] 4 (0, 0))
        have hnews := cells_new w4 #[.bool false] 4
        have hone := bool_one false
        have h63 := maxLen_ge (n := k) (by omega)
        have hby : (k + 1) * 1 ≤ 140737488355328 := by omega
        have hbas : w.heap.size ≤ (w4.alloc (.cells #[.bool false] 4 (0, 0))).heap.size := size_alloc (hP4.out).low.size _
        have hPP := hP4.out
        replace hownA := Lib.hid hownA; replace hnews := Lib.hid hnews; replace hone := Lib.hid hone; replace h63 := Lib.hid h63; replace hby := Lib.hid hby; replace hbas := Lib.hid hbas; replace hPP := Lib.hid hPP
        go_wp2_with (at_builtin; refine wpList_append_own _ rfl _ _ 73 rfl (w.heap.size) 4 i4 _ 1 1 Try.underlying73 hi hz hz1 hz2 rfl (Nat.succ_pos _) _ k _ rfl hownA.out ⟨w4.heap.size, 0, none⟩ 1 1 [.bool false] rfl rfl hnews.out hone.out h63.out hby.out hbas.out ?_; intro v1 w9 hown9 hgrow _; replace hown9 := Lib.hid hown9; replace hgrow := Lib.hid hgrow)
        have hP9 := hPP.out.snoc hgrow.out hown9.out
        replace hP9 := Lib.hid hP9
        go_wp2
        go_roundw
        case rel => exact ⟨k + 1, _, rs, ro, rn, rc, by go_num, by omega, by rw [htake.out]; exact hP9.out, htw2.out, h16.out, hC2.out⟩
        case measure => simp [intOf]; omega
      | true =>
      by_cases q1' : 0 ≤ a.start
      rotate_left
      · have d1 : decide (0 ≤ a.start) = false := by simpa using q1'
        obtain ⟨e1, e2⟩ := hno.out (fun h => q1' h.1)
        subst e1 e2
        replace q1' := Lib.hid q1'
        have hownA := (hP4.out).kept.alloc (.cells #[.bool false] 4 (0, 0))
        have hnews := cells_new w4 #[.bool false] 4
        have hone := bool_one false
        have h63 := maxLen_ge (n := k) (by omega)
        have hby : (k + 1) * 1 ≤ 140737488355328 := by omega
        have hbas : w.heap.size ≤ (w4.alloc (.cells #[.bool false] 4 (0, 0))).heap.size := size_alloc (hP4.out).low.size _
        have hPP := hP4.out
        replace hownA := Lib.hid hownA; replace hnews := Lib.hid hnews; replace hone := Lib.hid hone; replace h63 := Lib.hid h63; replace hby := Lib.hid hby; replace hbas := Lib.hid hbas; replace hPP := Lib.hid hPP
        go_wp2_with (at_builtin; refine wpList_append_own _ rfl _ _ 73 rfl (w.heap.size) 4 i4 _ 1 1 Try.underlying73 hi hz hz1 hz2 rfl (Nat.succ_pos _) _ k _ rfl hownA.out ⟨w4.heap.size, 0, none⟩ 1 1 [.bool false] rfl rfl hnews.out hone.out h63.out hby.out hbas.out ?_; intro v1 w9 hown9 hgrow _; replace hown9 := Lib.hid hown9; replace hgrow := Lib.hid hgrow)
        have hP9 := hPP.out.snoc hgrow.out hown9.out
        replace hP9 := Lib.hid hP9
        go_wp2
        go_roundw
        case rel => exact ⟨k + 1, _, rs, ro, rn, rc, by go_num, by omega, by rw [htake.out]; exact hP9.out, htw2.out, h16.out, hC2.out⟩
        case measure => simp [intOf]; omega
      have d1 : decide (0 ≤ a.start) = true := by simpa using q1'
      by_cases q2' : F ≤ 1099511627776
      rotate_left
      · have d2 : decide (F ≤ 1099511627776) = false := by simpa using q2'
        obtain ⟨e1, e2⟩ := hno.out (fun h => q2' h.2.2.2.1)
        subst e1 e2
        replace q1' := Lib.hid q1'; replace q2' := Lib.hid q2'
        have hownA := (hP4.out).kept.alloc (.cells #[.bool false] 4 (0, 0))
        have hnews := cells_new w4 #[.bool false] 4
        have hone := bool_one false
        have h63 := maxLen_ge (n := k) (by omega)
        have hby : (k + 1) * 1 ≤ 140737488355328 := by omega
        have hbas : w.heap.size ≤ (w4.alloc (.cells #[.bool false] 4 (0, 0))).heap.size := size_alloc (hP4.out).low.size _
        have hPP := hP4.out
        replace hownA := Lib.hid hownA; replace hnews := Lib.hid hnews; replace hone := Lib.hid hone; replace h63 := Lib.hid h63; replace hby := Lib.hid hby; replace hbas := Lib.hid hbas; replace hPP := Lib.hid hPP
        go_wp2_with (at_builtin; refine wpList_append_own _ rfl _ _ 73 rfl (w.heap.size) 4 i4 _ 1 1 Try.underlying73 hi hz hz1 hz2 rfl (Nat.succ_pos _) _ k _ rfl hownA.out ⟨w4.heap.size, 0, none⟩ 1 1 [.bool false] rfl rfl hnews.out hone.out h63.out hby.out hbas.out ?_; intro v1 w9 hown9 hgrow _; replace hown9 := Lib.hid hown9; replace hgrow := Lib.hid hgrow)
        have hP9 := hPP.out.snoc hgrow.out hown9.out
        replace hP9 := Lib.hid hP9
        go_wp2
        go_roundw
        case rel => exact ⟨k + 1, _, rs, ro, rn, rc, by go_num, by omega, by rw [htake.out]; exact hP9.out, htw2.out, h16.out, hC2.out⟩
        case measure => simp [intOf]; omega
      have d2 : decide (F ≤ 1099511627776) = true := by simpa using q2'
      have hpre : TakePre bs now a F a.gzs := ⟨hcn.out.symm, hFn.out, q2', hg'.out.1 rfl⟩
      have htk0 : 0 < a.ticks := by
        have h := hcn.out
        unfold Ask.can at h
        simp at h
        exact h.1.2
      obtain ⟨r0, hT0, hbk⟩ : ∃ r, TookL mm a.gzs F (endT F a.ticks) a.v r m2 ∧ (bk = true ↔ r = 0) := by
        rw [hF.out]
        rcases hK.out with ⟨e, _⟩ | ⟨_, e, _⟩ | ⟨_, _, r, h1, h2⟩
        · exact absurd (show a.start < 0 from e) (by omega)
        · exact absurd (hF.out ▸ hpre) e
        · exact ⟨r, h1, h2⟩
      obtain ⟨T, hT⟩ : ∃ T, T = endT F a.ticks := ⟨_, rfl⟩
      rw [← hT] at hT0
      have hlong : ∀ W' : World, Calls Try.prog 86 #[.int .i64 F, .int .i64 a.ticks] W' fun e w' => e = .returned (.int .i64 T) ∧ w' = W' := fun W' => by
        rw [hT]; exact rlong_any F a.ticks W' (by have := hFn.out; omega) (by omega) (by omega)
      obtain ⟨W9, hW9⟩ : ∃ W9, W9 = w4 := ⟨_, rfl⟩
      subst hW9
      have hch : ∀ W', Below W9.heap.size W9 W' → Calls Try.prog 77 #[.agg #[.slice ro rn rc], .slice a.go a.gn a.gc, .int .i64 F, .int .i64 T, a.v.val, .bool false] W' (ChgPost false rs mm a.gzs F T a.v W') :=
        fun W' h => rchg_any false (.slice ro rn rc) rs mm (m + k) a.go a.gn a.gc a.gzs F T a.v W' (htw.out.pool (hP4.out.row.below h (Nat.le_refl _))) ((hao.out.below' (hP4.out.low.trans (h.mono hP4.out.low.size))).gang) (by omega) h16.out
      have p0 := blk_cell hP4.out.box 0
      simp at p0
      have lp := blk_lt hP4.out.box
      have hS : Hid (∀ w' : World, Below W9.heap.size W9 w' → w'.cell? ⟨w1.heap.size, 0, none⟩ = some (.slice ro rn rc) ∧ w'.cell? ⟨wr.heap.size, 3, none⟩ = some (.int .i64 a.v.a) ∧ w'.cell? ⟨wr.heap.size, 4, none⟩ = some (.int .i64 a.v.b) ∧ w'.cell? ⟨wr.heap.size, 5, none⟩ = some (.int .i64 a.v.c) ∧ w'.cell? ⟨wr.heap.size, 6, none⟩ = some (.int .i64 a.v.d) ∧ w'.cell? ⟨wr.heap.size, 7, none⟩ = some (.int .i64 a.ticks) ∧ w'.cell? ⟨wr.heap.size, 9, none⟩ = some (.slice a.go a.gn a.gc)) := fun w' h => ⟨(below_cell h lp).trans p0, (below_cell h lz).trans z3, (below_cell h lz).trans z4, (below_cell h lz).trans z5, (below_cell h lz).trans z6, (below_cell h lz).trans z7, (below_cell h lz).trans z9⟩
      have hcur : Below W9.heap.size W9 W9.drew := (Below.refl _ _).drew
      have hcz : Below W9.heap.size W9 (W9.alloc (.cells #[.slice none 0 0] 67 (0, 0))).drew := ((Below.refl _ _).alloc (Nat.le_refl _) _).drew
      replace hpre := Lib.hid hpre; replace htk0 := Lib.hid htk0; replace hT0 := Lib.hid hT0; replace hbk := Lib.hid hbk; replace hT := Lib.hid hT; replace hlong := Lib.hid hlong; replace hch := Lib.hid hch; replace hcur := Lib.hid hcur; replace hcz := Lib.hid hcz; replace q1' := Lib.hid q1'; replace q2' := Lib.hid q2'
      go_upto_region 14 with fail
      clear z0 z1 z2 z3 z4 z5 z6 z7 z8 z9 p0
      go_cut [21, 22] (fun xv ev wx => ChgC W9 false rs mm a.gzs F T a.v xv ev wx)
      case first =>
        go_region_held3 (fun w' => w'.cell? ⟨w1.heap.size, 0, none⟩ = some (.slice ro rn rc) ∧ w'.cell? ⟨wr.heap.size, 3, none⟩ = some (.int .i64 a.v.a) ∧ w'.cell? ⟨wr.heap.size, 4, none⟩ = some (.int .i64 a.v.b) ∧ w'.cell? ⟨wr.heap.size, 5, none⟩ = some (.int .i64 a.v.c) ∧ w'.cell? ⟨wr.heap.size, 6, none⟩ = some (.int .i64 a.v.d) ∧ w'.cell? ⟨wr.heap.size, 7, none⟩ = some (.int .i64 a.ticks) ∧ w'.cell? ⟨wr.heap.size, 9, none⟩ = some (.slice a.go a.gn a.gc))
          (first
            | with_reducible exact hS.out _ hcur.out
            | with_reducible exact hS.out _ hcz.out
            | with_reducible exact hS.out _ (hcur.out.alloc hcur.out.size _)
            | with_reducible exact hS.out _ (hcur.out.setCell (Nat.le_refl _) _)
            | with_reducible exact hS.out _ ((hcur.out.alloc hcur.out.size _).setCell hcur.out.size _))
          (first
            | (go_at_call 86
               refine (hlong.out _).mono ?_
               rintro e w4 ⟨rfl, rfl⟩)
              | (go_at_call 77
                 refine (hch.out _ hcur.out).mono ?_
                 rintro e w5 ⟨r5, s5, rs5, rfl, hC5, hr5, hb5⟩
                 obtain ⟨so5, sc5, rfl, _⟩ := hr5.1.form
                 replace hcur := Lib.hid (hcur.out.trans (hb5.mono hcur.out.size))
                 replace hC5 := Lib.hid hC5; replace hr5 := Lib.hid hr5; replace hb5 := Lib.hid hb5)
              | (go_at_call 77
                 refine (hch.out _ hcz.out).mono ?_
                 rintro e w5 ⟨r5, s5, rs5, rfl, hC5, hr5, hb5⟩
                 obtain ⟨so5, sc5, rfl, _⟩ := hr5.1.form
                 have hz5 : w5.heap[W9.heap.size]? = some (.cells #[.slice none 0 0] 67 (0, 0)) := (hb5.block W9.heap.size (by simp)).trans (blk_new W9 _)
                 have z0 := blk_cell hz5 0
                 have fz := blk_free hz5 0
                 simp at z0
                 have lz := blk_lt hz5
                 replace hcur := Lib.hid (hcz.out.trans (hb5.mono hcz.out.size))
                 replace hz5 := Lib.hid hz5; replace hC5 := Lib.hid hC5; replace hr5 := Lib.hid hr5; replace hb5 := Lib.hid hb5)
          )
        all_goals
          go_wp2_with fail
          go_meet
          first
            | exact ⟨⟨w5.heap.size, r5, so5, _, sc5, rs5, rfl, rfl, hC5.out, hr5.out.below ((Below.refl _ _).alloc (Nat.le_refl _) _) (Nat.le_refl _), blk_new _ _, hcur.out.size, hcur.out.alloc hcur.out.size _⟩⟩
            | exact ⟨⟨W9.heap.size, r5, so5, _, sc5, rs5, rfl, rfl, hC5.out, hr5.out.setQ hz5.out _, (by show _ = _; rw [blk_set hz5.out]; rfl), Nat.le_refl _, hcur.out.setCell (Nat.le_refl _) _⟩⟩
      case rest =>
        obtain ⟨X, r5, so5, n5, c5, rs5, rfl, rfl, hC5, hr5, hX5, hXl, hb5⟩ := hcut.ex
        clear hcut
        obtain ⟨e0, htw5⟩ := tookL_chg htw.out hT0.out hC5
        subst e0
        have h162 : m2.length ≤ 16 := by rw [hT0.out.2.len]; exact h16.out
        have hP5 := hP4.out.below hb5
        have hxc := blk_cell hX5 0
        have pc := blk_cell hP5.box 0
        have fp := blk_free hP5.box 0
        simp at hxc pc
        have lX := blk_lt hX5
        have lp5 := blk_lt hP5.box
        have hQ5 : PwR w w1.heap.size (.slice so5 n5 c5) rs5 _ k _ (wc.setCell ⟨w1.heap.size, 0, none⟩ (.slice so5 n5 c5)) := hP5.setQ hr5
        have hrb : (r0 == 0) = bk := by
          by_cases c : r0 = 0
          · rw [hbk.out.2 c]; simp [c]
          · have : bk = false := by
              cases bk with
              | false => rfl
              | true => exact absurd (hbk.out.1 rfl) c
            rw [this]; simpa using c
        replace hC5 := Lib.hid hC5; replace hr5 := Lib.hid hr5; replace hX5 := Lib.hid hX5; replace hb5 := Lib.hid hb5; replace hP5 := Lib.hid hP5; replace htw5 := Lib.hid htw5; replace h162 := Lib.hid h162; replace hQ5 := Lib.hid hQ5
        obtain ⟨W5, hW5⟩ : ∃ W5, W5 = wc.setCell ⟨w1.heap.size, 0, none⟩ (.slice so5 n5 c5) := ⟨_, rfl⟩
        have hQ6 := hQ5.out
        rw [← hW5] at hQ6
        replace hQ6 := Lib.hid hQ6
        have hW5' := Lib.hid hW5
        clear hW5
        go_upto_region 17 with fail
        rw [← hW5'.out]
        have hownA := (hQ6.out).kept.alloc (.cells #[.bool bk] 4 (0, 0))
        have hnews := cells_new W5 #[.bool bk] 4
        have hone := bool_one bk
        have h63 := maxLen_ge (n := k) (by omega)
        have hby : (k + 1) * 1 ≤ 140737488355328 := by omega
        have hbas : w.heap.size ≤ (W5.alloc (.cells #[.bool bk] 4 (0, 0))).heap.size := size_alloc (hQ6.out).low.size _
        have hPP := hQ6.out
        replace hownA := Lib.hid hownA; replace hnews := Lib.hid hnews; replace hone := Lib.hid hone; replace h63 := Lib.hid h63; replace hby := Lib.hid hby; replace hbas := Lib.hid hbas; replace hPP := Lib.hid hPP
        go_wp2_with (at_builtin; refine wpList_append_own _ rfl _ _ 73 rfl (w.heap.size) 4 i4 _ 1 1 Try.underlying73 hi hz hz1 hz2 rfl (Nat.succ_pos _) _ k _ rfl hownA.out ⟨W5.heap.size, 0, none⟩ 1 1 [.bool bk] rfl rfl hnews.out hone.out h63.out hby.out hbas.out ?_; intro v1 w9 hown9 hgrow _; replace hown9 := Lib.hid hown9; replace hgrow := Lib.hid hgrow)
        have hP9 := hPP.out.snoc hgrow.out hown9.out
        replace hP9 := Lib.hid hP9
        go_wp2
        go_roundw
        case rel => exact ⟨k + 1, m2, rs5, so5, n5, c5, by go_num, by omega, by rw [htake.out]; exact hP9.out, htw5.out, h162.out, hC2.out⟩
        case measure => simp [intOf]; omega
    · have hc1 : ¬ (k : Int) < l := by omega
      have hkl : l = k := by omega
      subst hkl
      have hmq : mm = q1 := by
        have h := hC.out
        rw [List.drop_eq_nil_of_le (by rw [hstl.out]; exact Nat.le_refl _)] at h
        exact h.symm
      subst hmq
      have hks : (st.take l).map (fun x => Value.bool x.2) = st.map fun x => Value.bool x.2 := by rw [List.take_of_length_le (by rw [hstl.out]; exact Nat.le_refl _)]
      have hP2 := hP.out
      rw [hks] at hP2
      have hCR0 : Chain (RoundR now bs) (rd.drop 0) mm q2 := hCR.out
      replace hks := Lib.hid hks; replace hP2 := Lib.hid hP2; replace hCR0 := Lib.hid hCR0
      have hS0 : ∃ w0', w0' = wr ∧ SwR w w1.heap.size (.slice ro rn rc) rs _ l (st.map fun x => Value.bool x.2) (.slice none 0 0) 0 [] wr := ⟨wr, rfl, ⟨hP2.out, World.ownsRow_nil _ _ _ _, rfl, fun s hs => by cases hs⟩⟩
      obtain ⟨_, _, hS0⟩ := hS0
      have hA0 : AlikeS (slots.take 0) [] := alike_nil
      replace hS0 := Lib.hid hS0; replace hA0 := Lib.hid hA0
      go_wp2
      go_loopw [23, 24, 25, 26, 27, 28, 29, 30, 31] (fun rv i _ _ _ _ _ _ _ wr => ∃ (k : Nat) (mm : List Nd) (rs : List Rp) (ro : Option Addr) (rn rc : Nat) (ys : List Slot), i = .int .i64 k ∧ k ≤ l ∧ Hid (SwR w w1.heap.size (.slice ro rn rc) rs _ l (st.map fun x => Value.bool x.2) rv k ys wr) ∧ Hid (AlikeS (slots.take k) ys) ∧ Hid (Twin rs mm (m + l + 2 * k)) ∧ Hid (mm.length ≤ 16) ∧ Hid (Chain (RoundR now bs) (rd.drop k) mm q2)) (fun _ i _ _ _ _ _ _ _ _ => l - (intOf i).toNat)
      case atStart => exact ⟨0, mm, rs, ro, rn, rc, [], rfl, Nat.zero_le _, hS0.out, hA0.out, htw.out, h16.out, hCR0.out⟩
      case round =>
        obtain ⟨k, mm, rs, ro, rn, rc, ys, rfl, hk, hS, hA, htw, h16, hC⟩ := hrel
        by_cases hc : k < l
        · have hc1 : (k : Int) < l := by omega
          have hk0 : (0 : Int) ≤ (k : Int) := by omega
          have hlow := hS.out.pw.low
          obtain ⟨a, hax⟩ := ha.out.get hc
          obtain ⟨b', off', rfl, hb', a0', hao⟩ := ha.out.cell k a hax
          have a0 := (below_cell hlow hb').trans (a0' 0 (by omega)); have a1 := (below_cell hlow hb').trans (a0' 1 (by omega)); have a2 := (below_cell hlow hb').trans (a0' 2 (by omega)); have a3 := (below_cell hlow hb').trans (a0' 3 (by omega)); have a4 := (below_cell hlow hb').trans (a0' 4 (by omega)); have a5 := (below_cell hlow hb').trans (a0' 5 (by omega)); have a6 := (below_cell hlow hb').trans (a0' 6 (by omega)); have a7 := (below_cell hlow hb').trans (a0' 7 (by omega)); have a8 := (below_cell hlow hb').trans (a0' 8 (by omega)); have a9 := (below_cell hlow hb').trans (a0' 9 (by omega))
          simp at a0 a1 a2 a3 a4 a5 a6 a7 a8 a9
          clear a0'
          obtain ⟨bk, s, hrk, hsk, hss⟩ : ∃ bk s, rd[k]? = some ((a, bk), s) ∧ st[k]? = some (a, bk) ∧ slots[k]? = some s := by
            have h1 := hax
            rw [← hst.out, ← hrd.out, List.getElem?_map, List.getElem?_map] at h1
            cases hx : rd[k]? with
            | none => rw [hx] at h1; cases h1
            | some y =>
              rw [hx] at h1
              obtain ⟨⟨y1, y2⟩, y3⟩ := y
              simp at h1
              subst h1
              exact ⟨y2, y3, rfl, by rw [← hrd.out, List.getElem?_map, hx]; rfl, by rw [← hrs.out, List.getElem?_map, hx]; rfl⟩
          obtain ⟨q', hRr, hC2⟩ : ∃ q', RoundR now bs ((a, bk), s) mm q' ∧ Chain (RoundR now bs) (rd.drop (k + 1)) q' q2 := by
            have h := hC.out
            rw [List.drop_eq_getElem_cons (List.getElem?_eq_some_iff.1 hrk).1, (List.getElem?_eq_some_iff.1 hrk).2] at h
            exact h
          obtain ⟨m2, hkp, hsid, hF⟩ := hRr
          have htk : slots.take (k + 1) = slots.take k ++ [s] := take_snoc hss
          obtain ⟨F, hFe⟩ : ∃ F, F = from_ now a := ⟨_, rfl⟩
          have hmx : (if a.start < now then now else a.start) = F := by rw [hFe]; unfold from_; omega
          have h162 : m2.length ≤ 16 := by
            rcases hkp with ⟨_, e⟩ | ⟨_, r, e⟩
            · rw [e]; exact h16.out
            · rw [e.2.len]; exact h16.out
          rcases Joins.ownsRow_forms hS.out.pw.kept with ⟨_, h0⟩ | ⟨g, cap, he⟩
          · omega
          subst he
          have kc := World.ownsRow.cellAt hS.out.pw.kept k (by omega)
          rw [List.getElem?_map, hsk] at kc
          simp at kc
          have hgl := (hS.out.pw.kept.lt g rfl).2
          obtain ⟨WA, hWA⟩ : ∃ WA, WA = wr.alloc (.cells a.cells 84 (0, 0)) := ⟨_, rfl⟩
          have hbA : Below wr.heap.size wr WA := by rw [hWA]; exact (Below.refl _ _).alloc (Nat.le_refl _) _
          have hxA : WA.heap[wr.heap.size]? = some a.obj := by rw [hWA]; exact blk_new _ _
          have hSA := hS.out.below hbA
          have kcA := (below_cell hbA hgl).trans kc
          obtain ⟨z0, z1, z2, z3, z4, z5, z6, z7, z8, z9⟩ := ask_cells hxA
          have lz := blk_lt hxA
          replace hax := Lib.hid hax; replace hao := Lib.hid hao; replace hlow := Lib.hid hlow; replace hrk := Lib.hid hrk; replace hsk := Lib.hid hsk; replace hss := Lib.hid hss; replace hkp := Lib.hid hkp; replace hsid := Lib.hid hsid; replace hF := Lib.hid hF; replace hC2 := Lib.hid hC2; replace htk := Lib.hid htk; replace hFe := Lib.hid hFe; replace h162 := Lib.hid h162; replace hbA := Lib.hid hbA; replace hxA := Lib.hid hxA; replace hSA := Lib.hid hSA; replace hgl := Lib.hid hgl
          have hWA' := Lib.hid hWA
          clear hWA
          go_upto_region 24 with fail
          rw [← hWA'.out]
          clear a0 a1 a2 a3 a4 a5 a6 a7 a8 a9 kc
          go_upto_if 115 with fail
          go_cut [] (fun wx => KpC w w1.heap.size (.slice (some ⟨g, 0, none⟩) l cap) l (st.map fun x => Value.bool x.2) u23 k ys wr a (m + l + 2 * k + 1) m2 wx)
          case first =>
            cases bk with
            | false =>
              obtain ⟨_, e⟩ | ⟨e, _⟩ := hkp.out
              rotate_left
              · cases e
              subst e
              go_wp2
              go_meet
              case rel => exact ⟨⟨ro, rn, rc, rs, hSA.out, htw.out.up (by omega)⟩, hxA.out⟩
            | true =>
              obtain ⟨r, hgv⟩ : ∃ r, GaveL mm a.gzs F (F + a.ticks) a.v r m2 := by
                rcases hkp.out with ⟨e, _⟩ | ⟨_, r, e⟩
                · cases e
                · exact ⟨r, by rw [hFe.out]; exact e⟩
              have hko := hKO.out (a, true) (List.mem_of_getElem? hsk.out) rfl
              obtain ⟨p1, p2, p3, _⟩ := span_parts hko.span
              rw [show from_ now (a, true).1 = F from hFe.out.symm] at p1 p2 p3
              have ew : IntKind.i64.wrap (F + a.ticks) = F + a.ticks := IntWalk.i64_in _ (by simp at p2 p3; omega)
              have hch : Calls Try.prog 77 #[.agg #[.slice ro rn rc], .slice a.go a.gn a.gc, .int .i64 F, .int .i64 (F + a.ticks), a.v.val, .bool true] WA (ChgPost true rs mm a.gzs F (F + a.ticks) a.v WA) :=
                rchg_any true (.slice ro rn rc) rs mm (m + l + 2 * k) a.go a.gn a.gc a.gzs F (F + a.ticks) a.v WA (htw.out.pool hSA.out.pw.row) ((hao.out.below' hSA.out.pw.low).gang) (by omega) h16.out
              have p0 := blk_cell hSA.out.pw.box 0
              simp at p0
              have lp := blk_lt hSA.out.pw.box
              replace hgv := Lib.hid hgv; replace hko := Lib.hid hko; replace p1 := Lib.hid p1; replace p2 := Lib.hid p2; replace p3 := Lib.hid p3; replace hch := Lib.hid hch
              go_wp2_with fail
              refine hch.out.mono ?_
              rintro e w5 ⟨r5, s5, rs5, rfl, hC5, hr5, hb5⟩
              obtain ⟨so5, sc5, rfl, _⟩ := hr5.1.form
              obtain ⟨_, htw5⟩ := gaveL_chg htw.out hgv.out hC5
              have hS5 := hSA.out.below hb5
              have hx5 := blk_below hb5 hxA.out lz
              have pc5 := blk_cell hS5.pw.box 0
              have fp5 := blk_free hS5.pw.box 0
              simp at pc5
              have hS6 := hS5.setQ hr5
              have hx6 : (w5.setCell ⟨w1.heap.size, 0, none⟩ (.slice so5 rs5.length sc5)).heap[wr.heap.size]? = some a.obj := blk_set_other (by have := blk_lt hS.out.pw.box; omega) _ hx5
              clear z0 z1 z2 z3 z4 z5 z6 z7 z8 z9 p0
              have lp5 := blk_lt hS5.pw.box
              replace hC5 := Lib.hid hC5; replace hr5 := Lib.hid hr5; replace hb5 := Lib.hid hb5; replace htw5 := Lib.hid htw5; replace hS5 := Lib.hid hS5; replace hx5 := Lib.hid hx5; replace hS6 := Lib.hid hS6; replace hx6 := Lib.hid hx6
              go_wp2
              go_meet
              case rel => exact ⟨⟨so5, _, sc5, rs5, hS6.out, htw5.out⟩, hx6.out⟩
          case rest =>
            obtain ⟨⟨ro2, rn2, rc2, rs2, hS2, htw2⟩, hx2⟩ := hcut
            clear z0 z1 z2 z3 z4 z5 z6 z7 z8 z9 lz kcA
            obtain ⟨z0, z1, z2, z3, z4, z5, z6, z7, z8, z9⟩ := ask_cells hx2
            have lz := blk_lt hx2
            obtain ⟨WB, hWB⟩ : ∃ WB, WB = wc.alloc (.cells #[.int .i64 a.id, .int .i64 (-1), .slice none 0 0] 88 (0, 0)) := ⟨_, rfl⟩
            have hbB : Below wc.heap.size wc WB := by rw [hWB]; exact (Below.refl _ _).alloc (Nat.le_refl _) _
            have hyB : WB.heap[wc.heap.size]? = some (.cells #[.int .i64 a.id, .int .i64 (-1), .slice none 0 0] 88 (0, 0)) := by rw [hWB]; exact blk_new _ _
            have hcan := rcan_any a WB
            obtain ⟨cn, hcn⟩ : ∃ cn, cn = a.can := ⟨_, rfl⟩
            rw [← hcn] at hcan
            replace hS2 := Lib.hid hS2; replace htw2 := Lib.hid htw2; replace hx2 := Lib.hid hx2; replace hbB := Lib.hid hbB; replace hyB := Lib.hid hyB; replace hcan := Lib.hid hcan; replace hcn := Lib.hid hcn
            have hWB' := Lib.hid hWB
            clear hWB
            go_wp2_with fail
            rw [← hWB'.out]
            refine hcan.out.mono ?_
            rintro e w3 ⟨rfl, hb3⟩
            have hb23 : Below wc.heap.size wc w3 := hbB.out.trans (hb3.mono hbB.out.size)
            have hS3 := hS2.out.below hb23
            have hx3 := blk_below hb23 hx2.out lz
            have hy3 := blk_below hb3 hyB.out (blk_lt hyB.out)
            clear z0 z1 z2 z3 z4 z5 z6 z7 z8 z9 lz
            obtain ⟨z0, z1, z2, z3, z4, z5, z6, z7, z8, z9⟩ := ask_cells hx3
            have lz := blk_lt hx3
            have y0 := blk_cell hy3 0
            have y1 := blk_cell hy3 1
            have y2 := blk_cell hy3 2
            simp at y0 y1 y2
            have ly := blk_lt hy3
            replace hb3 := Lib.hid hb3; replace hb23 := Lib.hid hb23; replace hS3 := Lib.hid hS3; replace hx3 := Lib.hid hx3; replace hy3 := Lib.hid hy3
            cases cn with
            | false =>
              obtain ⟨e1, e2, e3⟩ : s.start = -1 ∧ s.gzs = [] ∧ q' = m2 := by
                rcases hF.out with ⟨_, h1, h2, h3⟩ | ⟨h, _⟩
                · exact ⟨h1, h2, h3⟩
                · rw [← hcn.out] at h; cases h
              subst e3
              have hAk : AlikeS (slots.take k ++ [s]) (ys ++ [(⟨a.id, -1, none, 0, 0, []⟩ : Slot)]) := hA.out.snoc hsid.out.symm e1.symm e2.symm
              have hyok : Slot.ok w3 (⟨a.id, -1, none, 0, 0, []⟩ : Slot) := ⟨ints_nil _, Nat.le_refl _⟩
              have hysb : ∀ b off, (⟨a.id, -1, none, 0, 0, []⟩ : Slot).go = some ⟨b, off, none⟩ → w1.heap.size < b ∧ b < w3.heap.size ∧ u23.ownBlock ≠ some b := fun b off e => by cases e
              have htwf := htw2.out.up (show m + l + 2 * k + 1 ≤ m + l + 2 * (k + 1) by omega)
              replace e1 := Lib.hid e1; replace e2 := Lib.hid e2; replace hAk := Lib.hid hAk; replace hyok := Lib.hid hyok; replace hysb := Lib.hid hysb; replace htwf := Lib.hid htwf
              have hownA := (hS3.out).own.alloc (.cells ((⟨a.id, -1, none, 0, 0, []⟩ : Slot)).cells 88 (0, 0))
              have hnews := cells_new w3 ((⟨a.id, -1, none, 0, 0, []⟩ : Slot)).cells 88
              have hone := slot_one (⟨a.id, -1, none, 0, 0, []⟩ : Slot)
              have h63 := maxLen_ge (n := k) (by omega)
              have hby : (k + 1) * 40 ≤ 140737488355328 := by omega
              have hbas : w.heap.size ≤ (w3.alloc (.cells ((⟨a.id, -1, none, 0, 0, []⟩ : Slot)).cells 88 (0, 0))).heap.size := size_alloc (hS3.out).pw.low.size _
              have hPP := hS3.out
              replace hownA := Lib.hid hownA; replace hnews := Lib.hid hnews; replace hone := Lib.hid hone; replace h63 := Lib.hid h63; replace hby := Lib.hid hby; replace hbas := Lib.hid hbas; replace hPP := Lib.hid hPP
              go_wp2_with (at_builtin; refine wpList_append_own_at _ rfl _ _ 79 rfl (w.heap.size) 88 i8 _ 3 40 Try.underlying79 hi8 hz8 hz81 hz82 rfl three_pos _ k _ rfl hownA.out ⟨w3.heap.size, 0, none⟩ 1 1 ((⟨a.id, -1, none, 0, 0, []⟩ : Slot)).cells.toList rfl rfl hnews.out hone.out h63.out hby.out hbas.out ?_; intro v1 w9 hown9 hgrow _ hat; replace hown9 := Lib.hid hown9; replace hgrow := Lib.hid hgrow; replace hat := Lib.hid hat)
              have hP9 := hPP.out.snoc hyok.out hysb.out hgrow.out hown9.out hat.out
              replace hP9 := Lib.hid hP9
              go_roundw
              case rel => exact ⟨k + 1, q', rs2, ro2, rn2, rc2, ys ++ [(⟨a.id, -1, none, 0, 0, []⟩ : Slot)], by go_num, by omega, hP9.out, by rw [htk.out]; exact hAk.out, htwf.out, h162.out, hC2.out⟩
              case measure => simp [intOf]; omega
            | true =>
              obtain ⟨t, xs, is, hFR, hf1, hf2⟩ : ∃ t xs is, FindRel m2 (ints (plc bs a.pzs)) a.nodes a.v a.ticks now t xs is ∧ (is = false → s.start = -1 ∧ s.gzs = [] ∧ q' = m2) ∧ (is = true → s.start = t ∧ s.gzs = ints xs ∧ ∃ r, TookL m2 (ints xs) t (t + a.ticks) a.v r q') := by
                rcases hF.out with ⟨h, _⟩ | ⟨_, h⟩
                · rw [← hcn.out] at h; cases h
                · exact h
              obtain ⟨W9, hW9⟩ : ∃ W9, W9 = w3 := ⟨_, rfl⟩
              subst hW9
              have hpl := rplaces_any un uc uo bs a W9.drew (hu.out.below hS3.out.pw.low.drew (Nat.le_refl _)) ((hao.out.below' hS3.out.pw.low.drew).places) hun
              have hfd : ∀ so sn sc W', Below W9.heap.size W9 W' → IntsAt W' so sn (ints (plc bs a.pzs)) → Calls Try.prog 79 #[.agg #[.slice ro2 rn2 rc2], .slice so sn sc, .int .i64 a.nodes, a.v.val, .int .i64 a.ticks, .int .i64 now] W' (FindPost m2 (ints (plc bs a.pzs)) a.nodes a.v a.ticks now W') :=
                fun so sn sc W' h hz => rfind_any (.slice ro2 rn2 rc2) rs2 m2 (m + l + 2 * k + 1) so sn sc (ints (plc bs a.pzs)) a.nodes a.v a.ticks now W' (htw2.out.pool (hS3.out.pw.row.below h (Nat.le_refl _))) hz (by omega) h162.out htw2.out.inv
              have p0 := blk_cell hS3.out.pw.box 0
              simp at p0
              have lp := blk_lt hS3.out.pw.box
              have hSS : Hid (∀ w' : World, Below W9.heap.size W9 w' → w'.cell? ⟨w1.heap.size, 0, none⟩ = some (.slice ro2 rn2 rc2) ∧ w'.cell? ⟨wr.heap.size, 0, none⟩ = some (.int .i64 a.id) ∧ w'.cell? ⟨wr.heap.size, 1, none⟩ = some (.slice a.po a.pn a.pc) ∧ w'.cell? ⟨wr.heap.size, 2, none⟩ = some (.int .i64 a.nodes) ∧ w'.cell? ⟨wr.heap.size, 3, none⟩ = some (.int .i64 a.v.a) ∧ w'.cell? ⟨wr.heap.size, 4, none⟩ = some (.int .i64 a.v.b) ∧ w'.cell? ⟨wr.heap.size, 5, none⟩ = some (.int .i64 a.v.c) ∧ w'.cell? ⟨wr.heap.size, 6, none⟩ = some (.int .i64 a.v.d) ∧ w'.cell? ⟨wr.heap.size, 7, none⟩ = some (.int .i64 a.ticks) ∧ w'.cell? ⟨wr.heap.size, 8, none⟩ = some (.int .i64 a.start) ∧ w'.cell? ⟨wr.heap.size, 9, none⟩ = some (.slice a.go a.gn a.gc)) := fun w' h => ⟨(below_cell h lp).trans p0, (below_cell h lz).trans z0, (below_cell h lz).trans z1, (below_cell h lz).trans z2, (below_cell h lz).trans z3, (below_cell h lz).trans z4, (below_cell h lz).trans z5, (below_cell h lz).trans z6, (below_cell h lz).trans z7, (below_cell h lz).trans z8, (below_cell h lz).trans z9⟩
              have hcur : Below W9.heap.size W9 W9.drew := (Below.refl _ _).drew
              replace hpl := Lib.hid hpl; replace hfd := Lib.hid hfd; replace hcur := Lib.hid hcur; replace hFR := Lib.hid hFR; replace hf1 := Lib.hid hf1; replace hf2 := Lib.hid hf2
              go_upto_region 29 with fail
              clear y0 y1 y2
              go_region_held3 (fun w' => w'.cell? ⟨w1.heap.size, 0, none⟩ = some (.slice ro2 rn2 rc2) ∧ w'.cell? ⟨wr.heap.size, 0, none⟩ = some (.int .i64 a.id) ∧ w'.cell? ⟨wr.heap.size, 1, none⟩ = some (.slice a.po a.pn a.pc) ∧ w'.cell? ⟨wr.heap.size, 2, none⟩ = some (.int .i64 a.nodes) ∧ w'.cell? ⟨wr.heap.size, 3, none⟩ = some (.int .i64 a.v.a) ∧ w'.cell? ⟨wr.heap.size, 4, none⟩ = some (.int .i64 a.v.b) ∧ w'.cell? ⟨wr.heap.size, 5, none⟩ = some (.int .i64 a.v.c) ∧ w'.cell? ⟨wr.heap.size, 6, none⟩ = some (.int .i64 a.v.d) ∧ w'.cell? ⟨wr.heap.size, 7, none⟩ = some (.int .i64 a.ticks) ∧ w'.cell? ⟨wr.heap.size, 8, none⟩ = some (.int .i64 a.start) ∧ w'.cell? ⟨wr.heap.size, 9, none⟩ = some (.slice a.go a.gn a.gc))
                (first
                  | with_reducible exact hSS.out _ hcur.out)
                (first
                  | (go_at_call 55
                     refine hpl.out.mono ?_
                     rintro e w6 ⟨so6, sn6, sc6, rfl, hz6, _, _, hb6⟩
                     replace hcur := Lib.hid (hcur.out.trans (hb6.mono hcur.out.size))
                     replace hz6 := Lib.hid hz6; replace hb6 := Lib.hid hb6)
                  | (go_at_call 79
                     refine (hfd.out _ _ _ _ hcur.out hz6.out).mono ?_
                     rintro e w7 ⟨t7, so7, sn7, sc7, xs7, is7, rfl, hR7, hz7, hc7, hf7, hb7⟩
                     replace hf7 := Lib.hid (show ∀ b off, so7 = some ⟨b, off, none⟩ → W9.heap.size ≤ b from fun b off e => Nat.le_trans hcur.out.size (hf7 b off e))
                     replace hcur := Lib.hid (hcur.out.trans (hb7.mono hcur.out.size))
                     replace hR7 := Lib.hid hR7; replace hz7 := Lib.hid hz7; replace hc7 := Lib.hid hc7; replace hb7 := Lib.hid hb7))
              obtain ⟨et, ex, ei⟩ := hFR.out.same hR7.out (fun u => rfl)
              subst et ex ei
              clear z0 z1 z2 z3 z4 z5 z6 z7 z8 z9 p0
              have hb27 : Below wc.heap.size wc w7 := hb23.out.trans (hcur.out.mono hb23.out.size)
              have hy7 := blk_below hcur.out hy3.out ly
              have y0 := blk_cell hy7 0
              have y1 := blk_cell hy7 1
              have y2 := blk_cell hy7 2
              simp at y0 y1 y2
              clear ly
              have ly := blk_lt hy7
              have hS7 := hS2.out.below hb27
              replace hb27 := Lib.hid hb27; replace hy7 := Lib.hid hy7; replace hS7 := Lib.hid hS7
              cases is7 with
              | false =>
                obtain ⟨e1, e2, e3⟩ := hf1.out rfl
                subst e3
                have hAk : AlikeS (slots.take k ++ [s]) (ys ++ [(⟨a.id, -1, none, 0, 0, []⟩ : Slot)]) := hA.out.snoc hsid.out.symm e1.symm e2.symm
                have hyok : Slot.ok w7 (⟨a.id, -1, none, 0, 0, []⟩ : Slot) := ⟨ints_nil _, Nat.le_refl _⟩
                have hysb : ∀ b off, (⟨a.id, -1, none, 0, 0, []⟩ : Slot).go = some ⟨b, off, none⟩ → w1.heap.size < b ∧ b < w7.heap.size ∧ u23.ownBlock ≠ some b := fun b off e => by cases e
                have htwf := htw2.out.up (show m + l + 2 * k + 1 ≤ m + l + 2 * (k + 1) by omega)
                replace e1 := Lib.hid e1; replace e2 := Lib.hid e2; replace hAk := Lib.hid hAk; replace hyok := Lib.hid hyok; replace hysb := Lib.hid hysb; replace htwf := Lib.hid htwf
                have hownA := (hS7.out).own.alloc (.cells ((⟨a.id, -1, none, 0, 0, []⟩ : Slot)).cells 88 (0, 0))
                have hnews := cells_new w7 ((⟨a.id, -1, none, 0, 0, []⟩ : Slot)).cells 88
                have hone := slot_one (⟨a.id, -1, none, 0, 0, []⟩ : Slot)
                have h63 := maxLen_ge (n := k) (by omega)
                have hby : (k + 1) * 40 ≤ 140737488355328 := by omega
                have hbas : w.heap.size ≤ (w7.alloc (.cells ((⟨a.id, -1, none, 0, 0, []⟩ : Slot)).cells 88 (0, 0))).heap.size := size_alloc (hS7.out).pw.low.size _
                have hPP := hS7.out
                replace hownA := Lib.hid hownA; replace hnews := Lib.hid hnews; replace hone := Lib.hid hone; replace h63 := Lib.hid h63; replace hby := Lib.hid hby; replace hbas := Lib.hid hbas; replace hPP := Lib.hid hPP
                go_wp2_with (at_builtin; refine wpList_append_own_at _ rfl _ _ 79 rfl (w.heap.size) 88 i8 _ 3 40 Try.underlying79 hi8 hz8 hz81 hz82 rfl three_pos _ k _ rfl hownA.out ⟨w7.heap.size, 0, none⟩ 1 1 ((⟨a.id, -1, none, 0, 0, []⟩ : Slot)).cells.toList rfl rfl hnews.out hone.out h63.out hby.out hbas.out ?_; intro v1 w9 hown9 hgrow _ hat; replace hown9 := Lib.hid hown9; replace hgrow := Lib.hid hgrow; replace hat := Lib.hid hat)
                have hP9 := hPP.out.snoc hyok.out hysb.out hgrow.out hown9.out hat.out
                replace hP9 := Lib.hid hP9
                go_roundw
                case rel => exact ⟨k + 1, q', rs2, ro2, rn2, rc2, ys ++ [(⟨a.id, -1, none, 0, 0, []⟩ : Slot)], by go_num, by omega, hP9.out, by rw [htk.out]; exact hAk.out, htwf.out, h162.out, hC2.out⟩
                case measure => simp [intOf]; omega
              | true =>
                obtain ⟨e1, e2, r, hTk⟩ := hf2.out rfl
                have hfo := hR7.out.found
                have hfl := hfo.len
                have hfm := hfo.many1
                have hge := hfo.ge
                have hfin := hfo.fin
                have hlt := hfo.lt
                have htk1 := hfo.ticks1
                have ew : IntKind.i64.wrap (t7 + a.ticks) = t7 + a.ticks := IntWalk.i64_in _ (by omega)
                obtain ⟨W8, hW8⟩ : ∃ W8, W8 = (w7.setCell ⟨wc.heap.size, 1, none⟩ (.int .i64 t7)).setCell ⟨wc.heap.size, 2, none⟩ (.slice so7 sn7 sc7) := ⟨_, rfl⟩
                have hb28 : Below wc.heap.size wc W8 := by rw [hW8]; exact (hb27.out.setCell (Nat.le_refl _) _).setCell (Nat.le_refl _) _
                have hS8 := hS2.out.below hb28
                have hx8 := blk_below hb28 hx2.out (blk_lt hx2.out)
                have hy8 : W8.heap[wc.heap.size]? = some (.cells #[.int .i64 a.id, .int .i64 t7, .slice so7 sn7 sc7] 88 (0, 0)) := by
                  rw [hW8, blk_set (blk_set hy7.out 1 _) 2 _]; rfl
                have hw3 : wc.heap.size < W9.heap.size := blk_lt hy3.out
                have hpw : w1.heap.size < wc.heap.size := blk_lt hS2.out.pw.box
                have hyok8 : Slot.ok W8 (⟨a.id, t7, so7, sn7, sc7, ints xs7⟩ : Slot) := by
                  refine slot_keep (w := w7) ⟨hz7.out, hc7.out⟩ (by rw [hW8]; simp [World.setCell]) fun b off e _ => ?_
                  have := hf7.out b off e
                  rw [hW8]
                  exact (Below.heap_setCell _ _ _ _ (by simp; omega)).trans (Below.heap_setCell _ _ _ _ (by simp; omega))
                have hch : Calls Try.prog 77 #[.agg #[.slice ro2 rn2 rc2], .slice so7 sn7 sc7, .int .i64 t7, .int .i64 (t7 + a.ticks), a.v.val, .bool false] W8 (ChgPost false rs2 m2 (ints xs7) t7 (t7 + a.ticks) a.v W8) :=
                  rchg_any false (.slice ro2 rn2 rc2) rs2 m2 (m + l + 2 * k + 1) so7 sn7 sc7 (ints xs7) t7 (t7 + a.ticks) a.v W8 (htw2.out.pool hS8.pw.row) hyok8.gang (by omega) h162.out
                have hAk : AlikeS (slots.take k ++ [s]) (ys ++ [(⟨a.id, t7, so7, sn7, sc7, ints xs7⟩ : Slot)]) := hA.out.snoc hsid.out.symm e1.symm e2.symm
                have f1 := blk_free hy7.out 1
                have f2 := blk_free hy7.out 2
                have pc8 := blk_cell hS8.pw.box 0
                simp at pc8
                have lp8 := blk_lt hS8.pw.box
                obtain ⟨z0, z1, z2, z3, z4, z5, z6, z7, z8, z9⟩ := ask_cells hx8
                have lz8 := blk_lt hx8
                replace e1 := Lib.hid e1; replace e2 := Lib.hid e2; replace hTk := Lib.hid hTk; replace hfo := Lib.hid hfo; replace hfl := Lib.hid hfl; replace hfm := Lib.hid hfm; replace hge := Lib.hid hge; replace hfin := Lib.hid hfin; replace hlt := Lib.hid hlt; replace htk1 := Lib.hid htk1; replace hb28 := Lib.hid hb28; replace hS8 := Lib.hid hS8; replace hx8 := Lib.hid hx8; replace hy8 := Lib.hid hy8; replace hw3 := Lib.hid hw3; replace hpw := Lib.hid hpw; replace hyok8 := Lib.hid hyok8; replace hch := Lib.hid hch; replace hAk := Lib.hid hAk
                have hW8' := Lib.hid hW8
                clear hW8
                go_upto_region 33 with fail
                rw [← hW8'.out]
                clear y0 y1 y2 f1 f2
                go_wp2_with fail
                refine hch.out.mono ?_
                rintro e w10 ⟨r10, s10, rs10, rfl, hC10, hr10, hb10⟩
                obtain ⟨so10, sc10, rfl, _⟩ := hr10.1.form
                obtain ⟨_, htw10⟩ := tookL_chg htw2.out hTk.out hC10
                have hS10 := hS8.out.below hb10
                have pc10 := blk_cell hS10.pw.box 0
                have fp10 := blk_free hS10.pw.box 0
                simp at pc10
                have lp10 := blk_lt hS10.pw.box
                obtain ⟨W11, hW11⟩ : ∃ W11, W11 = w10.setCell ⟨w1.heap.size, 0, none⟩ (.slice so10 rs10.length sc10) := ⟨_, rfl⟩
                have hS11 := hS10.setQ hr10
                rw [← hW11] at hS11
                have hy10 := blk_below hb10 hy8.out (blk_lt hy8.out)
                have hy11 : W11.heap[wc.heap.size]? = some (.cells #[.int .i64 a.id, .int .i64 t7, .slice so7 sn7 sc7] 88 (0, 0)) := by
                  rw [hW11]; exact blk_set_other (by have := hpw.out; omega) _ hy10
                have hyok : Slot.ok W11 (⟨a.id, t7, so7, sn7, sc7, ints xs7⟩ : Slot) := by
                  refine slot_keep (w := w10) (hyok8.out.below hb10) (by rw [hW11]; simp [World.setCell]) fun b off e _ => ?_
                  have h1 := hf7.out b off e
                  have h2 := hpw.out
                  have h3 := hw3.out
                  rw [hW11]
                  exact Below.heap_setCell _ _ _ _ (by simp; omega)
                have hysb : ∀ b off, (⟨a.id, t7, so7, sn7, sc7, ints xs7⟩ : Slot).go = some ⟨b, off, none⟩ → w1.heap.size < b ∧ b < W11.heap.size ∧ u23.ownBlock ≠ some b := fun b off e => by
                  have h1 := hf7.out b off e
                  have h2 := hpw.out
                  have h3 := hw3.out
                  have hle : (ints xs7).length = xs7.length := by simp [ints]
                  have hn := hyok.gang.len
                  obtain ⟨b2, off2, e2, hlt2, _⟩ := hyok.gang.cell 0 (by have := hfl.out; have := hfm.out; simp at hn; simp; omega)
                  simp at e e2
                  rw [e] at e2
                  simp at e2
                  refine ⟨by omega, by rw [e2.1]; exact hlt2, fun c => ?_⟩
                  have := (hS2.out.own.lt b c).2
                  omega
                have h16q : q'.length ≤ 16 := by rw [hTk.out.2.len]; exact h162.out
                have htwf := htw10.up (show m + l + 2 * k + 1 + 1 ≤ m + l + 2 * (k + 1) by omega)
                clear z0 z1 z2 z3 z4 z5 z6 z7 z8 z9 pc8
                have y0 := blk_cell hy11 0
                have y1 := blk_cell hy11 1
                have y2 := blk_cell hy11 2
                simp at y0 y1 y2
                have ly11 := blk_lt hy11
                replace hC10 := Lib.hid hC10; replace hr10 := Lib.hid hr10; replace hb10 := Lib.hid hb10; replace htw10 := Lib.hid htw10; replace hS10 := Lib.hid hS10; replace hS11 := Lib.hid hS11; replace hy10 := Lib.hid hy10; replace hy11 := Lib.hid hy11; replace hyok := Lib.hid hyok; replace hysb := Lib.hid hysb; replace h16q := Lib.hid h16q; replace htwf := Lib.hid htwf
                have hW11' := Lib.hid hW11
                clear hW11
                go_upto_region 34 with fail
                rw [← hW11'.out]
                clear pc10 fp10
                have hownA := (hS11.out).own.alloc (.cells ((⟨a.id, t7, so7, sn7, sc7, ints xs7⟩ : Slot)).cells 88 (0, 0))
                have hnews := cells_new W11 ((⟨a.id, t7, so7, sn7, sc7, ints xs7⟩ : Slot)).cells 88
                have hone := slot_one (⟨a.id, t7, so7, sn7, sc7, ints xs7⟩ : Slot)
                have h63 := maxLen_ge (n := k) (by omega)
                have hby : (k + 1) * 40 ≤ 140737488355328 := by omega
                have hbas : w.heap.size ≤ (W11.alloc (.cells ((⟨a.id, t7, so7, sn7, sc7, ints xs7⟩ : Slot)).cells 88 (0, 0))).heap.size := size_alloc (hS11.out).pw.low.size _
                have hPP := hS11.out
                replace hownA := Lib.hid hownA; replace hnews := Lib.hid hnews; replace hone := Lib.hid hone; replace h63 := Lib.hid h63; replace hby := Lib.hid hby; replace hbas := Lib.hid hbas; replace hPP := Lib.hid hPP
                go_wp2_with (at_builtin; refine wpList_append_own_at _ rfl _ _ 79 rfl (w.heap.size) 88 i8 _ 3 40 Try.underlying79 hi8 hz8 hz81 hz82 rfl three_pos _ k _ rfl hownA.out ⟨W11.heap.size, 0, none⟩ 1 1 ((⟨a.id, t7, so7, sn7, sc7, ints xs7⟩ : Slot)).cells.toList rfl rfl hnews.out hone.out h63.out hby.out hbas.out ?_; intro v1 w9 hown9 hgrow _ hat; replace hown9 := Lib.hid hown9; replace hgrow := Lib.hid hgrow; replace hat := Lib.hid hat)
                have hP9 := hPP.out.snoc hyok.out hysb.out hgrow.out hown9.out hat.out
                replace hP9 := Lib.hid hP9
                go_roundw
                case rel => exact ⟨k + 1, q', rs10, so10, rs10.length, sc10, ys ++ [(⟨a.id, t7, so7, sn7, sc7, ints xs7⟩ : Slot)], by go_num, by omega, hP9.out, by rw [htk.out]; exact hAk.out, htwf.out, h16q.out, hC2.out⟩
                case measure => simp [intOf]; omega
        · have hc1 : ¬ (k : Int) < l := by omega
          have hkl : l = k := by omega
          have hsl : slots.take k = slots := List.take_of_length_le (by rw [← hkl, ← hstl.out, ← hrd.out, ← hrs.out]; simp)
          have hAl := hA.out
          rw [hsl] at hAl
          have hown := hS.out.own
          have hlow := hS.out.pw.low
          have hok := fun s hs => (hS.out.ok s hs).1
          have hlen := hS.out.len
          rcases Joins.ownsRow_forms hown with ⟨rfl, h0⟩ | ⟨g, cap, rfl⟩
          · have hy0 : ys = [] := List.length_eq_zero_iff.1 (by rw [hlen]; exact h0)
            subst hy0
            replace hAl := Lib.hid hAl; replace hown := Lib.hid hown; replace hlow := Lib.hid hlow; replace hok := Lib.hid hok; replace hlen := Lib.hid hlen; replace hsl := Lib.hid hsl; replace h0 := Lib.hid h0; replace hkl := Lib.hid hkl
            go_wp2
            go_ret2
            exact ⟨none, 0, 0, [], rfl, slots_none _, hAl.out, hlow.out⟩
          · have hsa : SlotsAt wr (some ⟨g, 0, none⟩) k ys := rows_of_own slot_size hown hlen (by omega) hok
            replace hAl := Lib.hid hAl; replace hown := Lib.hid hown; replace hlow := Lib.hid hlow; replace hok := Lib.hid hok; replace hlen := Lib.hid hlen; replace hsl := Lib.hid hsl; replace hsa := Lib.hid hsa; replace hkl := Lib.hid hkl
            go_wp2
            go_ret2
            exact ⟨some ⟨g, 0, none⟩, k, cap, ys, rfl, hsa.out, hAl.out, hlow.out⟩
end Go.Proofs.Ytpjajiambbobhaa

/- corveelaw12.PlanPasses answers true: the document promises the same. -/
namespace Go.Proofs.Ytpjajiambbobhaa
open Go.RowKit

set_option maxRecDepth 100000 in
set_option maxHeartbeats 12800000 in
theorem ppasses_any (x : Scene) (w : World) (hok : x.ok w) : Calls Try.prog 13 #[x.val] w fun e w' => e = .returned (.bool true) ∧ Below w.heap.size w w' := by
  have hS0 := SW.new hok
  have hN2 := hok.asks.len
  replace hok := Lib.hid hok; replace hN2 := Lib.hid hN2; replace hS0 := Lib.hid hS0
  go_enter Try.func13, Try.ntmps13
  go_wp2_with fail
  refine (pawake_any _).mono ?_
  rintro e w1 ⟨rfl, hb1⟩
  have hS1 := hS0.out.below hb1
  obtain ⟨c0, c1, c2, c3, c4⟩ := scene_cells hS1.box
  have lx := blk_lt hS1.box
  have hfew := few_any x w1 hS1.ok
  replace hS1 := Lib.hid hS1; replace hb1 := Lib.hid hb1; replace hfew := Lib.hid hfew
  go_wp2_with fail
  refine hfew.out.mono ?_
  rintro e w2 ⟨bf, rfl, hbf, hb2⟩
  have hS2 := hS1.out.below hb2
  clear c0 c1 c2 c3 c4 lx
  obtain ⟨c0, c1, c2, c3, c4⟩ := scene_cells hS2.box
  have lx := blk_lt hS2.box
  have hlow2 := hS2.low
  replace hS2 := Lib.hid hS2; replace hb2 := Lib.hid hb2; replace hlow2 := Lib.hid hlow2
  cases bf with
  | false =>
    clear hbf
    go_wp2
    go_ret
    exact ⟨rfl, hlow2.out⟩
  | true =>
  have hfw := hbf rfl
  clear hbf
  have han := hfw.an
  have hpass := passu_any x.vo x.uo x.ho x.ao x.vn x.vc x.un x.uc x.hn x.hc x.an x.ac x.vs x.bs x.now x.hs x.asks w2 hS2.out.ok.vs hS2.out.ok.up hS2.out.ok.holds hS2.out.ok.asks (by omega)
  replace hfw := Lib.hid hfw; replace hpass := Lib.hid hpass
  go_wp2_with fail
  refine hpass.out.mono ?_
  rintro e w3 ⟨so, n, sc, slots, r, rfl, hsl, hrel, hb3, _, _, _⟩
  have hS3 := hS2.out.below hb3
  clear c0 c1 c2 c3 c4 lx
  obtain ⟨c0, c1, c2, c3, c4⟩ := scene_cells hS3.box
  have lx := blk_lt hS3.box
  have hrp : Calls Try.prog 50 #[.slice x.vo x.vn x.vc, .slice x.uo x.un x.uc, .int .i64 x.now, .slice x.ho x.hn x.hc, .slice x.ao x.an x.ac] w3 (RPassPost slots r w3) := by
    rcases hrel with ⟨hr, hn, hL⟩ | ⟨hr, hn, hP⟩
    · subst hn
      have hs0 : slots = [] := List.length_eq_zero_iff.1 hsl.len
      subst hs0
      exact rpass_err x.vo x.uo x.ho x.ao x.vn x.vc x.un x.uc x.hn x.hc x.an x.ac x.vs x.now x.hs r w3 hS3.ok.vs hS3.ok.holds hr (by rw [← hS3.ok.up.len]; exact hL) hfw.out.hn
    · subst hr
      exact rpass_any x.vo x.uo x.ho x.ao x.vn x.vc x.un x.uc x.hn x.hc x.an x.ac x.vs x.bs x.now x.hs x.asks slots w3 hS3.ok.vs hS3.ok.up hS3.ok.holds hS3.ok.asks hP hfw.out.hn (by have := hfw.out.an; omega) (by have := hfw.out.un; omega)
  replace hS3 := Lib.hid hS3; replace hb3 := Lib.hid hb3; replace hrel := Lib.hid hrel; replace hsl := Lib.hid hsl; replace hrp := Lib.hid hrp
  go_wp2_with fail
  refine hrp.out.mono ?_
  rintro e w4 ⟨to_, tn, tc, ys, rfl, hy, hA, hb4⟩
  have hsl4 := hsl.out.below hb4 (fun _ o => o.below hb4)
  have hlow4 := hS3.out.low.trans (hb4.mono hS3.out.low.size)
  have hsame := sames_any so to_ n sc tn tc slots ys w4 hsl4 hy hA
  have dr : (r == r) = true := by simp
  replace hy := Lib.hid hy; replace hA := Lib.hid hA; replace hb4 := Lib.hid hb4; replace hsl4 := Lib.hid hsl4; replace hlow4 := Lib.hid hlow4; replace hsame := Lib.hid hsame
  go_wp2_with fail
  refine hsame.out.mono ?_
  rintro e w5 ⟨rfl, hb5⟩
  have hlow5 := hlow4.out.trans (hb5.mono hlow4.out.size)
  replace hb5 := Lib.hid hb5; replace hlow5 := Lib.hid hlow5
  go_wp2
  go_ret
  exact ⟨rfl, hlow5.out⟩
end Go.Proofs.Ytpjajiambbobhaa

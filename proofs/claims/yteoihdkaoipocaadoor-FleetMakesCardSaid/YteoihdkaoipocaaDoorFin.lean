/- (*fleet.Fleet).In: the places of a part's nodes. -/
import Derived.Test.YteoihdkaoipocaaDoorFpl
import Derived.Test.YteoihdkaoipocaaDoorLen
namespace Go.Proofs.YteoihdkaoipocaaDoor
open Go.RowKit Go.Maps Go.Shelf

theorem containsS_memB (l : List ByteArray) (x : ByteArray) : Lib.containsS l x = memB l x := by
  rw [Bool.eq_iff_iff, Lib.containsS_iff, memB_iff]
theorem contains_call (w : World) (po : Option Addr) (pn pc : Nat) (ps : List ByteArray) (s : ByteArray) (h : StrsAt w po pn ps) : Calls Tryd.prog 100 #[.slice po pn pc, .string s] w fun e w' => e = .returned (.bool (memB ps s)) ∧ w' = w := by
  have hl := h.len
  have hm := h.max
  by_cases h0 : pn = 0
  · subst h0
    have : ps = [] := List.length_eq_zero_iff.1 hl
    subst this
    exact Tryd.slices_Contains_string_empty po pc s w
  · obtain ⟨b, off, rfl, hlt, _⟩ := h.cell 0 (ps[0]'(by omega)) (by simp)
    refine (Tryd.slices_Contains_string b off pn pc ps s w (by omega) hm fun j hj => ?_).mono ?_
    · obtain ⟨b', off', e, _, hc⟩ := h.cell j (ps[j]'hj) (by simp [hj])
      cases e
      rw [hc]
      simp [List.getD, hj]
    · rintro e w' ⟨rfl, rfl⟩
      rw [List.take_of_length_le (by omega), containsS_memB]
      exact ⟨rfl, rfl⟩
def intsV (xs : List Int) : List Value := xs.map fun n => .int .i64 n
/-- a row of numbers of one's own -/
structure OwnI (w : World) (B : Nat) (v : Value) (xs : List Int) : Prop where
  row : w.ownsRow B 3 1 v xs.length (intsV xs)
def FinPost (vs : List Ndv) (p : ByteArray) (w : World) (e : Ending) (w' : World) : Prop := ∃ v, e = .returned v ∧ OwnI w' w.heap.size v (inOf vs p) ∧ Below w.heap.size w w'
theorem info3 : (Tryd.prog.info? 3).map (fun i => (i.zero, i.size, i.bytes)) = some (some (.int .i64 0), 1, 8) := by kernel_rfl
theorem one_new (w : World) (n : Int) : ∀ j u, ([.int .i64 n] : List Value)[j]? = some u → (w.alloc (.cells #[.int .i64 n] 3 (0, 0))).cell? ((⟨w.heap.size, 0, none⟩ : Addr).add j) = some u := by
  intro j u hu
  match j, hu with
  | 0, hu =>
    have := blk_cell (blk_new w (.cells #[.int .i64 n] 3 (0, 0))) 0
    simp at hu; subst hu
    exact this
  | j + 1, hu => simp at hu
theorem pl_at {xs : List Nde} {k : Nat} {x : Nde} (h : xs[k]? = some x) : (xs.map Nde.pl)[k]? = some x.pl := by rw [List.getElem?_map, h]; rfl
theorem fin_nil (p : ByteArray) (w : World) : Calls Tryd.prog 58 #[.pointer none, .string p] w (FinPost [] p w) := by
  go_enter Tryd.func58, Tryd.ntmps58
  go_wp2_with fail
  (with_reducible refine (len_nil _).mono ?_)
  rintro e w1 ⟨rfl, rfl⟩
  go_wp2
  go_loopw [5, 9] (fun o i wr => o = .slice none 0 0 ∧ i = .int .i64 0 ∧ wr = w1) (fun _ i _ => 0)
  case atStart => exact ⟨rfl, rfl, rfl⟩
  case round =>
    obtain ⟨rfl, rfl, rfl⟩ := hrel
    go_wp2
    go_ret
    exact ⟨_, rfl, ⟨rfl, .inl ⟨rfl, rfl⟩⟩, Below.refl _ _⟩
set_option maxRecDepth 100000 in
set_option maxHeartbeats 1600000 in
theorem fin_any (w : World) (fb mb base : Nat) (nv : Value) (xs : List Nde) (p : ByteArray) (hF : FlW w fb mb base nv xs) (hlen : xs.length ≤ 4096) : Calls Tryd.prog 58 #[.pointer (some ⟨fb, 0, none⟩), .string p] w (FinPost (xs.map Nde.pl) p w) := by
  obtain ⟨i3, hi3, hz3, hz31, hz32⟩ := info_parts info3
  obtain ⟨n, hn⟩ : ∃ n, n = xs.length := ⟨_, rfl⟩
  have hlc := len_any w fb mb base nv xs hF
  rw [← hn] at hlc hlen
  have hn0 : (0 : Int) ≤ (n : Int) := by omega
  replace hF := Lib.hid hF; replace hn := Lib.hid hn; replace hlc := Lib.hid hlc
  go_enter Tryd.func58, Tryd.ntmps58
  go_wp2_with fail
  refine hlc.out.mono ?_
  rintro e w1 ⟨rfl, rfl⟩
  go_wp2
  go_loopw [5, 9] (fun ov i wr => ∃ k : Nat, i = .int .i64 k ∧ k ≤ n ∧ Hid (OwnI wr w1.heap.size ov (inOf ((xs.map Nde.pl).take k) p)) ∧ Hid (Below w1.heap.size w1 wr)) (fun _ i _ => n - (intOf i).toNat)
  case atStart => exact ⟨0, rfl, Nat.zero_le _, ⟨rfl, .inl ⟨rfl, rfl⟩⟩, Below.refl _ _⟩
  case round =>
    obtain ⟨k, rfl, hk, hO, hB⟩ := hrel
    by_cases hc : k < n
    · have hc1 : (k : Int) < n := by omega
      have hk0 : (0 : Int) ≤ (k : Int) := by omega
      have hFr := hF.out.below hB.out
      obtain ⟨g, cap, rfl⟩ := Joins.ownsRow_form hFr.row (by have := hn.out; omega)
      obtain ⟨x, hx⟩ : ∃ x, xs[k]? = some x := ⟨_, List.getElem?_eq_getElem (by have := hn.out; omega)⟩
      obtain ⟨g', e1, _, _, hcell⟩ := hFr.cell hx
      have e2 : g = g' := by simpa [Value.ownBlock] using e1
      subst e2
      have c5 : wr.cell? ⟨g, k * 6 + 5, none⟩ = some (.slice x.po x.pn x.pc) := hcell 5 (by omega)
      have f0 := blk_cell hFr.head 0
      simp at f0
      rw [← hn.out] at f0
      have hct := contains_call wr x.po x.pn x.pc x.parts p (hFr.ok x (List.mem_of_getElem? hx)).1.parts
      obtain ⟨b, hb⟩ : ∃ b, b = memB x.parts p := ⟨_, rfl⟩
      rw [← hb] at hct
      have hpl := pl_at hx
      replace hFr := Lib.hid hFr; replace hx := Lib.hid hx; replace hct := Lib.hid hct; replace hb := Lib.hid hb; replace hpl := Lib.hid hpl; replace hcell := Lib.hid hcell; replace e1 := Lib.hid e1
      cases b with
      | false =>
        have hO2 : OwnI wr w1.heap.size u5 (inOf ((xs.map Nde.pl).take (k + 1)) p) := by rw [inOf_no hpl.out hb.out.symm]; exact hO.out
        replace hO2 := Lib.hid hO2
        go_wp2_with fail
        (with_reducible refine hct.out.mono ?_)
        rintro e wr ⟨rfl, rfl⟩
        go_wp2
        go_roundw
        case rel => exact ⟨k + 1, by go_num, by omega, hO2.out, hB.out⟩
        case measure => simp [intOf]; omega
      | true =>
        obtain ⟨L, hL⟩ : ∃ L, L = (inOf ((xs.map Nde.pl).take k) p).length := ⟨_, rfl⟩
        have hLk : L ≤ k := by rw [hL]; refine Nat.le_trans (inOf_len _ _) ?_; rw [List.length_take]; omega
        have hownA : (wr.alloc (.cells #[.int .i64 (k : Int)] 3 (0, 0))).ownsRow w1.heap.size 3 1 u5 L (intsV (inOf ((xs.map Nde.pl).take k) p)) := by rw [hL]; exact hO.out.row.alloc (.cells #[.int .i64 (k : Int)] 3 (0, 0))
        have hnews := one_new wr (k : Int)
        have hone1 : ∀ u ∈ ([.int .i64 (k : Int)] : List Value), u.oneCell' = true := by simp [Value.oneCell']
        have h63 := maxLen_ge (n := L) (by omega)
        have hby : (L + 1) * 8 ≤ 140737488355328 := by omega
        have hbas : w1.heap.size ≤ (wr.alloc (.cells #[.int .i64 (k : Int)] 3 (0, 0))).heap.size := by have := hB.out.size; simp; omega
        replace hL := Lib.hid hL; replace hownA := Lib.hid hownA; replace hnews := Lib.hid hnews; replace hone1 := Lib.hid hone1; replace h63 := Lib.hid h63; replace hby := Lib.hid hby; replace hbas := Lib.hid hbas
        go_wp2_with fail
        (with_reducible refine hct.out.mono ?_)
        rintro e wr ⟨rfl, rfl⟩
        go_wp2_with (at_builtin; refine wpList_append_own _ rfl _ _ 26 rfl w1.heap.size 3 i3 _ 1 8 Tryd.underlying26 hi3 hz3 hz31 hz32 rfl (by decide) _ L _ rfl hownA.out ⟨wr.heap.size, 0, none⟩ 1 1 [.int .i64 (k : Int)] rfl rfl hnews.out hone1.out h63.out hby.out hbas.out ?_; intro v1 w7 hown7 hgrow _; obtain ⟨g7, cap1, rfl⟩ := Joins.ownsRow_form hown7 (by omega); replace hown7 := Lib.hid hown7; replace hgrow := Lib.hid hgrow)
        have hO7 : OwnI w7 w1.heap.size (.slice (some ⟨g7, 0, none⟩) (L + 1) cap1) (inOf ((xs.map Nde.pl).take (k + 1)) p) := by
          rw [inOf_yes hpl.out hb.out.symm]
          refine ⟨?_⟩
          rw [List.length_append, ← hL.out]
          simpa [intsV] using hown7.out
        have hB7 : Below w1.heap.size w1 w7 := (hB.out.alloc hB.out.size _).grown hgrow.out hbas.out (fun k hk => (hO.out.row.lt k hk).1)
        replace hO7 := Lib.hid hO7; replace hB7 := Lib.hid hB7
        go_roundw
        case rel => exact ⟨k + 1, by go_num, by omega, hO7.out, hB7.out⟩
        case measure => simp [intOf]; omega
    · have hc1 : ¬ (k : Int) < n := by omega
      have hkn : (xs.map Nde.pl).take k = xs.map Nde.pl := List.take_of_length_le (by rw [List.length_map]; have := hn.out; omega)
      replace hkn := Lib.hid hkn
      go_wp2
      go_ret
      exact ⟨u5, rfl, by have := hO.out; rw [hkn.out] at this; exact this, hB.out⟩
end Go.Proofs.YteoihdkaoipocaaDoor

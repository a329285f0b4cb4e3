/- (*fleet.Fleet).Parts: the partitions, sorted, each once. -/
import Derived.Test.YteoihdkaoipocaaDoorFin
import Derived.Lib.OwnBridge
namespace Go.Proofs.YteoihdkaoipocaaDoor
open Go.RowKit Go.Maps Go.Shelf Go.Sort

def txts (xs : List ByteArray) : List Value := xs.map Value.string
structure OwnT (w : World) (B : Nat) (v : Value) (xs : List ByteArray) : Prop where
  row : w.ownsRow B 9 1 v xs.length (txts xs)
def FpaPost (vs : List Ndv) (w : World) (e : Ending) (w' : World) : Prop :=
  ∃ v, e = .returned v ∧ OwnT w' w.heap.size v ((partsOf vs).map ofL) ∧ Below w.heap.size w w'
theorem strs_news {w : World} {b off n : Nat} {ps : List ByteArray} (h : StrsAt w (some ⟨b, off, none⟩) n ps) : ∀ j u, (txts ps)[j]? = some u → w.cell? ((⟨b, off, none⟩ : Addr).add j) = some u := by
  intro j u hu
  rw [txts, List.getElem?_map] at hu
  obtain ⟨y, hy, rfl⟩ := Option.map_eq_some_iff.1 hu
  obtain ⟨b', off', e, _, hc⟩ := h.cell j y hy
  cases e
  rw [Addr.add_lit]
  exact hc
theorem txts_one (xs : List ByteArray) : ∀ u ∈ txts xs, u.oneCell' = true := by
  intro u hu
  obtain ⟨x, _, rfl⟩ := List.mem_map.1 hu
  rfl
theorem rawParts_len {vs : List Ndv} {c : Nat} (h : ∀ v, v ∈ vs → v.parts.length ≤ c) : (rawParts vs).length ≤ vs.length * c := by
  induction vs with
  | nil => simp [rawParts]
  | cons v vs ih =>
    have h1 := ih fun v hv => h v (by simp [hv])
    have h2 := h v (by simp)
    simp only [rawParts, List.flatMap_cons, List.length_append, List.length_cons] at h1 ⊢
    rw [Nat.add_mul]
    omega
theorem own_empty (w : World) (B : Nat) : OwnT w B (.slice none 0 0) [] := ⟨rfl, .inl ⟨rfl, rfl⟩⟩
theorem grown_grow (w : World) (os : Array Obj) : w.grownBy (grow w os) none := ⟨rfl, rfl, rfl, by simp, fun k hk _ => heap_grow_old w os hk⟩
theorem partsOf_raw {vs : List Ndv} (h : rawParts vs = []) : partsOf vs = [] := by
  unfold partsOf
  rw [h]
  simp [Lib.compact, Lib.compactUpTo]
theorem compact_le (Y : List (List UInt8)) : (Lib.compact Y).length ≤ Y.length := by
  unfold Lib.compact Lib.compactUpTo
  rw [List.length_map]
  exact Nat.le_trans (List.length_filter_le _ _) (by simp)
theorem txts_ofL (Y : List (List UInt8)) : txts (Y.map ofL) = Y.map encStr := by
  unfold txts
  rw [List.map_map]
  exact List.map_congr_left fun x _ => by simp [encStr, ofL]
theorem fpa_nil (w : World) : Calls Tryd.prog 59 #[.pointer none] w (FpaPost [] w) := by
  go_enter Tryd.func59, Tryd.ntmps59
  go_wp2_with fail
  (with_reducible refine (len_nil _).mono ?_)
  rintro e w1 ⟨rfl, rfl⟩
  go_wp2
  go_loopw [3, 7] (fun o i wr => o = .slice none 0 0 ∧ i = .int .i64 0 ∧ wr = w1) (fun _ i _ => 0)
  case atStart => exact ⟨rfl, rfl, rfl⟩
  case round =>
    obtain ⟨rfl, rfl, rfl⟩ := hrel
    go_wp2_with fail
    refine (Tryd.slices_Sort_string_none none 0 _).mono ?_
    rintro e w1 ⟨rfl, rfl⟩
    go_wp2_with fail
    refine (Tryd.slices_Compact_string_empty none 0 _).mono ?_
    rintro e w1 ⟨rfl, rfl⟩
    go_wp2
    go_ret
    exact ⟨_, rfl, by rw [partsOf_raw (vs := []) rfl]; exact own_empty _ _, Below.refl _ _⟩
set_option maxRecDepth 100000 in
set_option maxHeartbeats 1600000 in
theorem fpa_any (w : World) (fb mb base : Nat) (nv : Value) (xs : List Nde) (hF : FlW w fb mb base nv xs) (hlen : xs.length ≤ 4096) (hq : ∀ x, x ∈ xs → 1 ≤ x.parts.length ∧ x.parts.length ≤ 8) : Calls Tryd.prog 59 #[.pointer (some ⟨fb, 0, none⟩)] w (FpaPost (xs.map Nde.pl) w) := by
  obtain ⟨i9, hi9, hz9, hz91, hz92⟩ := info_parts info9
  obtain ⟨n, hn⟩ : ∃ n, n = xs.length := ⟨_, rfl⟩
  have hlc := len_any w fb mb base nv xs hF
  rw [← hn] at hlc hlen
  have hn0 : (0 : Int) ≤ (n : Int) := by omega
  replace hF := Lib.hid hF; replace hn := Lib.hid hn; replace hlc := Lib.hid hlc; replace hq := Lib.hid hq
  go_enter Tryd.func59, Tryd.ntmps59
  go_wp2_with fail
  refine hlc.out.mono ?_
  rintro e w1 ⟨rfl, rfl⟩
  go_wp2
  go_loopw [3, 7] (fun ov i wr => ∃ k : Nat, i = .int .i64 k ∧ k ≤ n ∧ Hid (OwnT wr w1.heap.size ov (rawParts ((xs.map Nde.pl).take k))) ∧ Hid (Below w1.heap.size w1 wr)) (fun _ i _ => n - (intOf i).toNat)
  case atStart => exact ⟨0, rfl, Nat.zero_le _, own_empty _ _, Below.refl _ _⟩
  case round =>
    obtain ⟨k, rfl, hk, hO, hB⟩ := hrel
    by_cases hc : k < n
    · have hc1 : (k : Int) < n := by omega
      have hk0 : (0 : Int) ≤ (k : Int) := by omega
      have hFr := hF.out.below hB.out
      obtain ⟨g, cap, rfl⟩ := Joins.ownsRow_form hFr.row (by have := hn.out; omega)
      obtain ⟨x, hx⟩ : ∃ x, xs[k]? = some x := ⟨_, List.getElem?_eq_getElem (by have := hn.out; omega)⟩
      obtain ⟨g', e1, _, _, hcell⟩ := hFr.cell hx
      have e2 : g = g' := by simpa [Value.ownBlock] using e1
      subst e2
      have c5 : wr.cell? ⟨g, k * 6 + 5, none⟩ = some (.slice x.po x.pn x.pc) := hcell 5 (by omega)
      have f0 := blk_cell hFr.head 0
      simp at f0
      rw [← hn.out] at f0
      have hpl := pl_at hx
      have hrs := rawParts_step hpl
      have hxm := List.mem_of_getElem? hx
      have hqx := hq.out x hxm
      have hxo := (hFr.ok x hxm).1
      obtain ⟨nm, cp, po, pn, pc, ps⟩ := x
      have hpn : ps.length = pn := hxo.parts.len
      simp only at hqx c5
      obtain ⟨b, off, rfl, hbl, _⟩ := hxo.parts.cell 0 (ps[0]'(by omega)) (by simp)
      obtain ⟨L, hL⟩ : ∃ L, L = (rawParts ((xs.map Nde.pl).take k)).length := ⟨_, rfl⟩
      have hLk : L ≤ 8 * 4096 := by
        rw [hL]
        refine Nat.le_trans (rawParts_len (c := 8) fun v hv => ?_) (by rw [List.length_take]; omega)
        obtain ⟨y, hy, rfl⟩ := List.mem_map.1 (List.mem_of_mem_take hv)
        exact (hq.out y hy).2
      have hownA : wr.ownsRow w1.heap.size 9 1 u3 L (txts (rawParts ((xs.map Nde.pl).take k))) := by rw [hL]; exact hO.out.row
      have hl1 : (txts ps).length = pn * 1 := by simp [txts, hpn]
      have hnews := strs_news hxo.parts
      have hone1 := txts_one ps
      have h63 := maxLen_ge (n := L + pn) (by omega)
      have h63' : L + pn ≤ maxLen := by omega
      have hby : (L + pn) * 16 ≤ 140737488355328 := by omega
      have hbas : w1.heap.size ≤ wr.heap.size := hB.out.size
      have hpos : 0 < L + pn := by omega
      clear h63
      replace hFr := Lib.hid hFr; replace hx := Lib.hid hx; replace hpl := Lib.hid hpl; replace hcell := Lib.hid hcell; replace e1 := Lib.hid e1; replace hrs := Lib.hid hrs; replace hxm := Lib.hid hxm; replace hqx := Lib.hid hqx; replace hxo := Lib.hid hxo; replace hpn := Lib.hid hpn; replace hL := Lib.hid hL; replace hownA := Lib.hid hownA; replace hnews := Lib.hid hnews; replace hone1 := Lib.hid hone1; replace h63' := Lib.hid h63'; replace hby := Lib.hid hby; replace hbas := Lib.hid hbas; replace hl1 := Lib.hid hl1
      go_wp2_with (at_builtin; refine wpList_append_own _ rfl _ _ 36 rfl w1.heap.size 9 i9 _ 1 16 Tryd.underlying36 hi9 hz9 hz91 hz92 rfl (by decide) _ L _ rfl hownA.out ⟨b, off, none⟩ pn pc (txts ps) rfl hl1.out hnews.out hone1.out h63'.out hby.out hbas.out ?_; intro v1 w7 hown7 hgrow _; obtain ⟨g7, cap1, rfl⟩ := Joins.ownsRow_form hown7 hpos; replace hown7 := Lib.hid hown7; replace hgrow := Lib.hid hgrow)
      have hO7 : OwnT w7 w1.heap.size (.slice (some ⟨g7, 0, none⟩) (L + pn) cap1) (rawParts ((xs.map Nde.pl).take (k + 1))) := by
        rw [hrs.out]
        refine ⟨?_⟩
        rw [List.length_append, ← hL.out]
        have e : (Nde.pl ⟨nm, cp, some ⟨b, off, none⟩, pn, pc, ps⟩).parts = ps := rfl
        rw [e, hpn.out]
        simpa [txts] using hown7.out
      have hB7 : Below w1.heap.size w1 w7 := hB.out.grown hgrow.out hbas.out (fun k hk => (hO.out.row.lt k hk).1)
      replace hO7 := Lib.hid hO7; replace hB7 := Lib.hid hB7
      go_roundw
      case rel => exact ⟨k + 1, by go_num, by omega, hO7.out, hB7.out⟩
      case measure => simp [intOf]; omega
    · have hc1 : ¬ (k : Int) < n := by omega
      have hkn : (xs.map Nde.pl).take k = xs.map Nde.pl := List.take_of_length_le (by rw [List.length_map]; have := hn.out; omega)
      obtain ⟨R, hR⟩ : ∃ R, R = rawParts (xs.map Nde.pl) := ⟨_, rfl⟩
      have hO2 := hO.out
      rw [hkn, ← hR] at hO2
      have hRl : R.length ≤ 8 * 4096 := by
        rw [hR]
        refine Nat.le_trans (rawParts_len (c := 8) fun v hv => ?_) (by rw [List.length_map]; have := hn.out; omega)
        obtain ⟨y, hy, rfl⟩ := List.mem_map.1 hv
        exact (hq.out y hy).2
      have hP : partsOf (xs.map Nde.pl) = Lib.compact ((R.map (·.data.toList)).mergeSort fun x y => decide (x ≤ y)) := by unfold partsOf; rw [← hR]
      replace hkn := Lib.hid hkn; replace hO := Lib.hid hO
      by_cases hnil : u3 = .slice none 0 0
      · have hR0 : R = [] := by
          rcases hO2.row.2 with ⟨_, h⟩ | ⟨g, cap, cur, hv, _⟩
          · exact List.length_eq_zero_iff.1 h
          · rw [hnil] at hv; cases hv
        have hPe : partsOf (xs.map Nde.pl) = [] := partsOf_raw (by rw [← hR]; exact hR0)
        subst hnil
        replace hO2 := Lib.hid hO2; replace hP := Lib.hid hP; replace hR := Lib.hid hR; replace hR0 := Lib.hid hR0; replace hPe := Lib.hid hPe
        go_wp2_with fail
        refine (Tryd.slices_Sort_string_none none 0 _).mono ?_
        rintro e w2 ⟨rfl, rfl⟩
        go_wp2_with fail
        refine (Tryd.slices_Compact_string_empty none 0 _).mono ?_
        rintro e w2 ⟨rfl, rfl⟩
        go_wp2
        go_ret
        exact ⟨_, rfl, by rw [hPe.out]; exact own_empty _ _, hB.out⟩
      · have hrow := hO2.row
        have hmp : txts R = (R.map (·.data.toList)).map encStr := (Lib.map_encStr R).symm
        rw [hmp] at hrow
        obtain ⟨g, cap, rfl, hgb, hgl, hcap1, hcap2, _, hH⟩ := Lib.holds_of_ownsRow hrow hnil
        obtain ⟨Z, hZ⟩ : ∃ Z, Z = R.map (·.data.toList) := ⟨_, rfl⟩
        have hZl : R.length = Z.length := by rw [hZ, List.length_map]
        rw [← hZ, hZl] at hrow
        rw [← hZ] at hH
        rw [hZl] at hRl hcap1
        rw [hZl]
        have hP2 := hP
        rw [← hZ] at hP2
        replace hrow := Lib.hid hrow; replace hmp := Lib.hid hmp; replace hH := Lib.hid hH; replace hP := Lib.hid hP; replace hP2 := Lib.hid hP2; replace hO2 := Lib.hid hO2; replace hZ := Lib.hid hZ; replace hZl := Lib.hid hZl; replace hR := Lib.hid hR; replace hnil := Lib.hid hnil
        go_wp2_with fail
        refine (Tryd.slices_Sort_string g 0 cap Z _ hH.out hgl (by omega)).mono ?_
        rintro e w2 ⟨rfl, q, os, hw2⟩
        obtain ⟨Y, hY⟩ : ∃ Y, Y = Z.mergeSort fun x y => decide (x ≤ y) := ⟨_, rfl⟩
        have hYl : Y.length = Z.length := by rw [hY, List.length_mergeSort]
        have hr2 := Lib.ownsRow_putRow (q := q) (ys := Y) hrow.out hYl (Nat.le_refl _)
        rw [← hYl, List.take_length] at hr2
        have hr3 := World.ownsRow.kept hr2 (grown_grow _ os) (.inr (by simp [Value.ownBlock]))
        rw [hY, ← hw2, ← hY] at hr3
        have hB2 : Below w1.heap.size w1 w2 := by rw [hw2]; exact (Lib.below_putRow hB.out hgb).grown (grown_grow _ os) (Lib.below_putRow hB.out hgb).size (fun k e => by cases e)
        rw [← hYl]
        replace hw2 := Lib.hid hw2; replace hr2 := Lib.hid hr2; replace hY := Lib.hid hY; replace hYl := Lib.hid hYl; replace hB2 := Lib.hid hB2
        have hcl : (Lib.compact Y).length ≤ Y.length := compact_le Y
        obtain ⟨g2, cap2, e3, _, _, hc2, _, _, hH2⟩ := Lib.holds_of_ownsRow hr3 (by simp)
        have e4 : g = g2 ∧ cap = cap2 := by simpa using e3
        obtain ⟨rfl, rfl⟩ := e4
        have hr4 := fun q => Lib.ownsRow_putRow (q := q) (ys := Lib.compact Y ++ List.replicate (Y.length - (Lib.compact Y).length) []) hr3 (by simp; omega) hcl
        have hf : ((Lib.compact Y ++ List.replicate (Y.length - (Lib.compact Y).length) ([] : List UInt8)).take (Lib.compact Y).length) = Lib.compact Y := by simp
        rw [hf] at hr4
        have hYb : Y.length ≤ 9223372036854775807 := by have := hYl.out; omega
        have hPY : partsOf (xs.map Nde.pl) = Lib.compact Y := by rw [hP2.out, hY.out]
        replace hr3 := Lib.hid hr3; replace hcl := Lib.hid hcl; replace hH2 := Lib.hid hH2; replace hr4 := Lib.hid hr4; replace hf := Lib.hid hf; replace hPY := Lib.hid hPY; replace e3 := Lib.hid e3
        go_wp2_with fail
        refine (Tryd.slices_Compact_string g 0 cap Y _ hH2.out hYb hc2).mono ?_
        rintro e w3 ⟨rfl, q2, hw3⟩
        have hr5 := hr4.out q2
        have hB3 : Below w1.heap.size w1 w3 := by rw [hw3]; exact Lib.below_putRow hB2.out hgb
        rw [← hw3] at hr5
        replace hr5 := Lib.hid hr5; replace hB3 := Lib.hid hB3; replace hw3 := Lib.hid hw3
        go_wp2
        go_ret
        refine ⟨_, rfl, ⟨?_⟩, hB3.out⟩
        rw [List.length_map, hPY.out, txts_ofL]
        exact hr5.out
end Go.Proofs.YteoihdkaoipocaaDoor

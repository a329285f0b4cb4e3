/- Parts Stl, Stx, Srf, Srn, Sst, Spm, Spa, Saw in one text. Plain theorems: no condition. -/
import Derived.Test.YteoihdkaoipocaaGreatDoorQb
import Derived.Test.YteoihdkaoipocaaGreatDoorQa
import Derived.Test.YteoihdkaoipocaaGreatDoorQd
import Derived.Deep.DeepCutAuto
import Derived.ScopeJumps
import Derived.WalkMore
/- strconv.Itoa, spec.list, spec.Text's put. -/
namespace Go.Proofs.YteoihdkaoipocaaGreatDoor
open Go.RowKit Go.Maps Go.Shelf Go.Sort

theorem itoa_call (n : Int) (h0 : -9223372036854775808 ≤ n) (h1 : n ≤ 9223372036854775807) (w : World) (ht : Tb w) : Calls Tryz.prog 62 #[.int .i64 n] w fun e w' => e = .returned (.string (ofL (Lib.itoa n))) ∧ Below w.heap.size w w' :=
  (Tryz.strconv_Itoa n h0 h1 w ht.here).mono fun e w' ⟨he, k, os, hw⟩ => ⟨he, by subst hw; exact Lib.below_grow _ _ (Nat.le_refl _) k os⟩

theorem txts_join (xs : List (List UInt8)) : (xs.map ofL).map (·.data.toList) = xs := by
  rw [List.map_map]
  rw [show ((fun (x : ByteArray) => x.data.toList) ∘ ofL) = id from by funext x; exact ofL_toL x, List.map_id]
/-- a row of texts of one's own, joined -/
theorem joinO_call {w : World} {B : Nat} {v : Value} {xs : List ByteArray} (h : OwnT w B v xs) (sep : ByteArray) (hN : xs.length ≤ 4096) (hlen : (Lib.join (xs.map (·.data.toList)) sep.data.toList).length ≤ 140737488355328) :
    Calls Tryz.prog 65 #[v, .string sep] w fun e w' => e = .returned (.string (ofL (Lib.join (xs.map (·.data.toList)) sep.data.toList))) ∧ Below w.heap.size w w' := by
  rcases h.row.2 with ⟨hv, h0⟩ | ⟨g, cap, cur, hv, hg, hh, hn, hm, hr⟩
  · have : xs = [] := List.length_eq_zero_iff.1 h0
    subst this
    subst hv
    refine (Tryz.strings_Join_none none 0 sep w).mono ?_
    rintro e w' ⟨rfl, rfl⟩
    exact ⟨rfl, Below.refl _ _⟩
  · have hrow := h.row
    rw [hv] at hrow
    rw [hv]
    exact Tryz.strings_Join g 0 cap xs sep w (fun j x hx => by
      have hi := (List.getElem?_eq_some_iff.1 hx).1
      rw [Nat.zero_add, World.ownsRow.cellAt hrow j (by omega), txts, List.getElem?_map, hx]; rfl) (blk_lt hh) (by omega) (by have := owns_cap hrow; omega) hlen
theorem ownT_low {w w' : World} {B : Nat} {v : Value} {xs : List ByteArray} (h : OwnT w B v xs) (hb : Below w.heap.size w w') : OwnT w' B v xs := by
  refine ⟨h.row.1, ?_⟩
  rcases h.row.2 with ⟨hv, h0⟩ | ⟨g, cap, cur, hv, hg, hh, hr⟩
  · exact .inl ⟨hv, h0⟩
  · exact .inr ⟨g, cap, cur, hv, hg, blk_below hb hh (blk_lt hh), hr⟩

set_option maxRecDepth 100000 in
set_option maxHeartbeats 1600000 in
theorem list_any (so : Option Addr) (n c : Nat) (xs : List Int) (w : World) (h : IntsAt w so n xs) (hw8 : waitsL xs = true) (ht : Tb w) : Calls Tryz.prog 64 #[.slice so n c] w fun e w' => e = .returned (.string (ofL (listT xs))) ∧ Below w.heap.size w w' := by
  obtain ⟨i9, hi9, hz9, hz91, hz92⟩ := info_parts info9
  have hlen := h.len
  have h8 := waits_len hw8
  rw [hlen] at h8
  have hll := listT_len hw8
  have hall := waits_all hw8
  replace h := Lib.hid h; replace hlen := Lib.hid hlen; replace hw8 := Lib.hid hw8; replace hi9 := Lib.hid hi9; replace hz9 := Lib.hid hz9; replace hz91 := Lib.hid hz91; replace hz92 := Lib.hid hz92; replace hll := Lib.hid hll; replace hall := Lib.hid hall; replace ht := Lib.hid ht
  go_enter Tryz.func64, Tryz.ntmps64
  go_wp2
  go_loopw [3, 5, 8] (fun ov _ i wr => ∃ k : Nat, i = .int .i64 k ∧ k ≤ n ∧ Hid (OwnT wr w.heap.size ov (((xs.take k).map Lib.itoa).map ofL)) ∧ Hid (Below w.heap.size w wr)) (fun _ _ i _ => n - (intOf i).toNat)
  case atStart => exact ⟨0, rfl, Nat.zero_le _, own_empty _ _, Below.refl _ _⟩
  case round =>
    obtain ⟨k, rfl, hk, hO, hB⟩ := hrel
    by_cases hc : k < n
    · have hc1 : (k : Int) < n := by omega
      have hk0 : (0 : Int) ≤ (k : Int) := by omega
      have hh := h.out.low hB.out
      obtain ⟨y, hy⟩ := hh.get hc
      obtain ⟨b, off, rfl, hb, a0⟩ := hh.cell k y hy
      have hbd := okw_bd (hall.out y (List.mem_of_getElem? hy))
      have hci := fun W => itoa_call y (by omega) (by omega) W
      obtain ⟨A, hA⟩ : ∃ A, A = ofL (Lib.itoa y) := ⟨_, rfl⟩
      rw [← hA] at hci
      have htr := ht.out.low hB.out
      have hst : ((xs.take (k + 1)).map Lib.itoa).map ofL = ((xs.take k).map Lib.itoa).map ofL ++ [A] := by
        rw [List.take_add_one, hy]; simp [hA]
      replace hh := Lib.hid hh; replace hy := Lib.hid hy; replace hbd := Lib.hid hbd; replace hci := Lib.hid hci; replace hA := Lib.hid hA; replace htr := Lib.hid htr; replace hst := Lib.hid hst
      go_wp2_with fail
      refine (hci.out _ htr.out).mono ?_
      rintro e w2 ⟨rfl, hb2⟩
      have hO2 := ownT_low hO.out hb2
      have hlow2 := hB.out.trans (hb2.mono hB.out.size)
      obtain ⟨L, hL⟩ : ∃ L, L = (((xs.take k).map Lib.itoa).map ofL).length := ⟨_, rfl⟩
      have hLk : L ≤ 8 := by rw [hL]; simp; omega
      have hownA : (w2.alloc (.cells #[.string A] 9 (0, 0))).ownsRow w.heap.size 9 1 u3 L (txts (((xs.take k).map Lib.itoa).map ofL)) := by rw [hL]; exact hO2.row.alloc (.cells #[.string A] 9 (0, 0))
      have hnews := str_new w2 A
      have hone := str_one A
      have h63 := maxLen_ge (n := L) (by omega)
      have hby : (L + 1) * 16 ≤ 140737488355328 := by omega
      have hbas : w.heap.size ≤ (w2.alloc (.cells #[.string A] 9 (0, 0))).heap.size := by have := hlow2.size; simp; omega
      clear a0
      replace hb2 := Lib.hid hb2; replace hO2 := Lib.hid hO2; replace hlow2 := Lib.hid hlow2; replace hL := Lib.hid hL; replace hownA := Lib.hid hownA; replace hnews := Lib.hid hnews; replace hone := Lib.hid hone; replace h63 := Lib.hid h63; replace hby := Lib.hid hby; replace hbas := Lib.hid hbas
      go_wp2_with (at_builtin; refine wpList_append_own _ rfl _ _ 71 rfl (w.heap.size) 9 i9 _ 1 16 Tryz.underlying71 hi9.out hz9.out hz91.out hz92.out rfl Nat.one_pos _ L _ rfl hownA.out ⟨w2.heap.size, 0, none⟩ 1 1 [.string A] rfl rfl hnews.out hone.out h63.out hby.out hbas.out ?_; intro v1 w9 hown9 hgrow _; obtain ⟨g9, cap9, rfl⟩ := Joins.ownsRow_form hown9 (Nat.succ_pos _); replace hown9 := Lib.hid hown9; replace hgrow := Lib.hid hgrow)
      have hO9 : OwnT w9 w.heap.size (.slice (some ⟨g9, 0, none⟩) (L + 1) cap9) (((xs.take (k + 1)).map Lib.itoa).map ofL) := by
        rw [hst.out]
        refine ⟨?_⟩
        rw [List.length_append, ← hL.out]
        simpa [txts] using hown9.out
      have hB9 : Below w.heap.size w w9 := (hlow2.out.alloc hlow2.out.size _).grown hgrow.out hbas.out (fun j e => (hO2.out.row.lt j e).1)
      replace hO9 := Lib.hid hO9; replace hB9 := Lib.hid hB9
      go_wp2
      go_roundw
      case rel => exact ⟨k + 1, by go_num, by omega, hO9.out, hB9.out⟩
      case measure => simp [intOf]; omega
    · have hc1 : ¬ (k : Int) < n := by omega
      have hkn : xs.take k = xs := List.take_of_length_le (by rw [hlen.out]; omega)
      have hO2 := hO.out
      rw [hkn] at hO2
      have hll2 := hll.out
      unfold listT at hll2
      have hj := joinO_call hO2 { data := #[44] } (by rw [List.length_map, List.length_map, hlen.out]; omega) (by rw [txts_join]; show (Lib.join (xs.map Lib.itoa) [44]).length ≤ _; omega)
      rw [txts_join] at hj
      replace hkn := Lib.hid hkn; replace hO2 := Lib.hid hO2; replace hll2 := Lib.hid hll2; replace hj := Lib.hid hj
      go_wp2_with fail
      refine hj.out.mono ?_
      rintro e w2 ⟨rfl, hb2⟩
      replace hb2 := Lib.hid hb2
      go_wp2
      go_ret
      exact ⟨rfl, hB.out.trans (hb2.out.mono hB.out.size)⟩

/-- the words so far, in a variable of the call's own -/
structure PutW (vb : Nat) (xs : List ByteArray) (W : World) : Prop where
  ex : ∃ sv, W.heap[vb]? = some (.cells #[sv] 71 (0, 0)) ∧ OwnT W (vb + 1) sv xs
theorem PutW.low {vb : Nat} {xs : List ByteArray} {W W' : World} (h : PutW vb xs W) (hb : Below W.heap.size W W') : PutW vb xs W' := by
  obtain ⟨sv, h1, h2⟩ := h.ex
  exact ⟨sv, blk_below hb h1 (blk_lt h1), ownT_low h2 hb⟩
theorem PutW.lt {vb : Nat} {xs : List ByteArray} {W : World} (h : PutW vb xs W) : vb < W.heap.size := by
  obtain ⟨sv, h1, _⟩ := h.ex
  exact blk_lt h1
def kvB (k v : ByteArray) : ByteArray := k ++ ({ data := #[61] } : ByteArray) ++ v
theorem kvB_eq (k : ByteArray) (v : List UInt8) : kvB k (ofL v) = ofL (kv k v) := by
  unfold kvB kv
  rw [show ({ data := #[61] } : ByteArray) = ofL [61] from rfl]
  conv => lhs; rw [← ofL_self k]
  rw [ofL_app, ofL_app]
  simp
set_option maxRecDepth 100000 in
set_option maxHeartbeats 800000 in
theorem putno_any (vb : Nat) (k v : ByteArray) (W : World) : Calls Tryz.prog 61 #[.string k, .string v, .string v, .pointer (some ⟨vb, 0, none⟩)] W fun e w' => e = .returned (.tuple #[]) ∧ w' = W := by
  have d := str_eqn (p := v) rfl
  have d2 := str_eq (p := v) rfl
  go_enter Tryz.func61, Tryz.ntmps61
  go_wp2
  go_end0
  exact ⟨rfl, rfl⟩
set_option maxRecDepth 100000 in
set_option maxHeartbeats 800000 in
theorem putyes_any (vb : Nat) (xs : List ByteArray) (k v u : ByteArray) (W : World) (h : PutW vb xs W) (hl : xs.length ≤ 100) (hu : v ≠ u) (hk : k.size ≤ 100) (hv : v.size ≤ 4096) : Calls Tryz.prog 61 #[.string k, .string v, .string u, .pointer (some ⟨vb, 0, none⟩)] W fun e w' => e = .returned (.tuple #[]) ∧ PutW vb (xs ++ [kvB k v]) w' ∧ Below vb W w' := by
  obtain ⟨i9, hi9, hz9, hz91, hz92⟩ := info_parts info9
  have d := str_nen hu
  have d2 := str_ne hu
  have hlt := h.lt
  obtain ⟨sv, h1, h2⟩ := h.ex
  obtain ⟨L, hL⟩ : ∃ L, L = xs.length := ⟨_, rfl⟩
  have c0 := blk_cell h1 0
  have f0 := blk_free h1 0
  simp at c0
  obtain ⟨A, hA⟩ : ∃ A, A = kvB k v := ⟨_, rfl⟩
  have hA' : k ++ ({ data := #[61] } : ByteArray) ++ v = A := hA.symm
  have q1 : ¬ 9223372036854775807 < k.size + 1 := by omega
  have q2 : ¬ 9223372036854775807 < k.size + 1 + v.size := by omega
  have hownA : (W.alloc (.cells #[.string A] 9 (0, 0))).ownsRow (vb + 1) 9 1 sv L (txts xs) := by rw [hL]; exact h2.row.alloc (.cells #[.string A] 9 (0, 0))
  have hnews := str_new W A
  have hone := str_one A
  have h63 := maxLen_ge (n := L) (by omega)
  have hby : (L + 1) * 16 ≤ 140737488355328 := by omega
  have hbas : vb + 1 ≤ (W.alloc (.cells #[.string A] 9 (0, 0))).heap.size := by simp; omega
  have hkeep : ∀ w9 : World, (W.alloc (.cells #[.string A] 9 (0, 0))).grownBy w9 sv.ownBlock → w9.heap[vb]? = some (.cells #[sv] 71 (0, 0)) := fun w9 hg => by
    refine (hg.block vb (by rw [World.size_alloc]; omega) (fun e => ?_)).trans (blk_old (.cells #[.string A] 9 (0, 0)) h1)
    have := (h2.row.lt vb e.symm).1
    omega
  have hsv : sv = .slice none 0 0 ∨ ∃ g n c, sv = .slice (some ⟨g, 0, none⟩) n c := by
    rcases h2.row.2 with ⟨hv, _⟩ | ⟨g, cap, cur, hv, _⟩
    · exact .inl hv
    · exact .inr ⟨g, _, cap, hv⟩
  replace h := Lib.hid h; replace h1 := Lib.hid h1; replace h2 := Lib.hid h2; replace hL := Lib.hid hL; replace hA := Lib.hid hA; replace hownA := Lib.hid hownA; replace hnews := Lib.hid hnews; replace hone := Lib.hid hone; replace h63 := Lib.hid h63; replace hby := Lib.hid hby; replace hbas := Lib.hid hbas; replace hkeep := Lib.hid hkeep; replace hi9 := Lib.hid hi9; replace hz9 := Lib.hid hz9; replace hz91 := Lib.hid hz91; replace hz92 := Lib.hid hz92; replace hu := Lib.hid hu; replace hk := Lib.hid hk; replace hv := Lib.hid hv; replace hlt := Lib.hid hlt
  have hA2 := hA'
  replace hA2 := Lib.hid hA2
  rcases hsv with rfl | ⟨g, n, c, rfl⟩
  all_goals
    go_enter Tryz.func61, Tryz.ntmps61
    go_wp2_with (at_builtin; refine wpList_append_own _ rfl _ _ 71 rfl (vb + 1) 9 i9 _ 1 16 Tryz.underlying71 hi9.out hz9.out hz91.out hz92.out rfl Nat.one_pos _ L _ rfl hownA.out ⟨W.heap.size, 0, none⟩ 1 1 [.string A] rfl rfl hnews.out hone.out h63.out hby.out hbas.out ?_; intro v1 w9 hown9 hgrow _; have hk9 := hkeep.out w9 hgrow; have z9 := blk_cell hk9 0; have zf9 := blk_free hk9 0; simp at z9; obtain ⟨g9, cap9, rfl⟩ := Joins.ownsRow_form hown9 (Nat.succ_pos _); replace hown9 := Lib.hid hown9; replace hgrow := Lib.hid hgrow; replace hk9 := Lib.hid hk9)
    have hb9 : Below vb W w9 := ((Below.refl vb W).alloc (by have := hlt.out; omega) _).grown hgrow.out (by have := hlt.out; simp; omega) (fun j e => by have := (h2.out.row.lt j e).1; omega)
    have hP9 : PutW vb (xs ++ [kvB k v]) (w9.setCell ⟨vb, 0, none⟩ (.slice (some ⟨g9, 0, none⟩) (L + 1) cap9)) := by
      refine ⟨_, blk_set hk9.out 0 _, ⟨?_⟩⟩
      have hg := (World.ownsRow.lt hown9.out g9 rfl).1
      have h := hown9.out
      rw [List.length_append, ← hL.out, ← hA.out]
      refine ⟨by simp [txts, hL.out], .inr ?_⟩
      rcases h.2 with ⟨hv, _⟩ | ⟨g', cap', cur, hv, hg', hh, hr⟩
      · cases hv
      · cases hv
        refine ⟨g9, cap9, cur, rfl, hg', blk_set_other (by omega) _ hh, ?_⟩
        simpa [txts] using hr
    replace hb9 := Lib.hid hb9; replace hP9 := Lib.hid hP9
    go_wp2
    go_end0
    exact ⟨rfl, hP9.out, hb9.out.setCell (Nat.le_refl _) _⟩
end Go.Proofs.YteoihdkaoipocaaGreatDoor

/- spec.Text: a spec's text. -/
namespace Go.Proofs.YteoihdkaoipocaaGreatDoor
open Go.RowKit Go.Maps Go.Shelf Go.Sort

/-- one word more, unless it is the usual one -/
def putX (k v u : ByteArray) (xs : List ByteArray) : List ByteArray := if v = u then xs else xs ++ [kvB k v]
theorem putw_any (vb : Nat) (xs : List ByteArray) (k v u : ByteArray) (W : World) (h : PutW vb xs W) (hl : xs.length ≤ 100) (hk : k.size ≤ 100) (hv : v.size ≤ 4096) : Calls Tryz.prog 61 #[.string k, .string v, .string u, .pointer (some ⟨vb, 0, none⟩)] W fun e w' => e = .returned (.tuple #[]) ∧ PutW vb (putX k v u xs) w' ∧ Below vb W w' := by
  unfold putX
  by_cases c : v = u
  · rw [if_pos c]
    subst c
    refine (putno_any vb k v W).mono ?_
    rintro e w' ⟨rfl, rfl⟩
    exact ⟨rfl, h, Below.refl _ _⟩
  · rw [if_neg c]
    exact putyes_any vb xs k v u W h hl c hk hv
theorem putX_len {k v u : ByteArray} {xs : List ByteArray} {n : Nat} (h : xs.length ≤ n) : (putX k v u xs).length ≤ n + 1 := by
  unfold putX
  split
  · omega
  · simp; omega
theorem putX_yes {k v u : ByteArray} {xs : List ByteArray} (h : v ≠ u) : putX k v u xs = xs ++ [kvB k v] := if_neg h
theorem itoa_is {n m : Int} (h0 : 0 ≤ n) (h1 : n ≤ 1099511627776) {u : ByteArray} (hu : numOf u 13 = m) (h : ofL (Lib.itoa n) = u) : n = m := by
  rw [← numOf_itoa13 h0 h1, h, hu]
theorem itoa_ne {n : Int} : ofL (Lib.itoa n) ≠ { data := #[] } := fun h => by
  have : Lib.itoa n = [] := ofL_inj (h.trans (show ({ data := #[] } : ByteArray) = ofL [] from rfl))
  by_cases c : n < 0
  · rw [itoa_neg c] at this; cases this
  · rw [itoa_pos (by omega)] at this; exact dec_ne _ this
theorem itoa_zero : ofL (Lib.itoa 0) = { data := #[48] } := by
  rw [itoa_pos (by decide), Lib.decDigits, dif_pos (by decide)]; rfl
theorem itoa_one : ofL (Lib.itoa 1) = { data := #[49] } := by
  rw [itoa_pos (by decide), Lib.decDigits, dif_pos (by decide)]; rfl
theorem listT_ne {l : List Int} (h : waitsL l = true) (hne : l ≠ []) : ofL (listT l) ≠ { data := #[] } := fun e => by
  have h1 := rowN_list h hne
  rw [e] at h1
  have h2 : rowN { data := #[] } = none := by decide
  rw [h2] at h1; cases h1
theorem txtV_ne (v : V4) : ofL (txtV v) ≠ { data := #[] } := fun h => by
  have : txtV v = [] := ofL_inj (h.trans (show ({ data := #[] } : ByteArray) = ofL [] from rfl))
  unfold txtV at this
  simp at this
theorem name_ne {s : ByteArray} (h : isName s = true) : s ≠ { data := #[] } := fun e => by
  subst e
  exact absurd h (by decide)
/-- what is put, word by word -/
def putAll (s : Spp) : List ByteArray :=
  putX kAfter (ofL (listT s.after)) { data := #[] } ((if s.held = true then putX kHeld { data := #[49] } { data := #[] } else id) (putX kRetries (ofL (Lib.itoa s.retries)) { data := #[48] } (putX kArray (ofL (Lib.itoa s.array)) { data := #[49] } (putX kPrio (ofL (Lib.itoa s.prio)) { data := #[48] }
    (putX kWall (ofL (Lib.itoa s.wall)) { data := #[] } (putX kDemand (ofL (txtV s.dem)) { data := #[] } (putX kNodes (ofL (Lib.itoa s.nodes)) { data := #[] } (putX kPart s.part { data := #[] } (putX kUser s.user { data := #[] } [])))))))))
theorem putAll_eq {s : Spp} (hs : mayS s = true) : putAll s = (pairsS s).map fun p => ofL (kv p.1 p.2) := by
  obtain ⟨q1, q2, q3, q4, q5, q6, q7, q8, q9⟩ := mayS_parts hs
  have b7 := betw_iff.1 q7
  have b8 := betw_iff.1 q8
  have b9 := betw_iff.1 q9
  unfold putAll
  rw [putX_yes (name_ne q1), putX_yes (name_ne q2), putX_yes itoa_ne, putX_yes (txtV_ne _), putX_yes itoa_ne]
  unfold pairsS
  simp only [List.map_append, List.map_cons, List.map_nil]
  have ek : ∀ (k : ByteArray) (s : ByteArray), ofL (kv k s.data.toList) = kvB k s := fun k s => by rw [← kvB_eq, ofL_self]
  rw [ek, ek]
  simp only [← kvB_eq]
  generalize kvB kUser s.user = a1
  generalize kvB kPart s.part = a2
  generalize kvB kNodes (ofL (Lib.itoa s.nodes)) = a3
  generalize kvB kDemand (ofL (txtV s.dem)) = a4
  generalize kvB kWall (ofL (Lib.itoa s.wall)) = a5
  have e1 : ∀ xs, putX kPrio (ofL (Lib.itoa s.prio)) { data := #[48] } xs = xs ++ List.map (fun p => kvB p.1 (ofL p.2)) (if s.prio = 0 then [] else [(kPrio, Lib.itoa s.prio)]) := fun xs => by
    by_cases c : s.prio = 0
    · rw [if_pos c, c]; unfold putX; rw [if_pos itoa_zero]; simp
    · rw [if_neg c, putX_yes (fun h => c (itoa_is b7.1 (by omega) (by decide) h))]; rfl
  have e2 : ∀ xs, putX kArray (ofL (Lib.itoa s.array)) { data := #[49] } xs = xs ++ List.map (fun p => kvB p.1 (ofL p.2)) (if s.array = 1 then [] else [(kArray, Lib.itoa s.array)]) := fun xs => by
    by_cases c : s.array = 1
    · rw [if_pos c, c]; unfold putX; rw [if_pos itoa_one]; simp
    · rw [if_neg c, putX_yes (fun h => c (itoa_is (by omega) (by omega) (by decide) h))]; rfl
  have e3 : ∀ xs, putX kRetries (ofL (Lib.itoa s.retries)) { data := #[48] } xs = xs ++ List.map (fun p => kvB p.1 (ofL p.2)) (if s.retries = 0 then [] else [(kRetries, Lib.itoa s.retries)]) := fun xs => by
    by_cases c : s.retries = 0
    · rw [if_pos c, c]; unfold putX; rw [if_pos itoa_zero]; simp
    · rw [if_neg c, putX_yes (fun h => c (itoa_is b9.1 (by omega) (by decide) h))]; rfl
  have e4 : ∀ xs : List ByteArray, (if s.held = true then putX kHeld { data := #[49] } { data := #[] } else id) xs = xs ++ List.map (fun p => kvB p.1 (ofL p.2)) (if s.held = true then [(kHeld, [49])] else []) := fun xs => by
    by_cases c : s.held = true
    · rw [if_pos c, if_pos c, putX_yes (by decide)]; rfl
    · rw [if_neg c, if_neg c]; simp
  have e5 : ∀ xs, putX kAfter (ofL (listT s.after)) { data := #[] } xs = xs ++ List.map (fun p => kvB p.1 (ofL p.2)) (if s.after = [] then [] else [(kAfter, listT s.after)]) := fun xs => by
    by_cases c : s.after = []
    · rw [if_pos c, c]; unfold putX; rw [if_pos (show ofL (listT []) = { data := #[] } from rfl)]; simp
    · rw [if_neg c, putX_yes (listT_ne q4 c)]; rfl
  rw [e1, e2, e3, e4, e5]
  simp
theorem putAll_join {s : Spp} (hs : mayS s = true) : Lib.join ((putAll s).map (·.data.toList)) [32] = textS s := by
  rw [putAll_eq hs, textS_may hs, List.map_map]
  unfold kvs
  congr 1
theorem textS_len {s : Spp} (hs : mayS s = true) : (textS s).length ≤ 1810 := by
  rw [textS_may hs]
  exact join_size hs (fun p h => h) (pairs_len s)

/-- what stands while words are put -/
structure StW (w : World) (x : Spv) (vb m : Nat) (xs : List ByteArray) (W : World) : Prop where
  low : Below w.heap.size w W
  box : W.heap[w.heap.size]? = some (.cells x.cells 26 (0, 0))
  put : PutW vb xs W
  lt : w.heap.size < vb
  few : xs.length ≤ m
theorem StW.on {w W W' : World} {x : Spv} {vb m : Nat} {xs : List ByteArray} (h : StW w x vb m xs W) (hb : Below W.heap.size W W') : StW w x vb m xs W' :=
  ⟨h.low.trans (hb.mono h.low.size), blk_below hb h.box (blk_lt h.box), h.put.low hb, h.lt, h.few⟩
theorem StW.step {w W W' : World} {x : Spv} {vb m : Nat} {xs : List ByteArray} {k v u : ByteArray} (h : StW w x vb m xs W) (hp : PutW vb (putX k v u xs) W') (hb : Below vb W W') : StW w x vb (m + 1) (putX k v u xs) W' :=
  ⟨h.low.trans (hb.mono (Nat.le_of_lt h.lt)), blk_below hb h.box h.lt, hp, h.lt, putX_len h.few⟩
set_option maxRecDepth 100000 in
set_option maxHeartbeats 3200000 in
theorem stext_any (x : Spv) (w : World) (hx : x.ok w) (ht : Tb w) : Calls Tryz.prog 26 #[x.val] w fun e w' => e = .returned (.string (ofL (textS x.pl))) ∧ Below w.heap.size w w' := by
  have hB0 := BoxC.new w x
  have hk := check_any x _ (hB0.ok hx)
  by_cases hs : mayS x.pl = true
  rotate_left
  · have hte : textS x.pl = [] := if_neg hs
    have he : errS x.pl = 80 := if_neg hs
    rw [he] at hk
    obtain ⟨⟨user, part, nodes, ⟨da, db, dc, dd⟩, wall, prio, array, retries, held, after⟩, so, n, cp⟩ := x
    replace hte := Lib.hid hte; replace hk := Lib.hid hk; replace hB0 := Lib.hid hB0; replace hx := Lib.hid hx; replace hs := Lib.hid hs; replace he := Lib.hid he; replace ht := Lib.hid ht
    go_enter Tryz.func26, Tryz.ntmps26
    go_wp2_with fail
    refine hk.out.mono ?_
    rintro e w1 ⟨rfl, hb⟩
    have hB1 := hB0.out.below hb
    replace hB1 := Lib.hid hB1; replace hb := Lib.hid hb
    go_wp2
    go_ret
    exact ⟨by rw [hte.out]; rfl, hB1.out.low⟩
  have he : errS x.pl = 0 := if_pos hs
  rw [he] at hk
  obtain ⟨q1, q2, q3, q4, q5, q6, q7, q8, q9⟩ := mayS_parts hs
  have qd := demOk_iff.1 q3
  have a1 := isName_le q1
  have a2 := isName_le q2
  have hv64 := v64_cap (capOk_right qd.1)
  have a3 := txtV_len hv64
  have a4 := listT_len q4
  have b5 := betw_iff.1 q5
  have b6 := betw_iff.1 q6
  have b7 := betw_iff.1 q7
  have b8 := betw_iff.1 q8
  have b9 := betw_iff.1 q9
  have d5 := itoa_bd (n := x.pl.nodes) (by omega) (by omega)
  have d6 := itoa_bd (n := x.pl.wall) (by omega) (by omega)
  have d7 := itoa_bd (n := x.pl.prio) (by omega) (by omega)
  have d8 := itoa_bd (n := x.pl.array) (by omega) (by omega)
  have d9 := itoa_bd (n := x.pl.retries) (by omega) (by omega)
  obtain ⟨V1, hV1⟩ : ∃ V, V = ofL (Lib.itoa x.pl.nodes) := ⟨_, rfl⟩
  obtain ⟨V2, hV2⟩ : ∃ V, V = ofL (txtV x.pl.dem) := ⟨_, rfl⟩
  obtain ⟨V3, hV3⟩ : ∃ V, V = ofL (Lib.itoa x.pl.wall) := ⟨_, rfl⟩
  obtain ⟨V4', hV4⟩ : ∃ V, V = ofL (Lib.itoa x.pl.prio) := ⟨_, rfl⟩
  obtain ⟨V5, hV5⟩ : ∃ V, V = ofL (Lib.itoa x.pl.array) := ⟨_, rfl⟩
  obtain ⟨V6, hV6⟩ : ∃ V, V = ofL (Lib.itoa x.pl.retries) := ⟨_, rfl⟩
  obtain ⟨V7, hV7⟩ : ∃ V, V = ofL (listT x.pl.after) := ⟨_, rfl⟩
  have s1 : V1.size ≤ 4096 := by rw [hV1, ofL_size]; omega
  have s2 : V2.size ≤ 4096 := by rw [hV2, ofL_size]; omega
  have s3 : V3.size ≤ 4096 := by rw [hV3, ofL_size]; omega
  have s4 : V4'.size ≤ 4096 := by rw [hV4, ofL_size]; omega
  have s5 : V5.size ≤ 4096 := by rw [hV5, ofL_size]; omega
  have s6 : V6.size ≤ 4096 := by rw [hV6, ofL_size]; omega
  have s7 : V7.size ≤ 4096 := by rw [hV7, ofL_size]; omega
  have k1 : ∀ W, Below w.heap.size w W → Calls Tryz.prog 62 #[.int .i64 x.pl.nodes] W fun e w' => e = .returned (.string V1) ∧ Below W.heap.size W w' := fun W h => by rw [hV1]; exact itoa_call _ (by omega) (by omega) W (ht.low h)
  have k2 : ∀ W, Below w.heap.size w W → Calls Tryz.prog 63 #[x.pl.dem.val] W fun e w' => e = .returned (.string V2) ∧ Below W.heap.size W w' := fun W h => by rw [hV2]; exact vtext_any _ hv64 W (ht.low h)
  have k3 : ∀ W, Below w.heap.size w W → Calls Tryz.prog 62 #[.int .i64 x.pl.wall] W fun e w' => e = .returned (.string V3) ∧ Below W.heap.size W w' := fun W h => by rw [hV3]; exact itoa_call _ (by omega) (by omega) W (ht.low h)
  have k4 : ∀ W, Below w.heap.size w W → Calls Tryz.prog 62 #[.int .i64 x.pl.prio] W fun e w' => e = .returned (.string V4') ∧ Below W.heap.size W w' := fun W h => by rw [hV4]; exact itoa_call _ (by omega) (by omega) W (ht.low h)
  have k5 : ∀ W, Below w.heap.size w W → Calls Tryz.prog 62 #[.int .i64 x.pl.array] W fun e w' => e = .returned (.string V5) ∧ Below W.heap.size W w' := fun W h => by rw [hV5]; exact itoa_call _ (by omega) (by omega) W (ht.low h)
  have k6 : ∀ W, Below w.heap.size w W → Calls Tryz.prog 62 #[.int .i64 x.pl.retries] W fun e w' => e = .returned (.string V6) ∧ Below W.heap.size W w' := fun W h => by rw [hV6]; exact itoa_call _ (by omega) (by omega) W (ht.low h)
  have k7 : ∀ W, Below w.heap.size w W → Calls Tryz.prog 64 #[.slice x.so x.n x.c] W fun e w' => e = .returned (.string V7) ∧ Below W.heap.size W w' := fun W h => by rw [hV7]; exact list_any _ _ _ _ W (hx.low h).after q4 (ht.low h)
  have hall : putAll x.pl = putX kAfter V7 { data := #[] } ((if x.pl.held = true then putX kHeld { data := #[49] } { data := #[] } else id) (putX kRetries V6 { data := #[48] } (putX kArray V5 { data := #[49] } (putX kPrio V4' { data := #[48] } (putX kWall V3 { data := #[] } (putX kDemand V2 { data := #[] } (putX kNodes V1 { data := #[] } (putX kPart x.pl.part { data := #[] } (putX kUser x.pl.user { data := #[] } []))))))))) := by
    rw [hV1, hV2, hV3, hV4, hV5, hV6, hV7]; rfl
  have textEnd : ∀ (vb m : Nat) (W : World), StW w x vb m (putAll x.pl) W → ∃ sv, W.heap[vb]? = some (.cells #[sv] 71 (0, 0)) ∧ True ∧ Calls Tryz.prog 65 #[sv, .string { data := #[32] }] W fun e w' => e = .returned (.string (ofL (textS x.pl))) ∧ Below W.heap.size W w' := fun vb m W h => by
    obtain ⟨sv, e1, e2⟩ := h.put.ex
    refine ⟨sv, e1, trivial, ?_⟩
    have hl := textS_len hs
    have hj := joinO_call e2 { data := #[32] } (by rw [putAll_eq hs, List.length_map]; have := pairs_len x.pl; omega) (by show (Lib.join ((putAll x.pl).map (·.data.toList)) [32]).length ≤ _; rw [putAll_join hs]; omega)
    rw [show (Lib.join ((putAll x.pl).map (·.data.toList)) ({ data := #[32] } : ByteArray).data.toList) = textS x.pl from putAll_join hs] at hj
    exact hj
  rw [hall] at textEnd
  obtain ⟨T, hT⟩ : ∃ T, T = ofL (textS x.pl) := ⟨_, rfl⟩
  rw [← hT] at textEnd ⊢
  clear hV1 hV2 hV3 hV4 hV5 hV6 hV7 q1 q2 q3 q4 q5 q6 q7 q8 q9 qd hv64 a3 a4 b5 b6 b7 b8 b9 d5 d6 d7 d8 d9 hs he hall hT
  obtain ⟨⟨user, part, nodes, ⟨da, db, dc, dd⟩, wall, prio, array, retries, held, after⟩, so, n, cp⟩ := x
  replace k1 := Lib.hid k1; replace k2 := Lib.hid k2; replace k3 := Lib.hid k3; replace k4 := Lib.hid k4; replace k5 := Lib.hid k5; replace k6 := Lib.hid k6; replace k7 := Lib.hid k7; replace hk := Lib.hid hk; replace hx := Lib.hid hx; replace hB0 := Lib.hid hB0; replace textEnd := Lib.hid textEnd; replace s1 := Lib.hid s1; replace s2 := Lib.hid s2; replace s3 := Lib.hid s3; replace s4 := Lib.hid s4; replace s5 := Lib.hid s5; replace s6 := Lib.hid s6; replace s7 := Lib.hid s7; replace a1 := Lib.hid a1; replace a2 := Lib.hid a2; replace ht := Lib.hid ht
  go_enter Tryz.func26, Tryz.ntmps26
  go_wp2_with fail
  refine hk.out.mono ?_
  rintro e w1 ⟨rfl, hb⟩
  have hB1 := hB0.out.below hb
  have hS0 : StW w ⟨⟨user, part, nodes, ⟨da, db, dc, dd⟩, wall, prio, array, retries, held, after⟩, so, n, cp⟩ w1.heap.size 0 [] (w1.alloc (.cells #[.slice none 0 0] 71 (0, 0))) :=
    ⟨hB1.low.alloc hB1.low.size _, blk_old _ hB1.box, ⟨_, blk_new _ _, own_empty _ _⟩, blk_lt hB1.box, by decide⟩
  have c0 : (w1.alloc (.cells #[.slice none 0 0] 71 (0, 0))).cell? ⟨w.heap.size, 0, none⟩ = some (.string user) := blk_cell hS0.box 0
  have c1 : (w1.alloc (.cells #[.slice none 0 0] 71 (0, 0))).cell? ⟨w.heap.size, 1, none⟩ = some (.string part) := blk_cell hS0.box 1
  have c2 : (w1.alloc (.cells #[.slice none 0 0] 71 (0, 0))).cell? ⟨w.heap.size, 2, none⟩ = some (.int .i64 nodes) := blk_cell hS0.box 2
  have c3 : (w1.alloc (.cells #[.slice none 0 0] 71 (0, 0))).cell? ⟨w.heap.size, 3, none⟩ = some (.int .i64 da) := blk_cell hS0.box 3
  have c4 : (w1.alloc (.cells #[.slice none 0 0] 71 (0, 0))).cell? ⟨w.heap.size, 4, none⟩ = some (.int .i64 db) := blk_cell hS0.box 4
  have c5 : (w1.alloc (.cells #[.slice none 0 0] 71 (0, 0))).cell? ⟨w.heap.size, 5, none⟩ = some (.int .i64 dc) := blk_cell hS0.box 5
  have c6 : (w1.alloc (.cells #[.slice none 0 0] 71 (0, 0))).cell? ⟨w.heap.size, 6, none⟩ = some (.int .i64 dd) := blk_cell hS0.box 6
  have c7 : (w1.alloc (.cells #[.slice none 0 0] 71 (0, 0))).cell? ⟨w.heap.size, 7, none⟩ = some (.int .i64 wall) := blk_cell hS0.box 7
  have c8 : (w1.alloc (.cells #[.slice none 0 0] 71 (0, 0))).cell? ⟨w.heap.size, 8, none⟩ = some (.int .i64 prio) := blk_cell hS0.box 8
  have c9 : (w1.alloc (.cells #[.slice none 0 0] 71 (0, 0))).cell? ⟨w.heap.size, 9, none⟩ = some (.int .i64 array) := blk_cell hS0.box 9
  have c10 : (w1.alloc (.cells #[.slice none 0 0] 71 (0, 0))).cell? ⟨w.heap.size, 10, none⟩ = some (.int .i64 retries) := blk_cell hS0.box 10
  have c11 : (w1.alloc (.cells #[.slice none 0 0] 71 (0, 0))).cell? ⟨w.heap.size, 11, none⟩ = some (.bool held) := blk_cell hS0.box 11
  have c12 : (w1.alloc (.cells #[.slice none 0 0] 71 (0, 0))).cell? ⟨w.heap.size, 12, none⟩ = some (.slice so n cp) := blk_cell hS0.box 12
  replace hB1 := Lib.hid hB1; replace hb := Lib.hid hb; replace hS0 := Lib.hid hS0
  go_wp2_with fail
  refine (putw_any _ _ kUser user { data := #[] } _ (hS0).out.put (Nat.le_trans (hS0).out.few (by decide)) (by decide) (by have := a1.out; show user.size ≤ 4096; omega)).mono ?_
  rintro e w2 ⟨rfl, hp, hb⟩
  have hS1 := (hS0).out.step hp hb
  clear c0 c1 c2 c3 c4 c5 c6 c7 c8 c9 c10 c11 c12
  have c0 : w2.cell? ⟨w.heap.size, 0, none⟩ = some (.string user) := blk_cell (hS1).box 0
  have c1 : w2.cell? ⟨w.heap.size, 1, none⟩ = some (.string part) := blk_cell (hS1).box 1
  have c2 : w2.cell? ⟨w.heap.size, 2, none⟩ = some (.int .i64 nodes) := blk_cell (hS1).box 2
  have c3 : w2.cell? ⟨w.heap.size, 3, none⟩ = some (.int .i64 da) := blk_cell (hS1).box 3
  have c4 : w2.cell? ⟨w.heap.size, 4, none⟩ = some (.int .i64 db) := blk_cell (hS1).box 4
  have c5 : w2.cell? ⟨w.heap.size, 5, none⟩ = some (.int .i64 dc) := blk_cell (hS1).box 5
  have c6 : w2.cell? ⟨w.heap.size, 6, none⟩ = some (.int .i64 dd) := blk_cell (hS1).box 6
  have c7 : w2.cell? ⟨w.heap.size, 7, none⟩ = some (.int .i64 wall) := blk_cell (hS1).box 7
  have c8 : w2.cell? ⟨w.heap.size, 8, none⟩ = some (.int .i64 prio) := blk_cell (hS1).box 8
  have c9 : w2.cell? ⟨w.heap.size, 9, none⟩ = some (.int .i64 array) := blk_cell (hS1).box 9
  have c10 : w2.cell? ⟨w.heap.size, 10, none⟩ = some (.int .i64 retries) := blk_cell (hS1).box 10
  have c11 : w2.cell? ⟨w.heap.size, 11, none⟩ = some (.bool held) := blk_cell (hS1).box 11
  have c12 : w2.cell? ⟨w.heap.size, 12, none⟩ = some (.slice so n cp) := blk_cell (hS1).box 12
  replace hS1 := Lib.hid hS1; replace hp := Lib.hid hp; replace hb := Lib.hid hb
  clear hb hp
  go_wp2_with fail
  refine (putw_any _ _ kPart part { data := #[] } _ (hS1).out.put (Nat.le_trans (hS1).out.few (by decide)) (by decide) (by have := a2.out; show part.size ≤ 4096; omega)).mono ?_
  rintro e w3 ⟨rfl, hp, hb⟩
  have hS2 := (hS1).out.step hp hb
  clear c0 c1 c2 c3 c4 c5 c6 c7 c8 c9 c10 c11 c12
  have c0 : w3.cell? ⟨w.heap.size, 0, none⟩ = some (.string user) := blk_cell (hS2).box 0
  have c1 : w3.cell? ⟨w.heap.size, 1, none⟩ = some (.string part) := blk_cell (hS2).box 1
  have c2 : w3.cell? ⟨w.heap.size, 2, none⟩ = some (.int .i64 nodes) := blk_cell (hS2).box 2
  have c3 : w3.cell? ⟨w.heap.size, 3, none⟩ = some (.int .i64 da) := blk_cell (hS2).box 3
  have c4 : w3.cell? ⟨w.heap.size, 4, none⟩ = some (.int .i64 db) := blk_cell (hS2).box 4
  have c5 : w3.cell? ⟨w.heap.size, 5, none⟩ = some (.int .i64 dc) := blk_cell (hS2).box 5
  have c6 : w3.cell? ⟨w.heap.size, 6, none⟩ = some (.int .i64 dd) := blk_cell (hS2).box 6
  have c7 : w3.cell? ⟨w.heap.size, 7, none⟩ = some (.int .i64 wall) := blk_cell (hS2).box 7
  have c8 : w3.cell? ⟨w.heap.size, 8, none⟩ = some (.int .i64 prio) := blk_cell (hS2).box 8
  have c9 : w3.cell? ⟨w.heap.size, 9, none⟩ = some (.int .i64 array) := blk_cell (hS2).box 9
  have c10 : w3.cell? ⟨w.heap.size, 10, none⟩ = some (.int .i64 retries) := blk_cell (hS2).box 10
  have c11 : w3.cell? ⟨w.heap.size, 11, none⟩ = some (.bool held) := blk_cell (hS2).box 11
  have c12 : w3.cell? ⟨w.heap.size, 12, none⟩ = some (.slice so n cp) := blk_cell (hS2).box 12
  replace hS2 := Lib.hid hS2; replace hp := Lib.hid hp; replace hb := Lib.hid hb
  clear hb hp
  go_wp2_with fail
  refine (k1.out _ hS2.out.low).mono ?_
  rintro e w4 ⟨rfl, hb⟩
  have hS3 := (hS2).out.on hb
  clear c0 c1 c2 c3 c4 c5 c6 c7 c8 c9 c10 c11 c12
  have c0 : w4.cell? ⟨w.heap.size, 0, none⟩ = some (.string user) := blk_cell (hS3).box 0
  have c1 : w4.cell? ⟨w.heap.size, 1, none⟩ = some (.string part) := blk_cell (hS3).box 1
  have c2 : w4.cell? ⟨w.heap.size, 2, none⟩ = some (.int .i64 nodes) := blk_cell (hS3).box 2
  have c3 : w4.cell? ⟨w.heap.size, 3, none⟩ = some (.int .i64 da) := blk_cell (hS3).box 3
  have c4 : w4.cell? ⟨w.heap.size, 4, none⟩ = some (.int .i64 db) := blk_cell (hS3).box 4
  have c5 : w4.cell? ⟨w.heap.size, 5, none⟩ = some (.int .i64 dc) := blk_cell (hS3).box 5
  have c6 : w4.cell? ⟨w.heap.size, 6, none⟩ = some (.int .i64 dd) := blk_cell (hS3).box 6
  have c7 : w4.cell? ⟨w.heap.size, 7, none⟩ = some (.int .i64 wall) := blk_cell (hS3).box 7
  have c8 : w4.cell? ⟨w.heap.size, 8, none⟩ = some (.int .i64 prio) := blk_cell (hS3).box 8
  have c9 : w4.cell? ⟨w.heap.size, 9, none⟩ = some (.int .i64 array) := blk_cell (hS3).box 9
  have c10 : w4.cell? ⟨w.heap.size, 10, none⟩ = some (.int .i64 retries) := blk_cell (hS3).box 10
  have c11 : w4.cell? ⟨w.heap.size, 11, none⟩ = some (.bool held) := blk_cell (hS3).box 11
  have c12 : w4.cell? ⟨w.heap.size, 12, none⟩ = some (.slice so n cp) := blk_cell (hS3).box 12
  replace hS3 := Lib.hid hS3; replace hb := Lib.hid hb
  clear hb
  go_wp2_with fail
  refine (putw_any _ _ kNodes V1 { data := #[] } _ (hS3).out.put (Nat.le_trans (hS3).out.few (by decide)) (by decide) s1.out).mono ?_
  rintro e w5 ⟨rfl, hp, hb⟩
  have hS4 := (hS3).out.step hp hb
  clear c0 c1 c2 c3 c4 c5 c6 c7 c8 c9 c10 c11 c12
  have c0 : w5.cell? ⟨w.heap.size, 0, none⟩ = some (.string user) := blk_cell (hS4).box 0
  have c1 : w5.cell? ⟨w.heap.size, 1, none⟩ = some (.string part) := blk_cell (hS4).box 1
  have c2 : w5.cell? ⟨w.heap.size, 2, none⟩ = some (.int .i64 nodes) := blk_cell (hS4).box 2
  have c3 : w5.cell? ⟨w.heap.size, 3, none⟩ = some (.int .i64 da) := blk_cell (hS4).box 3
  have c4 : w5.cell? ⟨w.heap.size, 4, none⟩ = some (.int .i64 db) := blk_cell (hS4).box 4
  have c5 : w5.cell? ⟨w.heap.size, 5, none⟩ = some (.int .i64 dc) := blk_cell (hS4).box 5
  have c6 : w5.cell? ⟨w.heap.size, 6, none⟩ = some (.int .i64 dd) := blk_cell (hS4).box 6
  have c7 : w5.cell? ⟨w.heap.size, 7, none⟩ = some (.int .i64 wall) := blk_cell (hS4).box 7
  have c8 : w5.cell? ⟨w.heap.size, 8, none⟩ = some (.int .i64 prio) := blk_cell (hS4).box 8
  have c9 : w5.cell? ⟨w.heap.size, 9, none⟩ = some (.int .i64 array) := blk_cell (hS4).box 9
  have c10 : w5.cell? ⟨w.heap.size, 10, none⟩ = some (.int .i64 retries) := blk_cell (hS4).box 10
  have c11 : w5.cell? ⟨w.heap.size, 11, none⟩ = some (.bool held) := blk_cell (hS4).box 11
  have c12 : w5.cell? ⟨w.heap.size, 12, none⟩ = some (.slice so n cp) := blk_cell (hS4).box 12
  replace hS4 := Lib.hid hS4; replace hp := Lib.hid hp; replace hb := Lib.hid hb
  clear hb hp
  go_wp2_with fail
  refine (k2.out _ hS4.out.low).mono ?_
  rintro e w6 ⟨rfl, hb⟩
  have hS5 := (hS4).out.on hb
  clear c0 c1 c2 c3 c4 c5 c6 c7 c8 c9 c10 c11 c12
  have c0 : w6.cell? ⟨w.heap.size, 0, none⟩ = some (.string user) := blk_cell (hS5).box 0
  have c1 : w6.cell? ⟨w.heap.size, 1, none⟩ = some (.string part) := blk_cell (hS5).box 1
  have c2 : w6.cell? ⟨w.heap.size, 2, none⟩ = some (.int .i64 nodes) := blk_cell (hS5).box 2
  have c3 : w6.cell? ⟨w.heap.size, 3, none⟩ = some (.int .i64 da) := blk_cell (hS5).box 3
  have c4 : w6.cell? ⟨w.heap.size, 4, none⟩ = some (.int .i64 db) := blk_cell (hS5).box 4
  have c5 : w6.cell? ⟨w.heap.size, 5, none⟩ = some (.int .i64 dc) := blk_cell (hS5).box 5
  have c6 : w6.cell? ⟨w.heap.size, 6, none⟩ = some (.int .i64 dd) := blk_cell (hS5).box 6
  have c7 : w6.cell? ⟨w.heap.size, 7, none⟩ = some (.int .i64 wall) := blk_cell (hS5).box 7
  have c8 : w6.cell? ⟨w.heap.size, 8, none⟩ = some (.int .i64 prio) := blk_cell (hS5).box 8
  have c9 : w6.cell? ⟨w.heap.size, 9, none⟩ = some (.int .i64 array) := blk_cell (hS5).box 9
  have c10 : w6.cell? ⟨w.heap.size, 10, none⟩ = some (.int .i64 retries) := blk_cell (hS5).box 10
  have c11 : w6.cell? ⟨w.heap.size, 11, none⟩ = some (.bool held) := blk_cell (hS5).box 11
  have c12 : w6.cell? ⟨w.heap.size, 12, none⟩ = some (.slice so n cp) := blk_cell (hS5).box 12
  replace hS5 := Lib.hid hS5; replace hb := Lib.hid hb
  clear hb
  go_wp2_with fail
  refine (putw_any _ _ kDemand V2 { data := #[] } _ (hS5).out.put (Nat.le_trans (hS5).out.few (by decide)) (by decide) s2.out).mono ?_
  rintro e w7 ⟨rfl, hp, hb⟩
  have hS6 := (hS5).out.step hp hb
  clear c0 c1 c2 c3 c4 c5 c6 c7 c8 c9 c10 c11 c12
  have c0 : w7.cell? ⟨w.heap.size, 0, none⟩ = some (.string user) := blk_cell (hS6).box 0
  have c1 : w7.cell? ⟨w.heap.size, 1, none⟩ = some (.string part) := blk_cell (hS6).box 1
  have c2 : w7.cell? ⟨w.heap.size, 2, none⟩ = some (.int .i64 nodes) := blk_cell (hS6).box 2
  have c3 : w7.cell? ⟨w.heap.size, 3, none⟩ = some (.int .i64 da) := blk_cell (hS6).box 3
  have c4 : w7.cell? ⟨w.heap.size, 4, none⟩ = some (.int .i64 db) := blk_cell (hS6).box 4
  have c5 : w7.cell? ⟨w.heap.size, 5, none⟩ = some (.int .i64 dc) := blk_cell (hS6).box 5
  have c6 : w7.cell? ⟨w.heap.size, 6, none⟩ = some (.int .i64 dd) := blk_cell (hS6).box 6
  have c7 : w7.cell? ⟨w.heap.size, 7, none⟩ = some (.int .i64 wall) := blk_cell (hS6).box 7
  have c8 : w7.cell? ⟨w.heap.size, 8, none⟩ = some (.int .i64 prio) := blk_cell (hS6).box 8
  have c9 : w7.cell? ⟨w.heap.size, 9, none⟩ = some (.int .i64 array) := blk_cell (hS6).box 9
  have c10 : w7.cell? ⟨w.heap.size, 10, none⟩ = some (.int .i64 retries) := blk_cell (hS6).box 10
  have c11 : w7.cell? ⟨w.heap.size, 11, none⟩ = some (.bool held) := blk_cell (hS6).box 11
  have c12 : w7.cell? ⟨w.heap.size, 12, none⟩ = some (.slice so n cp) := blk_cell (hS6).box 12
  replace hS6 := Lib.hid hS6; replace hp := Lib.hid hp; replace hb := Lib.hid hb
  clear hb hp
  go_wp2_with fail
  refine (k3.out _ hS6.out.low).mono ?_
  rintro e w8 ⟨rfl, hb⟩
  have hS7 := (hS6).out.on hb
  clear c0 c1 c2 c3 c4 c5 c6 c7 c8 c9 c10 c11 c12
  have c0 : w8.cell? ⟨w.heap.size, 0, none⟩ = some (.string user) := blk_cell (hS7).box 0
  have c1 : w8.cell? ⟨w.heap.size, 1, none⟩ = some (.string part) := blk_cell (hS7).box 1
  have c2 : w8.cell? ⟨w.heap.size, 2, none⟩ = some (.int .i64 nodes) := blk_cell (hS7).box 2
  have c3 : w8.cell? ⟨w.heap.size, 3, none⟩ = some (.int .i64 da) := blk_cell (hS7).box 3
  have c4 : w8.cell? ⟨w.heap.size, 4, none⟩ = some (.int .i64 db) := blk_cell (hS7).box 4
  have c5 : w8.cell? ⟨w.heap.size, 5, none⟩ = some (.int .i64 dc) := blk_cell (hS7).box 5
  have c6 : w8.cell? ⟨w.heap.size, 6, none⟩ = some (.int .i64 dd) := blk_cell (hS7).box 6
  have c7 : w8.cell? ⟨w.heap.size, 7, none⟩ = some (.int .i64 wall) := blk_cell (hS7).box 7
  have c8 : w8.cell? ⟨w.heap.size, 8, none⟩ = some (.int .i64 prio) := blk_cell (hS7).box 8
  have c9 : w8.cell? ⟨w.heap.size, 9, none⟩ = some (.int .i64 array) := blk_cell (hS7).box 9
  have c10 : w8.cell? ⟨w.heap.size, 10, none⟩ = some (.int .i64 retries) := blk_cell (hS7).box 10
  have c11 : w8.cell? ⟨w.heap.size, 11, none⟩ = some (.bool held) := blk_cell (hS7).box 11
  have c12 : w8.cell? ⟨w.heap.size, 12, none⟩ = some (.slice so n cp) := blk_cell (hS7).box 12
  replace hS7 := Lib.hid hS7; replace hb := Lib.hid hb
  clear hb
  go_wp2_with fail
  refine (putw_any _ _ kWall V3 { data := #[] } _ (hS7).out.put (Nat.le_trans (hS7).out.few (by decide)) (by decide) s3.out).mono ?_
  rintro e w9 ⟨rfl, hp, hb⟩
  have hS8 := (hS7).out.step hp hb
  clear c0 c1 c2 c3 c4 c5 c6 c7 c8 c9 c10 c11 c12
  have c0 : w9.cell? ⟨w.heap.size, 0, none⟩ = some (.string user) := blk_cell (hS8).box 0
  have c1 : w9.cell? ⟨w.heap.size, 1, none⟩ = some (.string part) := blk_cell (hS8).box 1
  have c2 : w9.cell? ⟨w.heap.size, 2, none⟩ = some (.int .i64 nodes) := blk_cell (hS8).box 2
  have c3 : w9.cell? ⟨w.heap.size, 3, none⟩ = some (.int .i64 da) := blk_cell (hS8).box 3
  have c4 : w9.cell? ⟨w.heap.size, 4, none⟩ = some (.int .i64 db) := blk_cell (hS8).box 4
  have c5 : w9.cell? ⟨w.heap.size, 5, none⟩ = some (.int .i64 dc) := blk_cell (hS8).box 5
  have c6 : w9.cell? ⟨w.heap.size, 6, none⟩ = some (.int .i64 dd) := blk_cell (hS8).box 6
  have c7 : w9.cell? ⟨w.heap.size, 7, none⟩ = some (.int .i64 wall) := blk_cell (hS8).box 7
  have c8 : w9.cell? ⟨w.heap.size, 8, none⟩ = some (.int .i64 prio) := blk_cell (hS8).box 8
  have c9 : w9.cell? ⟨w.heap.size, 9, none⟩ = some (.int .i64 array) := blk_cell (hS8).box 9
  have c10 : w9.cell? ⟨w.heap.size, 10, none⟩ = some (.int .i64 retries) := blk_cell (hS8).box 10
  have c11 : w9.cell? ⟨w.heap.size, 11, none⟩ = some (.bool held) := blk_cell (hS8).box 11
  have c12 : w9.cell? ⟨w.heap.size, 12, none⟩ = some (.slice so n cp) := blk_cell (hS8).box 12
  replace hS8 := Lib.hid hS8; replace hp := Lib.hid hp; replace hb := Lib.hid hb
  clear hb hp
  go_wp2_with fail
  refine (k4.out _ hS8.out.low).mono ?_
  rintro e w10 ⟨rfl, hb⟩
  have hS9 := (hS8).out.on hb
  clear c0 c1 c2 c3 c4 c5 c6 c7 c8 c9 c10 c11 c12
  have c0 : w10.cell? ⟨w.heap.size, 0, none⟩ = some (.string user) := blk_cell (hS9).box 0
  have c1 : w10.cell? ⟨w.heap.size, 1, none⟩ = some (.string part) := blk_cell (hS9).box 1
  have c2 : w10.cell? ⟨w.heap.size, 2, none⟩ = some (.int .i64 nodes) := blk_cell (hS9).box 2
  have c3 : w10.cell? ⟨w.heap.size, 3, none⟩ = some (.int .i64 da) := blk_cell (hS9).box 3
  have c4 : w10.cell? ⟨w.heap.size, 4, none⟩ = some (.int .i64 db) := blk_cell (hS9).box 4
  have c5 : w10.cell? ⟨w.heap.size, 5, none⟩ = some (.int .i64 dc) := blk_cell (hS9).box 5
  have c6 : w10.cell? ⟨w.heap.size, 6, none⟩ = some (.int .i64 dd) := blk_cell (hS9).box 6
  have c7 : w10.cell? ⟨w.heap.size, 7, none⟩ = some (.int .i64 wall) := blk_cell (hS9).box 7
  have c8 : w10.cell? ⟨w.heap.size, 8, none⟩ = some (.int .i64 prio) := blk_cell (hS9).box 8
  have c9 : w10.cell? ⟨w.heap.size, 9, none⟩ = some (.int .i64 array) := blk_cell (hS9).box 9
  have c10 : w10.cell? ⟨w.heap.size, 10, none⟩ = some (.int .i64 retries) := blk_cell (hS9).box 10
  have c11 : w10.cell? ⟨w.heap.size, 11, none⟩ = some (.bool held) := blk_cell (hS9).box 11
  have c12 : w10.cell? ⟨w.heap.size, 12, none⟩ = some (.slice so n cp) := blk_cell (hS9).box 12
  replace hS9 := Lib.hid hS9; replace hb := Lib.hid hb
  clear hb
  go_wp2_with fail
  refine (putw_any _ _ kPrio V4' { data := #[48] } _ (hS9).out.put (Nat.le_trans (hS9).out.few (by decide)) (by decide) s4.out).mono ?_
  rintro e w11 ⟨rfl, hp, hb⟩
  have hS10 := (hS9).out.step hp hb
  clear c0 c1 c2 c3 c4 c5 c6 c7 c8 c9 c10 c11 c12
  have c0 : w11.cell? ⟨w.heap.size, 0, none⟩ = some (.string user) := blk_cell (hS10).box 0
  have c1 : w11.cell? ⟨w.heap.size, 1, none⟩ = some (.string part) := blk_cell (hS10).box 1
  have c2 : w11.cell? ⟨w.heap.size, 2, none⟩ = some (.int .i64 nodes) := blk_cell (hS10).box 2
  have c3 : w11.cell? ⟨w.heap.size, 3, none⟩ = some (.int .i64 da) := blk_cell (hS10).box 3
  have c4 : w11.cell? ⟨w.heap.size, 4, none⟩ = some (.int .i64 db) := blk_cell (hS10).box 4
  have c5 : w11.cell? ⟨w.heap.size, 5, none⟩ = some (.int .i64 dc) := blk_cell (hS10).box 5
  have c6 : w11.cell? ⟨w.heap.size, 6, none⟩ = some (.int .i64 dd) := blk_cell (hS10).box 6
  have c7 : w11.cell? ⟨w.heap.size, 7, none⟩ = some (.int .i64 wall) := blk_cell (hS10).box 7
  have c8 : w11.cell? ⟨w.heap.size, 8, none⟩ = some (.int .i64 prio) := blk_cell (hS10).box 8
  have c9 : w11.cell? ⟨w.heap.size, 9, none⟩ = some (.int .i64 array) := blk_cell (hS10).box 9
  have c10 : w11.cell? ⟨w.heap.size, 10, none⟩ = some (.int .i64 retries) := blk_cell (hS10).box 10
  have c11 : w11.cell? ⟨w.heap.size, 11, none⟩ = some (.bool held) := blk_cell (hS10).box 11
  have c12 : w11.cell? ⟨w.heap.size, 12, none⟩ = some (.slice so n cp) := blk_cell (hS10).box 12
  replace hS10 := Lib.hid hS10; replace hp := Lib.hid hp; replace hb := Lib.hid hb
  clear hb hp
  go_wp2_with fail
  refine (k5.out _ hS10.out.low).mono ?_
  rintro e w12 ⟨rfl, hb⟩
  have hS11 := (hS10).out.on hb
  clear c0 c1 c2 c3 c4 c5 c6 c7 c8 c9 c10 c11 c12
  have c0 : w12.cell? ⟨w.heap.size, 0, none⟩ = some (.string user) := blk_cell (hS11).box 0
  have c1 : w12.cell? ⟨w.heap.size, 1, none⟩ = some (.string part) := blk_cell (hS11).box 1
  have c2 : w12.cell? ⟨w.heap.size, 2, none⟩ = some (.int .i64 nodes) := blk_cell (hS11).box 2
  have c3 : w12.cell? ⟨w.heap.size, 3, none⟩ = some (.int .i64 da) := blk_cell (hS11).box 3
  have c4 : w12.cell? ⟨w.heap.size, 4, none⟩ = some (.int .i64 db) := blk_cell (hS11).box 4
  have c5 : w12.cell? ⟨w.heap.size, 5, none⟩ = some (.int .i64 dc) := blk_cell (hS11).box 5
  have c6 : w12.cell? ⟨w.heap.size, 6, none⟩ = some (.int .i64 dd) := blk_cell (hS11).box 6
  have c7 : w12.cell? ⟨w.heap.size, 7, none⟩ = some (.int .i64 wall) := blk_cell (hS11).box 7
  have c8 : w12.cell? ⟨w.heap.size, 8, none⟩ = some (.int .i64 prio) := blk_cell (hS11).box 8
  have c9 : w12.cell? ⟨w.heap.size, 9, none⟩ = some (.int .i64 array) := blk_cell (hS11).box 9
  have c10 : w12.cell? ⟨w.heap.size, 10, none⟩ = some (.int .i64 retries) := blk_cell (hS11).box 10
  have c11 : w12.cell? ⟨w.heap.size, 11, none⟩ = some (.bool held) := blk_cell (hS11).box 11
  have c12 : w12.cell? ⟨w.heap.size, 12, none⟩ = some (.slice so n cp) := blk_cell (hS11).box 12
  replace hS11 := Lib.hid hS11; replace hb := Lib.hid hb
  clear hb
  go_wp2_with fail
  refine (putw_any _ _ kArray V5 { data := #[49] } _ (hS11).out.put (Nat.le_trans (hS11).out.few (by decide)) (by decide) s5.out).mono ?_
  rintro e w13 ⟨rfl, hp, hb⟩
  have hS12 := (hS11).out.step hp hb
  clear c0 c1 c2 c3 c4 c5 c6 c7 c8 c9 c10 c11 c12
  have c0 : w13.cell? ⟨w.heap.size, 0, none⟩ = some (.string user) := blk_cell (hS12).box 0
  have c1 : w13.cell? ⟨w.heap.size, 1, none⟩ = some (.string part) := blk_cell (hS12).box 1
  have c2 : w13.cell? ⟨w.heap.size, 2, none⟩ = some (.int .i64 nodes) := blk_cell (hS12).box 2
  have c3 : w13.cell? ⟨w.heap.size, 3, none⟩ = some (.int .i64 da) := blk_cell (hS12).box 3
  have c4 : w13.cell? ⟨w.heap.size, 4, none⟩ = some (.int .i64 db) := blk_cell (hS12).box 4
  have c5 : w13.cell? ⟨w.heap.size, 5, none⟩ = some (.int .i64 dc) := blk_cell (hS12).box 5
  have c6 : w13.cell? ⟨w.heap.size, 6, none⟩ = some (.int .i64 dd) := blk_cell (hS12).box 6
  have c7 : w13.cell? ⟨w.heap.size, 7, none⟩ = some (.int .i64 wall) := blk_cell (hS12).box 7
  have c8 : w13.cell? ⟨w.heap.size, 8, none⟩ = some (.int .i64 prio) := blk_cell (hS12).box 8
  have c9 : w13.cell? ⟨w.heap.size, 9, none⟩ = some (.int .i64 array) := blk_cell (hS12).box 9
  have c10 : w13.cell? ⟨w.heap.size, 10, none⟩ = some (.int .i64 retries) := blk_cell (hS12).box 10
  have c11 : w13.cell? ⟨w.heap.size, 11, none⟩ = some (.bool held) := blk_cell (hS12).box 11
  have c12 : w13.cell? ⟨w.heap.size, 12, none⟩ = some (.slice so n cp) := blk_cell (hS12).box 12
  replace hS12 := Lib.hid hS12; replace hp := Lib.hid hp; replace hb := Lib.hid hb
  clear hb hp
  go_wp2_with fail
  refine (k6.out _ hS12.out.low).mono ?_
  rintro e w14 ⟨rfl, hb⟩
  have hS13 := (hS12).out.on hb
  clear c0 c1 c2 c3 c4 c5 c6 c7 c8 c9 c10 c11 c12
  have c0 : w14.cell? ⟨w.heap.size, 0, none⟩ = some (.string user) := blk_cell (hS13).box 0
  have c1 : w14.cell? ⟨w.heap.size, 1, none⟩ = some (.string part) := blk_cell (hS13).box 1
  have c2 : w14.cell? ⟨w.heap.size, 2, none⟩ = some (.int .i64 nodes) := blk_cell (hS13).box 2
  have c3 : w14.cell? ⟨w.heap.size, 3, none⟩ = some (.int .i64 da) := blk_cell (hS13).box 3
  have c4 : w14.cell? ⟨w.heap.size, 4, none⟩ = some (.int .i64 db) := blk_cell (hS13).box 4
  have c5 : w14.cell? ⟨w.heap.size, 5, none⟩ = some (.int .i64 dc) := blk_cell (hS13).box 5
  have c6 : w14.cell? ⟨w.heap.size, 6, none⟩ = some (.int .i64 dd) := blk_cell (hS13).box 6
  have c7 : w14.cell? ⟨w.heap.size, 7, none⟩ = some (.int .i64 wall) := blk_cell (hS13).box 7
  have c8 : w14.cell? ⟨w.heap.size, 8, none⟩ = some (.int .i64 prio) := blk_cell (hS13).box 8
  have c9 : w14.cell? ⟨w.heap.size, 9, none⟩ = some (.int .i64 array) := blk_cell (hS13).box 9
  have c10 : w14.cell? ⟨w.heap.size, 10, none⟩ = some (.int .i64 retries) := blk_cell (hS13).box 10
  have c11 : w14.cell? ⟨w.heap.size, 11, none⟩ = some (.bool held) := blk_cell (hS13).box 11
  have c12 : w14.cell? ⟨w.heap.size, 12, none⟩ = some (.slice so n cp) := blk_cell (hS13).box 12
  replace hS13 := Lib.hid hS13; replace hb := Lib.hid hb
  clear hb
  go_wp2_with fail
  refine (putw_any _ _ kRetries V6 { data := #[48] } _ (hS13).out.put (Nat.le_trans (hS13).out.few (by decide)) (by decide) s6.out).mono ?_
  rintro e w15 ⟨rfl, hp, hb⟩
  have hS14 := (hS13).out.step hp hb
  clear c0 c1 c2 c3 c4 c5 c6 c7 c8 c9 c10 c11 c12
  have c0 : w15.cell? ⟨w.heap.size, 0, none⟩ = some (.string user) := blk_cell (hS14).box 0
  have c1 : w15.cell? ⟨w.heap.size, 1, none⟩ = some (.string part) := blk_cell (hS14).box 1
  have c2 : w15.cell? ⟨w.heap.size, 2, none⟩ = some (.int .i64 nodes) := blk_cell (hS14).box 2
  have c3 : w15.cell? ⟨w.heap.size, 3, none⟩ = some (.int .i64 da) := blk_cell (hS14).box 3
  have c4 : w15.cell? ⟨w.heap.size, 4, none⟩ = some (.int .i64 db) := blk_cell (hS14).box 4
  have c5 : w15.cell? ⟨w.heap.size, 5, none⟩ = some (.int .i64 dc) := blk_cell (hS14).box 5
  have c6 : w15.cell? ⟨w.heap.size, 6, none⟩ = some (.int .i64 dd) := blk_cell (hS14).box 6
  have c7 : w15.cell? ⟨w.heap.size, 7, none⟩ = some (.int .i64 wall) := blk_cell (hS14).box 7
  have c8 : w15.cell? ⟨w.heap.size, 8, none⟩ = some (.int .i64 prio) := blk_cell (hS14).box 8
  have c9 : w15.cell? ⟨w.heap.size, 9, none⟩ = some (.int .i64 array) := blk_cell (hS14).box 9
  have c10 : w15.cell? ⟨w.heap.size, 10, none⟩ = some (.int .i64 retries) := blk_cell (hS14).box 10
  have c11 : w15.cell? ⟨w.heap.size, 11, none⟩ = some (.bool held) := blk_cell (hS14).box 11
  have c12 : w15.cell? ⟨w.heap.size, 12, none⟩ = some (.slice so n cp) := blk_cell (hS14).box 12
  replace hS14 := Lib.hid hS14; replace hp := Lib.hid hp; replace hb := Lib.hid hb
  clear hb hp
  cases held with
  | false =>
    go_wp2_with fail
    refine (k7.out _ hS14.out.low).mono ?_
    rintro e w17 ⟨rfl, hb⟩
    have hS16 := (hS14).out.on hb
    clear c0 c1 c2 c3 c4 c5 c6 c7 c8 c9 c10 c12
    have c0 : w17.cell? ⟨w.heap.size, 0, none⟩ = some (.string user) := blk_cell (hS16).box 0
    have c1 : w17.cell? ⟨w.heap.size, 1, none⟩ = some (.string part) := blk_cell (hS16).box 1
    have c2 : w17.cell? ⟨w.heap.size, 2, none⟩ = some (.int .i64 nodes) := blk_cell (hS16).box 2
    have c3 : w17.cell? ⟨w.heap.size, 3, none⟩ = some (.int .i64 da) := blk_cell (hS16).box 3
    have c4 : w17.cell? ⟨w.heap.size, 4, none⟩ = some (.int .i64 db) := blk_cell (hS16).box 4
    have c5 : w17.cell? ⟨w.heap.size, 5, none⟩ = some (.int .i64 dc) := blk_cell (hS16).box 5
    have c6 : w17.cell? ⟨w.heap.size, 6, none⟩ = some (.int .i64 dd) := blk_cell (hS16).box 6
    have c7 : w17.cell? ⟨w.heap.size, 7, none⟩ = some (.int .i64 wall) := blk_cell (hS16).box 7
    have c8 : w17.cell? ⟨w.heap.size, 8, none⟩ = some (.int .i64 prio) := blk_cell (hS16).box 8
    have c9 : w17.cell? ⟨w.heap.size, 9, none⟩ = some (.int .i64 array) := blk_cell (hS16).box 9
    have c10 : w17.cell? ⟨w.heap.size, 10, none⟩ = some (.int .i64 retries) := blk_cell (hS16).box 10
    have c12 : w17.cell? ⟨w.heap.size, 12, none⟩ = some (.slice so n cp) := blk_cell (hS16).box 12
    replace hS16 := Lib.hid hS16; replace hb := Lib.hid hb
    clear hb
    go_wp2_with fail
    refine (putw_any _ _ kAfter V7 { data := #[] } _ (hS16).out.put (Nat.le_trans (hS16).out.few (by decide)) (by decide) s7.out).mono ?_
    rintro e w18 ⟨rfl, hp, hb⟩
    have hS17 := (hS16).out.step hp hb
    clear c0 c1 c2 c3 c4 c5 c6 c7 c8 c9 c10 c12
    have c0 : w18.cell? ⟨w.heap.size, 0, none⟩ = some (.string user) := blk_cell (hS17).box 0
    have c1 : w18.cell? ⟨w.heap.size, 1, none⟩ = some (.string part) := blk_cell (hS17).box 1
    have c2 : w18.cell? ⟨w.heap.size, 2, none⟩ = some (.int .i64 nodes) := blk_cell (hS17).box 2
    have c3 : w18.cell? ⟨w.heap.size, 3, none⟩ = some (.int .i64 da) := blk_cell (hS17).box 3
    have c4 : w18.cell? ⟨w.heap.size, 4, none⟩ = some (.int .i64 db) := blk_cell (hS17).box 4
    have c5 : w18.cell? ⟨w.heap.size, 5, none⟩ = some (.int .i64 dc) := blk_cell (hS17).box 5
    have c6 : w18.cell? ⟨w.heap.size, 6, none⟩ = some (.int .i64 dd) := blk_cell (hS17).box 6
    have c7 : w18.cell? ⟨w.heap.size, 7, none⟩ = some (.int .i64 wall) := blk_cell (hS17).box 7
    have c8 : w18.cell? ⟨w.heap.size, 8, none⟩ = some (.int .i64 prio) := blk_cell (hS17).box 8
    have c9 : w18.cell? ⟨w.heap.size, 9, none⟩ = some (.int .i64 array) := blk_cell (hS17).box 9
    have c10 : w18.cell? ⟨w.heap.size, 10, none⟩ = some (.int .i64 retries) := blk_cell (hS17).box 10
    have c12 : w18.cell? ⟨w.heap.size, 12, none⟩ = some (.slice so n cp) := blk_cell (hS17).box 12
    replace hS17 := Lib.hid hS17; replace hp := Lib.hid hp; replace hb := Lib.hid hb
    clear hb hp
    have hc27 := textEnd.out _ _ _ (hS17).out
    obtain ⟨sv, hv1, hv2, hv3⟩ := hc27
    have v0 := blk_cell hv1 0
    simp at v0
    replace hv1 := Lib.hid hv1; replace hv3 := Lib.hid hv3
    go_wp2_with fail
    refine hv3.out.mono ?_
    rintro e w20 ⟨rfl, hb⟩
    have hl20 := (hS17).out.low.trans (hb.mono (hS17).out.low.size)
    replace hl20 := Lib.hid hl20; replace hb := Lib.hid hb
    clear c0 c1 c2 c3 c4 c5 c6 c7 c8 c9 c10 c12
    go_wp2
    go_ret
    exact ⟨rfl, hl20.out⟩
  | true =>
    go_wp2_with fail
    refine (putw_any _ _ kHeld { data := #[49] } { data := #[] } _ (hS14).out.put (Nat.le_trans (hS14).out.few (by decide)) (by decide) (by decide)).mono ?_
    rintro e w16 ⟨rfl, hp, hb⟩
    have hS15 := (hS14).out.step hp hb
    clear c0 c1 c2 c3 c4 c5 c6 c7 c8 c9 c10 c12
    have c0 : w16.cell? ⟨w.heap.size, 0, none⟩ = some (.string user) := blk_cell (hS15).box 0
    have c1 : w16.cell? ⟨w.heap.size, 1, none⟩ = some (.string part) := blk_cell (hS15).box 1
    have c2 : w16.cell? ⟨w.heap.size, 2, none⟩ = some (.int .i64 nodes) := blk_cell (hS15).box 2
    have c3 : w16.cell? ⟨w.heap.size, 3, none⟩ = some (.int .i64 da) := blk_cell (hS15).box 3
    have c4 : w16.cell? ⟨w.heap.size, 4, none⟩ = some (.int .i64 db) := blk_cell (hS15).box 4
    have c5 : w16.cell? ⟨w.heap.size, 5, none⟩ = some (.int .i64 dc) := blk_cell (hS15).box 5
    have c6 : w16.cell? ⟨w.heap.size, 6, none⟩ = some (.int .i64 dd) := blk_cell (hS15).box 6
    have c7 : w16.cell? ⟨w.heap.size, 7, none⟩ = some (.int .i64 wall) := blk_cell (hS15).box 7
    have c8 : w16.cell? ⟨w.heap.size, 8, none⟩ = some (.int .i64 prio) := blk_cell (hS15).box 8
    have c9 : w16.cell? ⟨w.heap.size, 9, none⟩ = some (.int .i64 array) := blk_cell (hS15).box 9
    have c10 : w16.cell? ⟨w.heap.size, 10, none⟩ = some (.int .i64 retries) := blk_cell (hS15).box 10
    have c12 : w16.cell? ⟨w.heap.size, 12, none⟩ = some (.slice so n cp) := blk_cell (hS15).box 12
    replace hS15 := Lib.hid hS15; replace hp := Lib.hid hp; replace hb := Lib.hid hb
    clear hb hp
    go_wp2_with fail
    refine (k7.out _ hS15.out.low).mono ?_
    rintro e w17 ⟨rfl, hb⟩
    have hS16 := (hS15).out.on hb
    clear c0 c1 c2 c3 c4 c5 c6 c7 c8 c9 c10 c12
    have c0 : w17.cell? ⟨w.heap.size, 0, none⟩ = some (.string user) := blk_cell (hS16).box 0
    have c1 : w17.cell? ⟨w.heap.size, 1, none⟩ = some (.string part) := blk_cell (hS16).box 1
    have c2 : w17.cell? ⟨w.heap.size, 2, none⟩ = some (.int .i64 nodes) := blk_cell (hS16).box 2
    have c3 : w17.cell? ⟨w.heap.size, 3, none⟩ = some (.int .i64 da) := blk_cell (hS16).box 3
    have c4 : w17.cell? ⟨w.heap.size, 4, none⟩ = some (.int .i64 db) := blk_cell (hS16).box 4
    have c5 : w17.cell? ⟨w.heap.size, 5, none⟩ = some (.int .i64 dc) := blk_cell (hS16).box 5
    have c6 : w17.cell? ⟨w.heap.size, 6, none⟩ = some (.int .i64 dd) := blk_cell (hS16).box 6
    have c7 : w17.cell? ⟨w.heap.size, 7, none⟩ = some (.int .i64 wall) := blk_cell (hS16).box 7
    have c8 : w17.cell? ⟨w.heap.size, 8, none⟩ = some (.int .i64 prio) := blk_cell (hS16).box 8
    have c9 : w17.cell? ⟨w.heap.size, 9, none⟩ = some (.int .i64 array) := blk_cell (hS16).box 9
    have c10 : w17.cell? ⟨w.heap.size, 10, none⟩ = some (.int .i64 retries) := blk_cell (hS16).box 10
    have c12 : w17.cell? ⟨w.heap.size, 12, none⟩ = some (.slice so n cp) := blk_cell (hS16).box 12
    replace hS16 := Lib.hid hS16; replace hb := Lib.hid hb
    clear hb
    go_wp2_with fail
    refine (putw_any _ _ kAfter V7 { data := #[] } _ (hS16).out.put (Nat.le_trans (hS16).out.few (by decide)) (by decide) s7.out).mono ?_
    rintro e w18 ⟨rfl, hp, hb⟩
    have hS17 := (hS16).out.step hp hb
    clear c0 c1 c2 c3 c4 c5 c6 c7 c8 c9 c10 c12
    have c0 : w18.cell? ⟨w.heap.size, 0, none⟩ = some (.string user) := blk_cell (hS17).box 0
    have c1 : w18.cell? ⟨w.heap.size, 1, none⟩ = some (.string part) := blk_cell (hS17).box 1
    have c2 : w18.cell? ⟨w.heap.size, 2, none⟩ = some (.int .i64 nodes) := blk_cell (hS17).box 2
    have c3 : w18.cell? ⟨w.heap.size, 3, none⟩ = some (.int .i64 da) := blk_cell (hS17).box 3
    have c4 : w18.cell? ⟨w.heap.size, 4, none⟩ = some (.int .i64 db) := blk_cell (hS17).box 4
    have c5 : w18.cell? ⟨w.heap.size, 5, none⟩ = some (.int .i64 dc) := blk_cell (hS17).box 5
    have c6 : w18.cell? ⟨w.heap.size, 6, none⟩ = some (.int .i64 dd) := blk_cell (hS17).box 6
    have c7 : w18.cell? ⟨w.heap.size, 7, none⟩ = some (.int .i64 wall) := blk_cell (hS17).box 7
    have c8 : w18.cell? ⟨w.heap.size, 8, none⟩ = some (.int .i64 prio) := blk_cell (hS17).box 8
    have c9 : w18.cell? ⟨w.heap.size, 9, none⟩ = some (.int .i64 array) := blk_cell (hS17).box 9
    have c10 : w18.cell? ⟨w.heap.size, 10, none⟩ = some (.int .i64 retries) := blk_cell (hS17).box 10
    have c12 : w18.cell? ⟨w.heap.size, 12, none⟩ = some (.slice so n cp) := blk_cell (hS17).box 12
    replace hS17 := Lib.hid hS17; replace hp := Lib.hid hp; replace hb := Lib.hid hb
    clear hb hp
    have hc27 := textEnd.out _ _ _ (hS17).out
    obtain ⟨sv, hv1, hv2, hv3⟩ := hc27
    have v0 := blk_cell hv1 0
    simp at v0
    replace hv1 := Lib.hid hv1; replace hv3 := Lib.hid hv3
    go_wp2_with fail
    refine hv3.out.mono ?_
    rintro e w20 ⟨rfl, hb⟩
    have hl20 := (hS17).out.low.trans (hb.mono (hS17).out.low.size)
    replace hl20 := Lib.hid hl20; replace hb := Lib.hid hb
    clear c0 c1 c2 c3 c4 c5 c6 c7 c8 c9 c10 c12
    go_wp2
    go_ret
    exact ⟨rfl, hl20.out⟩
end Go.Proofs.YteoihdkaoipocaaGreatDoor

/- The reader's parts: spec.bound, field, whole. -/
namespace Go.Proofs.YteoihdkaoipocaaGreatDoor
open Go.RowKit Go.Maps Go.Shelf Go.Sort

theorem bound_nodes (w : World) : Calls Tryz.prog 123 #[.string { data := #[110, 111, 100, 101, 115] }] w fun e w' => e = .returned (.tuple #[.int .i64 1, .int .i64 16]) ∧ w' = w := by
  go_enter Tryz.func123, Tryz.ntmps123
  go_wp2
  go_ret2
  exact ⟨rfl, rfl⟩
set_option maxRecDepth 100000 in
theorem field_nodes (rb : Nat) (w : World) : Calls Tryz.prog 124 #[.pointer (some ⟨rb, 0, none⟩), .string { data := #[110, 111, 100, 101, 115] }] w fun e w' => e = .returned (.pointer (some ⟨rb, 2, none⟩)) ∧ w' = w := by
  go_enter Tryz.func124, Tryz.ntmps124
  go_wp2
  go_ret
  exact ⟨rfl, rfl⟩
theorem bound_wall (w : World) : Calls Tryz.prog 123 #[.string { data := #[119, 97, 108, 108] }] w fun e w' => e = .returned (.tuple #[.int .i64 1, .int .i64 1000]) ∧ w' = w := by
  go_enter Tryz.func123, Tryz.ntmps123
  go_wp2
  go_ret2
  exact ⟨rfl, rfl⟩
set_option maxRecDepth 100000 in
theorem field_wall (rb : Nat) (w : World) : Calls Tryz.prog 124 #[.pointer (some ⟨rb, 0, none⟩), .string { data := #[119, 97, 108, 108] }] w fun e w' => e = .returned (.pointer (some ⟨rb, 7, none⟩)) ∧ w' = w := by
  go_enter Tryz.func124, Tryz.ntmps124
  go_wp2
  go_ret
  exact ⟨rfl, rfl⟩
theorem bound_array (w : World) : Calls Tryz.prog 123 #[.string { data := #[97, 114, 114, 97, 121] }] w fun e w' => e = .returned (.tuple #[.int .i64 1, .int .i64 20]) ∧ w' = w := by
  go_enter Tryz.func123, Tryz.ntmps123
  go_wp2
  go_ret2
  exact ⟨rfl, rfl⟩
set_option maxRecDepth 100000 in
theorem field_array (rb : Nat) (w : World) : Calls Tryz.prog 124 #[.pointer (some ⟨rb, 0, none⟩), .string { data := #[97, 114, 114, 97, 121] }] w fun e w' => e = .returned (.pointer (some ⟨rb, 9, none⟩)) ∧ w' = w := by
  go_enter Tryz.func124, Tryz.ntmps124
  go_wp2
  go_ret
  exact ⟨rfl, rfl⟩
theorem bound_prio (w : World) : Calls Tryz.prog 123 #[.string { data := #[112, 114, 105, 111] }] w fun e w' => e = .returned (.tuple #[.int .i64 0, .int .i64 100]) ∧ w' = w := by
  go_enter Tryz.func123, Tryz.ntmps123
  go_wp2
  go_ret2
  exact ⟨rfl, rfl⟩
set_option maxRecDepth 100000 in
theorem field_prio (rb : Nat) (w : World) : Calls Tryz.prog 124 #[.pointer (some ⟨rb, 0, none⟩), .string { data := #[112, 114, 105, 111] }] w fun e w' => e = .returned (.pointer (some ⟨rb, 8, none⟩)) ∧ w' = w := by
  go_enter Tryz.func124, Tryz.ntmps124
  go_wp2
  go_ret
  exact ⟨rfl, rfl⟩
theorem bound_retries (w : World) : Calls Tryz.prog 123 #[.string { data := #[114, 101, 116, 114, 105, 101, 115] }] w fun e w' => e = .returned (.tuple #[.int .i64 0, .int .i64 5]) ∧ w' = w := by
  go_enter Tryz.func123, Tryz.ntmps123
  go_wp2
  go_ret2
  exact ⟨rfl, rfl⟩
set_option maxRecDepth 100000 in
theorem field_retries (rb : Nat) (w : World) : Calls Tryz.prog 124 #[.pointer (some ⟨rb, 0, none⟩), .string { data := #[114, 101, 116, 114, 105, 101, 115] }] w fun e w' => e = .returned (.pointer (some ⟨rb, 10, none⟩)) ∧ w' = w := by
  go_enter Tryz.func124, Tryz.ntmps124
  go_wp2
  go_ret
  exact ⟨rfl, rfl⟩

/-- what becomes of a field that is a number -/
def WhlPost (rb o : Nat) (v : ByteArray) (lo hi : Int) (w : World) (e : Ending) (w' : World) : Prop :=
  (∃ n w2, e = .returned (.bool true) ∧ fieldN v lo hi = some n ∧ Below w.heap.size w w2 ∧ w' = w2.setCell ⟨rb, o, none⟩ (.int .i64 n)) ∨ (e = .returned (.bool false) ∧ fieldN v lo hi = none ∧ Below w.heap.size w w')
set_option maxRecDepth 100000 in
set_option maxHeartbeats 800000 in
theorem whole_any (rb o : Nat) (k v : ByteArray) (lo hi : Int) (w : World) (hb : ∀ w, Calls Tryz.prog 123 #[.string k] w fun e w' => e = .returned (.tuple #[.int .i64 lo, .int .i64 hi]) ∧ w' = w)
    (hf : ∀ w, Calls Tryz.prog 124 #[.pointer (some ⟨rb, 0, none⟩), .string k] w fun e w' => e = .returned (.pointer (some ⟨rb, o, none⟩)) ∧ w' = w) (hv : v.size ≤ maxLen) {c : Array Value} {T : TypeId} (hc : w.heap[rb]? = some (.cells c T (0, 0))) (x0 : Int) (ho : c[o]? = some (.int .i64 x0)) :
    Calls Tryz.prog 98 #[.pointer (some ⟨rb, 0, none⟩), .string k, .string v] w (WhlPost rb o v lo hi w) := by
  have hn := fun w => snum_any v w hv
  obtain ⟨n, hnn⟩ : ∃ n, n = numOf v 13 := ⟨_, rfl⟩
  rw [← hnn] at hn
  have hz : fieldN v lo hi = if betw n lo hi = true then some n else none := by rw [hnn]; rfl
  replace hb := Lib.hid hb; replace hf := Lib.hid hf; replace hn := Lib.hid hn; replace hc := Lib.hid hc; replace hnn := Lib.hid hnn; replace hz := Lib.hid hz; replace ho := Lib.hid ho; replace hv := Lib.hid hv
  go_enter Tryz.func98, Tryz.ntmps98
  go_wp2_with fail
  refine (hb.out _).mono ?_
  rintro e w1 ⟨rfl, rfl⟩
  go_wp2_with fail
  refine (hn.out _).mono ?_
  rintro e w2 ⟨rfl, hb2⟩
  by_cases q1 : n < lo
  · have d : decide (n < lo) = true := decide_eq_true q1
    have hno : fieldN v lo hi = none := by rw [hz.out, if_neg]; intro h; have := betw_iff.1 h; omega
    replace hno := Lib.hid hno; replace hb2 := Lib.hid hb2; replace q1 := Lib.hid q1
    go_wp2
    go_ret
    exact .inr ⟨rfl, hno.out, hb2.out⟩
  have d : decide (n < lo) = false := decide_eq_false q1
  by_cases q2 : hi < n
  · have d : decide (hi < n) = true := decide_eq_true q2
    have hno : fieldN v lo hi = none := by rw [hz.out, if_neg]; intro h; have := betw_iff.1 h; omega
    replace hno := Lib.hid hno; replace hb2 := Lib.hid hb2; replace q1 := Lib.hid q1; replace q2 := Lib.hid q2
    go_wp2
    go_ret
    exact .inr ⟨rfl, hno.out, hb2.out⟩
  have d2 : decide (hi < n) = false := decide_eq_false q2
  have hyes : fieldN v lo hi = some n := by rw [hz.out, if_pos]; exact betw_iff.2 ⟨by omega, by omega⟩
  have hc2 := blk_below hb2 hc.out (blk_lt hc.out)
  have c0 : w2.cell? ⟨rb, o, none⟩ = some (.int .i64 x0) := (blk_cell hc2 o).trans ho.out
  have f0 := blk_free hc2 o
  replace hyes := Lib.hid hyes; replace hb2 := Lib.hid hb2; replace hc2 := Lib.hid hc2; replace q1 := Lib.hid q1; replace q2 := Lib.hid q2
  go_wp2_with fail
  refine (hf.out _).mono ?_
  rintro e w3 ⟨rfl, rfl⟩
  go_wp2
  go_ret
  exact .inl ⟨n, w3, rfl, hyes.out, hb2.out, rfl⟩
end Go.Proofs.YteoihdkaoipocaaGreatDoor

/- spec.numbers; corveeref08.number, row. -/
namespace Go.Proofs.YteoihdkaoipocaaGreatDoor
open Go.RowKit Go.Maps Go.Shelf Go.Sort

theorem rnumber_any (v : ByteArray) (lo hi : Int) (w : World) (hv : v.size ≤ maxLen) : Calls Tryz.prog 131 #[.string v, .int .i64 lo, .int .i64 hi] w fun e w' => e = .returned (.int .i64 ((fieldN v lo hi).getD (-1))) ∧ Below w.heap.size w w' := by
  have hn := fun w => rnum_any v 13 w hv (by decide)
  obtain ⟨n, hnn⟩ : ∃ n, n = numOf v 13 := ⟨_, rfl⟩
  rw [← hnn] at hn
  have hw := fun w => within_any n lo hi w
  obtain ⟨b, hb⟩ : ∃ b, b = betw n lo hi := ⟨_, rfl⟩
  have hz : fieldN v lo hi = if b = true then some n else none := by rw [hb, hnn]; rfl
  rw [← hb] at hw
  replace hn := Lib.hid hn; replace hnn := Lib.hid hnn; replace hw := Lib.hid hw; replace hz := Lib.hid hz; replace hb := Lib.hid hb; replace hv := Lib.hid hv
  go_enter Tryz.func131, Tryz.ntmps131
  go_wp2_with fail
  refine (hn.out _).mono ?_
  rintro e w1 ⟨rfl, hb1⟩
  replace hb1 := Lib.hid hb1
  go_wp2_with fail
  refine (hw.out _).mono ?_
  rintro e w2 ⟨rfl, rfl⟩
  cases b with
  | false =>
    go_wp2
    go_ret
    exact ⟨by rw [hz.out]; rfl, hb1.out⟩
  | true =>
    go_wp2
    go_ret
    exact ⟨by rw [hz.out]; rfl, hb1.out⟩

theorem numOf_13 (s : ByteArray) : -1 ≤ numOf s 13 ∧ numOf s 13 < 10000000000000 := by
  unfold numOf
  split
  · omega
  · next h =>
    split
    · next d => have := numTo_13 d (by omega); omega
    · omega
theorem manyN_cons (p : List UInt8) (ps : List (List UInt8)) : manyN (p :: ps) = match oneN p with | none => none | some n => match manyN ps with | none => none | some l => some (n :: l) := rfl
theorem manyN_none {p : List UInt8} {ps : List (List UInt8)} (h : oneN p = none) : manyN (p :: ps) = none := by rw [manyN_cons, h]
theorem manyN_some {p : List UInt8} {ps : List (List UInt8)} {n : Int} (h : oneN p = some n) : manyN (p :: ps) = (manyN ps).map fun l => n :: l := by
  rw [manyN_cons, h]
  cases manyN ps <;> rfl
/-- the numbers so far -/
structure NmW (w : World) (all rest : List (List UInt8)) (done : List Int) (ov : Value) (wr : World) : Prop where
  low : Below w.heap.size w wr
  own : OwnI wr w.heap.size ov done
  cut : manyN all = (manyN rest).map fun l => done ++ l
  few : done.length + rest.length = all.length
theorem NmW.start {w w' : World} {all : List (List UInt8)} (h : Below w.heap.size w w') : NmW w all all [] (.slice none 0 0) w' :=
  ⟨h, ⟨rfl, .inl ⟨rfl, rfl⟩⟩, by cases manyN all <;> rfl, by simp⟩
theorem ownI_low {w w' : World} {B : Nat} {v : Value} {xs : List Int} (h : OwnI w B v xs) (hb : Below w.heap.size w w') : OwnI w' B v xs := by
  refine ⟨h.row.1, ?_⟩
  rcases h.row.2 with ⟨hv, h0⟩ | ⟨g, cap, cur, hv, hg, hh, hr⟩
  · exact .inl ⟨hv, h0⟩
  · exact .inr ⟨g, cap, cur, hv, hg, blk_below hb hh (blk_lt hh), hr⟩
theorem NmW.on {w wr w' : World} {all rest : List (List UInt8)} {done : List Int} {ov : Value} (h : NmW w all rest done ov wr) (hb : Below wr.heap.size wr w') : NmW w all rest done ov w' :=
  ⟨h.low.trans (hb.mono h.low.size), ownI_low h.own hb, h.cut, h.few⟩
theorem NmW.step {w w1 w9 : World} {all rest : List (List UInt8)} {p : List UInt8} {done : List Int} {n : Int} {ov ov9 : Value} (h : NmW w all (p :: rest) done ov w1) (hp : oneN p = some n) (ho : OwnI w9 w.heap.size ov9 (done ++ [n])) (hb : Below w.heap.size w w9) : NmW w all rest (done ++ [n]) ov9 w9 :=
  ⟨hb, ho, by rw [h.cut, manyN_some hp]; cases manyN rest <;> simp, by have := h.few; simp at this ⊢; omega⟩
theorem NmW.none {w w1 : World} {all rest : List (List UInt8)} {p : List UInt8} {done : List Int} {ov : Value} (h : NmW w all (p :: rest) done ov w1) (hp : oneN p = none) : manyN all = none := by
  rw [h.cut, manyN_none hp]; rfl
theorem NmW.all {w w1 : World} {all : List (List UInt8)} {done : List Int} {ov : Value} (h : NmW w all [] done ov w1) : manyN all = some done := by
  rw [h.cut]; show (some ([] : List Int)).map _ = _; simp
/-- a row of numbers as it is told, or none -/
def NumsPost (v : ByteArray) (w : World) (e : Ending) (w' : World) : Prop :=
  Below w.heap.size w w' ∧ ((manyN (cutAll 44 v.data.toList) = none ∧ e = .returned (.slice none 0 0)) ∨ ∃ l so n c, manyN (cutAll 44 v.data.toList) = some l ∧ e = .returned (.slice so n c) ∧ n ≤ c ∧ IntsAt w' so n l ∧ 0 < n ∧ ∀ b o, so = some ⟨b, o, none⟩ → w.heap.size ≤ b)
theorem ownI_form {w : World} {B : Nat} {v : Value} {xs : List Int} (h : OwnI w B v xs) : ∃ so n c, v = .slice so n c ∧ n ≤ c ∧ IntsAt w so n xs ∧ ∀ b o, so = some ⟨b, o, none⟩ → B ≤ b ∧ b < w.heap.size := by
  obtain ⟨so, c, e, hi⟩ := ints_of_own h
  have hrow := h.row
  rcases hrow.2 with ⟨hv, h0⟩ | ⟨g, cap, cur, hv, hg, hh, hn, _⟩
  · refine ⟨so, xs.length, c, e, by omega, hi, fun b o e2 => ?_⟩
    rw [e] at hv
    injection hv with hv
    rw [hv] at e2; cases e2
  · refine ⟨so, xs.length, c, e, ?_, hi, fun b o e2 => ?_⟩
    · rw [e] at hv
      injection hv with _ _ hc
      omega
    · have hl := blk_lt hh
      rw [e] at hv
      injection hv with hv
      rw [hv] at e2
      injection e2 with e2
      injection e2 with e2
      omega
theorem hasP_iff (p : List UInt8) : Lib.hasPrefix p [45] = decide (p.head? = some 45) := by
  cases p with
  | nil => rfl
  | cons c r =>
    by_cases h : c = 45
    · subst h; simp [Lib.hasPrefix, List.isPrefixOf]
    · simp [Lib.hasPrefix, List.isPrefixOf, h, Ne.symm h]
theorem trimP_yes {p : List UInt8} (h : p.head? = some 45) : Lib.trimPrefix p [45] = p.tail := by
  cases p with
  | nil => simp at h
  | cons c r =>
    have : c = 45 := by simpa using h
    subst this
    simp [Lib.trimPrefix, Lib.hasPrefix]
theorem trimP_no {p : List UInt8} (h : ¬ p.head? = some 45) : Lib.trimPrefix p [45] = p := by
  cases p with
  | nil => rfl
  | cons c r =>
    have : c ≠ 45 := fun e => h (by simp [e])
    simp [Lib.trimPrefix, Lib.hasPrefix, Ne.symm this]
theorem cutp_call (p q : List UInt8) (m : Bool) (hm : m = decide (p.head? = some 45)) (hq : q = if m = true then p.tail else p) (w : World) : Calls Tryz.prog 121 #[.string (ofL p), .string { data := #[45] }] w fun e w' => e = .returned (.tuple #[.string (ofL q), .bool m]) ∧ w' = w := by
  refine (Tryz.strings_CutPrefix (ofL p) { data := #[45] } w).mono ?_
  rintro e w' ⟨rfl, rfl⟩
  refine ⟨?_, rfl⟩
  have e1 : Lib.hasPrefix (ofL p).data.toList ({ data := #[45] } : ByteArray).data.toList = m := by
    rw [ofL_toL, hm]; exact hasP_iff p
  have e2 : Lib.trimPrefix (ofL p).data.toList ({ data := #[45] } : ByteArray).data.toList = q := by
    rw [ofL_toL, hq]
    show Lib.trimPrefix p [45] = _
    by_cases c : p.head? = some 45
    · rw [trimP_yes c, hm, if_pos (by simp [c])]
    · rw [trimP_no c, hm, if_neg (by simp [c])]
  rw [e1, e2]
  rfl
theorem oneN_eq {p q : List UInt8} {m : Bool} {N : Int} (hm : m = decide (p.head? = some 45)) (hq : q = if m = true then p.tail else p) (hN : N = numOf (ofL q) 13) : oneN p = if N < 0 then none else some (if m = true then -N else N) := by
  unfold oneN
  by_cases c : p.head? = some 45
  · have hm' : m = true := by rw [hm]; simp [c]
    rw [if_pos c, hN, hq, if_pos hm', if_pos hm']
  · have hm' : ¬ m = true := by rw [hm]; simp [c]
    rw [if_neg c, hN, hq, if_neg hm', if_neg hm']
theorem int_new (w : World) (n : Int) : ∀ j u, ([.int .i64 n] : List Value)[j]? = some u → (w.alloc (.cells #[.int .i64 n] 3 (0, 0))).cell? ((⟨w.heap.size, 0, none⟩ : Addr).add j) = some u := one_new w n
set_option maxRecDepth 100000 in
set_option maxHeartbeats 3200000 in
theorem nums_any (s : ByteArray) (w : World) (hm : Mx w) (hs : s.size ≤ 4294967200) : Calls Tryz.prog 97 #[.string s] w (NumsPost s w) := by
  obtain ⟨i3, hi3, hz3, hz31, hz32⟩ := info_parts info3
  have hsp := split_call s 44 w hm (by omega)
  obtain ⟨ps, hpse⟩ : ∃ ps, ps = cutAll 44 s.data.toList := ⟨_, rfl⟩
  obtain ⟨L, hps⟩ : ∃ L, L = ps.length := ⟨_, rfl⟩
  have hLm : L ≤ s.size + 1 := by rw [hps, hpse]; exact cutAll_many _
  have hle : ∀ p, p ∈ ps → p.length ≤ s.size := fun p hp => by rw [hpse] at hp; exact cutAll_le hp
  have hL0 : 0 < L := by rw [hps, hpse]; exact cutAll_pos _ _
  rw [← hpse, ← hps] at hsp
  replace hsp := Lib.hid hsp; replace hpse := Lib.hid hpse; replace hps := Lib.hid hps; replace hle := Lib.hid hle; replace hi3 := Lib.hid hi3; replace hz3 := Lib.hid hz3; replace hz31 := Lib.hid hz31; replace hz32 := Lib.hid hz32; replace hm := Lib.hid hm
  go_enter Tryz.func97, Tryz.ntmps97
  go_wp2_with fail
  refine hsp.out.mono ?_
  rintro e w1 ⟨rfl, hw1⟩
  have hb1 : Below w.heap.size w w1 := by rw [hw1]; exact (Below.refl _ _).alloc (Nat.le_refl _) _
  have hrow : StrsAt w1 (some ⟨w.heap.size, 0, none⟩) L (ps.map ofL) := by
    have := strs_of_blk (w := w1) (b := w.heap.size) (xs := ps.map ofL) (by rw [hw1]; exact blk_new _ _) (by rw [List.length_map, ← hps.out]; omega)
    rw [List.length_map, ← hps.out] at this
    exact this
  replace hw1 := Lib.hid hw1; replace hb1 := Lib.hid hb1; replace hrow := Lib.hid hrow
  go_wp2
  go_loopw [3, 5, 6, 7, 8, 12] (fun ov _ _ _ _ i wr => ∃ (k : Nat) (rest : List (List UInt8)) (done : List Int), i = .int .i64 k ∧ k ≤ L ∧ Hid (rest = ps.drop k) ∧ Hid (NmW w1 ps rest done ov wr)) (fun _ _ _ _ _ i _ => L - (intOf i).toNat)
  case atStart => exact ⟨0, ps, [], rfl, Nat.zero_le _, rfl, NmW.start (Below.refl _ _)⟩
  case round =>
    obtain ⟨k, rest, done, rfl, hk, hrest, hM⟩ := hrel
    by_cases hc : k < L
    · have hc1 : (k : Int) < L := by omega
      have hk0 : (0 : Int) ≤ (k : Int) := by omega
      have hkl : k < ps.length := by rw [← hps.out]; exact hc
      obtain ⟨p, hp⟩ : ∃ p, ps[k]? = some p := ⟨_, List.getElem?_eq_getElem hkl⟩
      have hdr : rest = p :: ps.drop (k + 1) := by
        rw [hrest.out, List.drop_eq_getElem_cons hkl]
        rw [List.getElem?_eq_getElem hkl] at hp
        rw [Option.some.inj hp]
      have hM2 := hM.out
      rw [hdr] at hM2
      have hr := hrow.out.low hM2.low
      obtain ⟨b', off', e', _, c0⟩ := hr.cell k (ofL p) (by rw [List.getElem?_map, hp]; rfl)
      cases e'
      simp only [Nat.zero_add] at c0
      obtain ⟨m, hmm⟩ : ∃ m, m = decide (p.head? = some 45) := ⟨_, rfl⟩
      obtain ⟨q, hq⟩ : ∃ q, q = if m = true then p.tail else p := ⟨_, rfl⟩
      have hcp := cutp_call p q m hmm hq wr
      have hql : (ofL q).size ≤ maxLen := by
        have := hle.out p (List.mem_of_getElem? hp)
        have hm9 : maxLen = 9223372036854775807 := rfl
        rw [ofL_size, hq]
        split
        · rw [List.length_tail]; omega
        · omega
      have hcn := snum_any (ofL q) wr hql
      obtain ⟨N, hN⟩ : ∃ N, N = numOf (ofL q) 13 := ⟨_, rfl⟩
      have hNb := numOf_13 (ofL q)
      rw [← hN] at hNb hcn
      obtain ⟨hN1, hN2⟩ := hNb
      have hon := oneN_eq hmm hq hN
      replace hp := Lib.hid hp; replace hdr := Lib.hid hdr; replace hM2 := Lib.hid hM2; replace hr := Lib.hid hr; replace hmm := Lib.hid hmm; replace hq := Lib.hid hq; replace hcp := Lib.hid hcp; replace hql := Lib.hid hql; replace hcn := Lib.hid hcn; replace hN := Lib.hid hN; replace hon := Lib.hid hon; replace hkl := Lib.hid hkl
      go_wp2_with fail
      refine hcp.out.mono ?_
      rintro e w2 ⟨rfl, rfl⟩
      go_wp2_with fail
      refine hcn.out.mono ?_
      rintro e w3 ⟨rfl, hb3⟩
      have hM3 := hM2.out.on hb3
      clear c0
      replace hb3 := Lib.hid hb3; replace hM3 := Lib.hid hM3
      by_cases hneg : N < 0
      · have d : decide (N < 0) = true := decide_eq_true hneg
        have hno : manyN ps = none := hM3.out.none (by rw [hon.out, if_pos hneg])
        have hlow3 := hb1.out.trans (hM3.out.low.mono hb1.out.size)
        replace hno := Lib.hid hno; replace hlow3 := Lib.hid hlow3; replace hneg := Lib.hid hneg
        go_wp2
        go_ret
        exact ⟨hlow3.out, .inl ⟨by rw [← hpse.out]; exact hno.out, rfl⟩⟩
      have d : decide (N < 0) = false := decide_eq_false hneg
      cases m with
      | true =>
        have hone : oneN p = some (-N) := by rw [hon.out, if_neg hneg]; rfl
        replace hone := Lib.hid hone; replace hneg := Lib.hid hneg
        obtain ⟨Ld, hLd⟩ : ∃ Ld, Ld = done.length := ⟨_, rfl⟩
        have hLk : Ld ≤ L := by rw [hLd]; have := (hM3).out.few; have := hps.out; omega
        have hownA : (w3.alloc (.cells #[.int .i64 (-N)] 3 (0, 0))).ownsRow w1.heap.size 3 1 u3 Ld (intsV done) := by rw [hLd]; exact (hM3).out.own.row.alloc (.cells #[.int .i64 (-N)] 3 (0, 0))
        have hnews := int_new w3 (-N)
        have hone1 : ∀ u ∈ ([.int .i64 (-N)] : List Value), u.oneCell' = true := by simp [Value.oneCell']
        have h63 := maxLen_ge (n := Ld) (by omega)
        have hby : (Ld + 1) * 8 ≤ 140737488355328 := by omega
        have hbas : w1.heap.size ≤ (w3.alloc (.cells #[.int .i64 (-N)] 3 (0, 0))).heap.size := by have := (hM3).out.low.size; simp; omega
        replace hLd := Lib.hid hLd; replace hownA := Lib.hid hownA; replace hnews := Lib.hid hnews; replace hone1 := Lib.hid hone1; replace h63 := Lib.hid h63; replace hby := Lib.hid hby; replace hbas := Lib.hid hbas
        go_wp2_with (at_builtin; refine wpList_append_own _ rfl _ _ 24 rfl w1.heap.size 3 i3 _ 1 8 Tryz.underlying24 hi3.out hz3.out hz31.out hz32.out rfl (by decide) _ Ld _ rfl hownA.out ⟨(w3).heap.size, 0, none⟩ 1 1 [.int .i64 (-N)] rfl rfl hnews.out hone1.out h63.out hby.out hbas.out ?_; intro v1 w7 hown7 hgrow _; obtain ⟨g7, cap1, rfl⟩ := Joins.ownsRow_form hown7 (by omega); replace hown7 := Lib.hid hown7; replace hgrow := Lib.hid hgrow)
        have hO7 : OwnI w7 w1.heap.size (.slice (some ⟨g7, 0, none⟩) (Ld + 1) cap1) (done ++ [-N]) := by
          refine ⟨?_⟩
          rw [List.length_append, ← hLd.out]
          simpa [intsV] using hown7.out
        have hB7 : Below w1.heap.size w1 w7 := ((hM3).out.low.alloc (hM3).out.low.size _).grown hgrow.out hbas.out (fun k hk => ((hM3).out.own.row.lt k hk).1)
        have hM7 := (hM3).out.step hone.out hO7 hB7
        replace hO7 := Lib.hid hO7; replace hB7 := Lib.hid hB7; replace hM7 := Lib.hid hM7
        go_wp2
        go_roundw
        case rel => exact ⟨k + 1, ps.drop (k + 1), done ++ [-N], by go_num, by omega, rfl, hM7.out⟩
        case measure => simp [intOf]; omega
      | false =>
        have hone : oneN p = some N := by rw [hon.out, if_neg hneg]; rfl
        replace hone := Lib.hid hone; replace hneg := Lib.hid hneg
        obtain ⟨Ld, hLd⟩ : ∃ Ld, Ld = done.length := ⟨_, rfl⟩
        have hLk : Ld ≤ L := by rw [hLd]; have := (hM3).out.few; have := hps.out; omega
        have hownA : (w3.alloc (.cells #[.int .i64 (N)] 3 (0, 0))).ownsRow w1.heap.size 3 1 u3 Ld (intsV done) := by rw [hLd]; exact (hM3).out.own.row.alloc (.cells #[.int .i64 (N)] 3 (0, 0))
        have hnews := int_new w3 (N)
        have hone1 : ∀ u ∈ ([.int .i64 (N)] : List Value), u.oneCell' = true := by simp [Value.oneCell']
        have h63 := maxLen_ge (n := Ld) (by omega)
        have hby : (Ld + 1) * 8 ≤ 140737488355328 := by omega
        have hbas : w1.heap.size ≤ (w3.alloc (.cells #[.int .i64 (N)] 3 (0, 0))).heap.size := by have := (hM3).out.low.size; simp; omega
        replace hLd := Lib.hid hLd; replace hownA := Lib.hid hownA; replace hnews := Lib.hid hnews; replace hone1 := Lib.hid hone1; replace h63 := Lib.hid h63; replace hby := Lib.hid hby; replace hbas := Lib.hid hbas
        go_wp2_with (at_builtin; refine wpList_append_own _ rfl _ _ 24 rfl w1.heap.size 3 i3 _ 1 8 Tryz.underlying24 hi3.out hz3.out hz31.out hz32.out rfl (by decide) _ Ld _ rfl hownA.out ⟨(w3).heap.size, 0, none⟩ 1 1 [.int .i64 (N)] rfl rfl hnews.out hone1.out h63.out hby.out hbas.out ?_; intro v1 w7 hown7 hgrow _; obtain ⟨g7, cap1, rfl⟩ := Joins.ownsRow_form hown7 (by omega); replace hown7 := Lib.hid hown7; replace hgrow := Lib.hid hgrow)
        have hO7 : OwnI w7 w1.heap.size (.slice (some ⟨g7, 0, none⟩) (Ld + 1) cap1) (done ++ [N]) := by
          refine ⟨?_⟩
          rw [List.length_append, ← hLd.out]
          simpa [intsV] using hown7.out
        have hB7 : Below w1.heap.size w1 w7 := ((hM3).out.low.alloc (hM3).out.low.size _).grown hgrow.out hbas.out (fun k hk => ((hM3).out.own.row.lt k hk).1)
        have hM7 := (hM3).out.step hone.out hO7 hB7
        replace hO7 := Lib.hid hO7; replace hB7 := Lib.hid hB7; replace hM7 := Lib.hid hM7
        go_wp2
        go_roundw
        case rel => exact ⟨k + 1, ps.drop (k + 1), done ++ [N], by go_num, by omega, rfl, hM7.out⟩
        case measure => simp [intOf]; omega
    · have hc1 : ¬ (k : Int) < L := by omega
      have hkL : k = L := by omega
      have hM2 := hM.out
      have hr0 : rest = [] := by rw [hrest.out, hkL, hps.out, List.drop_length]
      rw [hr0] at hM2
      have hall := hM2.all
      obtain ⟨so, n, c, e, hnc, hi, hfr⟩ := ownI_form hM2.own
      subst e
      have hlow := hb1.out.trans (hM2.low.mono hb1.out.size)
      have hn0 : 0 < n := by
        have h3 := hM2.few
        rw [List.length_nil] at h3
        have h2 := hi.len
        have h4 := hps.out
        omega
      have hfr2 : ∀ b o, so = some ⟨b, o, none⟩ → w.heap.size ≤ b := fun b o e => Nat.le_trans hb1.out.size (hfr b o e).1
      clear hfr
      replace hM2 := Lib.hid hM2; replace hr0 := Lib.hid hr0; replace hall := Lib.hid hall; replace hlow := Lib.hid hlow; replace hi := Lib.hid hi; replace hkL := Lib.hid hkL; replace hn0 := Lib.hid hn0; replace hnc := Lib.hid hnc; replace hM := Lib.hid hM; replace hfr2 := Lib.hid hfr2
      go_wp2
      go_ret
      exact ⟨hlow.out, .inr ⟨done, so, n, c, by rw [← hpse.out]; exact hall.out, rfl, hnc.out, hi.out, hn0.out, hfr2.out⟩⟩
end Go.Proofs.YteoihdkaoipocaaGreatDoor

/- (*spec.reader).set: a field set. -/
namespace Go.Proofs.YteoihdkaoipocaaGreatDoor
open Go.RowKit Go.Maps Go.Shelf Go.Sort

theorem gb_below {w w' : World} (hb : Below w.heap.size w w') (r : Option Nat) : w.grownBy w' r := ⟨hb.os, hb.tape, hb.output, hb.size, fun i hi _ => hb.block i hi⟩
theorem gb_refl (w : World) (r : Option Nat) : w.grownBy w r := gb_below (Below.refl _ _) r
theorem gb_trans {a b c : World} {r : Option Nat} (h1 : a.grownBy b r) (h2 : b.grownBy c r) : a.grownBy c r :=
  ⟨h2.os.trans h1.os, h2.tape.trans h1.tape, h2.output.trans h1.output, Nat.le_trans h1.size h2.size, fun i hi hn => (h2.block i (Nat.lt_of_lt_of_le hi h1.size) hn).trans (h1.block i hi hn)⟩
theorem gb_set {a w : World} {b o : Nat} (h : a.grownBy w (some b)) (v : Value) : a.grownBy (w.setCell ⟨b, o, none⟩ v) (some b) :=
  ⟨h.os, h.tape, h.output, by simpa [World.setCell] using h.size, fun i hi hn => (Below.heap_setCell w ⟨b, o, none⟩ v i (fun e => hn (by rw [e]))).trans (h.block i hi hn)⟩

/-- a reader's cells -/
abbrev rdC (x : Spv) (mb : Nat) : Array Value := #[.string x.pl.user, .string x.pl.part, .int .i64 x.pl.nodes, .int .i64 x.pl.dem.a, .int .i64 x.pl.dem.b, .int .i64 x.pl.dem.c, .int .i64 x.pl.dem.d, .int .i64 x.pl.wall, .int .i64 x.pl.prio, .int .i64 x.pl.array, .int .i64 x.pl.retries, .bool x.pl.held, .slice x.so x.n x.c, .map (some mb)]
structure RdH (W : World) (rb mb : Nat) (x : Spv) : Prop where
  head : W.heap[rb]? = some (.cells (rdC x mb) 107 (0, 0))
  ok : x.ok W
  off : ∀ b o, x.so = some ⟨b, o, none⟩ → b ≠ rb
theorem RdH.low {w w' : World} {rb mb : Nat} {x : Spv} (h : RdH w rb mb x) (hb : Below w.heap.size w w') : RdH w' rb mb x := ⟨blk_below hb h.head (blk_lt h.head), h.ok.low hb, h.off⟩
/-- what a field's setting leaves -/
def SetPost (rb mb : Nat) (k v : ByteArray) (x : Spv) (w : World) (e : Ending) (w' : World) : Prop :=
  w.grownBy w' (some rb) ∧ ((∃ x', e = .returned (.bool true) ∧ setP k v x.pl = some x'.pl ∧ RdH w' rb mb x' ∧ (x'.so = x.so ∨ ∀ b o, x'.so = some ⟨b, o, none⟩ → w.heap.size ≤ b)) ∨ (e = .returned (.bool false) ∧ setP k v x.pl = none))
theorem ints_keep {w w' : World} {so : Option Addr} {n : Nat} {xs : List Int} (h : IntsAt w so n xs) (hsz : w.heap.size ≤ w'.heap.size) (hb : ∀ b off, so = some ⟨b, off, none⟩ → b < w.heap.size → w'.heap[b]? = w.heap[b]?) : IntsAt w' so n xs :=
  ⟨h.len, h.max, fun i x hx => by
    obtain ⟨b, off, e, hlt, hc⟩ := h.cell i x hx
    exact ⟨b, off, e, by omega, (World.cell?_of_block (a := ⟨b, off + i, none⟩) (w := w) (hb b off e hlt)).trans hc⟩⟩
theorem ints_gb {w w' : World} {rb : Nat} {so : Option Addr} {n : Nat} {xs : List Int} (h : IntsAt w so n xs) (hg : w.grownBy w' (some rb)) (ho : ∀ b o, so = some ⟨b, o, none⟩ → b ≠ rb) : IntsAt w' so n xs :=
  ints_keep h hg.size fun b off e hlt => hg.block b hlt (fun c => ho b off e (by injection c with c))
theorem key_nel {k : ByteArray} {l : List UInt8} (h : k ≠ ofL l) : (k.toList == l) = false := by
  have := str_ne h
  rw [show (ofL l).toList = l from by rw [Lib.toList_data, ofL_toL]] at this
  exact this
set_option maxRecDepth 100000 in
set_option maxHeartbeats 1600000 in
theorem set_user (rb mb : Nat) (v : ByteArray) (x : Spv) (w : World) (h : RdH w rb mb x) (hv : v.size ≤ maxLen) : Calls Tryz.prog 60 #[.pointer (some ⟨rb, 0, none⟩), .string { data := #[117, 115, 101, 114] }, .string v] w (SetPost rb mb kUser v x w) := by
  obtain ⟨⟨user, part, nodes, ⟨da, db, dc, dd⟩, wall, prio, array, retries, held, after⟩, so, n, cp⟩ := x
  have c0 : w.cell? ⟨rb, 0, none⟩ = some (.string user) := blk_cell h.head 0
  have c1 : w.cell? ⟨rb, 1, none⟩ = some (.string part) := blk_cell h.head 1
  have c2 : w.cell? ⟨rb, 2, none⟩ = some (.int .i64 nodes) := blk_cell h.head 2
  have c3 : w.cell? ⟨rb, 3, none⟩ = some (.int .i64 da) := blk_cell h.head 3
  have c4 : w.cell? ⟨rb, 4, none⟩ = some (.int .i64 db) := blk_cell h.head 4
  have c5 : w.cell? ⟨rb, 5, none⟩ = some (.int .i64 dc) := blk_cell h.head 5
  have c6 : w.cell? ⟨rb, 6, none⟩ = some (.int .i64 dd) := blk_cell h.head 6
  have c11 : w.cell? ⟨rb, 11, none⟩ = some (.bool held) := blk_cell h.head 11
  have c12 : w.cell? ⟨rb, 12, none⟩ = some (.slice so n cp) := blk_cell h.head 12
  have fr := blk_free h.head
  obtain ⟨W1, hW1⟩ : ∃ W1, W1 = w.setCell ⟨rb, 0, none⟩ (.string v) := ⟨_, rfl⟩
  have hg1 : w.grownBy W1 (some rb) := by rw [hW1]; exact gb_set (gb_refl w _) _
  have h1 : RdH W1 rb mb ⟨⟨v, part, nodes, ⟨da, db, dc, dd⟩, wall, prio, array, retries, held, after⟩, so, n, cp⟩ :=
    ⟨by rw [hW1]; exact blk_set h.head 0 _, ⟨ints_gb h.ok.after hg1 h.off, h.ok.ple, hv, h.ok.part⟩, h.off⟩
  have hcn := name_any v W1 hv
  obtain ⟨b, hb⟩ : ∃ b, b = isName v := ⟨_, rfl⟩
  rw [← hb] at hcn
  have hz : setP kUser v ⟨user, part, nodes, ⟨da, db, dc, dd⟩, wall, prio, array, retries, held, after⟩ = if b = true then some ⟨v, part, nodes, ⟨da, db, dc, dd⟩, wall, prio, array, retries, held, after⟩ else none := by rw [hb]; rfl
  rw [hW1] at hcn
  have hW1' := Lib.hid hW1
  clear hW1
  replace h := Lib.hid h; replace hg1 := Lib.hid hg1; replace h1 := Lib.hid h1; replace hcn := Lib.hid hcn; replace hb := Lib.hid hb; replace hz := Lib.hid hz; replace hv := Lib.hid hv
  go_enter Tryz.func60, Tryz.ntmps60
  go_wp2_with fail
  refine hcn.out.mono ?_
  rw [← hW1'.out]
  rintro e w2 ⟨rfl, hb2⟩
  have hg2 := gb_trans hg1.out (gb_below hb2 (some rb))
  have h2 := h1.out.low hb2
  clear c0 c1 c2 c3 c4 c5 c6 c11 c12
  replace hb2 := Lib.hid hb2; replace hg2 := Lib.hid hg2; replace h2 := Lib.hid h2
  cases b with
  | false =>
    go_wp2
    go_ret
    exact ⟨hg2.out, .inr ⟨rfl, by rw [hz.out]; rfl⟩⟩
  | true =>
    go_wp2
    go_ret
    exact ⟨hg2.out, .inl ⟨_, rfl, by rw [hz.out]; rfl, h2.out, .inl rfl⟩⟩
set_option maxRecDepth 100000 in
set_option maxHeartbeats 1600000 in
theorem set_part (rb mb : Nat) (v : ByteArray) (x : Spv) (w : World) (h : RdH w rb mb x) (hv : v.size ≤ maxLen) : Calls Tryz.prog 60 #[.pointer (some ⟨rb, 0, none⟩), .string { data := #[112, 97, 114, 116] }, .string v] w (SetPost rb mb kPart v x w) := by
  obtain ⟨⟨user, part, nodes, ⟨da, db, dc, dd⟩, wall, prio, array, retries, held, after⟩, so, n, cp⟩ := x
  have c0 : w.cell? ⟨rb, 0, none⟩ = some (.string user) := blk_cell h.head 0
  have c1 : w.cell? ⟨rb, 1, none⟩ = some (.string part) := blk_cell h.head 1
  have c2 : w.cell? ⟨rb, 2, none⟩ = some (.int .i64 nodes) := blk_cell h.head 2
  have c3 : w.cell? ⟨rb, 3, none⟩ = some (.int .i64 da) := blk_cell h.head 3
  have c4 : w.cell? ⟨rb, 4, none⟩ = some (.int .i64 db) := blk_cell h.head 4
  have c5 : w.cell? ⟨rb, 5, none⟩ = some (.int .i64 dc) := blk_cell h.head 5
  have c6 : w.cell? ⟨rb, 6, none⟩ = some (.int .i64 dd) := blk_cell h.head 6
  have c11 : w.cell? ⟨rb, 11, none⟩ = some (.bool held) := blk_cell h.head 11
  have c12 : w.cell? ⟨rb, 12, none⟩ = some (.slice so n cp) := blk_cell h.head 12
  have fr := blk_free h.head
  obtain ⟨W1, hW1⟩ : ∃ W1, W1 = w.setCell ⟨rb, 1, none⟩ (.string v) := ⟨_, rfl⟩
  have hg1 : w.grownBy W1 (some rb) := by rw [hW1]; exact gb_set (gb_refl w _) _
  have h1 : RdH W1 rb mb ⟨⟨user, v, nodes, ⟨da, db, dc, dd⟩, wall, prio, array, retries, held, after⟩, so, n, cp⟩ :=
    ⟨by rw [hW1]; exact blk_set h.head 1 _, ⟨ints_gb h.ok.after hg1 h.off, h.ok.ple, h.ok.user, hv⟩, h.off⟩
  have hcn := name_any v W1 hv
  obtain ⟨b, hb⟩ : ∃ b, b = isName v := ⟨_, rfl⟩
  rw [← hb] at hcn
  have hz : setP kPart v ⟨user, part, nodes, ⟨da, db, dc, dd⟩, wall, prio, array, retries, held, after⟩ = if b = true then some ⟨user, v, nodes, ⟨da, db, dc, dd⟩, wall, prio, array, retries, held, after⟩ else none := by rw [hb]; rfl
  rw [hW1] at hcn
  have hW1' := Lib.hid hW1
  clear hW1
  replace h := Lib.hid h; replace hg1 := Lib.hid hg1; replace h1 := Lib.hid h1; replace hcn := Lib.hid hcn; replace hb := Lib.hid hb; replace hz := Lib.hid hz; replace hv := Lib.hid hv
  go_enter Tryz.func60, Tryz.ntmps60
  go_wp2_with fail
  refine hcn.out.mono ?_
  rw [← hW1'.out]
  rintro e w2 ⟨rfl, hb2⟩
  have hg2 := gb_trans hg1.out (gb_below hb2 (some rb))
  have h2 := h1.out.low hb2
  clear c0 c1 c2 c3 c4 c5 c6 c11 c12
  replace hb2 := Lib.hid hb2; replace hg2 := Lib.hid hg2; replace h2 := Lib.hid h2
  cases b with
  | false =>
    go_wp2
    go_ret
    exact ⟨hg2.out, .inr ⟨rfl, by rw [hz.out]; rfl⟩⟩
  | true =>
    go_wp2
    go_ret
    exact ⟨hg2.out, .inl ⟨_, rfl, by rw [hz.out]; rfl, h2.out, .inl rfl⟩⟩
set_option maxRecDepth 100000 in
set_option maxHeartbeats 1600000 in
theorem set_held (rb mb : Nat) (v : ByteArray) (x : Spv) (w : World) (h : RdH w rb mb x) : Calls Tryz.prog 60 #[.pointer (some ⟨rb, 0, none⟩), .string { data := #[104, 101, 108, 100] }, .string v] w (SetPost rb mb kHeld v x w) := by
  obtain ⟨⟨user, part, nodes, ⟨da, db, dc, dd⟩, wall, prio, array, retries, held, after⟩, so, n, cp⟩ := x
  have c0 : w.cell? ⟨rb, 0, none⟩ = some (.string user) := blk_cell h.head 0
  have c1 : w.cell? ⟨rb, 1, none⟩ = some (.string part) := blk_cell h.head 1
  have c2 : w.cell? ⟨rb, 2, none⟩ = some (.int .i64 nodes) := blk_cell h.head 2
  have c3 : w.cell? ⟨rb, 3, none⟩ = some (.int .i64 da) := blk_cell h.head 3
  have c4 : w.cell? ⟨rb, 4, none⟩ = some (.int .i64 db) := blk_cell h.head 4
  have c5 : w.cell? ⟨rb, 5, none⟩ = some (.int .i64 dc) := blk_cell h.head 5
  have c6 : w.cell? ⟨rb, 6, none⟩ = some (.int .i64 dd) := blk_cell h.head 6
  have c11 : w.cell? ⟨rb, 11, none⟩ = some (.bool held) := blk_cell h.head 11
  have c12 : w.cell? ⟨rb, 12, none⟩ = some (.slice so n cp) := blk_cell h.head 12
  have fr := blk_free h.head
  have hg1 : w.grownBy (w.setCell ⟨rb, 11, none⟩ (.bool true)) (some rb) := gb_set (gb_refl w _) _
  have h1 : RdH (w.setCell ⟨rb, 11, none⟩ (.bool true)) rb mb ⟨⟨user, part, nodes, ⟨da, db, dc, dd⟩, wall, prio, array, retries, true, after⟩, so, n, cp⟩ :=
    ⟨blk_set h.head 11 _, ⟨ints_gb h.ok.after hg1 h.off, h.ok.ple, h.ok.user, h.ok.part⟩, h.off⟩
  by_cases q : v = { data := #[49] }
  · have hz : setP kHeld v ⟨user, part, nodes, ⟨da, db, dc, dd⟩, wall, prio, array, retries, held, after⟩ = some ⟨user, part, nodes, ⟨da, db, dc, dd⟩, wall, prio, array, retries, true, after⟩ := if_pos q
    subst q
    replace h := Lib.hid h; replace hg1 := Lib.hid hg1; replace h1 := Lib.hid h1; replace hz := Lib.hid hz
    go_enter Tryz.func60, Tryz.ntmps60
    go_wp2
    go_ret
    exact ⟨hg1.out, .inl ⟨_, rfl, hz.out, h1.out, .inl rfl⟩⟩
  · have hz : setP kHeld v ⟨user, part, nodes, ⟨da, db, dc, dd⟩, wall, prio, array, retries, held, after⟩ = none := if_neg q
    have d : (v.toList == [49]) = false := key_nel (l := [49]) q
    replace h := Lib.hid h; replace hg1 := Lib.hid hg1; replace h1 := Lib.hid h1; replace hz := Lib.hid hz; replace q := Lib.hid q
    go_enter Tryz.func60, Tryz.ntmps60
    go_wp2
    go_ret
    exact ⟨hg1.out, .inr ⟨rfl, hz.out⟩⟩
theorem setP_dem (v : ByteArray) (s : Spp) : setP kDemand v s = if (vecOf v).2 = 0 ∧ (vecOf v).1 ≠ V4.zero then some { s with dem := (vecOf v).1 } else none := rfl
set_option maxRecDepth 100000 in
set_option maxHeartbeats 1600000 in
theorem set_demand (rb mb : Nat) (v : ByteArray) (x : Spv) (w : World) (h : RdH w rb mb x) (hm : Mx w) (hv : v.size ≤ 4294967280) : Calls Tryz.prog 60 #[.pointer (some ⟨rb, 0, none⟩), .string { data := #[100, 101, 109, 97, 110, 100] }, .string v] w (SetPost rb mb kDemand v x w) := by
  obtain ⟨⟨user, part, nodes, ⟨da, db, dc, dd⟩, wall, prio, array, retries, held, after⟩, so, n, cp⟩ := x
  have hcv := vread_any v w hm hv
  have hz := setP_dem v ⟨user, part, nodes, ⟨da, db, dc, dd⟩, wall, prio, array, retries, held, after⟩
  obtain ⟨u, hu⟩ : ∃ u, u = (vecOf v).1 := ⟨_, rfl⟩
  obtain ⟨r, hr⟩ : ∃ r, r = (vecOf v).2 := ⟨_, rfl⟩
  rw [← hu, ← hr] at hcv hz
  obtain ⟨ua, ub, uc, ud⟩ := u
  have hE := eq25 ⟨ua, ub, uc, ud⟩ ⟨0, 0, 0, 0⟩
  obtain ⟨q, hq⟩ : ∃ q, q = decide ((⟨ua, ub, uc, ud⟩ : V4) = ⟨0, 0, 0, 0⟩) := ⟨_, rfl⟩
  rw [← hq] at hE
  have hE' := Lib.hid hE
  clear hE
  replace h := Lib.hid h; replace hcv := Lib.hid hcv; replace hz := Lib.hid hz; replace hu := Lib.hid hu; replace hr := Lib.hid hr; replace hq := Lib.hid hq; replace hm := Lib.hid hm; replace hv := Lib.hid hv
  go_enter Tryz.func60, Tryz.ntmps60
  go_wp2_with fail
  refine hcv.out.mono ?_
  rintro e w1 ⟨rfl, hb1⟩
  have h1 := h.out.low hb1
  have c0 : w1.cell? ⟨rb, 0, none⟩ = some (.string user) := blk_cell h1.head 0
  have c1 : w1.cell? ⟨rb, 1, none⟩ = some (.string part) := blk_cell h1.head 1
  have c2 : w1.cell? ⟨rb, 2, none⟩ = some (.int .i64 nodes) := blk_cell h1.head 2
  have c3 : w1.cell? ⟨rb, 3, none⟩ = some (.int .i64 da) := blk_cell h1.head 3
  have c4 : w1.cell? ⟨rb, 4, none⟩ = some (.int .i64 db) := blk_cell h1.head 4
  have c5 : w1.cell? ⟨rb, 5, none⟩ = some (.int .i64 dc) := blk_cell h1.head 5
  have c6 : w1.cell? ⟨rb, 6, none⟩ = some (.int .i64 dd) := blk_cell h1.head 6
  have c11 : w1.cell? ⟨rb, 11, none⟩ = some (.bool held) := blk_cell h1.head 11
  have c12 : w1.cell? ⟨rb, 12, none⟩ = some (.slice so n cp) := blk_cell h1.head 12
  have fr := blk_free h1.head
  have hg9 : w.grownBy ((((w1.setCell ⟨rb, 3, none⟩ (.int .i64 ua)).setCell ⟨rb, 4, none⟩ (.int .i64 ub)).setCell ⟨rb, 5, none⟩ (.int .i64 uc)).setCell ⟨rb, 6, none⟩ (.int .i64 ud)) (some rb) :=
    gb_trans (gb_below hb1 (some rb)) (gb_set (gb_set (gb_set (gb_set (gb_refl w1 _) _) _) _) _)
  have h9 : RdH ((((w1.setCell ⟨rb, 3, none⟩ (.int .i64 ua)).setCell ⟨rb, 4, none⟩ (.int .i64 ub)).setCell ⟨rb, 5, none⟩ (.int .i64 uc)).setCell ⟨rb, 6, none⟩ (.int .i64 ud)) rb mb ⟨⟨user, part, nodes, ⟨ua, ub, uc, ud⟩, wall, prio, array, retries, held, after⟩, so, n, cp⟩ :=
    ⟨blk_set (blk_set (blk_set (blk_set h1.head 3 _) 4 _) 5 _) 6 _, ⟨ints_gb h1.ok.after (gb_set (gb_set (gb_set (gb_set (gb_refl w1 (some rb)) _) _) _) _) h1.off, h1.ok.ple, h1.ok.user, h1.ok.part⟩, h1.off⟩
  replace hb1 := Lib.hid hb1; replace h1 := Lib.hid h1; replace hg9 := Lib.hid hg9; replace h9 := Lib.hid h9
  by_cases r0 : r = 0
  · have d : (r == 0) = true := by simp [r0]
    have hE := hE'.out
    cases q with
    | true =>
      have hzz : setP kDemand v ⟨user, part, nodes, ⟨da, db, dc, dd⟩, wall, prio, array, retries, held, after⟩ = none := by
        rw [hz.out, if_neg]
        intro c
        exact c.2 (of_decide_eq_true hq.out.symm)
      replace hzz := Lib.hid hzz; replace r0 := Lib.hid r0
      go_wp2
      go_ret
      exact ⟨hg9.out, .inr ⟨rfl, hzz.out⟩⟩
    | false =>
      have hzz : setP kDemand v ⟨user, part, nodes, ⟨da, db, dc, dd⟩, wall, prio, array, retries, held, after⟩ = some ⟨user, part, nodes, ⟨ua, ub, uc, ud⟩, wall, prio, array, retries, held, after⟩ := by
        rw [hz.out, if_pos ⟨r0, of_decide_eq_false hq.out.symm⟩]
      replace hzz := Lib.hid hzz; replace r0 := Lib.hid r0
      go_wp2
      go_ret
      exact ⟨hg9.out, .inl ⟨_, rfl, hzz.out, h9.out, .inl rfl⟩⟩
  · have d : (r == 0) = false := by simp [r0]
    have hzz : setP kDemand v ⟨user, part, nodes, ⟨da, db, dc, dd⟩, wall, prio, array, retries, held, after⟩ = none := by
      rw [hz.out, if_neg]
      intro c
      exact r0 c.1
    replace hzz := Lib.hid hzz; replace r0 := Lib.hid r0
    go_wp2
    go_ret
    exact ⟨hg9.out, .inr ⟨rfl, hzz.out⟩⟩
theorem rowN_yes' {v : ByteArray} {l : List Int} {b : Bool} (h : manyN (cutAll 44 v.data.toList) = some l) (hb : b = waitsL l) : rowN v = if b = true then some l else none := by unfold rowN; rw [h, hb]
theorem setP_aft (v : ByteArray) (s : Spp) : setP kAfter v s = (rowN v).map fun l => { s with after := l } := rfl
set_option maxRecDepth 100000 in
set_option maxHeartbeats 1600000 in
theorem set_after (rb mb : Nat) (v : ByteArray) (x : Spv) (w : World) (h : RdH w rb mb x) (hm : Mx w) (hv : v.size ≤ 4294967200) : Calls Tryz.prog 60 #[.pointer (some ⟨rb, 0, none⟩), .string { data := #[97, 102, 116, 101, 114] }, .string v] w (SetPost rb mb kAfter v x w) := by
  obtain ⟨⟨user, part, nodes, ⟨da, db, dc, dd⟩, wall, prio, array, retries, held, after⟩, so, n, cp⟩ := x
  have hcv := nums_any v w hm hv
  have hz := setP_aft v ⟨user, part, nodes, ⟨da, db, dc, dd⟩, wall, prio, array, retries, held, after⟩
  replace h := Lib.hid h; replace hcv := Lib.hid hcv; replace hz := Lib.hid hz; replace hm := Lib.hid hm; replace hv := Lib.hid hv
  go_enter Tryz.func60, Tryz.ntmps60
  go_wp2_with fail
  refine hcv.out.mono ?_
  rintro e w1 ⟨hb1, ⟨hno, rfl⟩ | ⟨l, so2, n2, cp2, hl, rfl, hnc, hi, hn0, hfr⟩⟩
  · have h1 := h.out.low hb1
    have c0 : w1.cell? ⟨rb, 0, none⟩ = some (.string user) := blk_cell h1.head 0
    have c1 : w1.cell? ⟨rb, 1, none⟩ = some (.string part) := blk_cell h1.head 1
    have c2 : w1.cell? ⟨rb, 2, none⟩ = some (.int .i64 nodes) := blk_cell h1.head 2
    have c3 : w1.cell? ⟨rb, 3, none⟩ = some (.int .i64 da) := blk_cell h1.head 3
    have c4 : w1.cell? ⟨rb, 4, none⟩ = some (.int .i64 db) := blk_cell h1.head 4
    have c5 : w1.cell? ⟨rb, 5, none⟩ = some (.int .i64 dc) := blk_cell h1.head 5
    have c6 : w1.cell? ⟨rb, 6, none⟩ = some (.int .i64 dd) := blk_cell h1.head 6
    have c11 : w1.cell? ⟨rb, 11, none⟩ = some (.bool held) := blk_cell h1.head 11
    have c12 : w1.cell? ⟨rb, 12, none⟩ = some (.slice so n cp) := blk_cell h1.head 12
    have fr := blk_free h1.head
    have hg9 : w.grownBy (w1.setCell ⟨rb, 12, none⟩ (.slice none 0 0)) (some rb) := gb_trans (gb_below hb1 (some rb)) (gb_set (gb_refl w1 _) _)
    have hzz : setP kAfter v ⟨user, part, nodes, ⟨da, db, dc, dd⟩, wall, prio, array, retries, held, after⟩ = none := by
      rw [hz.out]; unfold rowN; rw [hno]; rfl
    replace hb1 := Lib.hid hb1; replace h1 := Lib.hid h1; replace hg9 := Lib.hid hg9; replace hno := Lib.hid hno; replace hzz := Lib.hid hzz
    go_wp2
    go_ret
    exact ⟨hg9.out, .inr ⟨rfl, hzz.out⟩⟩
  · have h1 := h.out.low hb1
    have c0 : w1.cell? ⟨rb, 0, none⟩ = some (.string user) := blk_cell h1.head 0
    have c1 : w1.cell? ⟨rb, 1, none⟩ = some (.string part) := blk_cell h1.head 1
    have c2 : w1.cell? ⟨rb, 2, none⟩ = some (.int .i64 nodes) := blk_cell h1.head 2
    have c3 : w1.cell? ⟨rb, 3, none⟩ = some (.int .i64 da) := blk_cell h1.head 3
    have c4 : w1.cell? ⟨rb, 4, none⟩ = some (.int .i64 db) := blk_cell h1.head 4
    have c5 : w1.cell? ⟨rb, 5, none⟩ = some (.int .i64 dc) := blk_cell h1.head 5
    have c6 : w1.cell? ⟨rb, 6, none⟩ = some (.int .i64 dd) := blk_cell h1.head 6
    have c11 : w1.cell? ⟨rb, 11, none⟩ = some (.bool held) := blk_cell h1.head 11
    have c12 : w1.cell? ⟨rb, 12, none⟩ = some (.slice so n cp) := blk_cell h1.head 12
    have fr := blk_free h1.head
    have hg9 : w.grownBy (w1.setCell ⟨rb, 12, none⟩ (.slice so2 n2 cp2)) (some rb) := gb_trans (gb_below hb1 (some rb)) (gb_set (gb_refl w1 _) _)
    have hlt := blk_lt h1.head
    have hoff : ∀ b o, so2 = some ⟨b, o, none⟩ → b ≠ rb := fun b o e c => by
      have := hfr b o e
      have := blk_lt h.out.head
      omega
    have hi9 := ints_gb hi (gb_set (gb_refl w1 (some rb)) (o := 12) (.slice so2 n2 cp2)) hoff
    have h9 : RdH (w1.setCell ⟨rb, 12, none⟩ (.slice so2 n2 cp2)) rb mb ⟨⟨user, part, nodes, ⟨da, db, dc, dd⟩, wall, prio, array, retries, held, l⟩, so2, n2, cp2⟩ :=
      ⟨blk_set h1.head 12 _, ⟨hi9, hnc, h1.ok.user, h1.ok.part⟩, hoff⟩
    have hcw := waits_any so2 n2 cp2 l _ hi9 hnc
    obtain ⟨b, hb⟩ : ∃ b, b = waitsL l := ⟨_, rfl⟩
    rw [← hb] at hcw
    have hzz : setP kAfter v ⟨user, part, nodes, ⟨da, db, dc, dd⟩, wall, prio, array, retries, held, after⟩ = if b = true then some ⟨user, part, nodes, ⟨da, db, dc, dd⟩, wall, prio, array, retries, held, l⟩ else none := by
      rw [hz.out, rowN_yes' hl hb]; cases b <;> rfl
    have d : decide ((0 : Int) < n2) = true := decide_eq_true (by omega)
    have d' : decide (0 < n2) = true := decide_eq_true hn0
    replace hb1 := Lib.hid hb1; replace h1 := Lib.hid h1; replace hg9 := Lib.hid hg9; replace h9 := Lib.hid h9; replace hl := Lib.hid hl; replace hnc := Lib.hid hnc; replace hi := Lib.hid hi; replace hi9 := Lib.hid hi9; replace hoff := Lib.hid hoff; replace hfr := Lib.hid hfr; replace hcw := Lib.hid hcw; replace hb := Lib.hid hb; replace hzz := Lib.hid hzz; replace hlt := Lib.hid hlt
    go_wp2_with fail
    refine hcw.out.mono ?_
    rintro e w5 ⟨rfl, rfl⟩
    cases b with
    | false =>
      go_wp2
      go_ret
      exact ⟨hg9.out, .inr ⟨rfl, by rw [hzz.out]; rfl⟩⟩
    | true =>
      go_wp2
      go_ret
      exact ⟨hg9.out, .inl ⟨_, rfl, by rw [hzz.out]; rfl, h9.out, .inr hfr.out⟩⟩
set_option maxRecDepth 100000 in
set_option maxHeartbeats 1600000 in
theorem set_nodes (rb mb : Nat) (v : ByteArray) (x : Spv) (w : World) (h : RdH w rb mb x) (hv : v.size ≤ maxLen) : Calls Tryz.prog 60 #[.pointer (some ⟨rb, 0, none⟩), .string { data := #[110, 111, 100, 101, 115] }, .string v] w (SetPost rb mb kNodes v x w) := by
  obtain ⟨⟨user, part, nodes, ⟨da, db, dc, dd⟩, wall, prio, array, retries, held, after⟩, so, n, cp⟩ := x
  have hcw := whole_any rb 2 { data := #[110, 111, 100, 101, 115] } v 1 16 w bound_nodes (field_nodes rb) hv h.head nodes rfl
  have hz : setP kNodes v ⟨user, part, nodes, ⟨da, db, dc, dd⟩, wall, prio, array, retries, held, after⟩ = (fieldN v 1 16).map fun m => ⟨user, part, m, ⟨da, db, dc, dd⟩, wall, prio, array, retries, held, after⟩ := rfl
  replace h := Lib.hid h; replace hcw := Lib.hid hcw; replace hz := Lib.hid hz; replace hv := Lib.hid hv
  go_enter Tryz.func60, Tryz.ntmps60
  go_wp2_with fail
  refine hcw.out.mono ?_
  rintro e w1 (⟨m, w2, rfl, hf, hb2, rfl⟩ | ⟨rfl, hf, hb2⟩)
  · have hg9 : w.grownBy (w2.setCell ⟨rb, 2, none⟩ (.int .i64 m)) (some rb) := gb_trans (gb_below hb2 (some rb)) (gb_set (gb_refl w2 _) _)
    have h2 := h.out.low hb2
    have h9 : RdH (w2.setCell ⟨rb, 2, none⟩ (.int .i64 m)) rb mb ⟨⟨user, part, m, ⟨da, db, dc, dd⟩, wall, prio, array, retries, held, after⟩, so, n, cp⟩ :=
      ⟨blk_set h2.head 2 _, ⟨ints_gb h2.ok.after (gb_set (gb_refl w2 (some rb)) _) h2.off, h2.ok.ple, h2.ok.user, h2.ok.part⟩, h2.off⟩
    replace hf := Lib.hid hf; replace hb2 := Lib.hid hb2; replace hg9 := Lib.hid hg9; replace h2 := Lib.hid h2; replace h9 := Lib.hid h9
    go_wp2
    go_ret
    exact ⟨hg9.out, .inl ⟨_, rfl, by rw [hz.out, hf.out]; rfl, h9.out, .inl rfl⟩⟩
  · have hg9 : w.grownBy w1 (some rb) := gb_below hb2 (some rb)
    replace hf := Lib.hid hf; replace hb2 := Lib.hid hb2; replace hg9 := Lib.hid hg9
    go_wp2
    go_ret
    exact ⟨hg9.out, .inr ⟨rfl, by rw [hz.out, hf.out]; rfl⟩⟩
set_option maxRecDepth 100000 in
set_option maxHeartbeats 1600000 in
theorem set_wall (rb mb : Nat) (v : ByteArray) (x : Spv) (w : World) (h : RdH w rb mb x) (hv : v.size ≤ maxLen) : Calls Tryz.prog 60 #[.pointer (some ⟨rb, 0, none⟩), .string { data := #[119, 97, 108, 108] }, .string v] w (SetPost rb mb kWall v x w) := by
  obtain ⟨⟨user, part, nodes, ⟨da, db, dc, dd⟩, wall, prio, array, retries, held, after⟩, so, n, cp⟩ := x
  have hcw := whole_any rb 7 { data := #[119, 97, 108, 108] } v 1 1000 w bound_wall (field_wall rb) hv h.head wall rfl
  have hz : setP kWall v ⟨user, part, nodes, ⟨da, db, dc, dd⟩, wall, prio, array, retries, held, after⟩ = (fieldN v 1 1000).map fun m => ⟨user, part, nodes, ⟨da, db, dc, dd⟩, m, prio, array, retries, held, after⟩ := rfl
  replace h := Lib.hid h; replace hcw := Lib.hid hcw; replace hz := Lib.hid hz; replace hv := Lib.hid hv
  go_enter Tryz.func60, Tryz.ntmps60
  go_wp2_with fail
  refine hcw.out.mono ?_
  rintro e w1 (⟨m, w2, rfl, hf, hb2, rfl⟩ | ⟨rfl, hf, hb2⟩)
  · have hg9 : w.grownBy (w2.setCell ⟨rb, 7, none⟩ (.int .i64 m)) (some rb) := gb_trans (gb_below hb2 (some rb)) (gb_set (gb_refl w2 _) _)
    have h2 := h.out.low hb2
    have h9 : RdH (w2.setCell ⟨rb, 7, none⟩ (.int .i64 m)) rb mb ⟨⟨user, part, nodes, ⟨da, db, dc, dd⟩, m, prio, array, retries, held, after⟩, so, n, cp⟩ :=
      ⟨blk_set h2.head 7 _, ⟨ints_gb h2.ok.after (gb_set (gb_refl w2 (some rb)) _) h2.off, h2.ok.ple, h2.ok.user, h2.ok.part⟩, h2.off⟩
    replace hf := Lib.hid hf; replace hb2 := Lib.hid hb2; replace hg9 := Lib.hid hg9; replace h2 := Lib.hid h2; replace h9 := Lib.hid h9
    go_wp2
    go_ret
    exact ⟨hg9.out, .inl ⟨_, rfl, by rw [hz.out, hf.out]; rfl, h9.out, .inl rfl⟩⟩
  · have hg9 : w.grownBy w1 (some rb) := gb_below hb2 (some rb)
    replace hf := Lib.hid hf; replace hb2 := Lib.hid hb2; replace hg9 := Lib.hid hg9
    go_wp2
    go_ret
    exact ⟨hg9.out, .inr ⟨rfl, by rw [hz.out, hf.out]; rfl⟩⟩
set_option maxRecDepth 100000 in
set_option maxHeartbeats 1600000 in
theorem set_array (rb mb : Nat) (v : ByteArray) (x : Spv) (w : World) (h : RdH w rb mb x) (hv : v.size ≤ maxLen) : Calls Tryz.prog 60 #[.pointer (some ⟨rb, 0, none⟩), .string { data := #[97, 114, 114, 97, 121] }, .string v] w (SetPost rb mb kArray v x w) := by
  obtain ⟨⟨user, part, nodes, ⟨da, db, dc, dd⟩, wall, prio, array, retries, held, after⟩, so, n, cp⟩ := x
  have hcw := whole_any rb 9 { data := #[97, 114, 114, 97, 121] } v 1 20 w bound_array (field_array rb) hv h.head array rfl
  have hz : setP kArray v ⟨user, part, nodes, ⟨da, db, dc, dd⟩, wall, prio, array, retries, held, after⟩ = (fieldN v 1 20).map fun m => ⟨user, part, nodes, ⟨da, db, dc, dd⟩, wall, prio, m, retries, held, after⟩ := rfl
  replace h := Lib.hid h; replace hcw := Lib.hid hcw; replace hz := Lib.hid hz; replace hv := Lib.hid hv
  go_enter Tryz.func60, Tryz.ntmps60
  go_wp2_with fail
  refine hcw.out.mono ?_
  rintro e w1 (⟨m, w2, rfl, hf, hb2, rfl⟩ | ⟨rfl, hf, hb2⟩)
  · have hg9 : w.grownBy (w2.setCell ⟨rb, 9, none⟩ (.int .i64 m)) (some rb) := gb_trans (gb_below hb2 (some rb)) (gb_set (gb_refl w2 _) _)
    have h2 := h.out.low hb2
    have h9 : RdH (w2.setCell ⟨rb, 9, none⟩ (.int .i64 m)) rb mb ⟨⟨user, part, nodes, ⟨da, db, dc, dd⟩, wall, prio, m, retries, held, after⟩, so, n, cp⟩ :=
      ⟨blk_set h2.head 9 _, ⟨ints_gb h2.ok.after (gb_set (gb_refl w2 (some rb)) _) h2.off, h2.ok.ple, h2.ok.user, h2.ok.part⟩, h2.off⟩
    replace hf := Lib.hid hf; replace hb2 := Lib.hid hb2; replace hg9 := Lib.hid hg9; replace h2 := Lib.hid h2; replace h9 := Lib.hid h9
    go_wp2
    go_ret
    exact ⟨hg9.out, .inl ⟨_, rfl, by rw [hz.out, hf.out]; rfl, h9.out, .inl rfl⟩⟩
  · have hg9 : w.grownBy w1 (some rb) := gb_below hb2 (some rb)
    replace hf := Lib.hid hf; replace hb2 := Lib.hid hb2; replace hg9 := Lib.hid hg9
    go_wp2
    go_ret
    exact ⟨hg9.out, .inr ⟨rfl, by rw [hz.out, hf.out]; rfl⟩⟩
set_option maxRecDepth 100000 in
set_option maxHeartbeats 1600000 in
theorem set_prio (rb mb : Nat) (v : ByteArray) (x : Spv) (w : World) (h : RdH w rb mb x) (hv : v.size ≤ maxLen) : Calls Tryz.prog 60 #[.pointer (some ⟨rb, 0, none⟩), .string { data := #[112, 114, 105, 111] }, .string v] w (SetPost rb mb kPrio v x w) := by
  obtain ⟨⟨user, part, nodes, ⟨da, db, dc, dd⟩, wall, prio, array, retries, held, after⟩, so, n, cp⟩ := x
  have hcw := whole_any rb 8 { data := #[112, 114, 105, 111] } v 0 100 w bound_prio (field_prio rb) hv h.head prio rfl
  have hz : setP kPrio v ⟨user, part, nodes, ⟨da, db, dc, dd⟩, wall, prio, array, retries, held, after⟩ = (fieldN v 0 100).map fun m => ⟨user, part, nodes, ⟨da, db, dc, dd⟩, wall, m, array, retries, held, after⟩ := rfl
  replace h := Lib.hid h; replace hcw := Lib.hid hcw; replace hz := Lib.hid hz; replace hv := Lib.hid hv
  go_enter Tryz.func60, Tryz.ntmps60
  go_wp2_with fail
  refine hcw.out.mono ?_
  rintro e w1 (⟨m, w2, rfl, hf, hb2, rfl⟩ | ⟨rfl, hf, hb2⟩)
  · have hg9 : w.grownBy (w2.setCell ⟨rb, 8, none⟩ (.int .i64 m)) (some rb) := gb_trans (gb_below hb2 (some rb)) (gb_set (gb_refl w2 _) _)
    have h2 := h.out.low hb2
    have h9 : RdH (w2.setCell ⟨rb, 8, none⟩ (.int .i64 m)) rb mb ⟨⟨user, part, nodes, ⟨da, db, dc, dd⟩, wall, m, array, retries, held, after⟩, so, n, cp⟩ :=
      ⟨blk_set h2.head 8 _, ⟨ints_gb h2.ok.after (gb_set (gb_refl w2 (some rb)) _) h2.off, h2.ok.ple, h2.ok.user, h2.ok.part⟩, h2.off⟩
    replace hf := Lib.hid hf; replace hb2 := Lib.hid hb2; replace hg9 := Lib.hid hg9; replace h2 := Lib.hid h2; replace h9 := Lib.hid h9
    go_wp2
    go_ret
    exact ⟨hg9.out, .inl ⟨_, rfl, by rw [hz.out, hf.out]; rfl, h9.out, .inl rfl⟩⟩
  · have hg9 : w.grownBy w1 (some rb) := gb_below hb2 (some rb)
    replace hf := Lib.hid hf; replace hb2 := Lib.hid hb2; replace hg9 := Lib.hid hg9
    go_wp2
    go_ret
    exact ⟨hg9.out, .inr ⟨rfl, by rw [hz.out, hf.out]; rfl⟩⟩
set_option maxRecDepth 100000 in
set_option maxHeartbeats 1600000 in
theorem set_retries (rb mb : Nat) (v : ByteArray) (x : Spv) (w : World) (h : RdH w rb mb x) (hv : v.size ≤ maxLen) : Calls Tryz.prog 60 #[.pointer (some ⟨rb, 0, none⟩), .string { data := #[114, 101, 116, 114, 105, 101, 115] }, .string v] w (SetPost rb mb kRetries v x w) := by
  obtain ⟨⟨user, part, nodes, ⟨da, db, dc, dd⟩, wall, prio, array, retries, held, after⟩, so, n, cp⟩ := x
  have hcw := whole_any rb 10 { data := #[114, 101, 116, 114, 105, 101, 115] } v 0 5 w bound_retries (field_retries rb) hv h.head retries rfl
  have hz : setP kRetries v ⟨user, part, nodes, ⟨da, db, dc, dd⟩, wall, prio, array, retries, held, after⟩ = (fieldN v 0 5).map fun m => ⟨user, part, nodes, ⟨da, db, dc, dd⟩, wall, prio, array, m, held, after⟩ := rfl
  replace h := Lib.hid h; replace hcw := Lib.hid hcw; replace hz := Lib.hid hz; replace hv := Lib.hid hv
  go_enter Tryz.func60, Tryz.ntmps60
  go_wp2_with fail
  refine hcw.out.mono ?_
  rintro e w1 (⟨m, w2, rfl, hf, hb2, rfl⟩ | ⟨rfl, hf, hb2⟩)
  · have hg9 : w.grownBy (w2.setCell ⟨rb, 10, none⟩ (.int .i64 m)) (some rb) := gb_trans (gb_below hb2 (some rb)) (gb_set (gb_refl w2 _) _)
    have h2 := h.out.low hb2
    have h9 : RdH (w2.setCell ⟨rb, 10, none⟩ (.int .i64 m)) rb mb ⟨⟨user, part, nodes, ⟨da, db, dc, dd⟩, wall, prio, array, m, held, after⟩, so, n, cp⟩ :=
      ⟨blk_set h2.head 10 _, ⟨ints_gb h2.ok.after (gb_set (gb_refl w2 (some rb)) _) h2.off, h2.ok.ple, h2.ok.user, h2.ok.part⟩, h2.off⟩
    replace hf := Lib.hid hf; replace hb2 := Lib.hid hb2; replace hg9 := Lib.hid hg9; replace h2 := Lib.hid h2; replace h9 := Lib.hid h9
    go_wp2
    go_ret
    exact ⟨hg9.out, .inl ⟨_, rfl, by rw [hz.out, hf.out]; rfl, h9.out, .inl rfl⟩⟩
  · have hg9 : w.grownBy w1 (some rb) := gb_below hb2 (some rb)
    replace hf := Lib.hid hf; replace hb2 := Lib.hid hb2; replace hg9 := Lib.hid hg9
    go_wp2
    go_ret
    exact ⟨hg9.out, .inr ⟨rfl, by rw [hz.out, hf.out]; rfl⟩⟩
set_option maxRecDepth 100000 in
set_option maxHeartbeats 1600000 in
theorem set_else (rb mb : Nat) (k v : ByteArray) (x : Spv) (w : World) (hk : k ∉ keysL) : Calls Tryz.prog 60 #[.pointer (some ⟨rb, 0, none⟩), .string k, .string v] w (SetPost rb mb k v x w) := by
  simp only [keysL, List.mem_cons, List.not_mem_nil, or_false, not_or] at hk
  obtain ⟨n1, n2, n3, n4, n5, n6, n7, n8, n9, n10⟩ := hk
  have d1 : (k.toList == [117, 115, 101, 114]) = false := key_nel n1
  have d2 : (k.toList == [112, 97, 114, 116]) = false := key_nel n2
  have d3 : (k.toList == [110, 111, 100, 101, 115]) = false := key_nel n3
  have d4 : (k.toList == [100, 101, 109, 97, 110, 100]) = false := key_nel n4
  have d5 : (k.toList == [119, 97, 108, 108]) = false := key_nel n5
  have d6 : (k.toList == [112, 114, 105, 111]) = false := key_nel n6
  have d7 : (k.toList == [97, 114, 114, 97, 121]) = false := key_nel n7
  have d8 : (k.toList == [114, 101, 116, 114, 105, 101, 115]) = false := key_nel n8
  have d9 : (k.toList == [104, 101, 108, 100]) = false := key_nel n9
  have d10 : (k.toList == [97, 102, 116, 101, 114]) = false := key_nel n10
  have hz : setP k v x.pl = none := by
    unfold setP
    rw [if_neg n1, if_neg n2, if_neg n3, if_neg n4, if_neg n5, if_neg n6, if_neg n7, if_neg n8, if_neg n9, if_neg n10]
  have hg : w.grownBy w (some rb) := gb_refl w _
  replace n1 := Lib.hid n1; replace n2 := Lib.hid n2; replace n3 := Lib.hid n3; replace n4 := Lib.hid n4; replace n5 := Lib.hid n5; replace n6 := Lib.hid n6; replace n7 := Lib.hid n7; replace n8 := Lib.hid n8; replace n9 := Lib.hid n9; replace n10 := Lib.hid n10; replace hz := Lib.hid hz; replace hg := Lib.hid hg
  go_enter Tryz.func60, Tryz.ntmps60
  go_wp2
  go_ret
  exact ⟨hg.out, .inr ⟨rfl, hz.out⟩⟩
theorem set_any (rb mb : Nat) (k v : ByteArray) (x : Spv) (w : World) (h : RdH w rb mb x) (hm : Mx w) (hv : v.size ≤ 4294967200) : Calls Tryz.prog 60 #[.pointer (some ⟨rb, 0, none⟩), .string k, .string v] w (SetPost rb mb k v x w) := by
  have hv2 : v.size ≤ maxLen := by have : maxLen = 9223372036854775807 := rfl; omega
  by_cases hk : k ∈ keysL
  · simp only [keysL, List.mem_cons, List.not_mem_nil, or_false] at hk
    rcases hk with rfl | rfl | rfl | rfl | rfl | rfl | rfl | rfl | rfl | rfl
    · exact set_user rb mb v x w h hv2
    · exact set_part rb mb v x w h hv2
    · exact set_nodes rb mb v x w h hv2
    · exact set_demand rb mb v x w h hm (by omega)
    · exact set_wall rb mb v x w h hv2
    · exact set_prio rb mb v x w h hv2
    · exact set_array rb mb v x w h hv2
    · exact set_retries rb mb v x w h hv2
    · exact set_held rb mb v x w h
    · exact set_after rb mb v x w h hm hv
  · exact set_else rb mb k v x w hk
end Go.Proofs.YteoihdkaoipocaaGreatDoor

/- spec.Parse's parts: its map of keys met, its words cut. -/
namespace Go.Proofs.YteoihdkaoipocaaGreatDoor
open Go.RowKit Go.Maps Go.Shelf Go.Sort

def mapK (ns : List ByteArray) : DU := (ns.zipIdx 1).foldl (fun m p => m.put (keyB p.1) (.lit (.int .i64 (p.2 : Int)))) (.map [])
theorem mapK_snoc (ns : List ByteArray) (x : ByteArray) : mapK (ns ++ [x]) = (mapK ns).put (keyB x) (.lit (.int .i64 ((ns.length : Int) + 1))) := by
  unfold mapK
  rw [List.zipIdx_append, List.foldl_append]
  simp [Int.add_comm]
theorem mapK_isMap (ns : List ByteArray) : IsMap (mapK ns) := by
  induction ns using rev_ind with
  | h0 => exact isMap_empty
  | h1 l x ih => rw [mapK_snoc]; exact ih.put _ _
/-- what a key's lookup tells -/
theorem mapK_at (ns : List ByteArray) (s : ByteArray) : ∃ c : Int, (mapK ns).atKey (keyB s) (.lit (.int .i64 0)) = .lit (.int .i64 c) ∧ (memB ns s = true → 1 ≤ c) ∧ (memB ns s = false → c = 0) := by
  induction ns using rev_ind with
  | h0 => exact ⟨0, rfl, nofun, fun _ => rfl⟩
  | h1 l x ih =>
    rw [mapK_snoc]
    by_cases e : s = x
    · subst e
      refine ⟨_, by rw [atKey_put_same (mapK_isMap l) (keyB_lit _)], fun _ => by omega, fun h => ?_⟩
      rw [Bool.eq_false_iff] at h
      exact absurd (memB_iff.2 (by simp)) h
    · obtain ⟨c, h1, h2, h3⟩ := ih
      refine ⟨c, by rw [atKey_put_other (fun c => e (keyB_inj c)), h1], fun h => h2 ?_, fun h => h3 ?_⟩
      · rw [memB_iff] at h ⊢; exact mem_snoc h (fun c => e c.symm)
      · rw [← h, snoc_not e]
abbrev OwnK (W : World) (mb : Nat) (met : List ByteArray) : Prop := W.ownsMap Tryz.prog 9 (plainElem (H := Unit) Tryz.prog 3) mb met.length (mapK met)
theorem met_look {w : World} {mb : Nat} {met : List ByteArray} (h : OwnK w mb met) (s : ByteArray) (hs : s.size ≤ maxLen) :
    ∃ c, (Instr.lookup 65 (.map (some mb)) (.string s) false).run Tryz.prog w = .ok (.int .i64 c) w ∧ (memB met s = true → 1 ≤ c) ∧ (memB met s = false → c = 0) := by
  obtain ⟨c, hrun, hat, _⟩ := World.ownsMap.lookup_int h (string_keyed Tryz.underlying9) Tryz.underlying65 Tryz.underlying3 (zero3 w) (WideMaps.keyOf_string_mk Tryz.underlying9 hs)
  obtain ⟨c', h1, h2, h3⟩ := mapK_at met s
  have e : c = c' := by
    have h := DataW.lit.inj (hat.symm.trans h1)
    exact (Lit.int.inj h).2
  exact ⟨c, hrun, by rw [e]; exact h2, by rw [e]; exact h3⟩

/-- a word's cut at its first sign -/
theorem cutk_call (s : ByteArray) (w : World) (h : Mx w) (hs : s.size < 4294967281) :
    Calls Tryz.prog 59 #[.string s, .string { data := #[61] }] w fun e w' => (∃ k v b, e = .returned (.tuple #[.string k, .string v, .bool b]) ∧ keyVal s = (if b = true then some (k, v) else none) ∧ k.size ≤ s.size ∧ v.size ≤ s.size) ∧ ∃ n, w' = w.drewN n := by
  refine (cut_call s 61 w h hs).mono fun e w' ⟨⟨a, r, b, he, hc⟩, hn⟩ => ?_
  refine ⟨⟨ofL a, ofL r, b, he, ?_⟩, hn⟩
  rcases hc with ⟨rfl, rfl, rfl, hx⟩ | ⟨rfl, hl, hx⟩
  · refine ⟨?_, by rw [ofL_size, toL_len]; exact Nat.le_refl _, Nat.zero_le _⟩
    unfold keyVal
    rw [cut_no hx]
  · have hlen : s.size = a.length + (r.length + 1) := by rw [← toL_len, hl]; simp
    refine ⟨?_, by rw [ofL_size]; omega, by rw [ofL_size]; omega⟩
    unfold keyVal
    rw [hl, cut_hit hx]

/-- what stands while a text is parsed -/
structure ParW (w : World) (rb mb wb : Nat) (ws met : List ByteArray) (x : Spv) (W : World) : Prop where
  low : Below w.heap.size w W
  res : W.heap[w.heap.size]? = some (.cells Spv.zero.cells 26 (0, 0))
  rd : RdH W rb mb x
  map : OwnK W mb met
  row : StrsAt W (some ⟨wb, 0, none⟩) ws.length ws
  mx : Mx W
  rlt : w.heap.size < rb
  mlt : w.heap.size < mb
  wlt : w.heap.size < wb
  rm : rb ≠ mb
  rw : rb ≠ wb
  mw : mb ≠ wb
  xo : ∀ b o, x.so = some ⟨b, o, none⟩ → b ≠ mb ∧ w.heap.size < b
theorem strs_gb {w w' : World} {r b off n : Nat} {xs : List ByteArray} (h : StrsAt w (some ⟨b, off, none⟩) n xs) (hg : w.grownBy w' (some r)) (ho : b ≠ r) : StrsAt w' (some ⟨b, off, none⟩) n xs :=
  strs_keep h hg.size fun b' off' e hlt => by
    cases e
    exact hg.block b hlt (fun c => ho (by injection c with c))
theorem mx_gb {w w' : World} {r : Nat} (h : Mx w) (hg : w.grownBy w' (some r)) (ho : 0 < r) : Mx w' := by
  obtain ⟨m, hm⟩ := h
  exact ⟨m, (World.cell?_of_block (a := ⟨0, 0, none⟩) (w := w) (hg.block 0 (Mx.pos ⟨m, hm⟩) (fun c => by injection c with c; omega))).trans hm⟩
theorem below_gb {a w w' : World} {B r : Nat} (h : Below B a w) (hg : w.grownBy w' (some r)) (hB : B ≤ w.heap.size) (hr : B ≤ r) : Below B a w' :=
  h.grown hg hB (fun k e => by injection e with e; omega)
theorem ParW.below {w : World} {rb mb wb : Nat} {ws met : List ByteArray} {x : Spv} {W W' : World} (h : ParW w rb mb wb ws met x W) (hb : Below W.heap.size W W') : ParW w rb mb wb ws met x W' :=
  ⟨h.low.trans (hb.mono h.low.size), blk_below hb h.res (blk_lt h.res), h.rd.low hb, h.map.kept (row := none) ⟨hb.os, hb.tape, hb.output, hb.size, fun k hk _ => hb.block k hk⟩ (by simp), h.row.low hb, h.mx.low hb, h.rlt, h.mlt, h.wlt, h.rm, h.rw, h.mw, h.xo⟩
/-- behind a field's setting -/
theorem ParW.set {w : World} {rb mb wb : Nat} {ws met : List ByteArray} {x x' : Spv} {W W' : World} (h : ParW w rb mb wb ws met x W) (hg : W.grownBy W' (some rb)) (hr : RdH W' rb mb x') (ho : ∀ b o, x'.so = some ⟨b, o, none⟩ → b ≠ mb ∧ w.heap.size < b) : ParW w rb mb wb ws met x' W' :=
  ⟨below_gb h.low hg h.low.size (Nat.le_of_lt h.rlt), (hg.block _ (blk_lt h.res) (fun c => by injection c with c; have := h.rlt; omega)).trans h.res, hr, h.map.kept (row := some rb) hg (fun c => h.rm (by injection c with c; exact c.symm)), strs_gb h.row hg (fun c => h.rw c.symm), mx_gb h.mx hg (by have := h.rlt; omega), h.rlt, h.mlt, h.wlt, h.rm, h.rw, h.mw, ho⟩
/-- behind a key's laying down -/
theorem ParW.key {w : World} {rb mb wb : Nat} {ws met : List ByteArray} {x : Spv} {W W' : World} {k : ByteArray} (h : ParW w rb mb wb ws met x W) (hg : W.grownBy W' (some mb)) (hm : W'.ownsMap Tryz.prog 9 (plainElem (H := Unit) Tryz.prog 3) mb (met.length + 1) ((mapK met).put (keyB k) (.lit (.int .i64 ((met.length : Int) + 1))))) : ParW w rb mb wb ws (met ++ [k]) x W' :=
  ⟨below_gb h.low hg h.low.size (Nat.le_of_lt h.mlt), (hg.block _ (blk_lt h.res) (fun c => by injection c with c; have := h.mlt; omega)).trans h.res,
    ⟨(hg.block _ (blk_lt h.rd.head) (fun c => h.rm (by injection c with c))).trans h.rd.head, ⟨ints_gb h.rd.ok.after hg (fun b o e => (h.xo b o e).1), h.rd.ok.ple, h.rd.ok.user, h.rd.ok.part⟩, h.rd.off⟩,
    by show W'.ownsMap _ _ _ _ (met ++ [k]).length (mapK (met ++ [k])); rw [mapK_snoc, List.length_append]; exact hm, strs_gb h.row hg (fun c => h.mw c.symm), mx_gb h.mx hg (by have := h.mlt; omega), h.rlt, h.mlt, h.wlt, h.rm, h.rw, h.mw, h.xo⟩
end Go.Proofs.YteoihdkaoipocaaGreatDoor

/- spec.Parse: what a text asks for. -/
namespace Go.Proofs.YteoihdkaoipocaaGreatDoor
open Go.RowKit Go.Maps Go.Shelf Go.Sort

/-- a scope that is left by a jump ahead to one label: what stands behind the label is walked at the jump -/
theorem wp_scope_ahead {P : Program} {a : Act} {w : World} {Q : Exit → Act → World → Prop} {c rest : Code} (l : Nat) (hf : findLabel c l = some rest)
    (first : c.wp P (Exit.jump l (fun a w => rest.wp P (Exit.noGoto Q) a w) Q) a w) : (Code.scope c).wp P Q a w := by
  refine wp_scope_jumps l (fun a w => rest.wp P (Exit.noGoto Q) a w) (fun _ _ => 0) hf first ?_
  intro a' w' h b k cs
  obtain ⟨e, a₁, w₁, hq, harr⟩ := h b k cs
  refine ⟨e, a₁, w₁, ?_, harr⟩
  cases e with
  | goto l => exact hq.elim
  | _ => exact hq
def Spv.one : Spv := ⟨Spp.one, none, 0, 0⟩
theorem Spv.one_ok (w : World) : Spv.one.ok w := ⟨ints_none w, Nat.le_refl _, Nat.zero_le _, Nat.zero_le _⟩
def ParsePost (t : ByteArray) (w : World) (e : Ending) (w' : World) : Prop :=
  ∃ x : Spv, e = .returned (.tuple #[x.val, .int .i64 (parseOf t).2.1, .int .i64 (parseOf t).2.2]) ∧ x.ok w' ∧ x.pl = (parseOf t).1 ∧ Below w.heap.size w w' ∧ ∀ b o, x.so = some ⟨b, o, none⟩ → w.heap.size ≤ b
theorem low13 {w W : World} (h : Below w.heap.size w W) (v0 v1 v2 v3 v4 v5 v6 v7 v8 v9 v10 v11 v12 : Value) : Below w.heap.size w (((((((((((((W.setCell ⟨w.heap.size, 0, none⟩ v0).setCell ⟨w.heap.size, 1, none⟩ v1).setCell ⟨w.heap.size, 2, none⟩ v2).setCell ⟨w.heap.size, 3, none⟩ v3).setCell ⟨w.heap.size, 4, none⟩ v4).setCell ⟨w.heap.size, 5, none⟩ v5).setCell ⟨w.heap.size, 6, none⟩ v6).setCell ⟨w.heap.size, 7, none⟩ v7).setCell ⟨w.heap.size, 8, none⟩ v8).setCell ⟨w.heap.size, 9, none⟩ v9).setCell ⟨w.heap.size, 10, none⟩ v10).setCell ⟨w.heap.size, 11, none⟩ v11).setCell ⟨w.heap.size, 12, none⟩ v12) :=
  ((((((((((((h.setCell (Nat.le_refl _) _).setCell (Nat.le_refl _) _).setCell (Nat.le_refl _) _).setCell (Nat.le_refl _) _).setCell (Nat.le_refl _) _).setCell (Nat.le_refl _) _).setCell (Nat.le_refl _) _).setCell (Nat.le_refl _) _).setCell (Nat.le_refl _) _).setCell (Nat.le_refl _) _).setCell (Nat.le_refl _) _).setCell (Nat.le_refl _) _).setCell (Nat.le_refl _) _
theorem gb13 (w W : World) (v0 v1 v2 v3 v4 v5 v6 v7 v8 v9 v10 v11 v12 : Value) : W.grownBy (((((((((((((W.setCell ⟨w.heap.size, 0, none⟩ v0).setCell ⟨w.heap.size, 1, none⟩ v1).setCell ⟨w.heap.size, 2, none⟩ v2).setCell ⟨w.heap.size, 3, none⟩ v3).setCell ⟨w.heap.size, 4, none⟩ v4).setCell ⟨w.heap.size, 5, none⟩ v5).setCell ⟨w.heap.size, 6, none⟩ v6).setCell ⟨w.heap.size, 7, none⟩ v7).setCell ⟨w.heap.size, 8, none⟩ v8).setCell ⟨w.heap.size, 9, none⟩ v9).setCell ⟨w.heap.size, 10, none⟩ v10).setCell ⟨w.heap.size, 11, none⟩ v11).setCell ⟨w.heap.size, 12, none⟩ v12) (some w.heap.size) :=
  gb_set (gb_set (gb_set (gb_set (gb_set (gb_set (gb_set (gb_set (gb_set (gb_set (gb_set (gb_set (gb_set (gb_refl W _) _) _) _) _) _) _) _) _) _) _) _) _) _
/-- the result's cell as it was made -/
structure ResW (w W : World) : Prop where
  low : Below w.heap.size w W
  res : W.heap[w.heap.size]? = some (.cells Spv.zero.cells 26 (0, 0))
theorem parse_long (t : ByteArray) (w : World) (hlong : 4096 < t.size) : Calls Tryz.prog 25 #[.string t] w (ParsePost t w) := by
  have hz : parseOf t = (Spp.zero, 2, 0) := if_pos hlong
  have d : decide ((4096 : Int) < t.size) = true := decide_eq_true (by omega)
  have d' : decide (4096 < t.size) = true := decide_eq_true hlong
  replace hz := Lib.hid hz; replace hlong := Lib.hid hlong
  go_enter Tryz.func25, Tryz.ntmps25
  go_wp2
  apply wp_scope_straight
  go_wp2
  rw [Exit.noGoto_ret]
  refine bodyPost_ret (v := .tuple #[Spv.zero.val, .int .i64 2, .int .i64 0]) (by simp [results, Tryz.results25, go_sem, Spv.zero, Spp.zero, V4.zero]; rfl) rfl ⟨Spv.zero, by rw [hz.out], Spv.zero_ok _, by rw [hz.out]; rfl, ?_, fun b o e => by cases e⟩
  exact (Below.refl _ _).alloc (Nat.le_refl _) _
set_option maxRecDepth 100000 in
set_option maxHeartbeats 3200000 in
theorem parse_short (t : ByteArray) (w : World) (hm : Mx w) (hshort : ¬ 4096 < t.size) : Calls Tryz.prog 25 #[.string t] w (ParsePost t w) := by
  have hpo : parseOf t = endP (words t).length (parseW (words t) [] Spp.one) := if_neg hshort
  have d : decide ((4096 : Int) < t.size) = false := decide_eq_false (by omega)
  have d' : decide (4096 < t.size) = false := decide_eq_false hshort
  have hmm := @run_makeMap Tryz.prog
  obtain ⟨W3, hW3⟩ : ∃ W3, W3 = ((w.alloc (.cells Spv.zero.cells 26 (0, 0))).alloc (.map #[] 0)).alloc (.cells (rdC Spv.one (w.heap.size + 1)) 107 (0, 0)) := ⟨_, rfl⟩
  have hb3 : Below w.heap.size w W3 := by rw [hW3]; exact (((Below.refl _ _).alloc (Nat.le_refl _) _).alloc (by simp) _).alloc (by simp; omega) _
  have hz3 : W3.heap.size = w.heap.size + 3 := by rw [hW3]; simp
  have hsp := split_call t 32 W3 (hm.low hb3) (by omega)
  obtain ⟨L, hL⟩ : ∃ L, L = (words t).length := ⟨_, rfl⟩
  have hL' : (cutAll 32 t.data.toList).length = L := by rw [hL]; unfold words; rw [List.length_map]
  rw [hL'] at hsp
  have hLm := words_many t
  rw [← hL] at hLm hpo
  rw [hW3] at hsp
  have hW3' := Lib.hid hW3
  clear hW3
  replace hm := Lib.hid hm; replace hpo := Lib.hid hpo; replace hb3 := Lib.hid hb3; replace hz3 := Lib.hid hz3; replace hsp := Lib.hid hsp; replace hL := Lib.hid hL; replace hL' := Lib.hid hL'
  go_enter Tryz.func25, Tryz.ntmps25
  go_wp2_with fail
  refine wp_scope_ahead 0 rfl ?_
  go_wp2_with fail
  refine hsp.out.mono ?_
  rw [← hW3'.out]
  rintro e w1 ⟨rfl, hw1⟩
  have hP0 : ParW w (w.heap.size + 2) (w.heap.size + 1) (w.heap.size + 3) (words t) [] Spv.one w1 := by
    have hb1 : Below W3.heap.size W3 w1 := by rw [hw1]; exact (Below.refl _ _).alloc (Nat.le_refl _) _
    refine ⟨hb3.out.trans (hb1.mono hb3.out.size), ?_, ⟨?_, Spv.one_ok _, nofun⟩, ?_, ?_, (hm.out.low hb3.out).low hb1, by omega, by omega, by omega, by omega, by omega, by omega, nofun⟩
    · rw [hw1, hW3'.out]; exact blk_old _ (blk_old _ (blk_old _ (blk_new _ _)))
    · rw [hw1, hW3'.out]; exact blk_old _ (blk_at _ _ (by simp))
    · have h0 := World.ownsMap_made (w.alloc (.cells Spv.zero.cells 26 (0, 0))) Tryz.prog 9 (plainElem (H := Unit) Tryz.prog 3)
      have h1 := (h0.alloc (.cells (rdC Spv.one (w.heap.size + 1)) 107 (0, 0))).alloc (.cells (((cutAll 32 t.data.toList).map ofL).map Value.string).toArray 9 (0, 0))
      rw [hw1, hW3'.out]
      simp only [World.size_alloc] at h1
      exact h1
    · have := strs_of_blk (w := w1) (b := w.heap.size + 3) (xs := words t) (by rw [hw1]; exact blk_at _ _ hz3.out.symm) (by rw [← hL.out]; omega)
      exact this
  obtain ⟨R, hR⟩ : ∃ R, R = parseW (words t) [] Spp.one := ⟨_, rfl⟩
  have hpo2 := hpo.out
  rw [← hR] at hpo2
  rw [hz3.out]
  replace hw1 := Lib.hid hw1; replace hP0 := Lib.hid hP0; replace hR := Lib.hid hR; replace hpo2 := Lib.hid hpo2
  go_wp2
  go_loopw [6, 8, 9, 10, 11, 23] (fun av _ _ _ _ iv wr => ∃ (k : Nat) (met : List ByteArray) (x : Spv), av = .int .i64 k ∧ iv = .int .i64 k ∧ k ≤ L ∧ Hid (met.length = k) ∧ Hid (parseW ((words t).drop k) met x.pl = R) ∧ Hid (ParW w (w.heap.size + 2) (w.heap.size + 1) (w.heap.size + 3) (words t) met x wr)) (fun _ _ _ _ _ i _ => L - (intOf i).toNat)
  case atStart => exact ⟨0, [], Spv.one, rfl, rfl, Nat.zero_le _, rfl, hR.out.symm, hP0.out⟩
  case round =>
    obtain ⟨k, met, x, rfl, rfl, hk, hml, hpw, hP⟩ := hrel
    by_cases hc : k < L
    · have hc1 : (k : Int) < L := by omega
      have hk0 : (0 : Int) ≤ (k : Int) := by omega
      have hkl : k < (words t).length := by rw [← hL.out]; exact hc
      obtain ⟨s, hs⟩ : ∃ s, (words t)[k]? = some s := ⟨_, List.getElem?_eq_getElem hkl⟩
      have hdr : (words t).drop k = s :: (words t).drop (k + 1) := by
        rw [List.drop_eq_getElem_cons hkl]
        rw [List.getElem?_eq_getElem hkl] at hs
        rw [Option.some.inj hs]
      have hsl := words_le (List.mem_of_getElem? hs)
      have hpw2 := hpw.out
      rw [hdr] at hpw2
      obtain ⟨b', off', e', _, c0⟩ := hP.out.row.cell k s hs
      cases e'
      simp only [Nat.zero_add] at c0
      have hck := cutk_call s wr hP.out.mx (by omega)
      replace hs := Lib.hid hs; replace hdr := Lib.hid hdr; replace hsl := Lib.hid hsl; replace hpw2 := Lib.hid hpw2; replace hck := Lib.hid hck; replace hkl := Lib.hid hkl
      go_wp2_with fail
      refine hck.out.mono ?_
      rintro e w2 ⟨⟨key, v, b, rfl, hkv, hkz, hvz⟩, nd, hw2⟩
      have hb2 : Below wr.heap.size wr w2 := by rw [hw2]; exact below_dn _ _ _
      have hP2 := hP.out.below hb2
      clear c0
      replace hw2 := Lib.hid hw2; replace hb2 := Lib.hid hb2; replace hP2 := Lib.hid hP2; replace hkz := Lib.hid hkz; replace hvz := Lib.hid hvz
      cases b with
      | false =>
        have hno : stepP met x.pl s = none := by unfold stepP; rw [hkv]; rfl
        have hz : parseOf t = (Spp.zero, 80, (k : Int) + 1) := by
          rw [hpo2.out, ← hpw2.out, parseW, hno]
          show (Spp.zero, (80 : Int), ((met.length + 1 : Nat) : Int)) = _
          rw [hml.out]; rfl
        replace hkv := Lib.hid hkv; replace hno := Lib.hid hno; replace hz := Lib.hid hz
        go_wp2
        go_step3
        refine ⟨rfl, ?_⟩
        have cx := blk_cell (hP2).out.res
        have fx := blk_free (hP2).out.res
        have hlow := (hP2).out.low
        replace hlow := Lib.hid hlow
        go_wp2
        rw [Exit.noGoto_ret]
        refine bodyPost_ret (v := .tuple #[Spv.zero.val, .int .i64 80, .int .i64 ((k : Int) + 1)]) (by simp [results, Tryz.results25, go_sem, cx, Spv.zero, Spp.zero, V4.zero]; rfl) rfl ⟨Spv.zero, by rw [hz.out], Spv.zero_ok _, by rw [hz.out]; rfl, ?_, fun b o e => by cases e⟩
        exact low13 hlow.out _ _ _ _ _ _ _ _ _ _ _ _ _
      | true =>
        have hkm : key.size ≤ maxLen := by have : maxLen = 9223372036854775807 := rfl; have := hkz.out; have := hsl.out; omega
        obtain ⟨c, hlk, hc1', hc0'⟩ := met_look hP2.out.map key hkm
        have e13 : w2.cell? ⟨w.heap.size + 2, 13, none⟩ = some (.map (some (w.heap.size + 1))) := blk_cell hP2.out.rd.head 13
        obtain ⟨mb', hmb⟩ : ∃ mb', mb' = memB met key := ⟨_, rfl⟩
        rw [← hmb] at hc1' hc0'
        cases mb' with
        | true =>
          have d1 : decide (0 < c) = true := decide_eq_true (by have := hc1' rfl; omega)
          have hno : stepP met x.pl s = none := by unfold stepP; rw [hkv]; simp [← hmb]
          have hz : parseOf t = (Spp.zero, 80, (k : Int) + 1) := by
            rw [hpo2.out, ← hpw2.out, parseW, hno]
            show (Spp.zero, (80 : Int), ((met.length + 1 : Nat) : Int)) = _
            rw [hml.out]; rfl
          replace hkv := Lib.hid hkv; replace hno := Lib.hid hno; replace hz := Lib.hid hz; replace hkm := Lib.hid hkm; replace hc1' := Lib.hid hc1'; replace hc0' := Lib.hid hc0'; replace hmb := Lib.hid hmb
          go_wp2
          go_step3
          refine ⟨rfl, ?_⟩
          have cx := blk_cell (hP2).out.res
          have fx := blk_free (hP2).out.res
          have hlow := (hP2).out.low
          replace hlow := Lib.hid hlow
          go_wp2
          rw [Exit.noGoto_ret]
          refine bodyPost_ret (v := .tuple #[Spv.zero.val, .int .i64 80, .int .i64 ((k : Int) + 1)]) (by simp [results, Tryz.results25, go_sem, cx, Spv.zero, Spp.zero, V4.zero]; rfl) rfl ⟨Spv.zero, by rw [hz.out], Spv.zero_ok _, by rw [hz.out]; rfl, ?_, fun b o e => by cases e⟩
          exact low13 hlow.out _ _ _ _ _ _ _ _ _ _ _ _ _
        | false =>
          have hc00 : c = 0 := hc0' rfl
          subst hc00
          have hset := set_any (w.heap.size + 2) (w.heap.size + 1) key v x w2 hP2.out.rd hP2.out.mx (by have := hvz.out; have := hsl.out; omega)
          have hst : stepP met x.pl s = (setP key v x.pl).map fun t => (key, t) := by unfold stepP; rw [hkv]; simp [← hmb]
          replace hkv := Lib.hid hkv; replace hkm := Lib.hid hkm; replace hc1' := Lib.hid hc1'; replace hc0' := Lib.hid hc0'; replace hmb := Lib.hid hmb; replace hset := Lib.hid hset; replace hst := Lib.hid hst
          go_wp2_with fail
          refine hset.out.mono ?_
          rintro e w4 ⟨hg4, ⟨x', rfl, hsp4, hrd4, hso4⟩ | ⟨rfl, hsp4⟩⟩
          · have hP4 : ParW w (w.heap.size + 2) (w.heap.size + 1) (w.heap.size + 3) (words t) met x' w4 := hP2.out.set hg4 hrd4 fun b o e => by
              rcases hso4 with h | h
              · rw [h] at e; exact hP2.out.xo b o e
              · have h1 := h b o e
                have h2 := hP2.out.low.size
                have h3 := blk_lt hP2.out.rd.head
                exact ⟨by omega, by omega⟩
            have hpw4 : parseW ((words t).drop (k + 1)) (met ++ [key]) x'.pl = R := by
              rw [← hpw2.out, parseW, hst.out, hsp4]; rfl
            have e13' : w4.cell? ⟨w.heap.size + 2, 13, none⟩ = some (.map (some (w.heap.size + 1))) := blk_cell hP4.rd.head 13
            have hown := hP4.map
            have hwf : (Lit.int .i64 ((k : Int) + 1)).wf = true := WalkArith.wf_i64 (by omega)
            have hnlt : met.length < maxLen := by have : maxLen = 9223372036854775807 := rfl; have := hml.out; omega
            have hkey : keyOf Tryz.prog 9 (.string key) = some (keyB key) := WideMaps.keyOf_string_mk Tryz.underlying9 hkm.out
            clear e13 hlk
            replace hg4 := Lib.hid hg4; replace hsp4 := Lib.hid hsp4; replace hrd4 := Lib.hid hrd4; replace hso4 := Lib.hid hso4; replace hP4 := Lib.hid hP4; replace hpw4 := Lib.hid hpw4; replace hown := Lib.hid hown; replace hwf := Lib.hid hwf; replace hnlt := Lib.hid hnlt; replace hkey := Lib.hid hkey
            go_wp2_with (at_mapUpdate; refine wpList_mapUpdate_own _ rfl _ _ _ 65 rfl 9 3 (string_keyed Tryz.underlying9) Tryz.underlying65 _ (w.heap.size + 1) met.length _ rfl hown.out hnlt.out _ _ (keyB key) rfl rfl hkey.out _ [] (plainElem_int Tryz.underlying3 hwf.out) ?_; intro w5 hown5 hgrow5; replace hown5 := Lib.hid hown5; replace hgrow5 := Lib.hid hgrow5)
            have hP5 : ParW w (w.heap.size + 2) (w.heap.size + 1) (w.heap.size + 3) (words t) (met ++ [key]) x' w5 := hP4.out.key hgrow5.out (by rw [hml.out]; have := hown5.out; rw [hml.out] at this; exact this)
            have hml5 : (met ++ [key]).length = k + 1 := by rw [List.length_append, hml.out]; rfl
            replace hP5 := Lib.hid hP5; replace hml5 := Lib.hid hml5
            go_wp2
            go_roundw
            case rel => exact ⟨k + 1, met ++ [key], x', by go_num, by go_num, by omega, hml5.out, hpw4.out, hP5.out⟩
            case measure => simp [intOf]; omega
          · have hno : stepP met x.pl s = none := by rw [hst.out, hsp4]; rfl
            have hz : parseOf t = (Spp.zero, 80, (k : Int) + 1) := by
              rw [hpo2.out, ← hpw2.out, parseW, hno]
              show (Spp.zero, (80 : Int), ((met.length + 1 : Nat) : Int)) = _
              rw [hml.out]; rfl
            have hres4 : w4.heap[w.heap.size]? = some (.cells Spv.zero.cells 26 (0, 0)) := (hg4.block _ (blk_lt hP2.out.res) (fun c => by injection c with c; omega)).trans hP2.out.res
            have hlow4 : Below w.heap.size w w4 := below_gb hP2.out.low hg4 hP2.out.low.size (by omega)
            have hX : ResW w w4 := ⟨hlow4, hres4⟩
            clear e13 hlk
            replace hg4 := Lib.hid hg4; replace hsp4 := Lib.hid hsp4; replace hno := Lib.hid hno; replace hz := Lib.hid hz; replace hres4 := Lib.hid hres4; replace hlow4 := Lib.hid hlow4; replace hX := Lib.hid hX
            go_wp2
            go_step3
            refine ⟨rfl, ?_⟩
            have cx := blk_cell (hX).out.res
            have fx := blk_free (hX).out.res
            have hlow := (hX).out.low
            replace hlow := Lib.hid hlow
            go_wp2
            rw [Exit.noGoto_ret]
            refine bodyPost_ret (v := .tuple #[Spv.zero.val, .int .i64 80, .int .i64 ((k : Int) + 1)]) (by simp [results, Tryz.results25, go_sem, cx, Spv.zero, Spp.zero, V4.zero]; rfl) rfl ⟨Spv.zero, by rw [hz.out], Spv.zero_ok _, by rw [hz.out]; rfl, ?_, fun b o e => by cases e⟩
            exact low13 hlow.out _ _ _ _ _ _ _ _ _ _ _ _ _
    · have hc1 : ¬ (k : Int) < L := by omega
      have hkL : k = L := by omega
      subst hkL
      have hpw2 := hpw.out
      rw [List.drop_of_length_le (by rw [← hL.out]; omega)] at hpw2
      have hend : R = .inl (met, x.pl) := hpw2.symm
      have hz5 : parseOf t = if five met = true then (x.pl, 0, 0) else (Spp.zero, 80, ((k + 1 : Nat) : Int)) := by rw [hpo2.out, hend]; rfl
      have e13 : wr.cell? ⟨w.heap.size + 2, 13, none⟩ = some (.map (some (w.heap.size + 1))) := blk_cell hP.out.rd.head 13
      have hX : ResW w wr := ⟨hP.out.low, hP.out.res⟩
      replace hX := Lib.hid hX
      obtain ⟨c1, hl1, ht1, hf1⟩ := met_look hP.out.map kUser (by decide)
      have hl1' : (Instr.lookup 65 (.map (some (w.heap.size + 1))) (.string { data := #[117, 115, 101, 114] }) false).run Tryz.prog wr = .ok (.int .i64 c1) wr := hl1
      clear hl1
      obtain ⟨m1, hm1⟩ : ∃ m, m = memB met kUser := ⟨_, rfl⟩
      rw [← hm1] at ht1 hf1
      have hd1 : decide (0 < c1) = m1 := by
        cases m1 with
        | true => exact decide_eq_true (by have := ht1 rfl; omega)
        | false => exact decide_eq_false (by have := hf1 rfl; omega)
      clear ht1 hf1
      obtain ⟨c2, hl2, ht2, hf2⟩ := met_look hP.out.map kPart (by decide)
      have hl2' : (Instr.lookup 65 (.map (some (w.heap.size + 1))) (.string { data := #[112, 97, 114, 116] }) false).run Tryz.prog wr = .ok (.int .i64 c2) wr := hl2
      clear hl2
      obtain ⟨m2, hm2⟩ : ∃ m, m = memB met kPart := ⟨_, rfl⟩
      rw [← hm2] at ht2 hf2
      have hd2 : decide (0 < c2) = m2 := by
        cases m2 with
        | true => exact decide_eq_true (by have := ht2 rfl; omega)
        | false => exact decide_eq_false (by have := hf2 rfl; omega)
      clear ht2 hf2
      obtain ⟨c3, hl3, ht3, hf3⟩ := met_look hP.out.map kNodes (by decide)
      have hl3' : (Instr.lookup 65 (.map (some (w.heap.size + 1))) (.string { data := #[110, 111, 100, 101, 115] }) false).run Tryz.prog wr = .ok (.int .i64 c3) wr := hl3
      clear hl3
      obtain ⟨m3, hm3⟩ : ∃ m, m = memB met kNodes := ⟨_, rfl⟩
      rw [← hm3] at ht3 hf3
      have hd3 : decide (0 < c3) = m3 := by
        cases m3 with
        | true => exact decide_eq_true (by have := ht3 rfl; omega)
        | false => exact decide_eq_false (by have := hf3 rfl; omega)
      clear ht3 hf3
      obtain ⟨c4, hl4, ht4, hf4⟩ := met_look hP.out.map kDemand (by decide)
      have hl4' : (Instr.lookup 65 (.map (some (w.heap.size + 1))) (.string { data := #[100, 101, 109, 97, 110, 100] }) false).run Tryz.prog wr = .ok (.int .i64 c4) wr := hl4
      clear hl4
      obtain ⟨m4, hm4⟩ : ∃ m, m = memB met kDemand := ⟨_, rfl⟩
      rw [← hm4] at ht4 hf4
      have hd4 : decide (0 < c4) = m4 := by
        cases m4 with
        | true => exact decide_eq_true (by have := ht4 rfl; omega)
        | false => exact decide_eq_false (by have := hf4 rfl; omega)
      clear ht4 hf4
      obtain ⟨c5, hl5, ht5, hf5⟩ := met_look hP.out.map kWall (by decide)
      have hl5' : (Instr.lookup 65 (.map (some (w.heap.size + 1))) (.string { data := #[119, 97, 108, 108] }) false).run Tryz.prog wr = .ok (.int .i64 c5) wr := hl5
      clear hl5
      obtain ⟨m5, hm5⟩ : ∃ m, m = memB met kWall := ⟨_, rfl⟩
      rw [← hm5] at ht5 hf5
      have hd5 : decide (0 < c5) = m5 := by
        cases m5 with
        | true => exact decide_eq_true (by have := ht5 rfl; omega)
        | false => exact decide_eq_false (by have := hf5 rfl; omega)
      clear ht5 hf5
      have hfv : five met = (m1 && m2 && m3 && m4 && m5) := by rw [hm1, hm2, hm3, hm4, hm5]; rfl
      replace hpw2 := Lib.hid hpw2; replace hend := Lib.hid hend; replace hfv := Lib.hid hfv; replace hm1 := Lib.hid hm1; replace hm2 := Lib.hid hm2; replace hm3 := Lib.hid hm3; replace hm4 := Lib.hid hm4; replace hm5 := Lib.hid hm5; replace hz5 := Lib.hid hz5
      cases m1 with
      | false =>
        have hz : parseOf t = (Spp.zero, 80, (k : Int) + 1) := by rw [hz5.out, hfv.out]; rfl
        replace hz := Lib.hid hz
        go_wp2
        go_step3
        have cx := blk_cell (hX).out.res
        have fx := blk_free (hX).out.res
        have hlow := (hX).out.low
        replace hlow := Lib.hid hlow
        go_wp2
        simp only [Exit.jump]
        refine bodyPost_ret (v := .tuple #[Spv.zero.val, .int .i64 80, .int .i64 ((k : Int) + 1)]) (by simp [results, Tryz.results25, go_sem, cx, Spv.zero, Spp.zero, V4.zero]; rfl) rfl ⟨Spv.zero, by rw [hz.out], Spv.zero_ok _, by rw [hz.out]; rfl, ?_, fun b o e => by cases e⟩
        exact low13 hlow.out _ _ _ _ _ _ _ _ _ _ _ _ _
      | true =>
      cases m2 with
      | false =>
        have hz : parseOf t = (Spp.zero, 80, (k : Int) + 1) := by rw [hz5.out, hfv.out]; rfl
        replace hz := Lib.hid hz
        go_wp2
        go_step3
        have cx := blk_cell (hX).out.res
        have fx := blk_free (hX).out.res
        have hlow := (hX).out.low
        replace hlow := Lib.hid hlow
        go_wp2
        simp only [Exit.jump]
        refine bodyPost_ret (v := .tuple #[Spv.zero.val, .int .i64 80, .int .i64 ((k : Int) + 1)]) (by simp [results, Tryz.results25, go_sem, cx, Spv.zero, Spp.zero, V4.zero]; rfl) rfl ⟨Spv.zero, by rw [hz.out], Spv.zero_ok _, by rw [hz.out]; rfl, ?_, fun b o e => by cases e⟩
        exact low13 hlow.out _ _ _ _ _ _ _ _ _ _ _ _ _
      | true =>
      cases m3 with
      | false =>
        have hz : parseOf t = (Spp.zero, 80, (k : Int) + 1) := by rw [hz5.out, hfv.out]; rfl
        replace hz := Lib.hid hz
        go_wp2
        go_step3
        have cx := blk_cell (hX).out.res
        have fx := blk_free (hX).out.res
        have hlow := (hX).out.low
        replace hlow := Lib.hid hlow
        go_wp2
        simp only [Exit.jump]
        refine bodyPost_ret (v := .tuple #[Spv.zero.val, .int .i64 80, .int .i64 ((k : Int) + 1)]) (by simp [results, Tryz.results25, go_sem, cx, Spv.zero, Spp.zero, V4.zero]; rfl) rfl ⟨Spv.zero, by rw [hz.out], Spv.zero_ok _, by rw [hz.out]; rfl, ?_, fun b o e => by cases e⟩
        exact low13 hlow.out _ _ _ _ _ _ _ _ _ _ _ _ _
      | true =>
      cases m4 with
      | false =>
        have hz : parseOf t = (Spp.zero, 80, (k : Int) + 1) := by rw [hz5.out, hfv.out]; rfl
        replace hz := Lib.hid hz
        go_wp2
        go_step3
        have cx := blk_cell (hX).out.res
        have fx := blk_free (hX).out.res
        have hlow := (hX).out.low
        replace hlow := Lib.hid hlow
        go_wp2
        simp only [Exit.jump]
        refine bodyPost_ret (v := .tuple #[Spv.zero.val, .int .i64 80, .int .i64 ((k : Int) + 1)]) (by simp [results, Tryz.results25, go_sem, cx, Spv.zero, Spp.zero, V4.zero]; rfl) rfl ⟨Spv.zero, by rw [hz.out], Spv.zero_ok _, by rw [hz.out]; rfl, ?_, fun b o e => by cases e⟩
        exact low13 hlow.out _ _ _ _ _ _ _ _ _ _ _ _ _
      | true =>
      cases m5 with
      | false =>
        have hz : parseOf t = (Spp.zero, 80, (k : Int) + 1) := by rw [hz5.out, hfv.out]; rfl
        replace hz := Lib.hid hz
        go_wp2
        go_step3
        have cx := blk_cell (hX).out.res
        have fx := blk_free (hX).out.res
        have hlow := (hX).out.low
        replace hlow := Lib.hid hlow
        go_wp2
        simp only [Exit.jump]
        refine bodyPost_ret (v := .tuple #[Spv.zero.val, .int .i64 80, .int .i64 ((k : Int) + 1)]) (by simp [results, Tryz.results25, go_sem, cx, Spv.zero, Spp.zero, V4.zero]; rfl) rfl ⟨Spv.zero, by rw [hz.out], Spv.zero_ok _, by rw [hz.out]; rfl, ?_, fun b o e => by cases e⟩
        exact low13 hlow.out _ _ _ _ _ _ _ _ _ _ _ _ _
      | true =>
      have hz : parseOf t = (x.pl, 0, 0) := by rw [hz5.out, hfv.out]; rfl
      have hok := hP.out.rd.ok
      have hxo := hP.out.xo
      have hlow := hX.out.low
      have cr := blk_cell hP.out.rd.head
      have cx := blk_cell hX.out.res
      have fx := blk_free hX.out.res
      obtain ⟨⟨user, part, nodes, ⟨da, db, dc, dd⟩, wall, prio, array, retries, held, after⟩, so, n, cp⟩ := x
      have y0 : wr.cell? ⟨w.heap.size + 2, 0, none⟩ = some (.string user) := cr 0
      have y1 : wr.cell? ⟨w.heap.size + 2, 1, none⟩ = some (.string part) := cr 1
      have y2 : wr.cell? ⟨w.heap.size + 2, 2, none⟩ = some (.int .i64 nodes) := cr 2
      have y3 : wr.cell? ⟨w.heap.size + 2, 3, none⟩ = some (.int .i64 da) := cr 3
      have y4 : wr.cell? ⟨w.heap.size + 2, 4, none⟩ = some (.int .i64 db) := cr 4
      have y5 : wr.cell? ⟨w.heap.size + 2, 5, none⟩ = some (.int .i64 dc) := cr 5
      have y6 : wr.cell? ⟨w.heap.size + 2, 6, none⟩ = some (.int .i64 dd) := cr 6
      have y7 : wr.cell? ⟨w.heap.size + 2, 7, none⟩ = some (.int .i64 wall) := cr 7
      have y8 : wr.cell? ⟨w.heap.size + 2, 8, none⟩ = some (.int .i64 prio) := cr 8
      have y9 : wr.cell? ⟨w.heap.size + 2, 9, none⟩ = some (.int .i64 array) := cr 9
      have y10 : wr.cell? ⟨w.heap.size + 2, 10, none⟩ = some (.int .i64 retries) := cr 10
      have y11 : wr.cell? ⟨w.heap.size + 2, 11, none⟩ = some (.bool held) := cr 11
      have y12 : wr.cell? ⟨w.heap.size + 2, 12, none⟩ = some (.slice so n cp) := cr 12
      have x0 : wr.cell? ⟨w.heap.size, 0, none⟩ = some (.string ByteArray.empty) := cx 0
      have x1 : wr.cell? ⟨w.heap.size, 1, none⟩ = some (.string ByteArray.empty) := cx 1
      have x2 : wr.cell? ⟨w.heap.size, 2, none⟩ = some (.int .i64 0) := cx 2
      have x3 : wr.cell? ⟨w.heap.size, 3, none⟩ = some (.int .i64 0) := cx 3
      have x4 : wr.cell? ⟨w.heap.size, 4, none⟩ = some (.int .i64 0) := cx 4
      have x5 : wr.cell? ⟨w.heap.size, 5, none⟩ = some (.int .i64 0) := cx 5
      have x6 : wr.cell? ⟨w.heap.size, 6, none⟩ = some (.int .i64 0) := cx 6
      have x7 : wr.cell? ⟨w.heap.size, 7, none⟩ = some (.int .i64 0) := cx 7
      have x8 : wr.cell? ⟨w.heap.size, 8, none⟩ = some (.int .i64 0) := cx 8
      have x9 : wr.cell? ⟨w.heap.size, 9, none⟩ = some (.int .i64 0) := cx 9
      have x10 : wr.cell? ⟨w.heap.size, 10, none⟩ = some (.int .i64 0) := cx 10
      have x11 : wr.cell? ⟨w.heap.size, 11, none⟩ = some (.bool false) := cx 11
      have x12 : wr.cell? ⟨w.heap.size, 12, none⟩ = some (.slice none 0 0) := cx 12
      clear cr cx
      replace hz := Lib.hid hz; replace hok := Lib.hid hok; replace hxo := Lib.hid hxo; replace hlow := Lib.hid hlow
      go_wp2
      simp only [Exit.jump]
      refine bodyPost_ret (v := .tuple #[(⟨⟨user, part, nodes, ⟨da, db, dc, dd⟩, wall, prio, array, retries, held, after⟩, so, n, cp⟩ : Spv).val, .int .i64 0, .int .i64 0]) (by simp [results, Tryz.results25, go_sem, x0, x1, x2, x3, x4, x5, x6, x7, x8, x9, x10, x11, x12]) rfl ⟨⟨⟨user, part, nodes, ⟨da, db, dc, dd⟩, wall, prio, array, retries, held, after⟩, so, n, cp⟩, by rw [hz.out], ⟨ints_gb hok.out.after (gb13 w wr _ _ _ _ _ _ _ _ _ _ _ _ _) (fun b o e => by have := (hxo.out b o e).2; omega), hok.out.ple, hok.out.user, hok.out.part⟩, by rw [hz.out], low13 hlow.out _ _ _ _ _ _ _ _ _ _ _ _ _, fun b o e => Nat.le_of_lt (hxo.out b o e).2⟩
theorem parse_any (t : ByteArray) (w : World) (hm : Mx w) : Calls Tryz.prog 25 #[.string t] w (ParsePost t w) := by
  by_cases h : 4096 < t.size
  · exact parse_long t w h
  · exact parse_short t w hm h
end Go.Proofs.YteoihdkaoipocaaGreatDoor

/- spec.Need; corveelaw08.awake: the document's examples of specs. -/
namespace Go.Proofs.YteoihdkaoipocaaGreatDoor
open Go.RowKit Go.Maps Go.Shelf Go.Sort

def needS (s : Spp) : V4 := if mayS s = true then ⟨s.dem.a * s.nodes, s.dem.b * s.nodes, s.dem.c * s.nodes, s.dem.d * s.nodes⟩ else V4.zero
def aP1 : ByteArray := { data := #[117, 115, 101, 114, 61, 97, 110, 97, 32, 112, 97, 114, 116, 61, 109, 97, 105, 110, 32, 110, 111, 100, 101, 115, 61, 50, 32, 100, 101, 109, 97, 110, 100, 61, 49, 44, 48, 44, 48, 44, 48, 32, 119, 97, 108, 108, 61, 49, 48] }
def aP2 : ByteArray := { data := #[117, 115, 101, 114, 61, 97, 110, 97, 32, 112, 97, 114, 116, 61, 109, 97, 105, 110, 32, 110, 111, 100, 101, 115, 61, 48, 32, 100, 101, 109, 97, 110, 100, 61, 49, 44, 48, 44, 48, 44, 48, 32, 119, 97, 108, 108, 61, 49, 48] }
def aS1 : Spp := ⟨{ data := #[97, 110, 97] }, { data := #[109, 97, 105, 110] }, 2, ⟨1, 0, 0, 0⟩, 10, 0, 1, 0, false, []⟩
theorem aQ1 : parseOf aP1 = (aS1, 0, 0) := by kernel_rfl
theorem aQ2 : (parseOf aP2).2 = (80, 3) := by kernel_rfl
theorem itoa_small (n : Nat) (h : n < 10) : Lib.itoa (n : Int) = [UInt8.ofNat (48 + n)] := by
  rw [itoa_pos (by omega), Lib.decDigits, dif_pos (by omega)]
  congr
theorem aT1' : ofL (textS aS1) = ({ data := #[117, 115, 101, 114, 61, 97, 110, 97, 32, 112, 97, 114, 116, 61, 109, 97, 105, 110, 32, 110, 111, 100, 101, 115, 61, 50, 32, 100, 101, 109, 97, 110, 100, 61, 49, 44, 48, 44, 48, 44, 48, 32, 119, 97, 108, 108, 61, 49, 48] } : ByteArray) := by
  have e10 : Lib.itoa 10 = [49, 48] := by
    rw [itoa_pos (by decide), Lib.decDigits, dif_neg (by decide), Lib.decDigits, dif_pos (by decide)]; rfl
  have e0 : Lib.itoa 0 = [48] := itoa_small 0 (by decide)
  have e1 : Lib.itoa 1 = [49] := itoa_small 1 (by decide)
  have e2 : Lib.itoa 2 = [50] := itoa_small 2 (by decide)
  have hm : mayS aS1 = true := by kernel_rfl
  rw [textS_may hm]
  have hp : pairsS aS1 = [(kUser, [97, 110, 97]), (kPart, [109, 97, 105, 110]), (kNodes, Lib.itoa 2), (kDemand, txtV ⟨1, 0, 0, 0⟩), (kWall, Lib.itoa 10)] := by kernel_rfl
  rw [hp, e10, e2]
  unfold txtV
  simp only [e0, e1]
  rfl
theorem aNeed : needS aS1 = ⟨2, 0, 0, 0⟩ := by kernel_rfl
/-- what stands while a need is reckoned -/
structure NdW8 (w : World) (x : Spv) (v : V4) (W : World) : Prop where
  low : Below w.heap.size w W
  box : W.heap[w.heap.size]? = some (.cells x.cells 26 (0, 0))
  res : W.heap[w.heap.size + 1]? = some (.cells V4.zero.cells 23 (0, 0))
  vec : W.heap[w.heap.size + 2]? = some (.cells v.cells 23 (0, 0))
theorem NdW8.set {w W : World} {x : Spv} {v v' : V4} (h : NdW8 w x v W) (o : Nat) (z : Value) (e : v.cells.setIfInBounds o z = v'.cells) : NdW8 w x v' (W.setCell ⟨w.heap.size + 2, o, none⟩ z) :=
  ⟨h.low.setCell (show w.heap.size ≤ w.heap.size + 2 by omega) _, blk_set_other (by omega) _ h.box, blk_set_other (by omega) _ h.res, by rw [← e]; exact blk_set h.vec o z⟩
theorem mul_bd {a n : Int} (h0 : 0 ≤ a) (h1 : a ≤ 1073741824) (h2 : 1 ≤ n) (h3 : n ≤ 16) : 0 ≤ a * n ∧ a * n ≤ 17179869184 := by
  refine ⟨Int.mul_nonneg h0 (by omega), ?_⟩
  have h4 : a * n ≤ 1073741824 * n := Int.mul_le_mul_of_nonneg_right h1 (by omega)
  omega
theorem nd_index (a b c d : Int) (j : Nat) (hj : j < 4) (w : World) : (Instr.index 23 (.agg #[.int .i64 a, .int .i64 b, .int .i64 c, .int .i64 d]) (.int .i64 (j : Int))).run Tryz.prog w = .ok (.int .i64 (V4.get ⟨a, b, c, d⟩ j)) w := vt_index a b c d j hj w
theorem mx4_zero (v : V4) : mx4 v 0 = V4.zero := by simp [mx4, V4.zero]
theorem mx4_four (v : V4) : mx4 v 4 = v := by simp [mx4]
theorem mx4_step (v : V4) (k : Nat) (hk : k < 4) : (mx4 v k).cells.setIfInBounds k (.int .i64 (v.get k)) = (mx4 v (k + 1)).cells := by
  rcases (show k = 0 ∨ k = 1 ∨ k = 2 ∨ k = 3 by omega) with rfl | rfl | rfl | rfl <;> simp [mx4, V4.get]
set_option maxRecDepth 100000 in
set_option maxHeartbeats 1600000 in
theorem need_any (x : Spv) (w : World) (hx : x.ok w) : Calls Tryz.prog 27 #[x.val] w fun e w' => e = .returned (needS x.pl).val ∧ Below w.heap.size w w' := by
  obtain ⟨W0, hW0⟩ : ∃ W0, W0 = ((w.alloc (.cells x.cells 26 (0, 0))).alloc (.cells V4.zero.cells 23 (0, 0))).alloc (.cells V4.zero.cells 23 (0, 0)) := ⟨_, rfl⟩
  have hN0 : NdW8 w x V4.zero W0 := by
    rw [hW0]
    exact ⟨(((Below.refl _ _).alloc (Nat.le_refl _) _).alloc (by simp) _).alloc (by simp; omega) _, blk_old _ (blk_old _ (blk_new _ _)), blk_old _ (blk_at _ _ (by simp)), blk_at _ _ (by simp)⟩
  have hk := check_any x W0 (hx.low hN0.low)
  by_cases hs : mayS x.pl = true
  rotate_left
  · have hte : needS x.pl = V4.zero := if_neg hs
    have he : errS x.pl = 80 := if_neg hs
    rw [he, hW0] at hk
    have hW0' := Lib.hid hW0
    clear hW0
    obtain ⟨⟨user, part, nodes, ⟨da, db, dc, dd⟩, wall, prio, array, retries, held, after⟩, so, n, cp⟩ := x
    replace hte := Lib.hid hte; replace hk := Lib.hid hk; replace hN0 := Lib.hid hN0; replace hx := Lib.hid hx; replace hs := Lib.hid hs; replace he := Lib.hid he
    go_enter Tryz.func27, Tryz.ntmps27
    go_wp2_with fail
    refine hk.out.mono ?_
    rintro e w1 ⟨rfl, hb⟩
    rw [← hW0'.out] at hb
    have hlow : Below w.heap.size w w1 := hN0.out.low.trans (hb.mono hN0.out.low.size)
    have hr := blk_below hb hN0.out.res (blk_lt hN0.out.res)
    have hv := blk_below hb hN0.out.vec (blk_lt hN0.out.vec)
    have r0 : w1.cell? ⟨w.heap.size + 1, 0, none⟩ = some (.int .i64 0) := blk_cell hr 0
    have r1 : w1.cell? ⟨w.heap.size + 1, 1, none⟩ = some (.int .i64 0) := blk_cell hr 1
    have r2 : w1.cell? ⟨w.heap.size + 1, 2, none⟩ = some (.int .i64 0) := blk_cell hr 2
    have r3 : w1.cell? ⟨w.heap.size + 1, 3, none⟩ = some (.int .i64 0) := blk_cell hr 3
    have v0 : w1.cell? ⟨w.heap.size + 2, 0, none⟩ = some (.int .i64 0) := blk_cell hv 0
    have v1 : w1.cell? ⟨w.heap.size + 2, 1, none⟩ = some (.int .i64 0) := blk_cell hv 1
    have v2 : w1.cell? ⟨w.heap.size + 2, 2, none⟩ = some (.int .i64 0) := blk_cell hv 2
    have v3 : w1.cell? ⟨w.heap.size + 2, 3, none⟩ = some (.int .i64 0) := blk_cell hv 3
    have fr := blk_free hr
    replace hb := Lib.hid hb; replace hlow := Lib.hid hlow; replace hr := Lib.hid hr; replace hv := Lib.hid hv
    go_wp2
    refine bodyPost_ret (v := V4.zero.val) (by simp [results, Tryz.results27, go_sem, r0, r1, r2, r3, V4.zero]) rfl ⟨by rw [hte.out], ?_⟩
    exact ((((hlow.out.setCell (Nat.le_succ _) _).setCell (Nat.le_succ _) _).setCell (Nat.le_succ _) _).setCell (Nat.le_succ _) _)
  have he : errS x.pl = 0 := if_pos hs
  have hte : needS x.pl = ⟨x.pl.dem.a * x.pl.nodes, x.pl.dem.b * x.pl.nodes, x.pl.dem.c * x.pl.nodes, x.pl.dem.d * x.pl.nodes⟩ := if_pos hs
  rw [he, hW0] at hk
  have hW0' := Lib.hid hW0
  clear hW0
  obtain ⟨_, _, q3, _, q5, _⟩ := mayS_parts hs
  obtain ⟨h1, h2, h3, h4, h5, h6, h7, h8⟩ := capOk_right (demOk_iff.1 q3).1
  obtain ⟨n1, n2⟩ := betw_iff.1 q5
  obtain ⟨⟨user, part, nodes, ⟨da, db, dc, dd⟩, wall, prio, array, retries, held, after⟩, so, n, cp⟩ := x
  simp only at h1 h2 h3 h4 h5 h6 h7 h8 n1 n2
  obtain ⟨ma1, ma2⟩ := mul_bd h1 h2 n1 n2
  obtain ⟨mb1, mb2⟩ := mul_bd h3 h4 n1 n2
  obtain ⟨mc1, mc2⟩ := mul_bd h5 h6 n1 n2
  obtain ⟨md1, md2⟩ := mul_bd h7 h8 n1 n2
  replace hte := Lib.hid hte; replace hk := Lib.hid hk; replace hN0 := Lib.hid hN0; replace hx := Lib.hid hx; replace hs := Lib.hid hs; replace he := Lib.hid he; replace q3 := Lib.hid q3; replace q5 := Lib.hid q5
  go_enter Tryz.func27, Tryz.ntmps27
  go_wp2_with fail
  refine hk.out.mono ?_
  rintro e w1 ⟨rfl, hb⟩
  rw [← hW0'.out] at hb
  have hN1 : NdW8 w ⟨⟨user, part, nodes, ⟨da, db, dc, dd⟩, wall, prio, array, retries, held, after⟩, so, n, cp⟩ V4.zero w1 :=
    ⟨hN0.out.low.trans (hb.mono hN0.out.low.size), blk_below hb hN0.out.box (blk_lt hN0.out.box), blk_below hb hN0.out.res (blk_lt hN0.out.res), blk_below hb hN0.out.vec (blk_lt hN0.out.vec)⟩
  have y0 : w1.cell? ⟨w.heap.size, 0, none⟩ = some (.string user) := blk_cell hN1.box 0
  have y1 : w1.cell? ⟨w.heap.size, 1, none⟩ = some (.string part) := blk_cell hN1.box 1
  have y2 : w1.cell? ⟨w.heap.size, 2, none⟩ = some (.int .i64 nodes) := blk_cell hN1.box 2
  have y3 : w1.cell? ⟨w.heap.size, 3, none⟩ = some (.int .i64 da) := blk_cell hN1.box 3
  have y4 : w1.cell? ⟨w.heap.size, 4, none⟩ = some (.int .i64 db) := blk_cell hN1.box 4
  have y5 : w1.cell? ⟨w.heap.size, 5, none⟩ = some (.int .i64 dc) := blk_cell hN1.box 5
  have y6 : w1.cell? ⟨w.heap.size, 6, none⟩ = some (.int .i64 dd) := blk_cell hN1.box 6
  have y7 : w1.cell? ⟨w.heap.size, 7, none⟩ = some (.int .i64 wall) := blk_cell hN1.box 7
  have y8 : w1.cell? ⟨w.heap.size, 8, none⟩ = some (.int .i64 prio) := blk_cell hN1.box 8
  have y9 : w1.cell? ⟨w.heap.size, 9, none⟩ = some (.int .i64 array) := blk_cell hN1.box 9
  have y10 : w1.cell? ⟨w.heap.size, 10, none⟩ = some (.int .i64 retries) := blk_cell hN1.box 10
  have y11 : w1.cell? ⟨w.heap.size, 11, none⟩ = some (.bool held) := blk_cell hN1.box 11
  have y12 : w1.cell? ⟨w.heap.size, 12, none⟩ = some (.slice so n cp) := blk_cell hN1.box 12
  replace hb := Lib.hid hb; replace hN1 := Lib.hid hN1
  go_wp2
  clear y0 y1 y2 y3 y4 y5 y6 y7 y8 y9 y10 y11 y12
  go_loopw [4, 5, 12] (fun _ _ i wr => ∃ k : Nat, i = .int .i64 k ∧ k ≤ 4 ∧ Hid (NdW8 w ⟨⟨user, part, nodes, ⟨da, db, dc, dd⟩, wall, prio, array, retries, held, after⟩, so, n, cp⟩ (mx4 ⟨da * nodes, db * nodes, dc * nodes, dd * nodes⟩ k) wr)) (fun _ _ i _ => 4 - (intOf i).toNat)
  case atStart => exact ⟨0, rfl, by omega, by rw [mx4_zero]; exact hN1.out⟩
  case round =>
    obtain ⟨k, rfl, hk4, hN⟩ := hrel
    by_cases hc : k < 4
    · have hc1 : (k : Int) < 4 := by omega
      have hk0 : (0 : Int) ≤ (k : Int) := by omega
      have hix := fun w => nd_index da db dc dd k hc w
      have hst := hN.out.set k _ (mx4_step ⟨da * nodes, db * nodes, dc * nodes, dd * nodes⟩ k hc)
      have ev : (V4.get ⟨da, db, dc, dd⟩ k) * nodes = V4.get ⟨da * nodes, db * nodes, dc * nodes, dd * nodes⟩ k := by
        rcases (show k = 0 ∨ k = 1 ∨ k = 2 ∨ k = 3 by omega) with rfl | rfl | rfl | rfl <;> rfl
      obtain ⟨y, hy⟩ : ∃ y, y = V4.get ⟨da, db, dc, dd⟩ k := ⟨_, rfl⟩
      have hyb : 0 ≤ y * nodes ∧ y * nodes ≤ 17179869184 := by
        rw [hy, ev]
        rcases (show k = 0 ∨ k = 1 ∨ k = 2 ∨ k = 3 by omega) with rfl | rfl | rfl | rfl
        · exact ⟨ma1, ma2⟩
        · exact ⟨mb1, mb2⟩
        · exact ⟨mc1, mc2⟩
        · exact ⟨md1, md2⟩
      obtain ⟨hy1, hy2⟩ := hyb
      rw [← ev] at hst
      rw [← hy] at hix hst
      have c2 : wr.cell? ⟨w.heap.size, 2, none⟩ = some (.int .i64 nodes) := blk_cell hN.out.box 2
      have fv := blk_free hN.out.vec
      obtain ⟨vk, hvk⟩ : ∃ vk, wr.cell? ⟨w.heap.size + 2, k, none⟩ = some vk := by
        rw [blk_cell hN.out.vec]
        exact ⟨_, Array.getElem?_eq_getElem (by simpa using hc)⟩
      replace hst := Lib.hid hst; replace hy := Lib.hid hy; replace ev := Lib.hid ev
      go_wp2
      go_roundw
      case rel => exact ⟨k + 1, by go_num, by omega, hst.out⟩
      case measure => simp [intOf]; omega
    · have hc1 : ¬ (k : Int) < 4 := by omega
      have hk44 : k = 4 := by omega
      have hN4 := hN.out
      rw [hk44, mx4_four] at hN4
      have hr := hN4.res
      have hv := hN4.vec
      have hlow := hN4.low
      have r0 : wr.cell? ⟨w.heap.size + 1, 0, none⟩ = some (.int .i64 0) := blk_cell hr 0
      have r1 : wr.cell? ⟨w.heap.size + 1, 1, none⟩ = some (.int .i64 0) := blk_cell hr 1
      have r2 : wr.cell? ⟨w.heap.size + 1, 2, none⟩ = some (.int .i64 0) := blk_cell hr 2
      have r3 : wr.cell? ⟨w.heap.size + 1, 3, none⟩ = some (.int .i64 0) := blk_cell hr 3
      have v0 : wr.cell? ⟨w.heap.size + 2, 0, none⟩ = some (.int .i64 (da * nodes)) := blk_cell hv 0
      have v1 : wr.cell? ⟨w.heap.size + 2, 1, none⟩ = some (.int .i64 (db * nodes)) := blk_cell hv 1
      have v2 : wr.cell? ⟨w.heap.size + 2, 2, none⟩ = some (.int .i64 (dc * nodes)) := blk_cell hv 2
      have v3 : wr.cell? ⟨w.heap.size + 2, 3, none⟩ = some (.int .i64 (dd * nodes)) := blk_cell hv 3
      have fr := blk_free hr
      replace hlow := Lib.hid hlow; replace hr := Lib.hid hr; replace hv := Lib.hid hv; replace hk44 := Lib.hid hk44; replace hN4 := Lib.hid hN4
      go_wp2
      refine bodyPost_ret (v := (⟨da * nodes, db * nodes, dc * nodes, dd * nodes⟩ : V4).val) (by simp [results, Tryz.results27, go_sem, r0, r1, r2, r3]) rfl ⟨by rw [hte.out], ?_⟩
      exact ((((hlow.out.setCell (Nat.le_succ _) _).setCell (Nat.le_succ _) _).setCell (Nat.le_succ _) _).setCell (Nat.le_succ _) _)
theorem aEq8 (w : World) : (Op.equalIn 10000 23 (.agg #[.int .i64 2, .int .i64 0, .int .i64 0, .int .i64 0]) (.agg #[.int .i64 2, .int .i64 0, .int .i64 0, .int .i64 0])).run Tryz.prog w = .ok true w := by kernel_rfl
set_option maxRecDepth 100000 in
set_option maxHeartbeats 3200000 in
theorem awake8 (w : World) (hm : Mx w) (ht : Tb w) : Calls Tryz.prog 6 #[] w fun e w' => e = .returned (.bool true) ∧ Below w.heap.size w w' := by
  have hc1 := parse_any aP1 w hm
  unfold ParsePost at hc1
  rw [aQ1] at hc1
  replace hc1 := Lib.hid hc1; replace ht := Lib.hid ht; replace hm := Lib.hid hm
  go_enter Tryz.func6, Tryz.ntmps6
  go_wp2_with fail
  refine hc1.out.mono ?_
  rintro e w1 ⟨x, rfl, hxo, hxp, hb1, hfr1⟩
  clear hfr1
  obtain ⟨pl, so, n, cp⟩ := x
  have hpl : pl = aS1 := hxp
  subst hpl
  obtain ⟨W2, hW2⟩ : ∃ W2, W2 = w1.alloc (.cells (⟨aS1, so, n, cp⟩ : Spv).cells 26 (0, 0)) := ⟨_, rfl⟩
  have hb2 : Below w1.heap.size w1 W2 := by rw [hW2]; exact (Below.refl _ _).alloc (Nat.le_refl _) _
  have hx2 : W2.heap[w1.heap.size]? = some (.cells (⟨aS1, so, n, cp⟩ : Spv).cells 26 (0, 0)) := by rw [hW2]; exact blk_new _ _
  have hlow2 := hb1.trans (hb2.mono hb1.size)
  have hc2 := parse_any aP2 W2 ((hm.out.low hb1).low hb2)
  unfold ParsePost at hc2
  rw [show (parseOf aP2).2.1 = 80 from by rw [aQ2], show (parseOf aP2).2.2 = 3 from by rw [aQ2]] at hc2
  rw [hW2] at hc2
  have hW2' := Lib.hid hW2
  clear hW2
  replace hxo := Lib.hid hxo; replace hxp := Lib.hid hxp; replace hb1 := Lib.hid hb1; replace hb2 := Lib.hid hb2; replace hx2 := Lib.hid hx2; replace hlow2 := Lib.hid hlow2; replace hc2 := Lib.hid hc2
  go_wp2_with fail
  refine hc2.out.mono ?_
  rw [← hW2'.out]
  rintro e w3 ⟨x3, rfl, hxo3, hx3p, hb3, hfr3⟩
  clear hx3p hfr3
  obtain ⟨⟨user, part, nodes, ⟨da, db, dc, dd⟩, wall, prio, array, retries, held, after⟩, so3, n3, cp3⟩ := x3
  obtain ⟨W4, hW4⟩ : ∃ W4, W4 = w3.alloc (.cells (⟨⟨user, part, nodes, ⟨da, db, dc, dd⟩, wall, prio, array, retries, held, after⟩, so3, n3, cp3⟩ : Spv).cells 26 (0, 0)) := ⟨_, rfl⟩
  have hb4 : Below w3.heap.size w3 W4 := by rw [hW4]; exact (Below.refl _ _).alloc (Nat.le_refl _) _
  have hb34 := hb3.trans (hb4.mono hb3.size)
  have hx4 := blk_below hb34 hx2.out (blk_lt hx2.out)
  have hlow4 := hlow2.out.trans (hb34.mono hlow2.out.size)
  have hok4 := ((hxo.out.low hb2.out).low hb34)
  have hct := stext_any ⟨aS1, so, n, cp⟩ W4 hok4 (ht.out.low hlow4)
  rw [show (⟨aS1, so, n, cp⟩ : Spv).pl = aS1 from rfl, aT1'] at hct
  have c0 : W4.cell? ⟨w1.heap.size, 0, none⟩ = some (.string { data := #[97, 110, 97] }) := blk_cell hx4 0
  have c1 : W4.cell? ⟨w1.heap.size, 1, none⟩ = some (.string { data := #[109, 97, 105, 110] }) := blk_cell hx4 1
  have c2 : W4.cell? ⟨w1.heap.size, 2, none⟩ = some (.int .i64 2) := blk_cell hx4 2
  have c3 : W4.cell? ⟨w1.heap.size, 3, none⟩ = some (.int .i64 1) := blk_cell hx4 3
  have c4 : W4.cell? ⟨w1.heap.size, 4, none⟩ = some (.int .i64 0) := blk_cell hx4 4
  have c5 : W4.cell? ⟨w1.heap.size, 5, none⟩ = some (.int .i64 0) := blk_cell hx4 5
  have c6 : W4.cell? ⟨w1.heap.size, 6, none⟩ = some (.int .i64 0) := blk_cell hx4 6
  have c7 : W4.cell? ⟨w1.heap.size, 7, none⟩ = some (.int .i64 10) := blk_cell hx4 7
  have c8 : W4.cell? ⟨w1.heap.size, 8, none⟩ = some (.int .i64 0) := blk_cell hx4 8
  have c9 : W4.cell? ⟨w1.heap.size, 9, none⟩ = some (.int .i64 1) := blk_cell hx4 9
  have c10 : W4.cell? ⟨w1.heap.size, 10, none⟩ = some (.int .i64 0) := blk_cell hx4 10
  have c11 : W4.cell? ⟨w1.heap.size, 11, none⟩ = some (.bool false) := blk_cell hx4 11
  have c12 : W4.cell? ⟨w1.heap.size, 12, none⟩ = some (.slice so n cp) := blk_cell hx4 12
  rw [hW4] at hct c0 c1 c2 c3 c4 c5 c6 c7 c8 c9 c10 c11 c12
  have hW4' := Lib.hid hW4
  clear hW4
  replace hxo3 := Lib.hid hxo3; replace hb3 := Lib.hid hb3; replace hb4 := Lib.hid hb4; replace hb34 := Lib.hid hb34; replace hx4 := Lib.hid hx4; replace hlow4 := Lib.hid hlow4; replace hok4 := Lib.hid hok4; replace hct := Lib.hid hct
  go_wp2_with fail
  refine hct.out.mono ?_
  rw [← hW4'.out]
  rintro e w5 ⟨rfl, hb5⟩
  have hx5 := blk_below hb5 hx4.out (blk_lt hx4.out)
  have hlow5 := hlow4.out.trans (hb5.mono hlow4.out.size)
  have hcn := need_any ⟨aS1, so, n, cp⟩ w5 (hok4.out.low hb5)
  rw [show needS (⟨aS1, so, n, cp⟩ : Spv).pl = ⟨2, 0, 0, 0⟩ from aNeed] at hcn
  clear c0 c1 c2 c3 c4 c5 c6 c7 c8 c9 c10 c11 c12
  have c0 : w5.cell? ⟨w1.heap.size, 0, none⟩ = some (.string { data := #[97, 110, 97] }) := blk_cell hx5 0
  have c1 : w5.cell? ⟨w1.heap.size, 1, none⟩ = some (.string { data := #[109, 97, 105, 110] }) := blk_cell hx5 1
  have c2 : w5.cell? ⟨w1.heap.size, 2, none⟩ = some (.int .i64 2) := blk_cell hx5 2
  have c3 : w5.cell? ⟨w1.heap.size, 3, none⟩ = some (.int .i64 1) := blk_cell hx5 3
  have c4 : w5.cell? ⟨w1.heap.size, 4, none⟩ = some (.int .i64 0) := blk_cell hx5 4
  have c5 : w5.cell? ⟨w1.heap.size, 5, none⟩ = some (.int .i64 0) := blk_cell hx5 5
  have c6 : w5.cell? ⟨w1.heap.size, 6, none⟩ = some (.int .i64 0) := blk_cell hx5 6
  have c7 : w5.cell? ⟨w1.heap.size, 7, none⟩ = some (.int .i64 10) := blk_cell hx5 7
  have c8 : w5.cell? ⟨w1.heap.size, 8, none⟩ = some (.int .i64 0) := blk_cell hx5 8
  have c9 : w5.cell? ⟨w1.heap.size, 9, none⟩ = some (.int .i64 1) := blk_cell hx5 9
  have c10 : w5.cell? ⟨w1.heap.size, 10, none⟩ = some (.int .i64 0) := blk_cell hx5 10
  have c11 : w5.cell? ⟨w1.heap.size, 11, none⟩ = some (.bool false) := blk_cell hx5 11
  have c12 : w5.cell? ⟨w1.heap.size, 12, none⟩ = some (.slice so n cp) := blk_cell hx5 12
  replace hb5 := Lib.hid hb5; replace hx5 := Lib.hid hx5; replace hlow5 := Lib.hid hlow5; replace hcn := Lib.hid hcn
  go_wp2_with fail
  refine hcn.out.mono ?_
  rintro e w6 ⟨rfl, hb6⟩
  have hlow6 := hlow5.out.trans (hb6.mono hlow5.out.size)
  have hE := aEq8
  replace hb6 := Lib.hid hb6; replace hlow6 := Lib.hid hlow6
  go_wp2
  go_ret
  exact ⟨rfl, hlow6.out⟩
end Go.Proofs.YteoihdkaoipocaaGreatDoor

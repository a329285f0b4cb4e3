/- (corveeref05.Fleet).Parts: each part is put at its place. -/
import Derived.Test.YteoihdkaoipocaaDoorPrp
import Derived.Test.YteoihdkaoipocaaDoorRfm
import Derived.Laws.AppendOwnNone
namespace Go.Proofs.YteoihdkaoipocaaDoor
open Go.RowKit Go.Maps Go.Shelf

structure RpW (w : World) (nv ov : Value) (l : List ByteArray) (W : World) : Prop where
  low : Below w.heap.size w W
  box : W.heap[w.heap.size]? = some (.cells #[nv] 44 (0, 0))
  out : OwnT W (w.heap.size + 1) ov l
  nil : l = [] → ov = .slice none 0 0
  sz : w.heap.size + 1 ≤ W.heap.size
theorem RpW.next {w W W' : World} {nv ov ov' : Value} {out out' : List ByteArray} (h : RpW w nv ov out W) (hb : Below W.heap.size W W') (ho : W'.ownsRow W.heap.size 9 1 ov' out'.length (txts out')) (hne : out' ≠ []) : RpW w nv ov' out' W' :=
  ⟨h.low.trans (hb.mono h.low.size), blk_below hb h.box (blk_lt h.box), ⟨owns_mono ho h.sz⟩, fun e => absurd e hne, Nat.le_trans h.sz hb.size⟩
theorem insB_len (out : List ByteArray) (p : ByteArray) : (insB out p).length ≤ out.length + 1 := by
  unfold insB
  split
  · omega
  · have := congrArg List.length (List.take_append_drop (cntB out p) out)
    rw [List.length_append] at this
    rw [List.length_append, List.length_cons]
    omega
theorem refParts_len (l : List ByteArray) : (refParts l).length ≤ l.length := by
  induction l using rev_ind with
  | h0 => exact Nat.le_refl _
  | h1 l x ih =>
    rw [refParts_snoc, List.length_append]
    have := insB_len (refParts l) x
    simp
    omega
theorem nilslice : ∀ w, (Instr.slice 36 (.slice none 0 0) none (some (.int .i64 0)) none).run Tryd.prog w = .ok (.slice none 0 0) w := fun w => by kernel_rfl
theorem nilslice2 : ∀ w, (Instr.slice 36 (.slice none 0 0) (some (.int .i64 0)) none none).run Tryd.prog w = .ok (.slice none 0 0) w := fun w => by kernel_rfl
theorem ltB_eq (a b : ByteArray) : Op.bytesLess a.toList b.toList = ltB a b := by
  rw [bytesLess_eq, Lib.toList_data, Lib.toList_data]; rfl
theorem one_txt (p : ByteArray) : ∀ u ∈ [Value.string p], u.oneCell' = true := str_one p
theorem ownT_nil (w : World) (B : Nat) : w.ownsRow B 9 1 (.slice none 0 0) 0 [] := ⟨rfl, .inl ⟨rfl, rfl⟩⟩
set_option maxRecDepth 100000 in
set_option maxHeartbeats 6400000 in
theorem rparts_any (w : World) (base : Nat) (nv : Value) (xs : List Nde) (hF : FlR w base nv xs) (hlen : xs.length ≤ 4096) (hq : ∀ x, x ∈ xs → x.parts.length ≤ 8) : Calls Tryd.prog 85 #[.agg #[nv]] w (FpaPost (xs.map Nde.pl) w) := by
  obtain ⟨i9, hi9, hz9, hz91, hz92⟩ := info_parts info9
  have hln := flr_len hF
  obtain ⟨n, hn⟩ : ∃ n, n = xs.length := ⟨_, rfl⟩
  rw [← hn] at hln hlen
  have hR0 : RpW w nv (.slice none 0 0) (refParts (rawParts ((xs.map Nde.pl).take 0))) (w.alloc (.cells #[nv] 44 (0, 0))) := ⟨(Below.refl _ _).alloc (Nat.le_refl _) _, blk_new _ _, own_empty _ _, fun _ => rfl, by simp⟩
  replace hF := Lib.hid hF; replace hn := Lib.hid hn; replace hR0 := Lib.hid hR0; replace hq := Lib.hid hq
  go_enter Tryd.func85, Tryd.ntmps85
  go_wp2
  go_loopw [3, 4, 5, 6, 7, 8] (fun ov i _ _ _ _ wr => ∃ k : Nat, i = .int .i64 k ∧ k ≤ n ∧ Hid (RpW w nv ov (refParts (rawParts ((xs.map Nde.pl).take k))) wr)) (fun _ i _ _ _ _ _ => n - (intOf i).toNat)
  case atStart => exact ⟨0, rfl, Nat.zero_le _, hR0.out⟩
  case round =>
    obtain ⟨k, rfl, hk, hR⟩ := hrel
    have f0 : wr.cell? ⟨w.heap.size, 0, none⟩ = some nv := blk_cell hR.out.box 0
    by_cases hc : k < n
    · have hc1 : (k : Int) < n := by omega
      have hk0 : (0 : Int) ≤ (k : Int) := by omega
      have hFr := hF.out.below hR.out.low
      obtain ⟨x, hx⟩ : ∃ x, xs[k]? = some x := ⟨_, List.getElem?_eq_getElem (by have := hn.out; omega)⟩
      obtain ⟨g, cap, rfl, _, _, hcell⟩ := hFr.cell hx
      have hpl := pl_at hx
      have hrs := rawParts_step hpl
      have hxm := List.mem_of_getElem? hx
      have hps8 := hq.out x hxm
      have hxo : ∀ W, Below w.heap.size w W → x.ok W := fun W hb => ((hF.out.below hb).ok x hxm).1
      have hc5 : ∀ W, Below w.heap.size w W → W.cell? ⟨g, k * 6 + 5, none⟩ = some (.slice x.po x.pn x.pc) := fun W hb => by
        obtain ⟨g', cap', e, _, _, h2⟩ := (hF.out.below hb).cell hx
        cases e
        exact h2 5 (by omega)
      clear hln f0
      obtain ⟨nm, cp, po, pn, pc, ps⟩ := x
      have hpn := (hxo wr hR.out.low).parts.len
      have hpmx := (hxo wr hR.out.low).parts.max
      simp only at hpn hpmx hps8
      rw [show (Nde.pl ⟨nm, cp, po, pn, pc, ps⟩).parts = ps from rfl] at hrs
      obtain ⟨base0, hbase0⟩ : ∃ l, l = rawParts ((xs.map Nde.pl).take k) := ⟨_, rfl⟩
      have hR1 : RpW w (.slice (some ⟨g, 0, none⟩) xs.length cap) u3 (refParts (base0 ++ ps.take 0)) wr := by rw [List.take_zero, List.append_nil, hbase0]; exact hR.out
      rw [← hbase0] at hrs
      have hb0l : base0.length ≤ 4096 * 8 := by
        rw [hbase0]
        refine Nat.le_trans (rawParts_len (c := 8) fun v hv => ?_) (by rw [List.length_take]; omega)
        obtain ⟨y, hy, rfl⟩ := List.mem_map.1 (List.mem_of_mem_take hv)
        exact hq.out y hy
      have hf0 : ∀ W : World, W.heap[w.heap.size]? = some (.cells #[.slice (some ⟨g, 0, none⟩) xs.length cap] 44 (0, 0)) → W.cell? ⟨w.heap.size, 0, none⟩ = some (.slice (some ⟨g, 0, none⟩) n cap) := fun W h => by rw [hn.out]; exact blk_cell h 0
      have hf0w := hf0 wr hR.out.box
      have hxo' := Lib.hid hxo
      have hc5' := Lib.hid hc5
      have hf0' := Lib.hid hf0
      clear hxo hc5 hf0
      replace hFr := Lib.hid hFr; replace hx := Lib.hid hx; replace hcell := Lib.hid hcell; replace hpl := Lib.hid hpl; replace hrs := Lib.hid hrs; replace hxm := Lib.hid hxm; replace hpn := Lib.hid hpn; replace hbase0 := Lib.hid hbase0; replace hR1 := Lib.hid hR1; replace hR := Lib.hid hR
      go_wp2
      go_loopw [3, 5, 6, 7, 8] (fun ov kk _ _ _ wr => ∃ j : Nat, kk = .int .i64 j ∧ j ≤ pn ∧ Hid (RpW w (.slice (some ⟨g, 0, none⟩) xs.length cap) ov (refParts (base0 ++ ps.take j)) wr)) (fun _ kk _ _ _ _ => pn - (intOf kk).toNat)
      case atStart => exact ⟨0, rfl, Nat.zero_le _, hR1.out⟩
      case round =>
        clear hf0w
        obtain ⟨j, rfl, hj, hM⟩ := hrel
        have f0 := hf0'.out wr hM.out.box
        have c5 : wr.cell? ⟨g, k * 6 + 5, none⟩ = some (.slice po pn pc) := hc5'.out wr hM.out.low
        by_cases hjc : j < pn
        · have hj1 : (j : Int) < pn := by omega
          have hj0 : (0 : Int) ≤ (j : Int) := by omega
          have hxr := (hxo'.out wr hM.out.low).parts
          obtain ⟨p, hp⟩ := hxr.get (i := j) hjc
          obtain ⟨b, off, e, hbl, a0⟩ := hxr.cell j p hp
          have e' : po = some ⟨b, off, none⟩ := e
          subst e'
          obtain ⟨O, hO⟩ : ∃ O, O = refParts (base0 ++ ps.take j) := ⟨_, rfl⟩
          have hnx : refParts (base0 ++ ps.take (j + 1)) = insB O p := by
            rw [take_step hp, ← List.append_assoc, refParts_snoc, ← hO]
          have hM' := hM.out
          rw [← hO] at hM'
          have hOl : O.length ≤ 4096 * 8 + 8 := by
            rw [hO]
            refine Nat.le_trans (refParts_len _) ?_
            rw [List.length_append, List.length_take]
            omega
          obtain ⟨so, c, rfl, hso⟩ := strs_of_ownT hM'.out
          have hhas := has_any so O.length c O p wr hso
          obtain ⟨L, hL⟩ : ∃ L, L = O.length := ⟨_, rfl⟩
          rw [← hL] at hhas hOl
          rw [← hL]
          obtain ⟨q, hqm⟩ : ∃ q, q = memB O p := ⟨_, rfl⟩
          rw [← hqm] at hhas
          replace hxr := Lib.hid hxr; replace hp := Lib.hid hp; replace hO := Lib.hid hO; replace hnx := Lib.hid hnx; replace hM' := Lib.hid hM'; replace hso := Lib.hid hso; replace hhas := Lib.hid hhas; replace hL := Lib.hid hL; replace hqm := Lib.hid hqm; replace hM := Lib.hid hM
          go_wp2_with fail
          refine hhas.out.mono ?_
          rintro e wr ⟨rfl, rfl⟩
          cases q with
          | true =>
            have hM2 : RpW w (.slice (some ⟨g, 0, none⟩) xs.length cap) (.slice so L c) (refParts (base0 ++ ps.take (j + 1))) wr := by
              rw [hnx.out, hL.out]
              unfold insB
              rw [if_pos hqm.out.symm]
              exact hM'.out
            replace hM2 := Lib.hid hM2
            go_wp2
            go_roundw
            case rel => exact ⟨j + 1, by go_num, by omega, hM2.out⟩
            case measure => simp [intOf]; omega
          | false =>
            have hins : insB O p = O.take (cntB O p) ++ (p :: O.drop (cntB O p)) := by unfold insB; rw [if_neg (by rw [← hqm.out]; simp)]
            have hbase : w.heap.size + 1 ≤ wr.heap.size := hM'.out.sz
            by_cases hL0 : L = 0
            · have hOe : O = [] := List.length_eq_zero_iff.1 (by have := hL.out; omega)
              have hv := hM'.out.nil hOe
              have hv' : so = none ∧ c = 0 := by rw [← hL.out, hL0] at hv; injection hv with h1 h2 h3; exact ⟨h1, h3⟩
              obtain ⟨rfl, rfl⟩ := hv'
              subst hL0
              have hc0 : cntB O p = 0 := by rw [hOe]; rfl
              have hnin : refParts (base0 ++ ps.take (j + 1)) = [p] := by rw [hnx.out, hins, hOe]; rfl
              have hns1 := nilslice
              have hns2 := nilslice2
              have hnil := ownT_nil wr wr.heap.size
              have hown9 : wr.ownsRow wr.heap.size 9 1 (.slice none 0 0) 0 [] := hnil
              have hnews2 := str_new wr p
              have hone2 := one_txt p
              have h632 := maxLen_ge (n := 0) (by omega)
              have hby2 : (0 + 1) * 16 ≤ 140737488355328 := by omega
              have hownA : (wr.alloc (.cells #[.string p] 9 (0, 0))).ownsRow wr.heap.size 9 1 (.slice none 0 0) 0 [] := hown9.alloc (.cells #[.string p] 9 (0, 0))
              have hbas2 : wr.heap.size ≤ (wr.alloc (.cells #[.string p] 9 (0, 0))).heap.size := by rw [World.size_alloc]; omega
              have hns1' := Lib.hid hns1
              have hns2' := Lib.hid hns2
              clear hns1 hns2
              replace hOe := Lib.hid hOe; replace hv := Lib.hid hv; replace hins := Lib.hid hins; replace hc0 := Lib.hid hc0; replace hnin := Lib.hid hnin; replace hnil := Lib.hid hnil; replace hown9 := Lib.hid hown9; replace hnews2 := Lib.hid hnews2; replace hone2 := Lib.hid hone2; replace h632 := Lib.hid h632; replace hby2 := Lib.hid hby2; replace hownA := Lib.hid hownA; replace hbas2 := Lib.hid hbas2
              go_wp2
              go_loop [7] (fun nn => nn = .int .i64 0) (fun nn => 0)
              case atStart => rfl
              case round =>
                obtain rfl := hrel
                have hns1 := hns1'.out
                go_upto_region 15 with (at_builtin; refine wpList_append_own_none rfl _ _ 36 rfl wr.heap.size 9 i9 1 Tryd.underlying36 hi9 (.slice none 0 0) 0 [] rfl hnil.out rfl ?_)
                clear hns1
                go_upto_region 16 with (at_builtin; refine wpList_append_own _ rfl _ _ 36 rfl wr.heap.size 9 i9 _ 1 16 Tryd.underlying36 hi9 hz9 hz91 hz92 rfl Nat.one_pos (.slice none 0 0) 0 _ rfl hownA.out ⟨wr.heap.size, 0, none⟩ 1 1 [.string p] rfl rfl hnews2.out hone2.out h632.out hby2.out hbas2.out ?_; intro v2 w10 hown10 hgrow10 _; obtain ⟨g10, cap10, rfl⟩ := Joins.ownsRow_form hown10 (Nat.succ_pos _); replace hown10 := Lib.hid hown10; replace hgrow10 := Lib.hid hgrow10)
                have hB10 : Below wr.heap.size wr w10 := ((Below.refl _ _).alloc (Nat.le_refl _) _).grown hgrow10.out hbas2.out (fun k e => by cases e)
                have hns2 := hns2'.out
                replace hB10 := Lib.hid hB10
                go_wp2_with (at_builtin; refine wpList_append_own_none rfl _ _ 36 rfl wr.heap.size 9 i9 1 Tryd.underlying36 hi9 (.slice (some ⟨g10, 0, none⟩) 1 cap10) 1 _ rfl hown10.out rfl ?_)
                have hM11 : RpW w (.slice (some ⟨g, 0, none⟩) xs.length cap) (.slice (some ⟨g10, 0, none⟩) 1 cap10) (refParts (base0 ++ ps.take (j + 1))) w10 := by
                  rw [hnin.out]
                  exact hM'.out.next hB10.out hown10.out (by simp)
                replace hM11 := Lib.hid hM11
                clear hns2
                go_roundw
                case rel => exact ⟨j + 1, by go_num, by omega, hM11.out⟩
                case measure => simp [intOf]; omega
            · obtain ⟨gg, cap2, hgv⟩ := Joins.ownsRow_form hM'.out.out.row (by have := hL.out; omega)
              rw [← hL.out] at hgv
              have hv' : so = some ⟨gg, 0, none⟩ ∧ c = cap2 := by injection hgv with h1 h2 h3; exact ⟨h1, h3⟩
              obtain ⟨rfl, rfl⟩ := hv'
              have hrow := hM'.out.out.row
              rw [← hL.out] at hrow
              have hgl := (World.ownsRow.lt hrow gg rfl).2
              have hLc : L ≤ c := owns_cap hrow
              replace hgv := Lib.hid hgv; replace hrow := Lib.hid hrow; replace hins := Lib.hid hins; replace hL0 := Lib.hid hL0
              go_wp2
              go_loop [7] (fun nn => ∃ m : Nat, nn = .int .i64 m ∧ m ≤ L ∧ Hid (∀ j' y, j' < m → O[j']? = some y → ltB y p = true)) (fun nn => L - (intOf nn).toNat)
              case atStart => exact ⟨0, rfl, Nat.zero_le _, fun j' y h => absurd h (Nat.not_lt_zero _)⟩
              case round =>
                obtain ⟨m, rfl, hm, hlt⟩ := hrel
                have hm0 : (0 : Int) ≤ (m : Int) := by omega
                by_cases hmc : m < L
                · have hm1 : (m : Int) < L := by omega
                  obtain ⟨y, hy⟩ := hso.out.get (i := m) (by rw [← hL.out]; exact hmc)
                  obtain ⟨b2, off2, e2, hb2, ay⟩ := hso.out.cell m y hy
                  cases e2
                  rw [Nat.zero_add] at ay
                  cases hlb : ltB y p with
                  | true =>
                    have dl : Op.bytesLess y.toList p.toList = true := by rw [ltB_eq]; exact hlb
                    have hlt2 : ∀ j' z, j' < m + 1 → O[j']? = some z → ltB z p = true := fun j' z h1 h2 => by
                      by_cases e : j' = m
                      · subst e; rw [hy] at h2; cases h2; exact hlb
                      · exact hlt.out j' z (by omega) h2
                    replace hy := Lib.hid hy; replace hlb := Lib.hid hlb; replace hlt2 := Lib.hid hlt2
                    go_wp2
                    go_round
                    case rel => exact ⟨m + 1, by go_num, by omega, hlt2.out⟩
                    case measure => simp [intOf]; omega
                  | false =>
                    have dl : Op.bytesLess y.toList p.toList = false := by rw [ltB_eq]; exact hlb
                    have hcnt : cntB O p = m := cntB_eq (by rw [← hL.out]; omega) hlt.out (fun z hz => by rw [hy] at hz; cases hz; exact hlb)
                    replace hy := Lib.hid hy; replace hlb := Lib.hid hlb
                    have hOL : O.length = L := hL.out.symm
                    have hnin := hnx.out.trans hins.out
                    rw [hcnt] at hnin
                    have hsl1 := fun w => slice_upto_g Tryd.underlying36 hi9 ⟨gg, 0, none⟩ L c m m rfl (by omega) w
                    obtain ⟨ta, hsl2, hta⟩ := slice_from Tryd.underlying36 hi9 gg L c m m rfl (by omega)
                    have hcells : ∀ X : World, Below wr.heap.size wr X → ∀ i y, O[i]? = some y → X.cell? ⟨gg, i, none⟩ = some (.string y) := fun X hb i y hy => by
                      obtain ⟨b2, off2, e2, hb2, ay⟩ := hso.out.cell i y hy
                      cases e2
                      rw [Nat.zero_add] at ay
                      exact (below_cell hb hb2).trans ay
                    have hl1 : (txts (O.take m)).length = m * 1 := by simp [txts, hOL]; omega
                    have hn1 : ∀ j u, (txts (O.take m))[j]? = some u → wr.cell? ((⟨gg, 0, none⟩ : Addr).add j) = some u := fun j u hu => by
                      rw [txts, List.getElem?_map] at hu
                      obtain ⟨y, hy, rfl⟩ := Option.map_eq_some_iff.1 hu
                      have hjm : j < m := by have := (List.getElem?_eq_some_iff.1 hy).1; rw [List.length_take] at this; omega
                      rw [List.getElem?_take, if_pos hjm] at hy
                      rw [Addr.add_lit, Nat.zero_add]
                      exact hcells wr (Below.refl _ _) j y hy
                    have ho1 := txts_one (O.take m)
                    have h63 : 0 + m ≤ maxLen := by have := maxLen_ge (n := m) (by omega); omega
                    have hby : (0 + m) * 16 ≤ 140737488355328 := by omega
                    have hnil := ownT_nil wr wr.heap.size
                    have hsl2' := Lib.hid hsl2
                    have hcells' := Lib.hid hcells
                    have hn1' := Lib.hid hn1
                    have hsl1' := Lib.hid hsl1
                    have hta' := Lib.hid hta
                    clear hsl2 hcells hn1 hsl1 hta
                    replace hOL := Lib.hid hOL; replace hnin := Lib.hid hnin; replace hl1 := Lib.hid hl1; replace ho1 := Lib.hid ho1; replace h63 := Lib.hid h63; replace hby := Lib.hid hby; replace hnil := Lib.hid hnil; replace hcnt := Lib.hid hcnt
                    have hsl1 := hsl1'.out
                    go_upto_region 15 with (at_builtin; refine wpList_append_own _ rfl _ _ 36 rfl wr.heap.size 9 i9 _ 1 16 Tryd.underlying36 hi9 hz9 hz91 hz92 rfl Nat.one_pos (.slice none 0 0) 0 [] rfl hnil.out ⟨gg, 0, none⟩ m c (txts (O.take m)) rfl hl1.out hn1'.out ho1.out h63.out hby.out (Nat.le_refl _) ?_; intro v1 w9 hown9 hgrow9 _; replace hown9 := Lib.hid hown9; replace hgrow9 := Lib.hid hgrow9)
                    clear hsl1
                    have hB9 : Below wr.heap.size wr w9 := (Below.refl _ _).grown hgrow9.out (Nat.le_refl _) (fun k e => by cases e)
                    obtain ⟨M, hM0⟩ : ∃ M, M = m := ⟨_, rfl⟩
                    rw [Nat.zero_add, ← hM0] at hown9
                    replace hB9 := Lib.hid hB9
                    have hM0' := Lib.hid hM0
                    have hMm : M ≤ L := by omega
                    clear hM0
                    have hownA : (w9.alloc (.cells #[.string p] 9 (0, 0))).ownsRow wr.heap.size 9 1 v1 M (txts (O.take M)) := hown9.out.alloc (.cells #[.string p] 9 (0, 0))
                    have hnews2 := str_new w9 p
                    have hone2 := one_txt p
                    have h632 := maxLen_ge (n := M) (by omega)
                    have hby2 : (M + 1) * 16 ≤ 140737488355328 := by omega
                    have hbas2 : wr.heap.size ≤ (w9.alloc (.cells #[.string p] 9 (0, 0))).heap.size := by have := hB9.out.size; rw [World.size_alloc]; omega
                    replace hownA := Lib.hid hownA; replace hnews2 := Lib.hid hnews2; replace hone2 := Lib.hid hone2; replace h632 := Lib.hid h632; replace hby2 := Lib.hid hby2; replace hbas2 := Lib.hid hbas2
                    go_upto_region 16 with (at_builtin; refine wpList_append_own _ rfl _ _ 36 rfl wr.heap.size 9 i9 _ 1 16 Tryd.underlying36 hi9 hz9 hz91 hz92 rfl Nat.one_pos v1 M _ rfl hownA.out ⟨w9.heap.size, 0, none⟩ 1 1 [.string p] rfl rfl hnews2.out hone2.out h632.out hby2.out hbas2.out ?_; intro v2 w10 hown10 hgrow10 _; obtain ⟨g10, cap10, rfl⟩ := Joins.ownsRow_form hown10 (Nat.succ_pos _); replace hown10 := Lib.hid hown10; replace hgrow10 := Lib.hid hgrow10)
                    have hB10 : Below wr.heap.size wr w10 := (hB9.out.alloc hB9.out.size _).grown hgrow10.out hbas2.out (fun k e => (hown9.out.lt k e).1)
                    replace hB10 := Lib.hid hB10
                    have hl3 : (txts (O.drop m)).length = (L - m) * 1 := by simp [txts, hOL.out]
                    have hn3 : ∀ j u, (txts (O.drop m))[j]? = some u → w10.cell? (ta.add j) = some u := fun j u hu => by
                      rw [txts, List.getElem?_map] at hu
                      obtain ⟨y, hy, rfl⟩ := Option.map_eq_some_iff.1 hu
                      rw [List.getElem?_drop] at hy
                      have hjm := (List.getElem?_eq_some_iff.1 hy).1
                      have := hOL.out
                      rw [hta'.out (by omega), hz91, Nat.mul_one, Addr.add_lit]
                      exact hcells'.out w10 hB10.out _ y hy
                    have ho3 := txts_one (O.drop m)
                    have h633 : M + 1 + (L - m) ≤ maxLen := by have := maxLen_ge (n := M + 1 + (L - m)) (by omega); omega
                    have hby3 : (M + 1 + (L - m)) * 16 ≤ 140737488355328 := by omega
                    have hbas3 : wr.heap.size ≤ w10.heap.size := hB10.out.size
                    have hpos3 : 0 < M + 1 + (L - m) := by omega
                    have hsl2 := hsl2'.out
                    replace hl3 := Lib.hid hl3; replace hn3 := Lib.hid hn3; replace ho3 := Lib.hid ho3; replace h633 := Lib.hid h633; replace hby3 := Lib.hid hby3; replace hbas3 := Lib.hid hbas3; replace hpos3 := Lib.hid hpos3
                    go_wp2_with (at_builtin; refine wpList_append_own _ rfl _ _ 36 rfl wr.heap.size 9 i9 _ 1 16 Tryd.underlying36 hi9 hz9 hz91 hz92 rfl Nat.one_pos (.slice (some ⟨g10, 0, none⟩) (M + 1) cap10) (M + 1) _ rfl hown10.out ta (L - m) (c - m) (txts (O.drop m)) rfl hl3.out hn3.out ho3.out h633.out hby3.out hbas3.out ?_; intro v3 w11 hown11 hgrow11 _; obtain ⟨g11, cap11, rfl⟩ := Joins.ownsRow_form hown11 hpos3.out; replace hown11 := Lib.hid hown11; replace hgrow11 := Lib.hid hgrow11)
                    have hB11 : Below wr.heap.size wr w11 := hB10.out.grown hgrow11.out hbas3.out (fun k e => (hown10.out.lt k e).1)
                    have hM11 : RpW w (.slice (some ⟨g, 0, none⟩) xs.length cap) (.slice (some ⟨g11, 0, none⟩) (M + 1 + (L - m)) cap11) (refParts (base0 ++ ps.take (j + 1))) w11 := by
                      rw [hnin.out]
                      refine hM'.out.next hB11 ?_ (by simp)
                      have e1 : (O.take m ++ p :: O.drop m).length = M + 1 + (L - m) := by
                        rw [List.length_append, List.length_take, List.length_cons, List.length_drop, hOL.out, hM0'.out]
                        omega
                      rw [e1]
                      have h := hown11.out
                      rw [← hM0'.out] at h ⊢
                      simpa [txts] using h
                    replace hB11 := Lib.hid hB11; replace hM11 := Lib.hid hM11
                    go_roundw
                    case rel => exact ⟨j + 1, by go_num, by omega, hM11.out⟩
                    case measure => simp [intOf]; omega
                · have hm1 : ¬ (m : Int) < L := by omega
                  have hcnt : cntB O p = m := cntB_eq (by rw [← hL.out]; omega) hlt.out (fun z hz => by
                    have := (List.getElem?_eq_some_iff.1 hz).1
                    rw [← hL.out] at this
                    omega)
                  have hOL : O.length = L := hL.out.symm
                  have hnin := hnx.out.trans hins.out
                  rw [hcnt] at hnin
                  have hsl1 := fun w => slice_upto_g Tryd.underlying36 hi9 ⟨gg, 0, none⟩ L c m m rfl (by omega) w
                  obtain ⟨ta, hsl2, hta⟩ := slice_from Tryd.underlying36 hi9 gg L c m m rfl (by omega)
                  have hcells : ∀ X : World, Below wr.heap.size wr X → ∀ i y, O[i]? = some y → X.cell? ⟨gg, i, none⟩ = some (.string y) := fun X hb i y hy => by
                    obtain ⟨b2, off2, e2, hb2, ay⟩ := hso.out.cell i y hy
                    cases e2
                    rw [Nat.zero_add] at ay
                    exact (below_cell hb hb2).trans ay
                  have hl1 : (txts (O.take m)).length = m * 1 := by simp [txts, hOL]; omega
                  have hn1 : ∀ j u, (txts (O.take m))[j]? = some u → wr.cell? ((⟨gg, 0, none⟩ : Addr).add j) = some u := fun j u hu => by
                    rw [txts, List.getElem?_map] at hu
                    obtain ⟨y, hy, rfl⟩ := Option.map_eq_some_iff.1 hu
                    have hjm : j < m := by have := (List.getElem?_eq_some_iff.1 hy).1; rw [List.length_take] at this; omega
                    rw [List.getElem?_take, if_pos hjm] at hy
                    rw [Addr.add_lit, Nat.zero_add]
                    exact hcells wr (Below.refl _ _) j y hy
                  have ho1 := txts_one (O.take m)
                  have h63 : 0 + m ≤ maxLen := by have := maxLen_ge (n := m) (by omega); omega
                  have hby : (0 + m) * 16 ≤ 140737488355328 := by omega
                  have hnil := ownT_nil wr wr.heap.size
                  have hsl2' := Lib.hid hsl2
                  have hcells' := Lib.hid hcells
                  have hn1' := Lib.hid hn1
                  have hsl1' := Lib.hid hsl1
                  have hta' := Lib.hid hta
                  clear hsl2 hcells hn1 hsl1 hta
                  replace hOL := Lib.hid hOL; replace hnin := Lib.hid hnin; replace hl1 := Lib.hid hl1; replace ho1 := Lib.hid ho1; replace h63 := Lib.hid h63; replace hby := Lib.hid hby; replace hnil := Lib.hid hnil; replace hcnt := Lib.hid hcnt
                  have hsl1 := hsl1'.out
                  go_upto_region 15 with (at_builtin; refine wpList_append_own _ rfl _ _ 36 rfl wr.heap.size 9 i9 _ 1 16 Tryd.underlying36 hi9 hz9 hz91 hz92 rfl Nat.one_pos (.slice none 0 0) 0 [] rfl hnil.out ⟨gg, 0, none⟩ m c (txts (O.take m)) rfl hl1.out hn1'.out ho1.out h63.out hby.out (Nat.le_refl _) ?_; intro v1 w9 hown9 hgrow9 _; replace hown9 := Lib.hid hown9; replace hgrow9 := Lib.hid hgrow9)
                  clear hsl1
                  have hB9 : Below wr.heap.size wr w9 := (Below.refl _ _).grown hgrow9.out (Nat.le_refl _) (fun k e => by cases e)
                  obtain ⟨M, hM0⟩ : ∃ M, M = m := ⟨_, rfl⟩
                  rw [Nat.zero_add, ← hM0] at hown9
                  replace hB9 := Lib.hid hB9
                  have hM0' := Lib.hid hM0
                  have hMm : M ≤ L := by omega
                  clear hM0
                  have hownA : (w9.alloc (.cells #[.string p] 9 (0, 0))).ownsRow wr.heap.size 9 1 v1 M (txts (O.take M)) := hown9.out.alloc (.cells #[.string p] 9 (0, 0))
                  have hnews2 := str_new w9 p
                  have hone2 := one_txt p
                  have h632 := maxLen_ge (n := M) (by omega)
                  have hby2 : (M + 1) * 16 ≤ 140737488355328 := by omega
                  have hbas2 : wr.heap.size ≤ (w9.alloc (.cells #[.string p] 9 (0, 0))).heap.size := by have := hB9.out.size; rw [World.size_alloc]; omega
                  replace hownA := Lib.hid hownA; replace hnews2 := Lib.hid hnews2; replace hone2 := Lib.hid hone2; replace h632 := Lib.hid h632; replace hby2 := Lib.hid hby2; replace hbas2 := Lib.hid hbas2
                  go_upto_region 16 with (at_builtin; refine wpList_append_own _ rfl _ _ 36 rfl wr.heap.size 9 i9 _ 1 16 Tryd.underlying36 hi9 hz9 hz91 hz92 rfl Nat.one_pos v1 M _ rfl hownA.out ⟨w9.heap.size, 0, none⟩ 1 1 [.string p] rfl rfl hnews2.out hone2.out h632.out hby2.out hbas2.out ?_; intro v2 w10 hown10 hgrow10 _; obtain ⟨g10, cap10, rfl⟩ := Joins.ownsRow_form hown10 (Nat.succ_pos _); replace hown10 := Lib.hid hown10; replace hgrow10 := Lib.hid hgrow10)
                  have hB10 : Below wr.heap.size wr w10 := (hB9.out.alloc hB9.out.size _).grown hgrow10.out hbas2.out (fun k e => (hown9.out.lt k e).1)
                  replace hB10 := Lib.hid hB10
                  have hl3 : (txts (O.drop m)).length = (L - m) * 1 := by simp [txts, hOL.out]
                  have hn3 : ∀ j u, (txts (O.drop m))[j]? = some u → w10.cell? (ta.add j) = some u := fun j u hu => by
                    rw [txts, List.getElem?_map] at hu
                    obtain ⟨y, hy, rfl⟩ := Option.map_eq_some_iff.1 hu
                    rw [List.getElem?_drop] at hy
                    have hjm := (List.getElem?_eq_some_iff.1 hy).1
                    have := hOL.out
                    rw [hta'.out (by omega), hz91, Nat.mul_one, Addr.add_lit]
                    exact hcells'.out w10 hB10.out _ y hy
                  have ho3 := txts_one (O.drop m)
                  have h633 : M + 1 + (L - m) ≤ maxLen := by have := maxLen_ge (n := M + 1 + (L - m)) (by omega); omega
                  have hby3 : (M + 1 + (L - m)) * 16 ≤ 140737488355328 := by omega
                  have hbas3 : wr.heap.size ≤ w10.heap.size := hB10.out.size
                  have hpos3 : 0 < M + 1 + (L - m) := by omega
                  have hsl2 := hsl2'.out
                  replace hl3 := Lib.hid hl3; replace hn3 := Lib.hid hn3; replace ho3 := Lib.hid ho3; replace h633 := Lib.hid h633; replace hby3 := Lib.hid hby3; replace hbas3 := Lib.hid hbas3; replace hpos3 := Lib.hid hpos3
                  go_wp2_with (at_builtin; refine wpList_append_own _ rfl _ _ 36 rfl wr.heap.size 9 i9 _ 1 16 Tryd.underlying36 hi9 hz9 hz91 hz92 rfl Nat.one_pos (.slice (some ⟨g10, 0, none⟩) (M + 1) cap10) (M + 1) _ rfl hown10.out ta (L - m) (c - m) (txts (O.drop m)) rfl hl3.out hn3.out ho3.out h633.out hby3.out hbas3.out ?_; intro v3 w11 hown11 hgrow11 _; obtain ⟨g11, cap11, rfl⟩ := Joins.ownsRow_form hown11 hpos3.out; replace hown11 := Lib.hid hown11; replace hgrow11 := Lib.hid hgrow11)
                  have hB11 : Below wr.heap.size wr w11 := hB10.out.grown hgrow11.out hbas3.out (fun k e => (hown10.out.lt k e).1)
                  have hM11 : RpW w (.slice (some ⟨g, 0, none⟩) xs.length cap) (.slice (some ⟨g11, 0, none⟩) (M + 1 + (L - m)) cap11) (refParts (base0 ++ ps.take (j + 1))) w11 := by
                    rw [hnin.out]
                    refine hM'.out.next hB11 ?_ (by simp)
                    have e1 : (O.take m ++ p :: O.drop m).length = M + 1 + (L - m) := by
                      rw [List.length_append, List.length_take, List.length_cons, List.length_drop, hOL.out, hM0'.out]
                      omega
                    rw [e1]
                    have h := hown11.out
                    rw [← hM0'.out] at h ⊢
                    simpa [txts] using h
                  replace hB11 := Lib.hid hB11; replace hM11 := Lib.hid hM11
                  go_roundw
                  case rel => exact ⟨j + 1, by go_num, by omega, hM11.out⟩
                  case measure => simp [intOf]; omega
        · have hj1 : ¬ (j : Int) < pn := by omega
          have hM2 : RpW w (.slice (some ⟨g, 0, none⟩) xs.length cap) u3 (refParts (rawParts ((xs.map Nde.pl).take (k + 1)))) wr := by
            rw [hrs.out]
            have := hM.out
            rw [List.take_of_length_le (by have := hpn.out; omega)] at this
            exact this
          replace hM2 := Lib.hid hM2
          go_wp2
          go_roundw
          case rel => exact ⟨k + 1, by go_num, by omega, hM2.out⟩
          case measure => simp [intOf]; omega
    · have hc1 : ¬ (k : Int) < n := by omega
      have hkn : (xs.map Nde.pl).take k = xs.map Nde.pl := List.take_of_length_le (by rw [List.length_map]; have := hn.out; omega)
      have hend := refParts_eq (xs.map Nde.pl)
      replace hkn := Lib.hid hkn; replace hend := Lib.hid hend
      go_wp2
      go_ret
      refine ⟨u3, rfl, ⟨?_⟩, hR.out.low⟩
      have := hR.out.out.row
      rw [hkn.out, hend.out] at this
      exact owns_mono this (Nat.le_succ _)
end Go.Proofs.YteoihdkaoipocaaDoor

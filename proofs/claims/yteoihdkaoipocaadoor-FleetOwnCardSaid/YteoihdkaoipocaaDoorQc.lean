/- Parts Rfm, Rpa, Nda, Rvr, Rnd, Rre, Sma, Rft, Pbk, Rrt in one text. Plain theorems: no condition. -/
import Derived.Test.YteoihdkaoipocaaDoorQb
import Derived.StillTailTactics
import Derived.IntWalk
import Derived.Laws.AppendOwnNone
import Derived.ChangeKeysEq
import Derived.Deep.RegionHeld3
import Derived.Deep.DeepCutAuto
import Derived.Test.YteoihdkaoipocaaDoorQa
/- The document's fleet: In, Total. -/
namespace Go.Proofs.YteoihdkaoipocaaDoor
open Go.RowKit Go.Maps Go.Shelf

theorem owns_mono {w : World} {base base' : Nat} {e : TypeId} {size : Nat} {v : Value} {n : Nat} {xs : List Value} (h : w.ownsRow base e size v n xs) (hb : base' ≤ base) : w.ownsRow base' e size v n xs := by
  refine ⟨h.1, ?_⟩
  rcases h.2 with h | ⟨g, cap, cur, hv, hg, hr⟩
  · exact .inl h
  · exact .inr ⟨g, cap, cur, hv, Nat.le_trans hb hg, hr⟩
structure RinW (w : World) (nv ov : Value) (zs : List Int) (W : World) : Prop where
  low : Below w.heap.size w W
  box : W.heap[w.heap.size]? = some (.cells #[nv] 44 (0, 0))
  out : OwnI W (w.heap.size + 1) ov zs
  sz : w.heap.size + 1 ≤ W.heap.size
set_option maxRecDepth 100000 in
set_option maxHeartbeats 1600000 in
theorem rin_any (w : World) (base : Nat) (nv : Value) (xs : List Nde) (p : ByteArray) (hF : FlR w base nv xs) (hlen : xs.length ≤ 4096) : Calls Tryd.prog 86 #[.agg #[nv], .string p] w (FinPost (xs.map Nde.pl) p w) := by
  obtain ⟨i3, hi3, hz3, hz31, hz32⟩ := info_parts info3
  have hln := flr_len hF
  obtain ⟨n, hn⟩ : ∃ n, n = xs.length := ⟨_, rfl⟩
  rw [← hn] at hln hlen
  have hR0 : RinW w nv (.slice none 0 0) (inOf ((xs.map Nde.pl).take 0) p) (w.alloc (.cells #[nv] 44 (0, 0))) := ⟨(Below.refl _ _).alloc (Nat.le_refl _) _, blk_new _ _, ⟨rfl, .inl ⟨rfl, rfl⟩⟩, by simp⟩
  replace hF := Lib.hid hF; replace hn := Lib.hid hn; replace hR0 := Lib.hid hR0
  go_enter Tryd.func86, Tryd.ntmps86
  go_wp2
  go_loopw [5, 6] (fun ov i wr => ∃ k : Nat, i = .int .i64 k ∧ k ≤ n ∧ Hid (RinW w nv ov (inOf ((xs.map Nde.pl).take k) p) wr)) (fun _ i _ => n - (intOf i).toNat)
  case atStart => exact ⟨0, rfl, Nat.zero_le _, hR0.out⟩
  case round =>
    obtain ⟨k, rfl, hk, hR⟩ := hrel
    have f0 : wr.cell? ⟨w.heap.size, 0, none⟩ = some nv := blk_cell hR.out.box 0
    by_cases hc : k < n
    · have hc1 : (k : Int) < n := by omega
      have hk0 : (0 : Int) ≤ (k : Int) := by omega
      have hFr := hF.out.below hR.out.low
      obtain ⟨x, hx⟩ : ∃ x, xs[k]? = some x := ⟨_, List.getElem?_eq_getElem (by have := hn.out; omega)⟩
      obtain ⟨g, cap, rfl, _, _, hcell⟩ := hFr.cell hx
      have c5 : wr.cell? ⟨g, k * 6 + 5, none⟩ = some (.slice x.po x.pn x.pc) := hcell 5 (by omega)
      rw [← hn.out] at f0
      clear hln
      have hct := has_any x.po x.pn x.pc x.parts p wr (hFr.ok x (List.mem_of_getElem? hx)).1.parts
      obtain ⟨b, hb⟩ : ∃ b, b = memB x.parts p := ⟨_, rfl⟩
      rw [← hb] at hct
      have hpl := pl_at hx
      replace hFr := Lib.hid hFr; replace hx := Lib.hid hx; replace hct := Lib.hid hct; replace hb := Lib.hid hb; replace hpl := Lib.hid hpl; replace hcell := Lib.hid hcell
      cases b with
      | false =>
        have hR2 : RinW w (.slice (some ⟨g, 0, none⟩) xs.length cap) u5 (inOf ((xs.map Nde.pl).take (k + 1)) p) wr := by rw [inOf_no hpl.out hb.out.symm]; exact hR.out
        replace hR2 := Lib.hid hR2
        go_wp2_with fail
        (with_reducible refine hct.out.mono ?_)
        rintro e wr ⟨rfl, rfl⟩
        go_wp2
        go_roundw
        case rel => exact ⟨k + 1, by go_num, by omega, hR2.out⟩
        case measure => simp [intOf]; omega
      | true =>
        obtain ⟨L, hL⟩ : ∃ L, L = (inOf ((xs.map Nde.pl).take k) p).length := ⟨_, rfl⟩
        have hLk : L ≤ k := by rw [hL]; refine Nat.le_trans (inOf_len _ _) ?_; rw [List.length_take]; omega
        have hownA : (wr.alloc (.cells #[.int .i64 (k : Int)] 3 (0, 0))).ownsRow (w.heap.size + 1) 3 1 u5 L (intsV (inOf ((xs.map Nde.pl).take k) p)) := by rw [hL]; exact hR.out.out.row.alloc (.cells #[.int .i64 (k : Int)] 3 (0, 0))
        have hnews := one_new wr (k : Int)
        have hone1 : ∀ u ∈ ([.int .i64 (k : Int)] : List Value), u.oneCell' = true := by simp [Value.oneCell']
        have h63 := maxLen_ge (n := L) (by omega)
        have hby : (L + 1) * 8 ≤ 140737488355328 := by omega
        have hbas : w.heap.size + 1 ≤ (wr.alloc (.cells #[.int .i64 (k : Int)] 3 (0, 0))).heap.size := by have := hR.out.sz; simp; omega
        replace hL := Lib.hid hL; replace hownA := Lib.hid hownA; replace hnews := Lib.hid hnews; replace hone1 := Lib.hid hone1; replace h63 := Lib.hid h63; replace hby := Lib.hid hby; replace hbas := Lib.hid hbas
        go_wp2_with fail
        (with_reducible refine hct.out.mono ?_)
        rintro e wr ⟨rfl, rfl⟩
        go_wp2_with (at_builtin; refine wpList_append_own _ rfl _ _ 26 rfl (w.heap.size + 1) 3 i3 _ 1 8 Tryd.underlying26 hi3 hz3 hz31 hz32 rfl (by decide) _ L _ rfl hownA.out ⟨wr.heap.size, 0, none⟩ 1 1 [.int .i64 (k : Int)] rfl rfl hnews.out hone1.out h63.out hby.out hbas.out ?_; intro v1 w7 hown7 hgrow _; obtain ⟨g7, cap1, rfl⟩ := Joins.ownsRow_form hown7 (by omega); replace hown7 := Lib.hid hown7; replace hgrow := Lib.hid hgrow)
        have hR7 : RinW w (.slice (some ⟨g, 0, none⟩) xs.length cap) (.slice (some ⟨g7, 0, none⟩) (L + 1) cap1) (inOf ((xs.map Nde.pl).take (k + 1)) p) w7 := by
          have hlt := hR.out.out.row.lt
          refine ⟨?_, ?_, ⟨?_⟩, ?_⟩
          · exact (hR.out.low.alloc hR.out.low.size _).grown hgrow.out (by have := hbas.out; omega) (fun k hk => by have := (hlt k hk).1; omega)
          · exact (hgrow.out.block _ (by have := hR.out.sz; simp; omega) (fun e => by have := (hlt _ e.symm).1; omega)).trans (blk_old _ hR.out.box)
          · rw [inOf_yes hpl.out hb.out.symm, List.length_append, ← hL.out]
            simpa [intsV] using hown7.out
          · have := hgrow.out.size; have := hbas.out; omega
        replace hR7 := Lib.hid hR7
        go_roundw
        case rel => exact ⟨k + 1, by go_num, by omega, hR7.out⟩
        case measure => simp [intOf]; omega
    · have hc1 : ¬ (k : Int) < n := by omega
      have hkn : (xs.map Nde.pl).take k = xs.map Nde.pl := List.take_of_length_le (by rw [List.length_map]; have := hn.out; omega)
      replace hkn := Lib.hid hkn
      go_wp2
      go_ret
      refine ⟨u5, rfl, ⟨?_⟩, hR.out.low⟩
      have := hR.out.out.row
      rw [hkn.out] at this
      exact owns_mono this (Nat.le_succ _)

structure RtW (w : World) (nv : Value) (v : V4) (W : World) : Prop where
  low : Below w.heap.size w W
  box : W.heap[w.heap.size]? = some (.cells #[nv] 44 (0, 0))
  r0 : W.heap[w.heap.size + 1]? = some (.cells V4.zero.cells 25 (0, 0))
  r1 : W.heap[w.heap.size + 2]? = some (.cells v.cells 25 (0, 0))
theorem RtW.set {w W : World} {nv : Value} {v v' : V4} (h : RtW w nv v W) (o : Nat) (x : Value) (e : v.cells.setIfInBounds o x = v'.cells) : RtW w nv v' (W.setCell ⟨w.heap.size + 2, o, none⟩ x) :=
  ⟨h.low.setCell (Nat.le_add_right _ _) _, blk_set_other (by omega) _ h.box, blk_set_other (by omega) _ h.r0, by rw [blk_set h.r1, e]⟩
theorem RtW.drew {w W : World} {nv : Value} {v : V4} (h : RtW w nv v W) : RtW w nv v W.drew := ⟨h.low.drew, h.box, h.r0, h.r1⟩
set_option maxRecDepth 100000 in
set_option maxHeartbeats 6400000 in
theorem rtot_any (w : World) (base : Nat) (nv : Value) (xs : List Nde) (p : ByteArray) (hF : FlR w base nv xs) (hlen : xs.length ≤ 4096) (hcap : ∀ x, x ∈ xs → CapOk x.cap) : Calls Tryd.prog 87 #[.agg #[nv], .string p] w (TotPost (xs.map Nde.pl) p w) := by
  have hln := flr_len hF
  obtain ⟨n, hn⟩ : ∃ n, n = xs.length := ⟨_, rfl⟩
  rw [← hn] at hln hlen
  have hR0 : RtW w nv (totOf ((xs.map Nde.pl).take 0) p) (((w.alloc (.cells #[nv] 44 (0, 0))).alloc (.cells V4.zero.cells 25 (0, 0))).alloc (.cells V4.zero.cells 25 (0, 0))) :=
    ⟨(((Below.refl _ _).alloc (Nat.le_refl _) _).alloc (by simp) _).alloc (by simp; omega) _, blk_old _ (blk_old _ (blk_new _ _)), blk_old _ (blk_at _ _ (by simp)), blk_at _ _ (by simp)⟩
  have hcp : ∀ v, v ∈ xs.map Nde.pl → CapOk v.cap := fun v hv => by
    obtain ⟨x, hx, rfl⟩ := List.mem_map.1 hv
    exact hcap x hx
  replace hF := Lib.hid hF; replace hn := Lib.hid hn; replace hR0 := Lib.hid hR0; replace hcp := Lib.hid hcp; replace hcap := Lib.hid hcap
  go_enter Tryd.func87, Tryd.ntmps87
  go_wp2
  go_loopw [6] (fun i wr => ∃ k : Nat, i = .int .i64 k ∧ k ≤ n ∧ Hid (RtW w nv (totOf ((xs.map Nde.pl).take k) p) wr)) (fun i _ => n - (intOf i).toNat)
  case atStart => exact ⟨0, rfl, Nat.zero_le _, hR0.out⟩
  case round =>
    obtain ⟨k, rfl, hk, hR⟩ := hrel
    have f0 : wr.cell? ⟨w.heap.size, 0, none⟩ = some nv := blk_cell hR.out.box 0
    by_cases hc : k < n
    · have hc1 : (k : Int) < n := by omega
      have hk0 : (0 : Int) ≤ (k : Int) := by omega
      have hFr := hF.out.below hR.out.low
      obtain ⟨x, hx⟩ : ∃ x, xs[k]? = some x := ⟨_, List.getElem?_eq_getElem (by have := hn.out; omega)⟩
      obtain ⟨g, cap, rfl, _, _, hcell⟩ := hFr.cell hx
      have c5 : wr.cell? ⟨g, k * 6 + 5, none⟩ = some (.slice x.po x.pn x.pc) := hcell 5 (by omega)
      have hct2 : ∀ wq, Below w.heap.size w wq → ∀ j, j < 6 → wq.cell? ⟨g, k * 6 + j, none⟩ = (x.cells)[j]? := fun wq hb j hj => by
        obtain ⟨g', cap', e, _, _, h2⟩ := (hF.out.below hb).cell hx
        cases e
        exact h2 j hj
      rw [← hn.out] at f0
      clear hln
      have hct := has_any x.po x.pn x.pc x.parts p wr (hFr.ok x (List.mem_of_getElem? hx)).1.parts
      obtain ⟨b, hb⟩ : ∃ b, b = memB x.parts p := ⟨_, rfl⟩
      rw [← hb] at hct
      have hpl := pl_at hx
      have hst := totOf_step p hpl
      have hup := totOf_upto (vs := (xs.map Nde.pl).take k) p (fun v hv => hcp.out v (List.mem_of_mem_take hv))
      have hcx := hcap.out x (List.mem_of_getElem? hx)
      have hltk : ((xs.map Nde.pl).take k).length = k := by rw [List.length_take, List.length_map]; have := hn.out; omega
      rw [hltk] at hup
      replace hFr := Lib.hid hFr; replace hx := Lib.hid hx; replace hct := Lib.hid hct; replace hb := Lib.hid hb; replace hpl := Lib.hid hpl; replace hcell := Lib.hid hcell; replace hst := Lib.hid hst; replace hup := Lib.hid hup; replace hcx := Lib.hid hcx; replace hltk := Lib.hid hltk; replace hct2 := Lib.hid hct2
      obtain ⟨U, hU⟩ : ∃ U, U = totOf ((xs.map Nde.pl).take k) p := ⟨_, rfl⟩
      have hR' := hR.out
      have hup' := hup.out
      have hst' := hst.out
      rw [← hU] at hR' hup' hst'
      obtain ⟨nm, ⟨ca, cb, cc, cd⟩, po, pn, pc, ps⟩ := x
      obtain ⟨ua, ub, uc, ud⟩ := U
      obtain ⟨v1, v2, v3, v4, v5, v6, v7, v8⟩ := hup'
      obtain ⟨x1, x2, x3, x4, x5, x6, x7, x8⟩ := hcx.out
      simp only at v1 v2 v3 v4 v5 v6 v7 v8 x1 x2 x3 x4 x5 x6 x7 x8
      have y1 : ua ≤ 4398046511104 := by omega
      have y2 : ub ≤ 4398046511104 := by omega
      have y3 : uc ≤ 4398046511104 := by omega
      have y4 : ud ≤ 4398046511104 := by omega
      clear v2 v4 v6 v8
      replace hU := Lib.hid hU; replace hR' := Lib.hid hR'; replace hst' := Lib.hid hst'; replace hR := Lib.hid hR
      cases hp : p.toList.isEmpty with
      | true =>
        have hcn : counts (Nde.pl ⟨nm, ⟨ca, cb, cc, cd⟩, po, pn, pc, ps⟩) p = true := by unfold counts; rw [hp]; rfl
        replace hcn := Lib.hid hcn
        go_wp2_with fail
        clear f0
        go_loopw [7] (fun i wq => ∃ j : Nat, j ≤ 4 ∧ i = .int .i64 j ∧ Hid (RtW w (.slice (some ⟨g, 0, none⟩) xs.length cap) (mixV ⟨ua, ub, uc, ud⟩ ⟨ca, cb, cc, cd⟩ j) wq)) (fun i _ => 4 - (intOf i).toNat)
        case atStart => exact ⟨0, by omega, rfl, hR'.out⟩
        case round =>
          obtain ⟨j, hj, hjv, hM⟩ := hrel
          rcases (show j = 0 ∨ j = 1 ∨ j = 2 ∨ j = 3 ∨ j = 4 by omega) with rfl | rfl | rfl | rfl | rfl
          · have hjv' : u7 = .int .i64 0 := hjv
            clear hjv
            subst hjv'
            have q0 : wr.cell? ⟨w.heap.size + 1 + 1, 0, none⟩ = some (.int .i64 ua) := blk_cell hM.out.r1 0
            have f0 : wr.frozen? ⟨w.heap.size + 1 + 1, 0, none⟩ = false := blk_free hM.out.r1 0
            have x0 : wr.cell? ⟨g, k * 6 + 1 + 0, none⟩ = some (.int .i64 ca) := by rw [Nat.add_assoc]; exact hct2.out wr hM.out.low (1 + 0) (by omega)
            have fb : wr.cell? ⟨w.heap.size, 0, none⟩ = some (.slice (some ⟨g, 0, none⟩) n cap) := by rw [hn.out]; exact blk_cell hM.out.box 0
            have hM2 : RtW w (.slice (some ⟨g, 0, none⟩) xs.length cap) (mixV ⟨ua, ub, uc, ud⟩ ⟨ca, cb, cc, cd⟩ 1) (wr.drew.setCell ⟨w.heap.size + 2, 0, none⟩ (.int .i64 (ua + ca))) := hM.out.drew.set 0 _ rfl
            replace hM2 := Lib.hid hM2
            have hwr : IntKind.i64.wrap (ua + ca) = ua + ca := IntWalk.i64_in _ (by omega)
            go_upto_region 9 with fail
            go_still_tail 13, (by kernel_rfl)
            change wpList _ _ _ _ _ wr.drew
            clear hwr
            go_wp2
            go_roundw
            case rel => exact ⟨1, by omega, rfl, hM2.out⟩
            case measure => simp [intOf]
          · have hjv' : u7 = .int .i64 1 := hjv
            clear hjv
            subst hjv'
            have q1 : wr.cell? ⟨w.heap.size + 1 + 1, 1, none⟩ = some (.int .i64 ub) := blk_cell hM.out.r1 1
            have f1 : wr.frozen? ⟨w.heap.size + 1 + 1, 1, none⟩ = false := blk_free hM.out.r1 1
            have x1 : wr.cell? ⟨g, k * 6 + 1 + 1, none⟩ = some (.int .i64 cb) := by rw [Nat.add_assoc]; exact hct2.out wr hM.out.low (1 + 1) (by omega)
            have fb : wr.cell? ⟨w.heap.size, 0, none⟩ = some (.slice (some ⟨g, 0, none⟩) n cap) := by rw [hn.out]; exact blk_cell hM.out.box 0
            have hM2 : RtW w (.slice (some ⟨g, 0, none⟩) xs.length cap) (mixV ⟨ua, ub, uc, ud⟩ ⟨ca, cb, cc, cd⟩ 2) (wr.drew.setCell ⟨w.heap.size + 2, 1, none⟩ (.int .i64 (ub + cb))) := hM.out.drew.set 1 _ rfl
            replace hM2 := Lib.hid hM2
            have hwr : IntKind.i64.wrap (ub + cb) = ub + cb := IntWalk.i64_in _ (by omega)
            go_upto_region 9 with fail
            go_still_tail 13, (by kernel_rfl)
            change wpList _ _ _ _ _ wr.drew
            clear hwr
            go_wp2
            go_roundw
            case rel => exact ⟨2, by omega, rfl, hM2.out⟩
            case measure => simp [intOf]
          · have hjv' : u7 = .int .i64 2 := hjv
            clear hjv
            subst hjv'
            have q2 : wr.cell? ⟨w.heap.size + 1 + 1, 2, none⟩ = some (.int .i64 uc) := blk_cell hM.out.r1 2
            have f2 : wr.frozen? ⟨w.heap.size + 1 + 1, 2, none⟩ = false := blk_free hM.out.r1 2
            have x2 : wr.cell? ⟨g, k * 6 + 1 + 2, none⟩ = some (.int .i64 cc) := by rw [Nat.add_assoc]; exact hct2.out wr hM.out.low (1 + 2) (by omega)
            have fb : wr.cell? ⟨w.heap.size, 0, none⟩ = some (.slice (some ⟨g, 0, none⟩) n cap) := by rw [hn.out]; exact blk_cell hM.out.box 0
            have hM2 : RtW w (.slice (some ⟨g, 0, none⟩) xs.length cap) (mixV ⟨ua, ub, uc, ud⟩ ⟨ca, cb, cc, cd⟩ 3) (wr.drew.setCell ⟨w.heap.size + 2, 2, none⟩ (.int .i64 (uc + cc))) := hM.out.drew.set 2 _ rfl
            replace hM2 := Lib.hid hM2
            have hwr : IntKind.i64.wrap (uc + cc) = uc + cc := IntWalk.i64_in _ (by omega)
            go_upto_region 9 with fail
            go_still_tail 13, (by kernel_rfl)
            change wpList _ _ _ _ _ wr.drew
            clear hwr
            go_wp2
            go_roundw
            case rel => exact ⟨3, by omega, rfl, hM2.out⟩
            case measure => simp [intOf]
          · have hjv' : u7 = .int .i64 3 := hjv
            clear hjv
            subst hjv'
            have q3 : wr.cell? ⟨w.heap.size + 1 + 1, 3, none⟩ = some (.int .i64 ud) := blk_cell hM.out.r1 3
            have f3 : wr.frozen? ⟨w.heap.size + 1 + 1, 3, none⟩ = false := blk_free hM.out.r1 3
            have x3 : wr.cell? ⟨g, k * 6 + 1 + 3, none⟩ = some (.int .i64 cd) := by rw [Nat.add_assoc]; exact hct2.out wr hM.out.low (1 + 3) (by omega)
            have fb : wr.cell? ⟨w.heap.size, 0, none⟩ = some (.slice (some ⟨g, 0, none⟩) n cap) := by rw [hn.out]; exact blk_cell hM.out.box 0
            have hM2 : RtW w (.slice (some ⟨g, 0, none⟩) xs.length cap) (mixV ⟨ua, ub, uc, ud⟩ ⟨ca, cb, cc, cd⟩ 4) (wr.drew.setCell ⟨w.heap.size + 2, 3, none⟩ (.int .i64 (ud + cd))) := hM.out.drew.set 3 _ rfl
            replace hM2 := Lib.hid hM2
            have hwr : IntKind.i64.wrap (ud + cd) = ud + cd := IntWalk.i64_in _ (by omega)
            go_upto_region 9 with fail
            go_still_tail 13, (by kernel_rfl)
            change wpList _ _ _ _ _ wr.drew
            clear hwr
            go_wp2
            go_roundw
            case rel => exact ⟨4, by omega, rfl, hM2.out⟩
            case measure => simp [intOf]
          · have hjv' : u7 = .int .i64 4 := hjv
            clear hjv
            subst hjv'
            have hR3 : RtW w (.slice (some ⟨g, 0, none⟩) xs.length cap) (totOf ((xs.map Nde.pl).take (k + 1)) p) wr := by rw [hst'.out, if_pos hcn.out]; exact hM.out
            replace hR3 := Lib.hid hR3
            go_wp2
            go_roundw
            case rel => exact ⟨k + 1, by go_num, by omega, hR3.out⟩
            case measure => simp [intOf]; omega
      | false =>
        cases b with
        | true =>
          have hcn : counts (Nde.pl ⟨nm, ⟨ca, cb, cc, cd⟩, po, pn, pc, ps⟩) p = true := by unfold counts; rw [hp]; exact hb.out.symm
          replace hcn := Lib.hid hcn
          go_wp2_with fail
          (with_reducible refine hct.out.mono ?_)
          rintro e wr ⟨rfl, rfl⟩
          go_wp2
          clear f0
          go_loopw [7] (fun i wq => ∃ j : Nat, j ≤ 4 ∧ i = .int .i64 j ∧ Hid (RtW w (.slice (some ⟨g, 0, none⟩) xs.length cap) (mixV ⟨ua, ub, uc, ud⟩ ⟨ca, cb, cc, cd⟩ j) wq)) (fun i _ => 4 - (intOf i).toNat)
          case atStart => exact ⟨0, by omega, rfl, hR'.out⟩
          case round =>
            obtain ⟨j, hj, hjv, hM⟩ := hrel
            rcases (show j = 0 ∨ j = 1 ∨ j = 2 ∨ j = 3 ∨ j = 4 by omega) with rfl | rfl | rfl | rfl | rfl
            · have hjv' : u7 = .int .i64 0 := hjv
              clear hjv
              subst hjv'
              have q0 : wr.cell? ⟨w.heap.size + 1 + 1, 0, none⟩ = some (.int .i64 ua) := blk_cell hM.out.r1 0
              have f0 : wr.frozen? ⟨w.heap.size + 1 + 1, 0, none⟩ = false := blk_free hM.out.r1 0
              have x0 : wr.cell? ⟨g, k * 6 + 1 + 0, none⟩ = some (.int .i64 ca) := by rw [Nat.add_assoc]; exact hct2.out wr hM.out.low (1 + 0) (by omega)
              have fb : wr.cell? ⟨w.heap.size, 0, none⟩ = some (.slice (some ⟨g, 0, none⟩) n cap) := by rw [hn.out]; exact blk_cell hM.out.box 0
              have hM2 : RtW w (.slice (some ⟨g, 0, none⟩) xs.length cap) (mixV ⟨ua, ub, uc, ud⟩ ⟨ca, cb, cc, cd⟩ 1) (wr.drew.setCell ⟨w.heap.size + 2, 0, none⟩ (.int .i64 (ua + ca))) := hM.out.drew.set 0 _ rfl
              replace hM2 := Lib.hid hM2
              have hwr : IntKind.i64.wrap (ua + ca) = ua + ca := IntWalk.i64_in _ (by omega)
              go_upto_region 9 with fail
              go_still_tail 13, (by kernel_rfl)
              change wpList _ _ _ _ _ wr.drew
              clear hwr
              go_wp2
              go_roundw
              case rel => exact ⟨1, by omega, rfl, hM2.out⟩
              case measure => simp [intOf]
            · have hjv' : u7 = .int .i64 1 := hjv
              clear hjv
              subst hjv'
              have q1 : wr.cell? ⟨w.heap.size + 1 + 1, 1, none⟩ = some (.int .i64 ub) := blk_cell hM.out.r1 1
              have f1 : wr.frozen? ⟨w.heap.size + 1 + 1, 1, none⟩ = false := blk_free hM.out.r1 1
              have x1 : wr.cell? ⟨g, k * 6 + 1 + 1, none⟩ = some (.int .i64 cb) := by rw [Nat.add_assoc]; exact hct2.out wr hM.out.low (1 + 1) (by omega)
              have fb : wr.cell? ⟨w.heap.size, 0, none⟩ = some (.slice (some ⟨g, 0, none⟩) n cap) := by rw [hn.out]; exact blk_cell hM.out.box 0
              have hM2 : RtW w (.slice (some ⟨g, 0, none⟩) xs.length cap) (mixV ⟨ua, ub, uc, ud⟩ ⟨ca, cb, cc, cd⟩ 2) (wr.drew.setCell ⟨w.heap.size + 2, 1, none⟩ (.int .i64 (ub + cb))) := hM.out.drew.set 1 _ rfl
              replace hM2 := Lib.hid hM2
              have hwr : IntKind.i64.wrap (ub + cb) = ub + cb := IntWalk.i64_in _ (by omega)
              go_upto_region 9 with fail
              go_still_tail 13, (by kernel_rfl)
              change wpList _ _ _ _ _ wr.drew
              clear hwr
              go_wp2
              go_roundw
              case rel => exact ⟨2, by omega, rfl, hM2.out⟩
              case measure => simp [intOf]
            · have hjv' : u7 = .int .i64 2 := hjv
              clear hjv
              subst hjv'
              have q2 : wr.cell? ⟨w.heap.size + 1 + 1, 2, none⟩ = some (.int .i64 uc) := blk_cell hM.out.r1 2
              have f2 : wr.frozen? ⟨w.heap.size + 1 + 1, 2, none⟩ = false := blk_free hM.out.r1 2
              have x2 : wr.cell? ⟨g, k * 6 + 1 + 2, none⟩ = some (.int .i64 cc) := by rw [Nat.add_assoc]; exact hct2.out wr hM.out.low (1 + 2) (by omega)
              have fb : wr.cell? ⟨w.heap.size, 0, none⟩ = some (.slice (some ⟨g, 0, none⟩) n cap) := by rw [hn.out]; exact blk_cell hM.out.box 0
              have hM2 : RtW w (.slice (some ⟨g, 0, none⟩) xs.length cap) (mixV ⟨ua, ub, uc, ud⟩ ⟨ca, cb, cc, cd⟩ 3) (wr.drew.setCell ⟨w.heap.size + 2, 2, none⟩ (.int .i64 (uc + cc))) := hM.out.drew.set 2 _ rfl
              replace hM2 := Lib.hid hM2
              have hwr : IntKind.i64.wrap (uc + cc) = uc + cc := IntWalk.i64_in _ (by omega)
              go_upto_region 9 with fail
              go_still_tail 13, (by kernel_rfl)
              change wpList _ _ _ _ _ wr.drew
              clear hwr
              go_wp2
              go_roundw
              case rel => exact ⟨3, by omega, rfl, hM2.out⟩
              case measure => simp [intOf]
            · have hjv' : u7 = .int .i64 3 := hjv
              clear hjv
              subst hjv'
              have q3 : wr.cell? ⟨w.heap.size + 1 + 1, 3, none⟩ = some (.int .i64 ud) := blk_cell hM.out.r1 3
              have f3 : wr.frozen? ⟨w.heap.size + 1 + 1, 3, none⟩ = false := blk_free hM.out.r1 3
              have x3 : wr.cell? ⟨g, k * 6 + 1 + 3, none⟩ = some (.int .i64 cd) := by rw [Nat.add_assoc]; exact hct2.out wr hM.out.low (1 + 3) (by omega)
              have fb : wr.cell? ⟨w.heap.size, 0, none⟩ = some (.slice (some ⟨g, 0, none⟩) n cap) := by rw [hn.out]; exact blk_cell hM.out.box 0
              have hM2 : RtW w (.slice (some ⟨g, 0, none⟩) xs.length cap) (mixV ⟨ua, ub, uc, ud⟩ ⟨ca, cb, cc, cd⟩ 4) (wr.drew.setCell ⟨w.heap.size + 2, 3, none⟩ (.int .i64 (ud + cd))) := hM.out.drew.set 3 _ rfl
              replace hM2 := Lib.hid hM2
              have hwr : IntKind.i64.wrap (ud + cd) = ud + cd := IntWalk.i64_in _ (by omega)
              go_upto_region 9 with fail
              go_still_tail 13, (by kernel_rfl)
              change wpList _ _ _ _ _ wr.drew
              clear hwr
              go_wp2
              go_roundw
              case rel => exact ⟨4, by omega, rfl, hM2.out⟩
              case measure => simp [intOf]
            · have hjv' : u7 = .int .i64 4 := hjv
              clear hjv
              subst hjv'
              have hR3 : RtW w (.slice (some ⟨g, 0, none⟩) xs.length cap) (totOf ((xs.map Nde.pl).take (k + 1)) p) wr := by rw [hst'.out, if_pos hcn.out]; exact hM.out
              replace hR3 := Lib.hid hR3
              go_wp2
              go_roundw
              case rel => exact ⟨k + 1, by go_num, by omega, hR3.out⟩
              case measure => simp [intOf]; omega
        | false =>
          have hcn : counts (Nde.pl ⟨nm, ⟨ca, cb, cc, cd⟩, po, pn, pc, ps⟩) p = false := by unfold counts; rw [hp]; exact hb.out.symm
          have hT2 : RtW w (.slice (some ⟨g, 0, none⟩) xs.length cap) (totOf ((xs.map Nde.pl).take (k + 1)) p) wr := by rw [hst'.out, if_neg (by rw [hcn]; simp)]; exact hR'.out
          replace hcn := Lib.hid hcn; replace hT2 := Lib.hid hT2
          go_wp2_with fail
          (with_reducible refine hct.out.mono ?_)
          rintro e wr ⟨rfl, rfl⟩
          go_wp2
          go_roundw
          case rel => exact ⟨k + 1, by go_num, by omega, hT2.out⟩
          case measure => simp [intOf]; omega
    · have hc1 : ¬ (k : Int) < n := by omega
      have hkn : (xs.map Nde.pl).take k = xs.map Nde.pl := List.take_of_length_le (by rw [List.length_map]; have := hn.out; omega)
      have hR' := hR.out
      rw [hkn] at hR'
      obtain ⟨U, hU⟩ : ∃ U, U = totOf (xs.map Nde.pl) p := ⟨_, rfl⟩
      rw [← hU] at hR'
      obtain ⟨ua, ub, uc, ud⟩ := U
      have r1 := hR'.r1
      have a0 : wr.cell? ⟨w.heap.size + 1 + 1, 0, none⟩ = some (.int .i64 ua) := blk_cell r1 0
      have a1 : wr.cell? ⟨w.heap.size + 1 + 1, 1, none⟩ = some (.int .i64 ub) := blk_cell r1 1
      have a2 : wr.cell? ⟨w.heap.size + 1 + 1, 2, none⟩ = some (.int .i64 uc) := blk_cell r1 2
      have a3 : wr.cell? ⟨w.heap.size + 1 + 1, 3, none⟩ = some (.int .i64 ud) := blk_cell r1 3
      have r0 := hR'.r0
      have b0 : wr.cell? ⟨w.heap.size + 1, 0, none⟩ = some (.int .i64 0) := blk_cell r0 0
      have b1 : wr.cell? ⟨w.heap.size + 1, 1, none⟩ = some (.int .i64 0) := blk_cell r0 1
      have b2 : wr.cell? ⟨w.heap.size + 1, 2, none⟩ = some (.int .i64 0) := blk_cell r0 2
      have b3 : wr.cell? ⟨w.heap.size + 1, 3, none⟩ = some (.int .i64 0) := blk_cell r0 3
      have fr := blk_free hR'.r0
      have e : ∀ v0 v1 v2 v3, Below w.heap.size w ((((wr.setCell ⟨w.heap.size + 1, 0, none⟩ v0).setCell ⟨w.heap.size + 1, 1, none⟩ v1).setCell ⟨w.heap.size + 1, 2, none⟩ v2).setCell ⟨w.heap.size + 1, 3, none⟩ v3) := fun v0 v1 v2 v3 =>
        (((hR'.low.setCell (Nat.le_succ _) _).setCell (Nat.le_succ _) _).setCell (Nat.le_succ _) _).setCell (Nat.le_succ _) _
      replace hkn := Lib.hid hkn; replace hR' := Lib.hid hR'; replace hU := Lib.hid hU; replace hR := Lib.hid hR; replace r1 := Lib.hid r1; replace r0 := Lib.hid r0; replace e := Lib.hid e
      go_wp2
      refine bodyPost_ret (v := V4.val ⟨ua, ub, uc, ud⟩) (by simp [results, Tryd.results87, go_sem, b0, b1, b2, b3]) rfl ⟨?_, e.out _ _ _ _⟩
      rw [hU.out]
end Go.Proofs.YteoihdkaoipocaaDoor

/- (corveeref05.Fleet).Parts: each part is put at its place. -/
namespace Go.Proofs.YteoihdkaoipocaaDoor
open Go.RowKit Go.Maps Go.Shelf

structure RpW (w : World) (nv ov : Value) (l : List ByteArray) (W : World) : Prop where
  low : Below w.heap.size w W
  box : W.heap[w.heap.size]? = some (.cells #[nv] 44 (0, 0))
  out : OwnT W (w.heap.size + 1) ov l
  nil : l = [] → ov = .slice none 0 0
  sz : w.heap.size + 1 ≤ W.heap.size
theorem RpW.next {w W W' : World} {nv ov ov' : Value} {out out' : List ByteArray} (h : RpW w nv ov out W) (hb : Below W.heap.size W W') (ho : W'.ownsRow W.heap.size 9 1 ov' out'.length (txts out')) (hne : out' ≠ []) : RpW w nv ov' out' W' :=
  ⟨h.low.trans (hb.mono h.low.size), blk_below hb h.box (blk_lt h.box), ⟨owns_mono ho h.sz⟩, fun e => absurd e hne, Nat.le_trans h.sz hb.size⟩
theorem insB_len (out : List ByteArray) (p : ByteArray) : (insB out p).length ≤ out.length + 1 := by
  unfold insB
  split
  · omega
  · have := congrArg List.length (List.take_append_drop (cntB out p) out)
    rw [List.length_append] at this
    rw [List.length_append, List.length_cons]
    omega
theorem refParts_len (l : List ByteArray) : (refParts l).length ≤ l.length := by
  induction l using rev_ind with
  | h0 => exact Nat.le_refl _
  | h1 l x ih =>
    rw [refParts_snoc, List.length_append]
    have := insB_len (refParts l) x
    simp
    omega
theorem nilslice : ∀ w, (Instr.slice 36 (.slice none 0 0) none (some (.int .i64 0)) none).run Tryd.prog w = .ok (.slice none 0 0) w := fun w => by kernel_rfl
theorem nilslice2 : ∀ w, (Instr.slice 36 (.slice none 0 0) (some (.int .i64 0)) none none).run Tryd.prog w = .ok (.slice none 0 0) w := fun w => by kernel_rfl
theorem ltB_eq (a b : ByteArray) : Op.bytesLess a.toList b.toList = ltB a b := by
  rw [bytesLess_eq, Lib.toList_data, Lib.toList_data]; rfl
theorem one_txt (p : ByteArray) : ∀ u ∈ [Value.string p], u.oneCell' = true := str_one p
theorem ownT_nil (w : World) (B : Nat) : w.ownsRow B 9 1 (.slice none 0 0) 0 [] := ⟨rfl, .inl ⟨rfl, rfl⟩⟩
set_option maxRecDepth 100000 in
set_option maxHeartbeats 6400000 in
theorem rparts_any (w : World) (base : Nat) (nv : Value) (xs : List Nde) (hF : FlR w base nv xs) (hlen : xs.length ≤ 4096) (hq : ∀ x, x ∈ xs → x.parts.length ≤ 8) : Calls Tryd.prog 85 #[.agg #[nv]] w (FpaPost (xs.map Nde.pl) w) := by
  obtain ⟨i9, hi9, hz9, hz91, hz92⟩ := info_parts info9
  have hln := flr_len hF
  obtain ⟨n, hn⟩ : ∃ n, n = xs.length := ⟨_, rfl⟩
  rw [← hn] at hln hlen
  have hR0 : RpW w nv (.slice none 0 0) (refParts (rawParts ((xs.map Nde.pl).take 0))) (w.alloc (.cells #[nv] 44 (0, 0))) := ⟨(Below.refl _ _).alloc (Nat.le_refl _) _, blk_new _ _, own_empty _ _, fun _ => rfl, by simp⟩
  replace hF := Lib.hid hF; replace hn := Lib.hid hn; replace hR0 := Lib.hid hR0; replace hq := Lib.hid hq
  go_enter Tryd.func85, Tryd.ntmps85
  go_wp2
  go_loopw [3, 4, 5, 6, 7, 8] (fun ov i _ _ _ _ wr => ∃ k : Nat, i = .int .i64 k ∧ k ≤ n ∧ Hid (RpW w nv ov (refParts (rawParts ((xs.map Nde.pl).take k))) wr)) (fun _ i _ _ _ _ _ => n - (intOf i).toNat)
  case atStart => exact ⟨0, rfl, Nat.zero_le _, hR0.out⟩
  case round =>
    obtain ⟨k, rfl, hk, hR⟩ := hrel
    have f0 : wr.cell? ⟨w.heap.size, 0, none⟩ = some nv := blk_cell hR.out.box 0
    by_cases hc : k < n
    · have hc1 : (k : Int) < n := by omega
      have hk0 : (0 : Int) ≤ (k : Int) := by omega
      have hFr := hF.out.below hR.out.low
      obtain ⟨x, hx⟩ : ∃ x, xs[k]? = some x := ⟨_, List.getElem?_eq_getElem (by have := hn.out; omega)⟩
      obtain ⟨g, cap, rfl, _, _, hcell⟩ := hFr.cell hx
      have hpl := pl_at hx
      have hrs := rawParts_step hpl
      have hxm := List.mem_of_getElem? hx
      have hps8 := hq.out x hxm
      have hxo : ∀ W, Below w.heap.size w W → x.ok W := fun W hb => ((hF.out.below hb).ok x hxm).1
      have hc5 : ∀ W, Below w.heap.size w W → W.cell? ⟨g, k * 6 + 5, none⟩ = some (.slice x.po x.pn x.pc) := fun W hb => by
        obtain ⟨g', cap', e, _, _, h2⟩ := (hF.out.below hb).cell hx
        cases e
        exact h2 5 (by omega)
      clear hln f0
      obtain ⟨nm, cp, po, pn, pc, ps⟩ := x
      have hpn := (hxo wr hR.out.low).parts.len
      have hpmx := (hxo wr hR.out.low).parts.max
      simp only at hpn hpmx hps8
      rw [show (Nde.pl ⟨nm, cp, po, pn, pc, ps⟩).parts = ps from rfl] at hrs
      obtain ⟨base0, hbase0⟩ : ∃ l, l = rawParts ((xs.map Nde.pl).take k) := ⟨_, rfl⟩
      have hR1 : RpW w (.slice (some ⟨g, 0, none⟩) xs.length cap) u3 (refParts (base0 ++ ps.take 0)) wr := by rw [List.take_zero, List.append_nil, hbase0]; exact hR.out
      rw [← hbase0] at hrs
      have hb0l : base0.length ≤ 4096 * 8 := by
        rw [hbase0]
        refine Nat.le_trans (rawParts_len (c := 8) fun v hv => ?_) (by rw [List.length_take]; omega)
        obtain ⟨y, hy, rfl⟩ := List.mem_map.1 (List.mem_of_mem_take hv)
        exact hq.out y hy
      have hf0 : ∀ W : World, W.heap[w.heap.size]? = some (.cells #[.slice (some ⟨g, 0, none⟩) xs.length cap] 44 (0, 0)) → W.cell? ⟨w.heap.size, 0, none⟩ = some (.slice (some ⟨g, 0, none⟩) n cap) := fun W h => by rw [hn.out]; exact blk_cell h 0
      have hf0w := hf0 wr hR.out.box
      have hxo' := Lib.hid hxo
      have hc5' := Lib.hid hc5
      have hf0' := Lib.hid hf0
      clear hxo hc5 hf0
      replace hFr := Lib.hid hFr; replace hx := Lib.hid hx; replace hcell := Lib.hid hcell; replace hpl := Lib.hid hpl; replace hrs := Lib.hid hrs; replace hxm := Lib.hid hxm; replace hpn := Lib.hid hpn; replace hbase0 := Lib.hid hbase0; replace hR1 := Lib.hid hR1; replace hR := Lib.hid hR
      go_wp2
      go_loopw [3, 5, 6, 7, 8] (fun ov kk _ _ _ wr => ∃ j : Nat, kk = .int .i64 j ∧ j ≤ pn ∧ Hid (RpW w (.slice (some ⟨g, 0, none⟩) xs.length cap) ov (refParts (base0 ++ ps.take j)) wr)) (fun _ kk _ _ _ _ => pn - (intOf kk).toNat)
      case atStart => exact ⟨0, rfl, Nat.zero_le _, hR1.out⟩
      case round =>
        clear hf0w
        obtain ⟨j, rfl, hj, hM⟩ := hrel
        have f0 := hf0'.out wr hM.out.box
        have c5 : wr.cell? ⟨g, k * 6 + 5, none⟩ = some (.slice po pn pc) := hc5'.out wr hM.out.low
        by_cases hjc : j < pn
        · have hj1 : (j : Int) < pn := by omega
          have hj0 : (0 : Int) ≤ (j : Int) := by omega
          have hxr := (hxo'.out wr hM.out.low).parts
          obtain ⟨p, hp⟩ := hxr.get (i := j) hjc
          obtain ⟨b, off, e, hbl, a0⟩ := hxr.cell j p hp
          have e' : po = some ⟨b, off, none⟩ := e
          subst e'
          obtain ⟨O, hO⟩ : ∃ O, O = refParts (base0 ++ ps.take j) := ⟨_, rfl⟩
          have hnx : refParts (base0 ++ ps.take (j + 1)) = insB O p := by
            rw [take_step hp, ← List.append_assoc, refParts_snoc, ← hO]
          have hM' := hM.out
          rw [← hO] at hM'
          have hOl : O.length ≤ 4096 * 8 + 8 := by
            rw [hO]
            refine Nat.le_trans (refParts_len _) ?_
            rw [List.length_append, List.length_take]
            omega
          obtain ⟨so, c, rfl, hso⟩ := strs_of_ownT hM'.out
          have hhas := has_any so O.length c O p wr hso
          obtain ⟨L, hL⟩ : ∃ L, L = O.length := ⟨_, rfl⟩
          rw [← hL] at hhas hOl
          rw [← hL]
          obtain ⟨q, hqm⟩ : ∃ q, q = memB O p := ⟨_, rfl⟩
          rw [← hqm] at hhas
          replace hxr := Lib.hid hxr; replace hp := Lib.hid hp; replace hO := Lib.hid hO; replace hnx := Lib.hid hnx; replace hM' := Lib.hid hM'; replace hso := Lib.hid hso; replace hhas := Lib.hid hhas; replace hL := Lib.hid hL; replace hqm := Lib.hid hqm; replace hM := Lib.hid hM
          go_wp2_with fail
          refine hhas.out.mono ?_
          rintro e wr ⟨rfl, rfl⟩
          cases q with
          | true =>
            have hM2 : RpW w (.slice (some ⟨g, 0, none⟩) xs.length cap) (.slice so L c) (refParts (base0 ++ ps.take (j + 1))) wr := by
              rw [hnx.out, hL.out]
              unfold insB
              rw [if_pos hqm.out.symm]
              exact hM'.out
            replace hM2 := Lib.hid hM2
            go_wp2
            go_roundw
            case rel => exact ⟨j + 1, by go_num, by omega, hM2.out⟩
            case measure => simp [intOf]; omega
          | false =>
            have hins : insB O p = O.take (cntB O p) ++ (p :: O.drop (cntB O p)) := by unfold insB; rw [if_neg (by rw [← hqm.out]; simp)]
            have hbase : w.heap.size + 1 ≤ wr.heap.size := hM'.out.sz
            by_cases hL0 : L = 0
            · have hOe : O = [] := List.length_eq_zero_iff.1 (by have := hL.out; omega)
              have hv := hM'.out.nil hOe
              have hv' : so = none ∧ c = 0 := by rw [← hL.out, hL0] at hv; injection hv with h1 h2 h3; exact ⟨h1, h3⟩
              obtain ⟨rfl, rfl⟩ := hv'
              subst hL0
              have hc0 : cntB O p = 0 := by rw [hOe]; rfl
              have hnin : refParts (base0 ++ ps.take (j + 1)) = [p] := by rw [hnx.out, hins, hOe]; rfl
              have hns1 := nilslice
              have hns2 := nilslice2
              have hnil := ownT_nil wr wr.heap.size
              have hown9 : wr.ownsRow wr.heap.size 9 1 (.slice none 0 0) 0 [] := hnil
              have hnews2 := str_new wr p
              have hone2 := one_txt p
              have h632 := maxLen_ge (n := 0) (by omega)
              have hby2 : (0 + 1) * 16 ≤ 140737488355328 := by omega
              have hownA : (wr.alloc (.cells #[.string p] 9 (0, 0))).ownsRow wr.heap.size 9 1 (.slice none 0 0) 0 [] := hown9.alloc (.cells #[.string p] 9 (0, 0))
              have hbas2 : wr.heap.size ≤ (wr.alloc (.cells #[.string p] 9 (0, 0))).heap.size := by rw [World.size_alloc]; omega
              have hns1' := Lib.hid hns1
              have hns2' := Lib.hid hns2
              clear hns1 hns2
              replace hOe := Lib.hid hOe; replace hv := Lib.hid hv; replace hins := Lib.hid hins; replace hc0 := Lib.hid hc0; replace hnin := Lib.hid hnin; replace hnil := Lib.hid hnil; replace hown9 := Lib.hid hown9; replace hnews2 := Lib.hid hnews2; replace hone2 := Lib.hid hone2; replace h632 := Lib.hid h632; replace hby2 := Lib.hid hby2; replace hownA := Lib.hid hownA; replace hbas2 := Lib.hid hbas2
              go_wp2
              go_loop [7] (fun nn => nn = .int .i64 0) (fun nn => 0)
              case atStart => rfl
              case round =>
                obtain rfl := hrel
                have hns1 := hns1'.out
                go_upto_region 15 with (at_builtin; refine wpList_append_own_none rfl _ _ 36 rfl wr.heap.size 9 i9 1 Tryd.underlying36 hi9 (.slice none 0 0) 0 [] rfl hnil.out rfl ?_)
                clear hns1
                go_upto_region 16 with (at_builtin; refine wpList_append_own _ rfl _ _ 36 rfl wr.heap.size 9 i9 _ 1 16 Tryd.underlying36 hi9 hz9 hz91 hz92 rfl Nat.one_pos (.slice none 0 0) 0 _ rfl hownA.out ⟨wr.heap.size, 0, none⟩ 1 1 [.string p] rfl rfl hnews2.out hone2.out h632.out hby2.out hbas2.out ?_; intro v2 w10 hown10 hgrow10 _; obtain ⟨g10, cap10, rfl⟩ := Joins.ownsRow_form hown10 (Nat.succ_pos _); replace hown10 := Lib.hid hown10; replace hgrow10 := Lib.hid hgrow10)
                have hB10 : Below wr.heap.size wr w10 := ((Below.refl _ _).alloc (Nat.le_refl _) _).grown hgrow10.out hbas2.out (fun k e => by cases e)
                have hns2 := hns2'.out
                replace hB10 := Lib.hid hB10
                go_wp2_with (at_builtin; refine wpList_append_own_none rfl _ _ 36 rfl wr.heap.size 9 i9 1 Tryd.underlying36 hi9 (.slice (some ⟨g10, 0, none⟩) 1 cap10) 1 _ rfl hown10.out rfl ?_)
                have hM11 : RpW w (.slice (some ⟨g, 0, none⟩) xs.length cap) (.slice (some ⟨g10, 0, none⟩) 1 cap10) (refParts (base0 ++ ps.take (j + 1))) w10 := by
                  rw [hnin.out]
                  exact hM'.out.next hB10.out hown10.out (by simp)
                replace hM11 := Lib.hid hM11
                clear hns2
                go_roundw
                case rel => exact ⟨j + 1, by go_num, by omega, hM11.out⟩
                case measure => simp [intOf]; omega
            · obtain ⟨gg, cap2, hgv⟩ := Joins.ownsRow_form hM'.out.out.row (by have := hL.out; omega)
              rw [← hL.out] at hgv
              have hv' : so = some ⟨gg, 0, none⟩ ∧ c = cap2 := by injection hgv with h1 h2 h3; exact ⟨h1, h3⟩
              obtain ⟨rfl, rfl⟩ := hv'
              have hrow := hM'.out.out.row
              rw [← hL.out] at hrow
              have hgl := (World.ownsRow.lt hrow gg rfl).2
              have hLc : L ≤ c := owns_cap hrow
              replace hgv := Lib.hid hgv; replace hrow := Lib.hid hrow; replace hins := Lib.hid hins; replace hL0 := Lib.hid hL0
              go_wp2
              go_loop [7] (fun nn => ∃ m : Nat, nn = .int .i64 m ∧ m ≤ L ∧ Hid (∀ j' y, j' < m → O[j']? = some y → ltB y p = true)) (fun nn => L - (intOf nn).toNat)
              case atStart => exact ⟨0, rfl, Nat.zero_le _, fun j' y h => absurd h (Nat.not_lt_zero _)⟩
              case round =>
                obtain ⟨m, rfl, hm, hlt⟩ := hrel
                have hm0 : (0 : Int) ≤ (m : Int) := by omega
                by_cases hmc : m < L
                · have hm1 : (m : Int) < L := by omega
                  obtain ⟨y, hy⟩ := hso.out.get (i := m) (by rw [← hL.out]; exact hmc)
                  obtain ⟨b2, off2, e2, hb2, ay⟩ := hso.out.cell m y hy
                  cases e2
                  rw [Nat.zero_add] at ay
                  cases hlb : ltB y p with
                  | true =>
                    have dl : Op.bytesLess y.toList p.toList = true := by rw [ltB_eq]; exact hlb
                    have hlt2 : ∀ j' z, j' < m + 1 → O[j']? = some z → ltB z p = true := fun j' z h1 h2 => by
                      by_cases e : j' = m
                      · subst e; rw [hy] at h2; cases h2; exact hlb
                      · exact hlt.out j' z (by omega) h2
                    replace hy := Lib.hid hy; replace hlb := Lib.hid hlb; replace hlt2 := Lib.hid hlt2
                    go_wp2
                    go_round
                    case rel => exact ⟨m + 1, by go_num, by omega, hlt2.out⟩
                    case measure => simp [intOf]; omega
                  | false =>
                    have dl : Op.bytesLess y.toList p.toList = false := by rw [ltB_eq]; exact hlb
                    have hcnt : cntB O p = m := cntB_eq (by rw [← hL.out]; omega) hlt.out (fun z hz => by rw [hy] at hz; cases hz; exact hlb)
                    replace hy := Lib.hid hy; replace hlb := Lib.hid hlb
                    have hOL : O.length = L := hL.out.symm
                    have hnin := hnx.out.trans hins.out
                    rw [hcnt] at hnin
                    have hsl1 := fun w => slice_upto_g Tryd.underlying36 hi9 ⟨gg, 0, none⟩ L c m m rfl (by omega) w
                    obtain ⟨ta, hsl2, hta⟩ := slice_from Tryd.underlying36 hi9 gg L c m m rfl (by omega)
                    have hcells : ∀ X : World, Below wr.heap.size wr X → ∀ i y, O[i]? = some y → X.cell? ⟨gg, i, none⟩ = some (.string y) := fun X hb i y hy => by
                      obtain ⟨b2, off2, e2, hb2, ay⟩ := hso.out.cell i y hy
                      cases e2
                      rw [Nat.zero_add] at ay
                      exact (below_cell hb hb2).trans ay
                    have hl1 : (txts (O.take m)).length = m * 1 := by simp [txts, hOL]; omega
                    have hn1 : ∀ j u, (txts (O.take m))[j]? = some u → wr.cell? ((⟨gg, 0, none⟩ : Addr).add j) = some u := fun j u hu => by
                      rw [txts, List.getElem?_map] at hu
                      obtain ⟨y, hy, rfl⟩ := Option.map_eq_some_iff.1 hu
                      have hjm : j < m := by have := (List.getElem?_eq_some_iff.1 hy).1; rw [List.length_take] at this; omega
                      rw [List.getElem?_take, if_pos hjm] at hy
                      rw [Addr.add_lit, Nat.zero_add]
                      exact hcells wr (Below.refl _ _) j y hy
                    have ho1 := txts_one (O.take m)
                    have h63 : 0 + m ≤ maxLen := by have := maxLen_ge (n := m) (by omega); omega
                    have hby : (0 + m) * 16 ≤ 140737488355328 := by omega
                    have hnil := ownT_nil wr wr.heap.size
                    have hsl2' := Lib.hid hsl2
                    have hcells' := Lib.hid hcells
                    have hn1' := Lib.hid hn1
                    have hsl1' := Lib.hid hsl1
                    have hta' := Lib.hid hta
                    clear hsl2 hcells hn1 hsl1 hta
                    replace hOL := Lib.hid hOL; replace hnin := Lib.hid hnin; replace hl1 := Lib.hid hl1; replace ho1 := Lib.hid ho1; replace h63 := Lib.hid h63; replace hby := Lib.hid hby; replace hnil := Lib.hid hnil; replace hcnt := Lib.hid hcnt
                    have hsl1 := hsl1'.out
                    go_upto_region 15 with (at_builtin; refine wpList_append_own _ rfl _ _ 36 rfl wr.heap.size 9 i9 _ 1 16 Tryd.underlying36 hi9 hz9 hz91 hz92 rfl Nat.one_pos (.slice none 0 0) 0 [] rfl hnil.out ⟨gg, 0, none⟩ m c (txts (O.take m)) rfl hl1.out hn1'.out ho1.out h63.out hby.out (Nat.le_refl _) ?_; intro v1 w9 hown9 hgrow9 _; replace hown9 := Lib.hid hown9; replace hgrow9 := Lib.hid hgrow9)
                    clear hsl1
                    have hB9 : Below wr.heap.size wr w9 := (Below.refl _ _).grown hgrow9.out (Nat.le_refl _) (fun k e => by cases e)
                    obtain ⟨M, hM0⟩ : ∃ M, M = m := ⟨_, rfl⟩
                    rw [Nat.zero_add, ← hM0] at hown9
                    replace hB9 := Lib.hid hB9
                    have hM0' := Lib.hid hM0
                    have hMm : M ≤ L := by omega
                    clear hM0
                    have hownA : (w9.alloc (.cells #[.string p] 9 (0, 0))).ownsRow wr.heap.size 9 1 v1 M (txts (O.take M)) := hown9.out.alloc (.cells #[.string p] 9 (0, 0))
                    have hnews2 := str_new w9 p
                    have hone2 := one_txt p
                    have h632 := maxLen_ge (n := M) (by omega)
                    have hby2 : (M + 1) * 16 ≤ 140737488355328 := by omega
                    have hbas2 : wr.heap.size ≤ (w9.alloc (.cells #[.string p] 9 (0, 0))).heap.size := by have := hB9.out.size; rw [World.size_alloc]; omega
                    replace hownA := Lib.hid hownA; replace hnews2 := Lib.hid hnews2; replace hone2 := Lib.hid hone2; replace h632 := Lib.hid h632; replace hby2 := Lib.hid hby2; replace hbas2 := Lib.hid hbas2
                    go_upto_region 16 with (at_builtin; refine wpList_append_own _ rfl _ _ 36 rfl wr.heap.size 9 i9 _ 1 16 Tryd.underlying36 hi9 hz9 hz91 hz92 rfl Nat.one_pos v1 M _ rfl hownA.out ⟨w9.heap.size, 0, none⟩ 1 1 [.string p] rfl rfl hnews2.out hone2.out h632.out hby2.out hbas2.out ?_; intro v2 w10 hown10 hgrow10 _; obtain ⟨g10, cap10, rfl⟩ := Joins.ownsRow_form hown10 (Nat.succ_pos _); replace hown10 := Lib.hid hown10; replace hgrow10 := Lib.hid hgrow10)
                    have hB10 : Below wr.heap.size wr w10 := (hB9.out.alloc hB9.out.size _).grown hgrow10.out hbas2.out (fun k e => (hown9.out.lt k e).1)
                    replace hB10 := Lib.hid hB10
                    have hl3 : (txts (O.drop m)).length = (L - m) * 1 := by simp [txts, hOL.out]
                    have hn3 : ∀ j u, (txts (O.drop m))[j]? = some u → w10.cell? (ta.add j) = some u := fun j u hu => by
                      rw [txts, List.getElem?_map] at hu
                      obtain ⟨y, hy, rfl⟩ := Option.map_eq_some_iff.1 hu
                      rw [List.getElem?_drop] at hy
                      have hjm := (List.getElem?_eq_some_iff.1 hy).1
                      have := hOL.out
                      rw [hta'.out (by omega), hz91, Nat.mul_one, Addr.add_lit]
                      exact hcells'.out w10 hB10.out _ y hy
                    have ho3 := txts_one (O.drop m)
                    have h633 : M + 1 + (L - m) ≤ maxLen := by have := maxLen_ge (n := M + 1 + (L - m)) (by omega); omega
                    have hby3 : (M + 1 + (L - m)) * 16 ≤ 140737488355328 := by omega
                    have hbas3 : wr.heap.size ≤ w10.heap.size := hB10.out.size
                    have hpos3 : 0 < M + 1 + (L - m) := by omega
                    have hsl2 := hsl2'.out
                    replace hl3 := Lib.hid hl3; replace hn3 := Lib.hid hn3; replace ho3 := Lib.hid ho3; replace h633 := Lib.hid h633; replace hby3 := Lib.hid hby3; replace hbas3 := Lib.hid hbas3; replace hpos3 := Lib.hid hpos3
                    go_wp2_with (at_builtin; refine wpList_append_own _ rfl _ _ 36 rfl wr.heap.size 9 i9 _ 1 16 Tryd.underlying36 hi9 hz9 hz91 hz92 rfl Nat.one_pos (.slice (some ⟨g10, 0, none⟩) (M + 1) cap10) (M + 1) _ rfl hown10.out ta (L - m) (c - m) (txts (O.drop m)) rfl hl3.out hn3.out ho3.out h633.out hby3.out hbas3.out ?_; intro v3 w11 hown11 hgrow11 _; obtain ⟨g11, cap11, rfl⟩ := Joins.ownsRow_form hown11 hpos3.out; replace hown11 := Lib.hid hown11; replace hgrow11 := Lib.hid hgrow11)
                    have hB11 : Below wr.heap.size wr w11 := hB10.out.grown hgrow11.out hbas3.out (fun k e => (hown10.out.lt k e).1)
                    have hM11 : RpW w (.slice (some ⟨g, 0, none⟩) xs.length cap) (.slice (some ⟨g11, 0, none⟩) (M + 1 + (L - m)) cap11) (refParts (base0 ++ ps.take (j + 1))) w11 := by
                      rw [hnin.out]
                      refine hM'.out.next hB11 ?_ (by simp)
                      have e1 : (O.take m ++ p :: O.drop m).length = M + 1 + (L - m) := by
                        rw [List.length_append, List.length_take, List.length_cons, List.length_drop, hOL.out, hM0'.out]
                        omega
                      rw [e1]
                      have h := hown11.out
                      rw [← hM0'.out] at h ⊢
                      simpa [txts] using h
                    replace hB11 := Lib.hid hB11; replace hM11 := Lib.hid hM11
                    go_roundw
                    case rel => exact ⟨j + 1, by go_num, by omega, hM11.out⟩
                    case measure => simp [intOf]; omega
                · have hm1 : ¬ (m : Int) < L := by omega
                  have hcnt : cntB O p = m := cntB_eq (by rw [← hL.out]; omega) hlt.out (fun z hz => by
                    have := (List.getElem?_eq_some_iff.1 hz).1
                    rw [← hL.out] at this
                    omega)
                  have hOL : O.length = L := hL.out.symm
                  have hnin := hnx.out.trans hins.out
                  rw [hcnt] at hnin
                  have hsl1 := fun w => slice_upto_g Tryd.underlying36 hi9 ⟨gg, 0, none⟩ L c m m rfl (by omega) w
                  obtain ⟨ta, hsl2, hta⟩ := slice_from Tryd.underlying36 hi9 gg L c m m rfl (by omega)
                  have hcells : ∀ X : World, Below wr.heap.size wr X → ∀ i y, O[i]? = some y → X.cell? ⟨gg, i, none⟩ = some (.string y) := fun X hb i y hy => by
                    obtain ⟨b2, off2, e2, hb2, ay⟩ := hso.out.cell i y hy
                    cases e2
                    rw [Nat.zero_add] at ay
                    exact (below_cell hb hb2).trans ay
                  have hl1 : (txts (O.take m)).length = m * 1 := by simp [txts, hOL]; omega
                  have hn1 : ∀ j u, (txts (O.take m))[j]? = some u → wr.cell? ((⟨gg, 0, none⟩ : Addr).add j) = some u := fun j u hu => by
                    rw [txts, List.getElem?_map] at hu
                    obtain ⟨y, hy, rfl⟩ := Option.map_eq_some_iff.1 hu
                    have hjm : j < m := by have := (List.getElem?_eq_some_iff.1 hy).1; rw [List.length_take] at this; omega
                    rw [List.getElem?_take, if_pos hjm] at hy
                    rw [Addr.add_lit, Nat.zero_add]
                    exact hcells wr (Below.refl _ _) j y hy
                  have ho1 := txts_one (O.take m)
                  have h63 : 0 + m ≤ maxLen := by have := maxLen_ge (n := m) (by omega); omega
                  have hby : (0 + m) * 16 ≤ 140737488355328 := by omega
                  have hnil := ownT_nil wr wr.heap.size
                  have hsl2' := Lib.hid hsl2
                  have hcells' := Lib.hid hcells
                  have hn1' := Lib.hid hn1
                  have hsl1' := Lib.hid hsl1
                  have hta' := Lib.hid hta
                  clear hsl2 hcells hn1 hsl1 hta
                  replace hOL := Lib.hid hOL; replace hnin := Lib.hid hnin; replace hl1 := Lib.hid hl1; replace ho1 := Lib.hid ho1; replace h63 := Lib.hid h63; replace hby := Lib.hid hby; replace hnil := Lib.hid hnil; replace hcnt := Lib.hid hcnt
                  have hsl1 := hsl1'.out
                  go_upto_region 15 with (at_builtin; refine wpList_append_own _ rfl _ _ 36 rfl wr.heap.size 9 i9 _ 1 16 Tryd.underlying36 hi9 hz9 hz91 hz92 rfl Nat.one_pos (.slice none 0 0) 0 [] rfl hnil.out ⟨gg, 0, none⟩ m c (txts (O.take m)) rfl hl1.out hn1'.out ho1.out h63.out hby.out (Nat.le_refl _) ?_; intro v1 w9 hown9 hgrow9 _; replace hown9 := Lib.hid hown9; replace hgrow9 := Lib.hid hgrow9)
                  clear hsl1
                  have hB9 : Below wr.heap.size wr w9 := (Below.refl _ _).grown hgrow9.out (Nat.le_refl _) (fun k e => by cases e)
                  obtain ⟨M, hM0⟩ : ∃ M, M = m := ⟨_, rfl⟩
                  rw [Nat.zero_add, ← hM0] at hown9
                  replace hB9 := Lib.hid hB9
                  have hM0' := Lib.hid hM0
                  have hMm : M ≤ L := by omega
                  clear hM0
                  have hownA : (w9.alloc (.cells #[.string p] 9 (0, 0))).ownsRow wr.heap.size 9 1 v1 M (txts (O.take M)) := hown9.out.alloc (.cells #[.string p] 9 (0, 0))
                  have hnews2 := str_new w9 p
                  have hone2 := one_txt p
                  have h632 := maxLen_ge (n := M) (by omega)
                  have hby2 : (M + 1) * 16 ≤ 140737488355328 := by omega
                  have hbas2 : wr.heap.size ≤ (w9.alloc (.cells #[.string p] 9 (0, 0))).heap.size := by have := hB9.out.size; rw [World.size_alloc]; omega
                  replace hownA := Lib.hid hownA; replace hnews2 := Lib.hid hnews2; replace hone2 := Lib.hid hone2; replace h632 := Lib.hid h632; replace hby2 := Lib.hid hby2; replace hbas2 := Lib.hid hbas2
                  go_upto_region 16 with (at_builtin; refine wpList_append_own _ rfl _ _ 36 rfl wr.heap.size 9 i9 _ 1 16 Tryd.underlying36 hi9 hz9 hz91 hz92 rfl Nat.one_pos v1 M _ rfl hownA.out ⟨w9.heap.size, 0, none⟩ 1 1 [.string p] rfl rfl hnews2.out hone2.out h632.out hby2.out hbas2.out ?_; intro v2 w10 hown10 hgrow10 _; obtain ⟨g10, cap10, rfl⟩ := Joins.ownsRow_form hown10 (Nat.succ_pos _); replace hown10 := Lib.hid hown10; replace hgrow10 := Lib.hid hgrow10)
                  have hB10 : Below wr.heap.size wr w10 := (hB9.out.alloc hB9.out.size _).grown hgrow10.out hbas2.out (fun k e => (hown9.out.lt k e).1)
                  replace hB10 := Lib.hid hB10
                  have hl3 : (txts (O.drop m)).length = (L - m) * 1 := by simp [txts, hOL.out]
                  have hn3 : ∀ j u, (txts (O.drop m))[j]? = some u → w10.cell? (ta.add j) = some u := fun j u hu => by
                    rw [txts, List.getElem?_map] at hu
                    obtain ⟨y, hy, rfl⟩ := Option.map_eq_some_iff.1 hu
                    rw [List.getElem?_drop] at hy
                    have hjm := (List.getElem?_eq_some_iff.1 hy).1
                    have := hOL.out
                    rw [hta'.out (by omega), hz91, Nat.mul_one, Addr.add_lit]
                    exact hcells'.out w10 hB10.out _ y hy
                  have ho3 := txts_one (O.drop m)
                  have h633 : M + 1 + (L - m) ≤ maxLen := by have := maxLen_ge (n := M + 1 + (L - m)) (by omega); omega
                  have hby3 : (M + 1 + (L - m)) * 16 ≤ 140737488355328 := by omega
                  have hbas3 : wr.heap.size ≤ w10.heap.size := hB10.out.size
                  have hpos3 : 0 < M + 1 + (L - m) := by omega
                  have hsl2 := hsl2'.out
                  replace hl3 := Lib.hid hl3; replace hn3 := Lib.hid hn3; replace ho3 := Lib.hid ho3; replace h633 := Lib.hid h633; replace hby3 := Lib.hid hby3; replace hbas3 := Lib.hid hbas3; replace hpos3 := Lib.hid hpos3
                  go_wp2_with (at_builtin; refine wpList_append_own _ rfl _ _ 36 rfl wr.heap.size 9 i9 _ 1 16 Tryd.underlying36 hi9 hz9 hz91 hz92 rfl Nat.one_pos (.slice (some ⟨g10, 0, none⟩) (M + 1) cap10) (M + 1) _ rfl hown10.out ta (L - m) (c - m) (txts (O.drop m)) rfl hl3.out hn3.out ho3.out h633.out hby3.out hbas3.out ?_; intro v3 w11 hown11 hgrow11 _; obtain ⟨g11, cap11, rfl⟩ := Joins.ownsRow_form hown11 hpos3.out; replace hown11 := Lib.hid hown11; replace hgrow11 := Lib.hid hgrow11)
                  have hB11 : Below wr.heap.size wr w11 := hB10.out.grown hgrow11.out hbas3.out (fun k e => (hown10.out.lt k e).1)
                  have hM11 : RpW w (.slice (some ⟨g, 0, none⟩) xs.length cap) (.slice (some ⟨g11, 0, none⟩) (M + 1 + (L - m)) cap11) (refParts (base0 ++ ps.take (j + 1))) w11 := by
                    rw [hnin.out]
                    refine hM'.out.next hB11 ?_ (by simp)
                    have e1 : (O.take m ++ p :: O.drop m).length = M + 1 + (L - m) := by
                      rw [List.length_append, List.length_take, List.length_cons, List.length_drop, hOL.out, hM0'.out]
                      omega
                    rw [e1]
                    have h := hown11.out
                    rw [← hM0'.out] at h ⊢
                    simpa [txts] using h
                  replace hB11 := Lib.hid hB11; replace hM11 := Lib.hid hM11
                  go_roundw
                  case rel => exact ⟨j + 1, by go_num, by omega, hM11.out⟩
                  case measure => simp [intOf]; omega
        · have hj1 : ¬ (j : Int) < pn := by omega
          have hM2 : RpW w (.slice (some ⟨g, 0, none⟩) xs.length cap) u3 (refParts (rawParts ((xs.map Nde.pl).take (k + 1)))) wr := by
            rw [hrs.out]
            have := hM.out
            rw [List.take_of_length_le (by have := hpn.out; omega)] at this
            exact this
          replace hM2 := Lib.hid hM2
          go_wp2
          go_roundw
          case rel => exact ⟨k + 1, by go_num, by omega, hM2.out⟩
          case measure => simp [intOf]; omega
    · have hc1 : ¬ (k : Int) < n := by omega
      have hkn : (xs.map Nde.pl).take k = xs.map Nde.pl := List.take_of_length_le (by rw [List.length_map]; have := hn.out; omega)
      have hend := refParts_eq (xs.map Nde.pl)
      replace hkn := Lib.hid hkn; replace hend := Lib.hid hend
      go_wp2
      go_ret
      refine ⟨u3, rfl, ⟨?_⟩, hR.out.low⟩
      have := hR.out.out.row
      rw [hkn.out, hend.out] at this
      exact owns_mono this (Nat.le_succ _)
end Go.Proofs.YteoihdkaoipocaaDoor

/- (*fleet.Fleet).Node; corveeref05.Nodes. -/
namespace Go.Proofs.YteoihdkaoipocaaDoor
open Go.RowKit Go.Maps Go.Shelf

theorem eqi (d : Nat) (a b : Int) (w : World) : (Op.equalIn (d + 1) 3 (.int .i64 a) (.int .i64 b)).run Tryd.prog w = .ok (a == b) w := by
  simp [Op.equalIn, run_underlying Tryd.underlying3]
theorem cells3 : Tryd.prog.cellsOf 3 = 1 := by kernel_rfl
theorem eq25d (dd : Nat) (u v : V4) (w : World) : (Op.equalIn (dd + 2) 25 u.val v.val).run Tryd.prog w = .ok (decide (u = v)) w := by
  obtain ⟨i0, hi0, hz0, hz1, hz2⟩ := info_parts info3
  show (Op.equalIn ((dd + 1) + 1) 25 u.val v.val).run Tryd.prog w = _
  rw [run_equalIn_array w (dd + 1) _ _ Tryd.underlying25 hi0, cells3]
  show (Op.eqItems (dd + 1) 3 1 _ _ [0, 1, 2, 3]).run Tryd.prog w = _
  obtain ⟨a, b, c, d⟩ := u
  obtain ⟨a', b', c', d'⟩ := v
  by_cases h1 : a = a' <;> by_cases h2 : b = b' <;> by_cases h3 : c = c' <;> by_cases h4 : d = d'
  all_goals
    simp [Op.eqItems, eqi, part, sizeOf, typeInfo, hi0, hz1, h1, h2, h3, h4]
theorem eq25 (u v : V4) (w : World) : (Op.equalIn 10000 25 u.val v.val).run Tryd.prog w = .ok (decide (u = v)) w := eq25d 9998 u v w

def NodeAt (vs : List Ndv) (i : Int) (w : World) (e : Ending) (w' : World) : Prop :=
  ∃ (x : Nde) (b : Bool), e = .returned (.tuple #[x.val, .bool b]) ∧ x.ok w' ∧ Below w.heap.size w w' ∧ (∀ bb off, x.po = some ⟨bb, off, none⟩ → w.heap.size ≤ bb ∧ ∃ c, w'.heap[bb]? = some (.cells c 9 (0, 0))) ∧
    ((b = true ∧ 0 ≤ i ∧ vs[i.toNat]? = some x.pl) ∨ (b = false ∧ x = Nde.zero ∧ (i < 0 ∨ (vs.length : Int) ≤ i)))
structure NdC (w : World) (x : Nde) (b : Nat) (W : World) : Prop where
  low : Below w.heap.size w W
  r0 : W.heap[w.heap.size]? = some (.cells Nde.zero.cells 48 (0, 0))
  r1 : W.heap[w.heap.size + 1]? = some (.cells x.cells 48 (0, 0))
set_option maxRecDepth 100000 in
set_option maxHeartbeats 800000 in
theorem node_at {w : World} {fb mb base : Nat} {vs : List Ndv} (h : Flt w fb mb base vs) (hok : FltOk vs) (i : Int) : Calls Tryd.prog 32 #[.pointer (some ⟨fb, 0, none⟩), .int .i64 i] w (NodeAt vs i w) := by
  obtain ⟨W0, hW0⟩ : ∃ W0, W0 = w.alloc (.cells Nde.zero.cells 48 (0, 0)) := ⟨_, rfl⟩
  have hb0 : Below w.heap.size w W0 := by rw [hW0]; exact (Below.refl _ _).alloc (Nat.le_refl _) _
  have hr0 : W0.heap[w.heap.size]? = some (.cells Nde.zero.cells 48 (0, 0)) := by rw [hW0]; exact blk_new _ _
  have hz0 : W0.heap.size = w.heap.size + 1 := by rw [hW0]; simp
  have hF0 := h.below hb0
  have hlc := len_flt hF0
  obtain ⟨n, hn⟩ : ∃ n, n = vs.length := ⟨_, rfl⟩
  rw [← hn] at hlc
  rw [hW0] at hlc
  have hln := hok.len
  rw [← hn] at hln
  by_cases hlo : i < 0
  · have dlo : decide (i < 0) = true := decide_eq_true hlo
    have hbad : i < 0 ∨ (vs.length : Int) ≤ i := .inl hlo
    replace hb0 := Lib.hid hb0; replace hr0 := Lib.hid hr0; replace hz0 := Lib.hid hz0; replace hF0 := Lib.hid hF0; replace hlc := Lib.hid hlc; replace hn := Lib.hid hn; replace hbad := Lib.hid hbad
    have hW0' := Lib.hid hW0
    clear hW0
    go_enter Tryd.func32, Tryd.ntmps32
    go_wp2
    refine bodyPost_ret (v := .tuple #[Nde.zero.val, .bool false]) (by simp [results, Tryd.results32, go_sem, Nde.zero, V4.zero] <;> rfl) rfl ⟨Nde.zero, false, rfl, ⟨strs_none _, Nat.le_refl _⟩, (Below.refl _ _).alloc (Nat.le_refl _) _, fun b off e => (by cases e), .inr ⟨rfl, rfl, hbad.out⟩⟩
  have dlo : decide (i < 0) = false := decide_eq_false hlo
  by_cases hhi : (n : Int) ≤ i
  · have dhi : decide ((n : Int) ≤ i) = true := decide_eq_true hhi
    have hbad : i < 0 ∨ (vs.length : Int) ≤ i := .inr (by rw [← hn]; exact hhi)
    replace hb0 := Lib.hid hb0; replace hr0 := Lib.hid hr0; replace hz0 := Lib.hid hz0; replace hF0 := Lib.hid hF0; replace hlc := Lib.hid hlc; replace hn := Lib.hid hn; replace hbad := Lib.hid hbad
    have hW0' := Lib.hid hW0
    clear hW0
    go_enter Tryd.func32, Tryd.ntmps32
    go_wp2_with fail
    refine hlc.out.mono ?_
    rintro e w1 ⟨rfl, rfl⟩
    go_wp2
    refine bodyPost_ret (v := .tuple #[Nde.zero.val, .bool false]) (by simp [results, Tryd.results32, go_sem, Nde.zero, V4.zero] <;> rfl) rfl ⟨Nde.zero, false, rfl, ⟨strs_none _, Nat.le_refl _⟩, (Below.refl _ _).alloc (Nat.le_refl _) _, fun b off e => (by cases e), .inr ⟨rfl, rfl, hbad.out⟩⟩
  have dhi : decide ((n : Int) ≤ i) = false := decide_eq_false hhi
  obtain ⟨k, rfl⟩ : ∃ k : Nat, i = k := ⟨i.toNat, by omega⟩
  have hkn : k < n := by omega
  have hkn' : (k : Int) < n := by omega
  have hk0 : (0 : Int) ≤ (k : Int) := by omega
  have dhi2 : decide (n ≤ k) = false := decide_eq_false (by omega)
  obtain ⟨nv, xs, h1, h2, h3⟩ := hF0.ex
  have hnx : n = xs.length := by rw [hn, ← h2, List.length_map]
  obtain ⟨x, hx⟩ : ∃ x, xs[k]? = some x := ⟨_, List.getElem?_eq_getElem (by omega)⟩
  obtain ⟨g, cap, rfl⟩ := Joins.ownsRow_form h1.row (by omega)
  obtain ⟨g', e1, _, _, hcell⟩ := h1.cell hx
  have e2 : g = g' := by simpa [Value.ownBlock] using e1
  subst e2
  have hvk : vs[k]? = some x.pl := by rw [← h2]; exact pl_at hx
  have hone := (hok.all x.pl (List.mem_of_getElem? hvk)).ok.one
  have hfew := (hok.all x.pl (List.mem_of_getElem? hvk)).few
  have hxo := (h1.ok x (List.mem_of_getElem? hx)).1
  obtain ⟨nm, ⟨ca, cb, cc, cd⟩, po, pn, pc, ps⟩ := x
  have hpn : ps.length = pn := hxo.parts.len
  have hone' : 1 ≤ ps.length := hone
  have hfew' : ps.length ≤ 8 := hfew
  obtain ⟨y0, hy0⟩ := hxo.parts.get (i := 0) (by show 0 < pn; omega)
  obtain ⟨b, off, e, hbl, _⟩ := hxo.parts.cell 0 y0 hy0
  have e' : po = some ⟨b, off, none⟩ := e
  subst e'
  have z0 : W0.cell? ⟨g, k * 6, none⟩ = some (.string nm) := hcell 0 (by omega)
  have z1 : W0.cell? ⟨g, k * 6 + 1, none⟩ = some (.int .i64 ca) := hcell 1 (by omega)
  have z2 : W0.cell? ⟨g, k * 6 + 2, none⟩ = some (.int .i64 cb) := hcell 2 (by omega)
  have z3 : W0.cell? ⟨g, k * 6 + 3, none⟩ = some (.int .i64 cc) := hcell 3 (by omega)
  have z4 : W0.cell? ⟨g, k * 6 + 4, none⟩ = some (.int .i64 cd) := hcell 4 (by omega)
  have z5 : W0.cell? ⟨g, k * 6 + 5, none⟩ = some (.slice (some ⟨b, off, none⟩) pn pc) := hcell 5 (by omega)
  have f0 : W0.cell? ⟨fb, 0, none⟩ = some (.slice (some ⟨g, 0, none⟩) n cap) := by rw [hnx]; exact blk_cell h1.head 0
  obtain ⟨W1, hW1⟩ : ∃ W1, W1 = W0.alloc (.cells (⟨nm, ⟨ca, cb, cc, cd⟩, some ⟨b, off, none⟩, pn, pc, ps⟩ : Nde).cells 48 (0, 0)) := ⟨_, rfl⟩
  have hb1 : Below W0.heap.size W0 W1 := by rw [hW1]; exact (Below.refl _ _).alloc (Nat.le_refl _) _
  have hq1 : W1.heap[w.heap.size + 1]? = some (.cells (⟨nm, ⟨ca, cb, cc, cd⟩, some ⟨b, off, none⟩, pn, pc, ps⟩ : Nde).cells 48 (0, 0)) := by rw [hW1]; exact blk_at _ _ hz0.symm
  have hxo1 := hxo.low hb1
  have hcl := Tryd.slices_Clone_string b off pn pc ps W1 (by omega) (by omega) fun j hj => by
    obtain ⟨b', off', e, _, hc⟩ := hxo1.parts.cell j (ps[j]'hj) (by simp [hj])
    cases e
    rw [hc]
    simp [List.getD, hj]
  rw [List.take_of_length_le (by omega)] at hcl
  have p5 : W1.cell? ⟨w.heap.size + 1, 5, none⟩ = some (.slice (some ⟨b, off, none⟩) pn pc) := blk_cell hq1 5
  replace hb0 := Lib.hid hb0; replace hr0 := Lib.hid hr0; replace hz0 := Lib.hid hz0; replace hF0 := Lib.hid hF0; replace hn := Lib.hid hn; replace hnx := Lib.hid hnx; replace hx := Lib.hid hx; replace h1 := Lib.hid h1; replace h2 := Lib.hid h2; replace h3 := Lib.hid h3; replace hvk := Lib.hid hvk; replace hone := Lib.hid hone; replace hfew := Lib.hid hfew; replace hxo := Lib.hid hxo; replace hpn := Lib.hid hpn; replace hone' := Lib.hid hone'; replace hfew' := Lib.hid hfew'; replace hy0 := Lib.hid hy0; replace hb1 := Lib.hid hb1; replace hq1 := Lib.hid hq1; replace hxo1 := Lib.hid hxo1; replace hcl := Lib.hid hcl; replace hcell := Lib.hid hcell; replace e1 := Lib.hid e1; replace hok := Lib.hid hok; replace h := Lib.hid h; replace p5 := Lib.hid p5
  rw [hW1, hW0] at hcl p5
  rw [hW0] at z0 z1 z2 z3 z4 z5 f0
  have hW0' := Lib.hid hW0
  have hW1' := Lib.hid hW1
  clear hW0 hW1
  go_enter Tryd.func32, Tryd.ntmps32
  go_wp2_with fail
  refine hlc.mono ?_
  rintro e w1 ⟨rfl, rfl⟩
  go_wp2_with fail
  refine hcl.out.mono ?_
  rintro e w3 ⟨v', rfl, hown, hne, hb3⟩
  rw [← hW0'.out, ← hW1'.out] at hown hb3
  have hpos : 0 < pn := by have := hone'.out; have := hpn.out; omega
  obtain ⟨g3, cap3, rfl⟩ := Joins.ownsRow_form hown hpos
  have hg3 := World.ownsRow.lt hown g3 rfl
  have hz1 : W1.heap.size = w.heap.size + 2 := by rw [hW1'.out, World.size_alloc, hz0.out]
  have hs3 := strs_of_own hown (by have := hfew'.out; have := hpn.out; omega)
  have hat3 := owns_at hown
  have hcap3 := owns_cap hown
  have hr3 : w3.heap[w.heap.size]? = some (.cells Nde.zero.cells 48 (0, 0)) := blk_below hb3 (blk_below hb1.out hr0.out (blk_lt hr0.out)) (by omega)
  have hq3 := blk_below hb3 hq1.out (blk_lt hq1.out)
  have hlow3 : Below w.heap.size w w3 := hb0.out.trans ((hb1.out.trans (hb3.mono hb1.out.size)).mono hb0.out.size)
  have c0 : w3.cell? ⟨w.heap.size + 1, 0, none⟩ = some (.string nm) := blk_cell hq3 0
  have c1 : w3.cell? ⟨w.heap.size + 1, 1, none⟩ = some (.int .i64 ca) := blk_cell hq3 1
  have c2 : w3.cell? ⟨w.heap.size + 1, 2, none⟩ = some (.int .i64 cb) := blk_cell hq3 2
  have c3 : w3.cell? ⟨w.heap.size + 1, 3, none⟩ = some (.int .i64 cc) := blk_cell hq3 3
  have c4 : w3.cell? ⟨w.heap.size + 1, 4, none⟩ = some (.int .i64 cd) := blk_cell hq3 4
  have c5 : w3.cell? ⟨w.heap.size + 1, 5, none⟩ = some (.slice (some ⟨b, off, none⟩) pn pc) := blk_cell hq3 5
  have fq := blk_free hq3
  have b0 : w3.cell? ⟨w.heap.size, 0, none⟩ = some (.string ByteArray.empty) := blk_cell hr3 0
  have b1 : w3.cell? ⟨w.heap.size, 1, none⟩ = some (.int .i64 0) := blk_cell hr3 1
  have b2 : w3.cell? ⟨w.heap.size, 2, none⟩ = some (.int .i64 0) := blk_cell hr3 2
  have b3 : w3.cell? ⟨w.heap.size, 3, none⟩ = some (.int .i64 0) := blk_cell hr3 3
  have b4 : w3.cell? ⟨w.heap.size, 4, none⟩ = some (.int .i64 0) := blk_cell hr3 4
  have b5 : w3.cell? ⟨w.heap.size, 5, none⟩ = some (.slice none 0 0) := blk_cell hr3 5
  have fr := blk_free hr3
  have hl3 := blk_lt hq3
  have he : ∀ v v0 v1 v2 v3 v4 v5, Below w.heap.size w (((((((w3.setCell ⟨w.heap.size + 1, 5, none⟩ v).setCell ⟨w.heap.size, 0, none⟩ v0).setCell ⟨w.heap.size, 1, none⟩ v1).setCell ⟨w.heap.size, 2, none⟩ v2).setCell ⟨w.heap.size, 3, none⟩ v3).setCell ⟨w.heap.size, 4, none⟩ v4).setCell ⟨w.heap.size, 5, none⟩ v5) := fun v v0 v1 v2 v3 v4 v5 =>
    ((((((hlow3.setCell (Nat.le_succ _) _).setCell (Nat.le_refl _) _).setCell (Nat.le_refl _) _).setCell (Nat.le_refl _) _).setCell (Nat.le_refl _) _).setCell (Nat.le_refl _) _).setCell (Nat.le_refl _) _
  have hrow : ∀ v v0 v1 v2 v3 v4 v5, (((((((w3.setCell ⟨w.heap.size + 1, 5, none⟩ v).setCell ⟨w.heap.size, 0, none⟩ v0).setCell ⟨w.heap.size, 1, none⟩ v1).setCell ⟨w.heap.size, 2, none⟩ v2).setCell ⟨w.heap.size, 3, none⟩ v3).setCell ⟨w.heap.size, 4, none⟩ v4).setCell ⟨w.heap.size, 5, none⟩ v5).heap[g3]? = w3.heap[g3]? := fun v v0 v1 v2 v3 v4 v5 => by
    have hne : g3 ≠ w.heap.size := by omega
    have hne2 : g3 ≠ w.heap.size + 1 := by omega
    rw [heap_set_other hne, heap_set_other hne, heap_set_other hne, heap_set_other hne, heap_set_other hne, heap_set_other hne, heap_set_other hne2]
  have hsz9 : ∀ v v0 v1 v2 v3 v4 v5, (((((((w3.setCell ⟨w.heap.size + 1, 5, none⟩ v).setCell ⟨w.heap.size, 0, none⟩ v0).setCell ⟨w.heap.size, 1, none⟩ v1).setCell ⟨w.heap.size, 2, none⟩ v2).setCell ⟨w.heap.size, 3, none⟩ v3).setCell ⟨w.heap.size, 4, none⟩ v4).setCell ⟨w.heap.size, 5, none⟩ v5).heap.size = w3.heap.size := fun v v0 v1 v2 v3 v4 v5 => by simp [World.setCell]
  clear z0 z1 z2 z3 z4 z5 f0
  replace hown := Lib.hid hown; replace hne := Lib.hid hne; replace hb3 := Lib.hid hb3; replace hs3 := Lib.hid hs3; replace hat3 := Lib.hid hat3; replace hr3 := Lib.hid hr3; replace hq3 := Lib.hid hq3; replace hlow3 := Lib.hid hlow3; replace he := Lib.hid he; replace hrow := Lib.hid hrow; replace hsz9 := Lib.hid hsz9; replace hz1 := Lib.hid hz1
  go_wp2
  refine bodyPost_ret (v := .tuple #[(⟨nm, ⟨ca, cb, cc, cd⟩, some ⟨g3, 0, none⟩, pn, cap3, ps⟩ : Nde).val, .bool true]) (by simp [results, Tryd.results32, go_sem, b0, b1, b2, b3, b4, b5]) rfl ?_
  have hX := hrow.out (.slice (some ⟨g3, 0, none⟩) pn cap3) (.string nm) (.int .i64 ca) (.int .i64 cb) (.int .i64 cc) (.int .i64 cd) (.slice (some ⟨g3, 0, none⟩) pn cap3)
  have hY := hsz9.out (.slice (some ⟨g3, 0, none⟩) pn cap3) (.string nm) (.int .i64 ca) (.int .i64 cb) (.int .i64 cc) (.int .i64 cd) (.slice (some ⟨g3, 0, none⟩) pn cap3)
  have hZ := he.out (.slice (some ⟨g3, 0, none⟩) pn cap3) (.string nm) (.int .i64 ca) (.int .i64 cb) (.int .i64 cc) (.int .i64 cd) (.slice (some ⟨g3, 0, none⟩) pn cap3)
  generalize ((((((w3.setCell ⟨w.heap.size + 1, 5, none⟩ (.slice (some ⟨g3, 0, none⟩) pn cap3)).setCell ⟨w.heap.size, 0, none⟩ (.string nm)).setCell ⟨w.heap.size, 1, none⟩ (.int .i64 ca)).setCell ⟨w.heap.size, 2, none⟩ (.int .i64 cb)).setCell ⟨w.heap.size, 3, none⟩ (.int .i64 cc)).setCell ⟨w.heap.size, 4, none⟩ (.int .i64 cd)).setCell ⟨w.heap.size, 5, none⟩ (.slice (some ⟨g3, 0, none⟩) pn cap3) = X at hX hY hZ ⊢
  obtain ⟨c9, hc9⟩ := hat3.out
  refine ⟨⟨nm, ⟨ca, cb, cc, cd⟩, some ⟨g3, 0, none⟩, pn, cap3, ps⟩, true, rfl, ⟨strs_keep hs3.out (Nat.le_of_eq hY.symm) fun b' off' e' _ => by cases e'; exact hX, hcap3⟩, hZ, fun b' off' e' => ?_, .inl ⟨rfl, by omega, ?_⟩⟩
  · have e2 : g3 = b' := by injection e' with e'; injection e' with e'
    subst e2
    exact ⟨by have := hz1.out; have := hg3.1; omega, c9, hX.trans hc9⟩
  · show vs[k]? = _
    rw [hvk.out]; rfl
/-- are two nodes the same? -/
def NodesPost (x y : Nde) (w : World) (e : Ending) (w' : World) : Prop := e = .returned (.bool (decide (x.parts = y.parts) && decide (x.name = y.name) && decide (x.cap = y.cap))) ∧ Below w.heap.size w w'
set_option maxRecDepth 100000 in
set_option maxHeartbeats 3200000 in
theorem nodes_any (x y : Nde) (w : World) (hx : x.ok w) (hy : y.ok w) : Calls Tryd.prog 33 #[x.val, y.val] w (NodesPost x y w) := by
  obtain ⟨W0, hW0⟩ : ∃ W0, W0 = (w.alloc (.cells x.cells 48 (0, 0))).alloc (.cells y.cells 48 (0, 0)) := ⟨_, rfl⟩
  have hb0 : Below w.heap.size w W0 := by rw [hW0]; exact ((Below.refl _ _).alloc (Nat.le_refl _) _).alloc (by simp) _
  have hx0 : W0.heap[w.heap.size]? = some (.cells x.cells 48 (0, 0)) := by rw [hW0]; exact blk_old _ (blk_new _ _)
  have hy0 : W0.heap[w.heap.size + 1]? = some (.cells y.cells 48 (0, 0)) := by rw [hW0]; exact blk_at _ _ (by simp)
  obtain ⟨nm, cp, po, pn, pc, ps⟩ := x
  obtain ⟨nm', cp', po', pn', pc', ps'⟩ := y
  have hct := texts_any po po' pn pn' pc pc' ps ps' W0 (hx.low hb0).parts (hy.low hb0).parts
  obtain ⟨q, hq⟩ : ∃ q, q = decide (ps = ps') := ⟨_, rfl⟩
  unfold TextsPost at hct
  rw [← hq] at hct
  rw [hW0] at hct
  have hW0' := Lib.hid hW0
  clear hW0
  replace hb0 := Lib.hid hb0; replace hx0 := Lib.hid hx0; replace hy0 := Lib.hid hy0; replace hct := Lib.hid hct; replace hq := Lib.hid hq; replace hx := Lib.hid hx; replace hy := Lib.hid hy
  go_enter Tryd.func33, Tryd.ntmps33
  go_wp2_with fail
  refine hct.out.mono ?_
  rintro e w1 ⟨rfl, hb1⟩
  rw [← hW0'.out] at hb1
  have hx1 := blk_below hb1 hx0.out (blk_lt hx0.out)
  have hy1 := blk_below hb1 hy0.out (blk_lt hy0.out)
  have hlow : Below w.heap.size w w1 := hb0.out.trans (hb1.mono hb0.out.size)
  have c0 : w1.cell? ⟨w.heap.size, 0, none⟩ = some (.string nm) := blk_cell hx1 0
  have c1 : w1.cell? ⟨w.heap.size, 1, none⟩ = some (.int .i64 cp.a) := blk_cell hx1 1
  have c2 : w1.cell? ⟨w.heap.size, 2, none⟩ = some (.int .i64 cp.b) := blk_cell hx1 2
  have c3 : w1.cell? ⟨w.heap.size, 3, none⟩ = some (.int .i64 cp.c) := blk_cell hx1 3
  have c4 : w1.cell? ⟨w.heap.size, 4, none⟩ = some (.int .i64 cp.d) := blk_cell hx1 4
  have d0 : w1.cell? ⟨w.heap.size + 1, 0, none⟩ = some (.string nm') := blk_cell hy1 0
  have d1 : w1.cell? ⟨w.heap.size + 1, 1, none⟩ = some (.int .i64 cp'.a) := blk_cell hy1 1
  have d2 : w1.cell? ⟨w.heap.size + 1, 2, none⟩ = some (.int .i64 cp'.b) := blk_cell hy1 2
  have d3 : w1.cell? ⟨w.heap.size + 1, 3, none⟩ = some (.int .i64 cp'.c) := blk_cell hy1 3
  have d4 : w1.cell? ⟨w.heap.size + 1, 4, none⟩ = some (.int .i64 cp'.d) := blk_cell hy1 4
  have hE := eq25 cp cp'
  cases q with
  | false =>
    have hE' := Lib.hid hE
    clear hE
    replace hx1 := Lib.hid hx1; replace hy1 := Lib.hid hy1; replace hlow := Lib.hid hlow; replace hb1 := Lib.hid hb1
    go_wp2
    go_ret
    exact ⟨by show _ = Ending.returned (.bool (decide (ps = ps') && decide (nm = nm') && decide (cp = cp'))); rw [← hq.out]; rfl, hlow.out⟩
  | true =>
    by_cases hn : nm = nm'
    · have dn := str_eq hn
      have hnd : decide (nm = nm') = true := decide_eq_true hn
      obtain ⟨qe, hqe⟩ : ∃ qe, qe = decide (cp = cp') := ⟨_, rfl⟩
      rw [← hqe] at hE
      replace hx1 := Lib.hid hx1; replace hy1 := Lib.hid hy1; replace hlow := Lib.hid hlow; replace hb1 := Lib.hid hb1; replace hn := Lib.hid hn; replace hnd := Lib.hid hnd; replace hqe := Lib.hid hqe
      go_wp2
      go_ret
      exact ⟨by show _ = Ending.returned (.bool (decide (ps = ps') && decide (nm = nm') && decide (cp = cp'))); rw [← hq.out, hnd.out, ← hqe.out]; rfl, hlow.out⟩
    · have dn := str_ne hn
      have hnd : decide (nm = nm') = false := decide_eq_false hn
      have hE' := Lib.hid hE
      clear hE
      replace hx1 := Lib.hid hx1; replace hy1 := Lib.hid hy1; replace hlow := Lib.hid hlow; replace hb1 := Lib.hid hb1; replace hn := Lib.hid hn; replace hnd := Lib.hid hnd
      go_wp2
      go_ret
      exact ⟨by show _ = Ending.returned (.bool (decide (ps = ps') && decide (nm = nm') && decide (cp = cp'))); rw [← hq.out, hnd.out]; rfl, hlow.out⟩
end Go.Proofs.YteoihdkaoipocaaDoor

/- corveeref03.Read: the amount of a text. -/
namespace Go.Proofs.YteoihdkaoipocaaDoor
open Go.RowKit Go.Maps Go.Shelf

def mx4 (v : V4) (k : Nat) : V4 := ⟨if 0 < k then v.a else 0, if 1 < k then v.b else 0, if 2 < k then v.c else 0, if 3 < k then v.d else 0⟩
structure RvW (w : World) (vb : Nat) (so : Option Addr) (xs : List ByteArray) (v : V4) (W : World) : Prop where
  low : Below w.heap.size w W
  gt : w.heap.size < vb
  r0 : W.heap[w.heap.size]? = some (.cells V4.zero.cells 25 (0, 0))
  r1 : W.heap[vb]? = some (.cells v.cells 25 (0, 0))
  strs : StrsAt W so 4 xs
theorem RvW.below {w W W' : World} {vb : Nat} {so : Option Addr} {xs : List ByteArray} {v : V4} (h : RvW w vb so xs v W) (hb : Below W.heap.size W W') : RvW w vb so xs v W' :=
  ⟨h.low.trans (hb.mono h.low.size), h.gt, blk_below hb h.r0 (blk_lt h.r0), blk_below hb h.r1 (blk_lt h.r1), h.strs.low hb⟩
theorem RvW.set {w W : World} {vb : Nat} {so : Option Addr} {xs : List ByteArray} {v v' : V4} (h : RvW w vb so xs v W) (o : Nat) (x : Value) (e : v.cells.setIfInBounds o x = v'.cells) (hso : ∀ b off, so = some ⟨b, off, none⟩ → b ≠ vb) : RvW w vb so xs v' (W.setCell ⟨vb, o, none⟩ x) :=
  ⟨h.low.setCell (Nat.le_of_lt h.gt) _, h.gt, blk_set_other (Nat.ne_of_lt h.gt) _ h.r0, by rw [blk_set h.r1, e], h.strs.len, h.strs.max, fun i x hx => by
    obtain ⟨b, off, e, hlt, hc⟩ := h.strs.cell i x hx
    exact ⟨b, off, e, by simpa [World.setCell] using hlt, (World.cell?_of_block (a := ⟨b, off + i, none⟩) (w := W) (heap_set_other (hso b off e))).trans hc⟩⟩
theorem okn_no {x : Int} (h : x < 0 ∨ 1073741824 < x) : okn x = false := by
  unfold okn
  rcases h with h | h
  · rw [decide_eq_false (by omega)]; rfl
  · rw [decide_eq_false (p := x ≤ 1073741824) (by omega)]; simp
theorem rv_bad {s : ByteArray} {j : Nat} (hl : (cutAll 44 s.data.toList).length = 4) (hj : j < 4) (h : okn (pnum (cutAll 44 s.data.toList) j) = false) : vecOf s = (V4.zero, 11) := by
  unfold vecOf
  rw [if_pos hl]
  unfold V4.told
  rw [if_neg]
  rw [V4.right, vecP]
  rcases (show j = 0 ∨ j = 1 ∨ j = 2 ∨ j = 3 by omega) with rfl | rfl | rfl | rfl <;> rw [h] <;> simp
theorem rv_good {s : ByteArray} (hl : (cutAll 44 s.data.toList).length = 4) (h : ∀ j, j < 4 → okn (pnum (cutAll 44 s.data.toList) j) = true) : vecOf s = (vecP (cutAll 44 s.data.toList), 0) := by
  unfold vecOf
  rw [if_pos hl]
  unfold V4.told
  rw [if_pos]
  rw [V4.right, vecP, h 0 (by omega), h 1 (by omega), h 2 (by omega), h 3 (by omega)]
  rfl
set_option maxRecDepth 100000 in
set_option maxHeartbeats 6400000 in
theorem rvread_any (s : ByteArray) (w : World) (hs : s.size ≤ 4294967200) : Calls Tryd.prog 110 #[.string s] w fun e w' => e = .returned (.tuple #[(vecOf s).1.val, .int .i64 (vecOf s).2]) ∧ Below w.heap.size w w' := by
  obtain ⟨W0, hW0⟩ : ∃ W0, W0 = w.alloc (.cells V4.zero.cells 25 (0, 0)) := ⟨_, rfl⟩
  have hb0 : Below w.heap.size w W0 := by rw [hW0]; exact (Below.refl _ _).alloc (Nat.le_refl _) _
  have hr0 : W0.heap[w.heap.size]? = some (.cells V4.zero.cells 25 (0, 0)) := by rw [hW0]; exact blk_new _ _
  have hct := rcut_any s 44 W0 (by omega)
  have h44 : (((44 : UInt8).toNat : Nat) : Int) = 44 := rfl
  rw [h44] at hct
  clear h44
  have hsize : ∀ x, x ∈ (cutAll 44 s.data.toList).map ofL → x.size ≤ maxLen := fun x hx => by
    obtain ⟨p, hp, rfl⟩ := List.mem_map.1 hx
    have := cutAll_le hp
    rw [ofL_size]
    have h2 := toL_len s
    have : maxLen = 9223372036854775807 := rfl
    omega
  obtain ⟨L, hL⟩ : ∃ L, L = (cutAll 44 s.data.toList).length := ⟨_, rfl⟩
  rw [hW0] at hct
  have hW0' := Lib.hid hW0
  clear hW0
  replace hb0 := Lib.hid hb0; replace hr0 := Lib.hid hr0; replace hct := Lib.hid hct; replace hL := Lib.hid hL
  have hsize' := Lib.hid hsize
  clear hsize
  go_enter Tryd.func110, Tryd.ntmps110
  go_wp2_with fail
  refine hct.out.mono ?_
  rintro e w1 ⟨so, n, c, rfl, hnc, hst, hsob, hb1⟩
  rw [← hW0'.out] at hb1 hsob
  have hlen : (cutAll 44 s.data.toList).length = n := by have := hst.len; rwa [List.length_map] at this
  have hlow1 : Below w.heap.size w w1 := hb0.out.trans (hb1.mono hb0.out.size)
  have hr1 := blk_below hb1 hr0.out (blk_lt hr0.out)
  have hmx := hst.max
  by_cases h4 : n = 4
  · subst h4
    have hr00 := blk_lt hr1
    have hso : ∀ b off, so = some ⟨b, off, none⟩ → b ≠ w1.heap.size := fun b off e => by
      obtain ⟨x, hx⟩ := hst.get (i := 0) (by omega)
      obtain ⟨b', off', e', hlt, _⟩ := hst.cell 0 x hx
      exact Nat.ne_of_lt (by rw [e] at e'; cases e'; exact hlt)
    obtain ⟨vb, hvb⟩ : ∃ vb, vb = w1.heap.size := ⟨_, rfl⟩
    have hR0 : RvW w vb so ((cutAll 44 s.data.toList).map ofL) (mx4 (vecP (cutAll 44 s.data.toList)) 0) (w1.alloc (.cells V4.zero.cells 25 (0, 0))) :=
      ⟨hlow1.alloc hlow1.size _, by omega, blk_old _ hr1, blk_at _ _ hvb, hst.low ((Below.refl _ _).alloc (Nat.le_refl _) _)⟩
    rw [← hvb] at hso
    have hsize := hsize'.out
    have hbadj : ∀ j, j < 4 → okn (pnum (cutAll 44 s.data.toList) j) = false → vecOf s = (V4.zero, 11) := fun j hj h => rv_bad hlen hj h
    have hgood := rv_good hlen
    have hnum0 : ∀ j x, ((cutAll 44 s.data.toList).map ofL)[j]? = some x → numOf x 10 = pnum (cutAll 44 s.data.toList) j := fun j x hx => by
      rw [List.getElem?_map] at hx
      obtain ⟨p, hp, rfl⟩ := Option.map_eq_some_iff.1 hx
      unfold pnum
      rw [List.getD, hp]; rfl
    obtain ⟨P, hP⟩ : ∃ P, P = vecP (cutAll 44 s.data.toList) := ⟨_, rfl⟩
    rw [← hP] at hR0 hgood
    obtain ⟨pa, pb, pc, pd⟩ := P
    have hpn : ∀ j, j < 4 → pnum (cutAll 44 s.data.toList) j = (V4.get ⟨pa, pb, pc, pd⟩ j) := fun j hj => by
      rw [hP]
      rcases (show j = 0 ∨ j = 1 ∨ j = 2 ∨ j = 3 by omega) with rfl | rfl | rfl | rfl <;> rfl
    have hnum : ∀ j x, ((cutAll 44 s.data.toList).map ofL)[j]? = some x → numOf x 10 = V4.get ⟨pa, pb, pc, pd⟩ j := fun j x hx => by
      rw [hnum0 j x hx]
      refine hpn j ?_
      have := (List.getElem?_eq_some_iff.1 hx).1
      rw [List.length_map, hlen] at this
      exact this
    clear hnum0
    have hbadj' := Lib.hid hbadj
    have hgood' := Lib.hid hgood
    have hnum' := Lib.hid hnum
    have hpn' := Lib.hid hpn
    clear hbadj hgood hnum hpn hsize
    replace hso := Lib.hid hso; replace hlow1 := Lib.hid hlow1; replace hr1 := Lib.hid hr1; replace hst := Lib.hid hst; replace hsob := Lib.hid hsob; replace hb1 := Lib.hid hb1; replace hP := Lib.hid hP; replace hR0 := Lib.hid hR0; replace hlen := Lib.hid hlen
    have hvb' := Lib.hid hvb
    rw [hvb'.out] at hR0
    go_wp2
    rw [← hvb'.out] at hR0 ⊢
    clear hvb
    go_loopw [6] (fun i wq => ∃ j : Nat, j ≤ 4 ∧ i = .int .i64 j ∧ Hid (∀ j', j' < j → okn (pnum (cutAll 44 s.data.toList) j') = true) ∧ Hid (RvW w vb so ((cutAll 44 s.data.toList).map ofL) (mx4 ⟨pa, pb, pc, pd⟩ j) wq)) (fun i _ => 4 - (intOf i).toNat)
    case atStart => exact ⟨0, by omega, rfl, fun j h => absurd h (Nat.not_lt_zero _), hR0.out⟩
    case round =>
      obtain ⟨j, hj, hjv, hok, hM⟩ := hrel
      rcases (show j = 0 ∨ j = 1 ∨ j = 2 ∨ j = 3 ∨ j = 4 by omega) with rfl | rfl | rfl | rfl | rfl
      · have hjv' : u6 = .int .i64 0 := hjv
        clear hjv
        subst hjv'
        obtain ⟨x, hx⟩ := hM.out.strs.get (i := 0) (by omega)
        obtain ⟨b, off, rfl, hb, a0⟩ := hM.out.strs.cell 0 x hx
        try rw [Nat.add_zero] at a0
        have hpx : numOf x 10 = pa := hnum'.out 0 x hx
        have hxz : x.size ≤ maxLen := hsize'.out x (List.mem_of_getElem? hx)
        have hcall : Calls Tryd.prog 143 #[.string x, .int .i64 10] wr fun e w' => e = .returned (.int .i64 (numOf x 10)) ∧ Below wr.heap.size wr w' := rnum_any x 10 wr hxz (by omega)
        rw [hpx] at hcall
        replace hx := Lib.hid hx; replace hpx := Lib.hid hpx; replace hcall := Lib.hid hcall
        go_wp2_with fail
        refine hcall.out.mono ?_
        rintro e wq ⟨rfl, hbq⟩
        have hMq := hM.out.below hbq
        have r1 := hMq.r1
        have r0 := hMq.r0
        have b0 : wq.cell? ⟨w.heap.size, 0, none⟩ = some (.int .i64 0) := blk_cell r0 0
        have b1 : wq.cell? ⟨w.heap.size, 1, none⟩ = some (.int .i64 0) := blk_cell r0 1
        have b2 : wq.cell? ⟨w.heap.size, 2, none⟩ = some (.int .i64 0) := blk_cell r0 2
        have b3 : wq.cell? ⟨w.heap.size, 3, none⟩ = some (.int .i64 0) := blk_cell r0 3
        have fr := blk_free r0
        have fv := blk_free r1
        have q0 : wq.cell? ⟨vb, 0, none⟩ = some (.int .i64 0) := blk_cell r1 0
        have he : ∀ v0 v1 v2 v3, Below w.heap.size w ((((wq.setCell ⟨w.heap.size, 0, none⟩ v0).setCell ⟨w.heap.size, 1, none⟩ v1).setCell ⟨w.heap.size, 2, none⟩ v2).setCell ⟨w.heap.size, 3, none⟩ v3) := fun v0 v1 v2 v3 =>
          (((hMq.low.setCell (Nat.le_refl _) _).setCell (Nat.le_refl _) _).setCell (Nat.le_refl _) _).setCell (Nat.le_refl _) _
        have l1 := blk_lt r1
        have hgt := hMq.gt
        replace hMq := Lib.hid hMq; replace r1 := Lib.hid r1; replace r0 := Lib.hid r0; replace hbq := Lib.hid hbq; replace he := Lib.hid he
        by_cases hlo : pa < 0
        · have dlo : decide (pa < 0) = true := decide_eq_true hlo
          have hbad := hbadj'.out 0 (by omega) (by rw [hpn'.out 0 (by omega)]; exact okn_no (.inl hlo))
          replace hbad := Lib.hid hbad
          go_wp2
          refine bodyPost_ret (v := .tuple #[V4.zero.val, .int .i64 11]) (by simp [results, Tryd.results110, go_sem, b0, b1, b2, b3, V4.zero]) rfl ⟨by rw [hbad.out], he.out _ _ _ _⟩
        · have dlo : decide (pa < 0) = false := decide_eq_false hlo
          by_cases hhi : 1073741824 < pa
          · have dhi : decide (1073741824 < pa) = true := decide_eq_true hhi
            have hbad := hbadj'.out 0 (by omega) (by rw [hpn'.out 0 (by omega)]; exact okn_no (.inr hhi))
            replace hbad := Lib.hid hbad
            go_wp2
            refine bodyPost_ret (v := .tuple #[V4.zero.val, .int .i64 11]) (by simp [results, Tryd.results110, go_sem, b0, b1, b2, b3, V4.zero]) rfl ⟨by rw [hbad.out], he.out _ _ _ _⟩
          · have dhi : decide (1073741824 < pa) = false := decide_eq_false hhi
            have hM2 : RvW w vb (some ⟨b, off, none⟩) ((cutAll 44 s.data.toList).map ofL) (mx4 ⟨pa, pb, pc, pd⟩ 1) (wq.setCell ⟨vb, 0, none⟩ (.int .i64 pa)) := hMq.out.set 0 _ rfl hso.out
            have hok2 : ∀ j, j < 1 → okn (pnum (cutAll 44 s.data.toList) j) = true := fun j hj => by
              by_cases q : j = 0
              · subst q
                rw [hpn'.out 0 (by omega)]
                show okn pa = true
                unfold okn
                rw [decide_eq_true (show (0 : Int) ≤ pa by omega), decide_eq_true (show pa ≤ 1073741824 by omega)]; rfl
              · exact hok.out j (by omega)
            replace hM2 := Lib.hid hM2; replace hok2 := Lib.hid hok2
            go_wp2
            go_roundw
            case rel => exact ⟨1, by omega, rfl, hok2.out, hM2.out⟩
            case measure => simp [intOf]
      · have hjv' : u6 = .int .i64 1 := hjv
        clear hjv
        subst hjv'
        obtain ⟨x, hx⟩ := hM.out.strs.get (i := 1) (by omega)
        obtain ⟨b, off, rfl, hb, a0⟩ := hM.out.strs.cell 1 x hx
        try rw [Nat.add_zero] at a0
        have hpx : numOf x 10 = pb := hnum'.out 1 x hx
        have hxz : x.size ≤ maxLen := hsize'.out x (List.mem_of_getElem? hx)
        have hcall : Calls Tryd.prog 143 #[.string x, .int .i64 10] wr fun e w' => e = .returned (.int .i64 (numOf x 10)) ∧ Below wr.heap.size wr w' := rnum_any x 10 wr hxz (by omega)
        rw [hpx] at hcall
        replace hx := Lib.hid hx; replace hpx := Lib.hid hpx; replace hcall := Lib.hid hcall
        go_wp2_with fail
        refine hcall.out.mono ?_
        rintro e wq ⟨rfl, hbq⟩
        have hMq := hM.out.below hbq
        have r1 := hMq.r1
        have r0 := hMq.r0
        have b0 : wq.cell? ⟨w.heap.size, 0, none⟩ = some (.int .i64 0) := blk_cell r0 0
        have b1 : wq.cell? ⟨w.heap.size, 1, none⟩ = some (.int .i64 0) := blk_cell r0 1
        have b2 : wq.cell? ⟨w.heap.size, 2, none⟩ = some (.int .i64 0) := blk_cell r0 2
        have b3 : wq.cell? ⟨w.heap.size, 3, none⟩ = some (.int .i64 0) := blk_cell r0 3
        have fr := blk_free r0
        have fv := blk_free r1
        have q0 : wq.cell? ⟨vb, 1, none⟩ = some (.int .i64 0) := blk_cell r1 1
        have he : ∀ v0 v1 v2 v3, Below w.heap.size w ((((wq.setCell ⟨w.heap.size, 0, none⟩ v0).setCell ⟨w.heap.size, 1, none⟩ v1).setCell ⟨w.heap.size, 2, none⟩ v2).setCell ⟨w.heap.size, 3, none⟩ v3) := fun v0 v1 v2 v3 =>
          (((hMq.low.setCell (Nat.le_refl _) _).setCell (Nat.le_refl _) _).setCell (Nat.le_refl _) _).setCell (Nat.le_refl _) _
        have l1 := blk_lt r1
        have hgt := hMq.gt
        replace hMq := Lib.hid hMq; replace r1 := Lib.hid r1; replace r0 := Lib.hid r0; replace hbq := Lib.hid hbq; replace he := Lib.hid he
        by_cases hlo : pb < 0
        · have dlo : decide (pb < 0) = true := decide_eq_true hlo
          have hbad := hbadj'.out 1 (by omega) (by rw [hpn'.out 1 (by omega)]; exact okn_no (.inl hlo))
          replace hbad := Lib.hid hbad
          go_wp2
          refine bodyPost_ret (v := .tuple #[V4.zero.val, .int .i64 11]) (by simp [results, Tryd.results110, go_sem, b0, b1, b2, b3, V4.zero]) rfl ⟨by rw [hbad.out], he.out _ _ _ _⟩
        · have dlo : decide (pb < 0) = false := decide_eq_false hlo
          by_cases hhi : 1073741824 < pb
          · have dhi : decide (1073741824 < pb) = true := decide_eq_true hhi
            have hbad := hbadj'.out 1 (by omega) (by rw [hpn'.out 1 (by omega)]; exact okn_no (.inr hhi))
            replace hbad := Lib.hid hbad
            go_wp2
            refine bodyPost_ret (v := .tuple #[V4.zero.val, .int .i64 11]) (by simp [results, Tryd.results110, go_sem, b0, b1, b2, b3, V4.zero]) rfl ⟨by rw [hbad.out], he.out _ _ _ _⟩
          · have dhi : decide (1073741824 < pb) = false := decide_eq_false hhi
            have hM2 : RvW w vb (some ⟨b, off, none⟩) ((cutAll 44 s.data.toList).map ofL) (mx4 ⟨pa, pb, pc, pd⟩ 2) (wq.setCell ⟨vb, 1, none⟩ (.int .i64 pb)) := hMq.out.set 1 _ rfl hso.out
            have hok2 : ∀ j, j < 2 → okn (pnum (cutAll 44 s.data.toList) j) = true := fun j hj => by
              by_cases q : j = 1
              · subst q
                rw [hpn'.out 1 (by omega)]
                show okn pb = true
                unfold okn
                rw [decide_eq_true (show (0 : Int) ≤ pb by omega), decide_eq_true (show pb ≤ 1073741824 by omega)]; rfl
              · exact hok.out j (by omega)
            replace hM2 := Lib.hid hM2; replace hok2 := Lib.hid hok2
            go_wp2
            go_roundw
            case rel => exact ⟨2, by omega, rfl, hok2.out, hM2.out⟩
            case measure => simp [intOf]
      · have hjv' : u6 = .int .i64 2 := hjv
        clear hjv
        subst hjv'
        obtain ⟨x, hx⟩ := hM.out.strs.get (i := 2) (by omega)
        obtain ⟨b, off, rfl, hb, a0⟩ := hM.out.strs.cell 2 x hx
        try rw [Nat.add_zero] at a0
        have hpx : numOf x 10 = pc := hnum'.out 2 x hx
        have hxz : x.size ≤ maxLen := hsize'.out x (List.mem_of_getElem? hx)
        have hcall : Calls Tryd.prog 143 #[.string x, .int .i64 10] wr fun e w' => e = .returned (.int .i64 (numOf x 10)) ∧ Below wr.heap.size wr w' := rnum_any x 10 wr hxz (by omega)
        rw [hpx] at hcall
        replace hx := Lib.hid hx; replace hpx := Lib.hid hpx; replace hcall := Lib.hid hcall
        go_wp2_with fail
        refine hcall.out.mono ?_
        rintro e wq ⟨rfl, hbq⟩
        have hMq := hM.out.below hbq
        have r1 := hMq.r1
        have r0 := hMq.r0
        have b0 : wq.cell? ⟨w.heap.size, 0, none⟩ = some (.int .i64 0) := blk_cell r0 0
        have b1 : wq.cell? ⟨w.heap.size, 1, none⟩ = some (.int .i64 0) := blk_cell r0 1
        have b2 : wq.cell? ⟨w.heap.size, 2, none⟩ = some (.int .i64 0) := blk_cell r0 2
        have b3 : wq.cell? ⟨w.heap.size, 3, none⟩ = some (.int .i64 0) := blk_cell r0 3
        have fr := blk_free r0
        have fv := blk_free r1
        have q0 : wq.cell? ⟨vb, 2, none⟩ = some (.int .i64 0) := blk_cell r1 2
        have he : ∀ v0 v1 v2 v3, Below w.heap.size w ((((wq.setCell ⟨w.heap.size, 0, none⟩ v0).setCell ⟨w.heap.size, 1, none⟩ v1).setCell ⟨w.heap.size, 2, none⟩ v2).setCell ⟨w.heap.size, 3, none⟩ v3) := fun v0 v1 v2 v3 =>
          (((hMq.low.setCell (Nat.le_refl _) _).setCell (Nat.le_refl _) _).setCell (Nat.le_refl _) _).setCell (Nat.le_refl _) _
        have l1 := blk_lt r1
        have hgt := hMq.gt
        replace hMq := Lib.hid hMq; replace r1 := Lib.hid r1; replace r0 := Lib.hid r0; replace hbq := Lib.hid hbq; replace he := Lib.hid he
        by_cases hlo : pc < 0
        · have dlo : decide (pc < 0) = true := decide_eq_true hlo
          have hbad := hbadj'.out 2 (by omega) (by rw [hpn'.out 2 (by omega)]; exact okn_no (.inl hlo))
          replace hbad := Lib.hid hbad
          go_wp2
          refine bodyPost_ret (v := .tuple #[V4.zero.val, .int .i64 11]) (by simp [results, Tryd.results110, go_sem, b0, b1, b2, b3, V4.zero]) rfl ⟨by rw [hbad.out], he.out _ _ _ _⟩
        · have dlo : decide (pc < 0) = false := decide_eq_false hlo
          by_cases hhi : 1073741824 < pc
          · have dhi : decide (1073741824 < pc) = true := decide_eq_true hhi
            have hbad := hbadj'.out 2 (by omega) (by rw [hpn'.out 2 (by omega)]; exact okn_no (.inr hhi))
            replace hbad := Lib.hid hbad
            go_wp2
            refine bodyPost_ret (v := .tuple #[V4.zero.val, .int .i64 11]) (by simp [results, Tryd.results110, go_sem, b0, b1, b2, b3, V4.zero]) rfl ⟨by rw [hbad.out], he.out _ _ _ _⟩
          · have dhi : decide (1073741824 < pc) = false := decide_eq_false hhi
            have hM2 : RvW w vb (some ⟨b, off, none⟩) ((cutAll 44 s.data.toList).map ofL) (mx4 ⟨pa, pb, pc, pd⟩ 3) (wq.setCell ⟨vb, 2, none⟩ (.int .i64 pc)) := hMq.out.set 2 _ rfl hso.out
            have hok2 : ∀ j, j < 3 → okn (pnum (cutAll 44 s.data.toList) j) = true := fun j hj => by
              by_cases q : j = 2
              · subst q
                rw [hpn'.out 2 (by omega)]
                show okn pc = true
                unfold okn
                rw [decide_eq_true (show (0 : Int) ≤ pc by omega), decide_eq_true (show pc ≤ 1073741824 by omega)]; rfl
              · exact hok.out j (by omega)
            replace hM2 := Lib.hid hM2; replace hok2 := Lib.hid hok2
            go_wp2
            go_roundw
            case rel => exact ⟨3, by omega, rfl, hok2.out, hM2.out⟩
            case measure => simp [intOf]
      · have hjv' : u6 = .int .i64 3 := hjv
        clear hjv
        subst hjv'
        obtain ⟨x, hx⟩ := hM.out.strs.get (i := 3) (by omega)
        obtain ⟨b, off, rfl, hb, a0⟩ := hM.out.strs.cell 3 x hx
        try rw [Nat.add_zero] at a0
        have hpx : numOf x 10 = pd := hnum'.out 3 x hx
        have hxz : x.size ≤ maxLen := hsize'.out x (List.mem_of_getElem? hx)
        have hcall : Calls Tryd.prog 143 #[.string x, .int .i64 10] wr fun e w' => e = .returned (.int .i64 (numOf x 10)) ∧ Below wr.heap.size wr w' := rnum_any x 10 wr hxz (by omega)
        rw [hpx] at hcall
        replace hx := Lib.hid hx; replace hpx := Lib.hid hpx; replace hcall := Lib.hid hcall
        go_wp2_with fail
        refine hcall.out.mono ?_
        rintro e wq ⟨rfl, hbq⟩
        have hMq := hM.out.below hbq
        have r1 := hMq.r1
        have r0 := hMq.r0
        have b0 : wq.cell? ⟨w.heap.size, 0, none⟩ = some (.int .i64 0) := blk_cell r0 0
        have b1 : wq.cell? ⟨w.heap.size, 1, none⟩ = some (.int .i64 0) := blk_cell r0 1
        have b2 : wq.cell? ⟨w.heap.size, 2, none⟩ = some (.int .i64 0) := blk_cell r0 2
        have b3 : wq.cell? ⟨w.heap.size, 3, none⟩ = some (.int .i64 0) := blk_cell r0 3
        have fr := blk_free r0
        have fv := blk_free r1
        have q0 : wq.cell? ⟨vb, 3, none⟩ = some (.int .i64 0) := blk_cell r1 3
        have he : ∀ v0 v1 v2 v3, Below w.heap.size w ((((wq.setCell ⟨w.heap.size, 0, none⟩ v0).setCell ⟨w.heap.size, 1, none⟩ v1).setCell ⟨w.heap.size, 2, none⟩ v2).setCell ⟨w.heap.size, 3, none⟩ v3) := fun v0 v1 v2 v3 =>
          (((hMq.low.setCell (Nat.le_refl _) _).setCell (Nat.le_refl _) _).setCell (Nat.le_refl _) _).setCell (Nat.le_refl _) _
        have l1 := blk_lt r1
        have hgt := hMq.gt
        replace hMq := Lib.hid hMq; replace r1 := Lib.hid r1; replace r0 := Lib.hid r0; replace hbq := Lib.hid hbq; replace he := Lib.hid he
        by_cases hlo : pd < 0
        · have dlo : decide (pd < 0) = true := decide_eq_true hlo
          have hbad := hbadj'.out 3 (by omega) (by rw [hpn'.out 3 (by omega)]; exact okn_no (.inl hlo))
          replace hbad := Lib.hid hbad
          go_wp2
          refine bodyPost_ret (v := .tuple #[V4.zero.val, .int .i64 11]) (by simp [results, Tryd.results110, go_sem, b0, b1, b2, b3, V4.zero]) rfl ⟨by rw [hbad.out], he.out _ _ _ _⟩
        · have dlo : decide (pd < 0) = false := decide_eq_false hlo
          by_cases hhi : 1073741824 < pd
          · have dhi : decide (1073741824 < pd) = true := decide_eq_true hhi
            have hbad := hbadj'.out 3 (by omega) (by rw [hpn'.out 3 (by omega)]; exact okn_no (.inr hhi))
            replace hbad := Lib.hid hbad
            go_wp2
            refine bodyPost_ret (v := .tuple #[V4.zero.val, .int .i64 11]) (by simp [results, Tryd.results110, go_sem, b0, b1, b2, b3, V4.zero]) rfl ⟨by rw [hbad.out], he.out _ _ _ _⟩
          · have dhi : decide (1073741824 < pd) = false := decide_eq_false hhi
            have hM2 : RvW w vb (some ⟨b, off, none⟩) ((cutAll 44 s.data.toList).map ofL) (mx4 ⟨pa, pb, pc, pd⟩ 4) (wq.setCell ⟨vb, 3, none⟩ (.int .i64 pd)) := hMq.out.set 3 _ rfl hso.out
            have hok2 : ∀ j, j < 4 → okn (pnum (cutAll 44 s.data.toList) j) = true := fun j hj => by
              by_cases q : j = 3
              · subst q
                rw [hpn'.out 3 (by omega)]
                show okn pd = true
                unfold okn
                rw [decide_eq_true (show (0 : Int) ≤ pd by omega), decide_eq_true (show pd ≤ 1073741824 by omega)]; rfl
              · exact hok.out j (by omega)
            replace hM2 := Lib.hid hM2; replace hok2 := Lib.hid hok2
            go_wp2
            go_roundw
            case rel => exact ⟨4, by omega, rfl, hok2.out, hM2.out⟩
            case measure => simp [intOf]
      · have hjv' : u6 = .int .i64 4 := hjv
        clear hjv
        subst hjv'
        have hg := hgood'.out hok.out
        have r1 := hM.out.r1
        have r0 := hM.out.r0
        have a0 : wr.cell? ⟨vb, 0, none⟩ = some (.int .i64 pa) := blk_cell r1 0
        have a1 : wr.cell? ⟨vb, 1, none⟩ = some (.int .i64 pb) := blk_cell r1 1
        have a2 : wr.cell? ⟨vb, 2, none⟩ = some (.int .i64 pc) := blk_cell r1 2
        have a3 : wr.cell? ⟨vb, 3, none⟩ = some (.int .i64 pd) := blk_cell r1 3
        have b0 : wr.cell? ⟨w.heap.size, 0, none⟩ = some (.int .i64 0) := blk_cell r0 0
        have b1 : wr.cell? ⟨w.heap.size, 1, none⟩ = some (.int .i64 0) := blk_cell r0 1
        have b2 : wr.cell? ⟨w.heap.size, 2, none⟩ = some (.int .i64 0) := blk_cell r0 2
        have b3 : wr.cell? ⟨w.heap.size, 3, none⟩ = some (.int .i64 0) := blk_cell r0 3
        have fr := blk_free r0
        have hgt := hM.out.gt
        have he : ∀ v0 v1 v2 v3, Below w.heap.size w ((((wr.setCell ⟨w.heap.size, 0, none⟩ v0).setCell ⟨w.heap.size, 1, none⟩ v1).setCell ⟨w.heap.size, 2, none⟩ v2).setCell ⟨w.heap.size, 3, none⟩ v3) := fun v0 v1 v2 v3 =>
          (((hM.out.low.setCell (Nat.le_refl _) _).setCell (Nat.le_refl _) _).setCell (Nat.le_refl _) _).setCell (Nat.le_refl _) _
        replace r1 := Lib.hid r1; replace r0 := Lib.hid r0; replace he := Lib.hid he; replace hg := Lib.hid hg
        go_wp2
        refine bodyPost_ret (v := .tuple #[V4.val ⟨pa, pb, pc, pd⟩, .int .i64 0]) (by simp [results, Tryd.results110, go_sem, b0, b1, b2, b3]) rfl ⟨by rw [hg.out], he.out _ _ _ _⟩
  · have hbad := vecOf_no (s := s) (by rw [hlen]; exact h4)
    have d4 : ((n : Int) != 4) = true := by rw [bne_iff_ne]; omega
    have b0 : w1.cell? ⟨w.heap.size, 0, none⟩ = some (.int .i64 0) := blk_cell hr1 0
    have b1 : w1.cell? ⟨w.heap.size, 1, none⟩ = some (.int .i64 0) := blk_cell hr1 1
    have b2 : w1.cell? ⟨w.heap.size, 2, none⟩ = some (.int .i64 0) := blk_cell hr1 2
    have b3 : w1.cell? ⟨w.heap.size, 3, none⟩ = some (.int .i64 0) := blk_cell hr1 3
    have fr := blk_free hr1
    have he : ∀ v0 v1 v2 v3, Below w.heap.size w ((((w1.setCell ⟨w.heap.size, 0, none⟩ v0).setCell ⟨w.heap.size, 1, none⟩ v1).setCell ⟨w.heap.size, 2, none⟩ v2).setCell ⟨w.heap.size, 3, none⟩ v3) := fun v0 v1 v2 v3 =>
      (((hlow1.setCell (Nat.le_refl _) _).setCell (Nat.le_refl _) _).setCell (Nat.le_refl _) _).setCell (Nat.le_refl _) _
    replace hlow1 := Lib.hid hlow1; replace hr1 := Lib.hid hr1; replace hst := Lib.hid hst; replace hsob := Lib.hid hsob; replace hb1 := Lib.hid hb1; replace hlen := Lib.hid hlen; replace hbad := Lib.hid hbad; replace h4 := Lib.hid h4; replace he := Lib.hid he
    go_wp2
    refine bodyPost_ret (v := .tuple #[V4.zero.val, .int .i64 11]) (by simp [results, Tryd.results110, go_sem, b0, b1, b2, b3, V4.zero]) rfl ⟨by rw [hbad.out], he.out _ _ _ _⟩
end Go.Proofs.YteoihdkaoipocaaDoor

/- corveeref05.node: the node of a line. -/
namespace Go.Proofs.YteoihdkaoipocaaDoor
open Go.RowKit Go.Maps Go.Shelf

structure RnW (w : World) (vb b : Nat) (xs : List ByteArray) (v : V4) (W : World) : Prop where
  low : Below w.heap.size w W
  r0 : W.heap[w.heap.size]? = some (.cells Nde.zero.cells 48 (0, 0))
  r1 : W.heap[vb]? = some (.cells v.cells 25 (0, 0))
  strs : StrsAt W (some ⟨b, 0, none⟩) xs.length xs
  blk : ∃ c, W.heap[b]? = some (.cells c 9 (0, 0))
theorem RnW.below {w W W' : World} {vb b : Nat} {xs : List ByteArray} {v : V4} (h : RnW w vb b xs v W) (hb : Below W.heap.size W W') : RnW w vb b xs v W' := by
  obtain ⟨c, hc⟩ := h.blk
  exact ⟨h.low.trans (hb.mono h.low.size), blk_below hb h.r0 (blk_lt h.r0), blk_below hb h.r1 (blk_lt h.r1), h.strs.low hb, c, blk_below hb hc (blk_lt hc)⟩
theorem RnW.drew {w W : World} {vb b : Nat} {xs : List ByteArray} {v : V4} (h : RnW w vb b xs v W) : RnW w vb b xs v W.drew := ⟨h.low.drew, h.r0, h.r1, ⟨h.strs.len, h.strs.max, h.strs.cell⟩, h.blk⟩
theorem node_no {s : ByteArray} (h : ¬ nodeOk s) : nodeOf s = none := nodeOf_no h
set_option maxRecDepth 100000 in
set_option maxHeartbeats 6400000 in
theorem rnode_any (s : ByteArray) (w : World) (hs : s.size ≤ 4294967200) : Calls Tryd.prog 82 #[.string s] w (NodePost s w) := by
  obtain ⟨i9, hi9, hz9, hz91, hz92⟩ := info_parts info9
  obtain ⟨W0, hW0⟩ : ∃ W0, W0 = w.alloc (.cells Nde.zero.cells 48 (0, 0)) := ⟨_, rfl⟩
  have hb0 : Below w.heap.size w W0 := by rw [hW0]; exact (Below.refl _ _).alloc (Nat.le_refl _) _
  have hr0 : W0.heap[w.heap.size]? = some (.cells Nde.zero.cells 48 (0, 0)) := by rw [hW0]; exact blk_new _ _
  have hct := rcut_any s 32 W0 (by omega)
  have h32 : (((32 : UInt8).toNat : Nat) : Int) = 32 := rfl
  rw [h32] at hct
  clear h32
  rw [show (cutAll 32 s.data.toList).map ofL = words s from rfl] at hct
  have hsize : ∀ x, x ∈ words s → x.size ≤ s.size := fun x hx => words_le hx
  have hmany := words_many s
  rw [hW0] at hct
  have hW0' := Lib.hid hW0
  clear hW0
  obtain ⟨ws, hws⟩ : ∃ ws, ws = words s := ⟨_, rfl⟩
  rw [← hws] at hct hsize hmany
  have hsize' := Lib.hid hsize
  clear hsize
  replace hb0 := Lib.hid hb0; replace hr0 := Lib.hid hr0; replace hct := Lib.hid hct; replace hmany := Lib.hid hmany; replace hws := Lib.hid hws
  go_enter Tryd.func82, Tryd.ntmps82
  go_wp2_with fail
  refine hct.out.mono ?_
  rintro e w1 ⟨so, n, c, rfl, hnc, hst, hsob, hb1⟩
  rw [← hW0'.out] at hb1 hsob
  have hlen : ws.length = n := hst.len
  have hlow1 : Below w.heap.size w w1 := hb0.out.trans (hb1.mono hb0.out.size)
  have hr1 := blk_below hb1 hr0.out (blk_lt hr0.out)
  have hmx := hst.max
  by_cases h3 : n < 3
  · have d3 : decide ((n : Int) < 3) = true := decide_eq_true (by omega)
    have d3' : decide (n < 3) = true := decide_eq_true h3
    have hbad : nodeOf s = none := node_no fun h => by have := h.1; rw [← hws.out] at this; omega
    have b0 : w1.cell? ⟨w.heap.size, 0, none⟩ = some (.string ByteArray.empty) := blk_cell hr1 0
    have b1 : w1.cell? ⟨w.heap.size, 1, none⟩ = some (.int .i64 0) := blk_cell hr1 1
    have b2 : w1.cell? ⟨w.heap.size, 2, none⟩ = some (.int .i64 0) := blk_cell hr1 2
    have b3 : w1.cell? ⟨w.heap.size, 3, none⟩ = some (.int .i64 0) := blk_cell hr1 3
    have b4 : w1.cell? ⟨w.heap.size, 4, none⟩ = some (.int .i64 0) := blk_cell hr1 4
    have b5 : w1.cell? ⟨w.heap.size, 5, none⟩ = some (.slice none 0 0) := blk_cell hr1 5
    have fr := blk_free hr1
    have he : ∀ v0 v1 v2 v3 v4 v5, Below w.heap.size w ((((((w1.setCell ⟨w.heap.size, 0, none⟩ v0).setCell ⟨w.heap.size, 1, none⟩ v1).setCell ⟨w.heap.size, 2, none⟩ v2).setCell ⟨w.heap.size, 3, none⟩ v3).setCell ⟨w.heap.size, 4, none⟩ v4).setCell ⟨w.heap.size, 5, none⟩ v5) := fun v0 v1 v2 v3 v4 v5 =>
      ((((((hlow1).setCell (Nat.le_refl _) _).setCell (Nat.le_refl _) _).setCell (Nat.le_refl _) _).setCell (Nat.le_refl _) _).setCell (Nat.le_refl _) _).setCell (Nat.le_refl _) _
    replace hlow1 := Lib.hid hlow1; replace hr1 := Lib.hid hr1; replace hst := Lib.hid hst; replace hsob := Lib.hid hsob; replace hb1 := Lib.hid hb1; replace hlen := Lib.hid hlen; replace hbad := Lib.hid hbad; replace he := Lib.hid he
    go_wp2
    refine bodyPost_ret (v := .tuple #[Nde.zero.val, .int .i64 50]) (by simp [results, Tryd.results82, go_sem, b0, b1, b2, b3, b4, b5, Nde.zero, V4.zero] <;> rfl) rfl ⟨Nde.zero, 50, rfl, ⟨strs_none _, Nat.le_refl _⟩, he.out _ _ _ _ _ _, fun b off e => (by cases e), .inl ⟨hbad.out, rfl, rfl⟩⟩
  have d3 : decide ((n : Int) < 3) = false := decide_eq_false (by omega)
  have d3' : decide (n < 3) = false := decide_eq_false h3
  obtain ⟨x0, hx0⟩ := hst.get (i := 0) (by omega)
  obtain ⟨b, off, rfl, hbl, a0⟩ := hst.cell 0 x0 hx0
  obtain ⟨rfl, hbge, hblk⟩ := hsob b off rfl
  rw [Nat.add_zero] at a0
  have n0 : 0 < n := by omega
  have n0' : (0 : Int) < n := by omega
  have hw0 : wrd s 0 = x0 := by unfold wrd; rw [← hws.out]; simp [List.getD, hx0]
  have hxs : x0.size ≤ maxLen := by
    have := hsize'.out x0 (List.mem_of_getElem? hx0)
    have : maxLen = 9223372036854775807 := rfl
    omega
  have hcn := rname_any x0 w1 hxs
  obtain ⟨q0, hq0⟩ : ∃ q0, q0 = isName x0 := ⟨_, rfl⟩
  rw [← hq0] at hcn
  replace hlow1 := Lib.hid hlow1; replace hr1 := Lib.hid hr1; replace hst := Lib.hid hst; replace hsob := Lib.hid hsob; replace hb1 := Lib.hid hb1; replace hlen := Lib.hid hlen; replace hx0 := Lib.hid hx0; replace hblk := Lib.hid hblk; replace hw0 := Lib.hid hw0; replace hcn := Lib.hid hcn; replace hq0 := Lib.hid hq0
  go_wp2_with fail
  refine hcn.out.mono ?_
  rintro e w2 ⟨rfl, hb2⟩
  have hlow2 := hlow1.out.trans (hb2.mono hlow1.out.size)
  have hr2 := blk_below hb2 hr1.out (blk_lt hr1.out)
  cases q0 with
  | false =>
    have hbad : nodeOf s = none := node_no fun h => by have := h.2.1; rw [hw0.out, ← hq0.out] at this; cases this
    have b0 : w2.cell? ⟨w.heap.size, 0, none⟩ = some (.string ByteArray.empty) := blk_cell hr2 0
    have b1 : w2.cell? ⟨w.heap.size, 1, none⟩ = some (.int .i64 0) := blk_cell hr2 1
    have b2 : w2.cell? ⟨w.heap.size, 2, none⟩ = some (.int .i64 0) := blk_cell hr2 2
    have b3 : w2.cell? ⟨w.heap.size, 3, none⟩ = some (.int .i64 0) := blk_cell hr2 3
    have b4 : w2.cell? ⟨w.heap.size, 4, none⟩ = some (.int .i64 0) := blk_cell hr2 4
    have b5 : w2.cell? ⟨w.heap.size, 5, none⟩ = some (.slice none 0 0) := blk_cell hr2 5
    have fr := blk_free hr2
    have he : ∀ v0 v1 v2 v3 v4 v5, Below w.heap.size w ((((((w2.setCell ⟨w.heap.size, 0, none⟩ v0).setCell ⟨w.heap.size, 1, none⟩ v1).setCell ⟨w.heap.size, 2, none⟩ v2).setCell ⟨w.heap.size, 3, none⟩ v3).setCell ⟨w.heap.size, 4, none⟩ v4).setCell ⟨w.heap.size, 5, none⟩ v5) := fun v0 v1 v2 v3 v4 v5 =>
      ((((((hlow2).setCell (Nat.le_refl _) _).setCell (Nat.le_refl _) _).setCell (Nat.le_refl _) _).setCell (Nat.le_refl _) _).setCell (Nat.le_refl _) _).setCell (Nat.le_refl _) _
    replace hlow2 := Lib.hid hlow2; replace hr2 := Lib.hid hr2; replace hb2 := Lib.hid hb2; replace hbad := Lib.hid hbad; replace he := Lib.hid he
    go_wp2
    refine bodyPost_ret (v := .tuple #[Nde.zero.val, .int .i64 50]) (by simp [results, Tryd.results82, go_sem, b0, b1, b2, b3, b4, b5, Nde.zero, V4.zero] <;> rfl) rfl ⟨Nde.zero, 50, rfl, ⟨strs_none _, Nat.le_refl _⟩, he.out _ _ _ _ _ _, fun b off e => (by cases e), .inl ⟨hbad.out, rfl, rfl⟩⟩
  | true =>
  obtain ⟨x1, hx1⟩ := hst.out.get (i := 1) (by omega)
  obtain ⟨b', off', e', _, a1⟩ := hst.out.cell 1 x1 hx1
  cases e'
  have c1 := (below_cell hb2 hbl).trans a1
  have n1 : 1 < n := by omega
  have n1' : (1 : Int) < n := by omega
  have hw1 : wrd s 1 = x1 := by unfold wrd; rw [← hws.out]; simp [List.getD, hx1]
  have hx1s := hsize'.out x1 (List.mem_of_getElem? hx1)
  have hcv := rvread_any x1 w2 (by omega)
  have hst2 := hst.out.low hb2
  have hbl2 : b < w2.heap.size := Nat.lt_of_lt_of_le hbl hb2.size
  replace hlow2 := Lib.hid hlow2; replace hr2 := Lib.hid hr2; replace hb2 := Lib.hid hb2; replace hx1 := Lib.hid hx1; replace hw1 := Lib.hid hw1; replace hcv := Lib.hid hcv; replace hst2 := Lib.hid hst2
  clear a1
  rw [Nat.zero_add] at c1
  go_wp2_with fail
  refine hcv.out.mono ?_
  rintro e w3 ⟨rfl, hb3⟩
  obtain ⟨u, hu⟩ : ∃ u : V4, u = (vecOf x1).1 := ⟨_, rfl⟩
  obtain ⟨r, hr⟩ : ∃ r : Int, r = (vecOf x1).2 := ⟨_, rfl⟩
  rw [← hu, ← hr]
  obtain ⟨cb, hcb⟩ := hblk.out
  have hst3 := hst2.out.low hb3
  have hlow3 := hlow2.out.trans (hb3.mono hlow2.out.size)
  obtain ⟨vb, hvb⟩ : ∃ vb, vb = w3.heap.size := ⟨_, rfl⟩
  have hcb3 := blk_below hb3 (blk_below hb2.out hcb (blk_lt hcb)) (Nat.lt_of_lt_of_le (blk_lt hcb) hb2.out.size)
  have hR0 : RnW w vb b ws u (w3.alloc (.cells u.cells 25 (0, 0))) := ⟨hlow3.alloc hlow3.size _, blk_old _ (blk_below hb3 hr2.out (blk_lt hr2.out)), blk_at _ _ hvb, by rw [← hst3.len] at hst3; exact hst3.low ((Below.refl _ _).alloc (Nat.le_refl _) _), cb, blk_old _ hcb3⟩
  have hbge' : w.heap.size < b := by have := blk_lt hr0.out; omega
  have hvbb : vb ≠ w.heap.size := by have := blk_lt hr2.out; have := hb3.size; omega
  have hsl : ∀ w, (Instr.slice 36 (.slice (some ⟨b, 0, none⟩) n c) (some (.int .i64 2)) none none).run Tryd.prog w = .ok (.slice (some ⟨b, 2, none⟩) (n - 2) (c - 2)) w := by
    obtain ⟨ta, h1, h2⟩ := slice_from Tryd.underlying36 hi9 b n c 2 2 rfl (by omega)
    have h3 := h2 (by omega)
    rw [hz91, Nat.mul_one] at h3
    subst h3
    exact h1
  have hsl' := Lib.hid hsl
  clear hsl c1 a0
  replace hb3 := Lib.hid hb3; replace hu := Lib.hid hu; replace hr := Lib.hid hr; replace hcb := Lib.hid hcb; replace hst3 := Lib.hid hst3; replace hlow3 := Lib.hid hlow3; replace hcb3 := Lib.hid hcb3; replace hR0 := Lib.hid hR0
  have hvb' := Lib.hid hvb
  rw [hvb'.out] at hR0
  go_wp2
  rw [← hvb'.out] at hR0 ⊢
  clear hvb
  go_loopw [6, 7, 8] (fun ev i _ wr => ∃ (k : Nat) (E : Int), ev = .int .i64 E ∧ i = .int .i64 k ∧ 2 ≤ k ∧ k ≤ n ∧ Hid (E = 0 ↔ (r = 0 ∧ ∀ j x, 2 ≤ j → j < k → ws[j]? = some x → isName x = true)) ∧ Hid (RnW w vb b ws u wr)) (fun _ i _ _ => n - (intOf i).toNat)
  case atStart => exact ⟨2, r, rfl, rfl, by omega, by omega, ⟨fun h => ⟨h, fun j x h1 h2 => by omega⟩, fun h => h.1⟩, hR0.out⟩
  case round =>
    obtain ⟨k, E, rfl, rfl, hk2, hk, hE, hM⟩ := hrel
    by_cases hc : k < n
    · have hc1 : (k : Int) < n := by omega
      have hk0 : (0 : Int) ≤ (k : Int) := by omega
      have hln := hlen.out
      obtain ⟨y, hy⟩ := hM.out.strs.get (i := k) (by omega)
      obtain ⟨b', off', e', hlt, a0⟩ := hM.out.strs.cell k y hy
      cases e'
      rw [Nat.zero_add] at a0
      have hys : y.size ≤ maxLen := by
        have := hsize'.out y (List.mem_of_getElem? hy)
        have : maxLen = 9223372036854775807 := rfl
        omega
      have hcn := rname_any y wr hys
      obtain ⟨q, hq⟩ : ∃ q, q = isName y := ⟨_, rfl⟩
      rw [← hq] at hcn
      replace hcn := Lib.hid hcn; replace hq := Lib.hid hq; replace hy := Lib.hid hy; replace hln := Lib.hid hln
      go_wp2_with fail
      refine hcn.out.mono ?_
      rintro e wq ⟨rfl, hbq⟩
      have hMq := hM.out.below hbq
      cases q with
      | true =>
        have hE2 : E = 0 ↔ (r = 0 ∧ ∀ j x, 2 ≤ j → j < k + 1 → ws[j]? = some x → isName x = true) := by
          rw [hE.out]
          refine ⟨fun h => ⟨h.1, fun j x h1 h2 h3 => ?_⟩, fun h => ⟨h.1, fun j x h1 h2 h3 => h.2 j x h1 (by omega) h3⟩⟩
          by_cases cc : j = k
          · subst cc; rw [hy.out] at h3; cases h3; exact hq.out.symm
          · exact h.2 j x h1 (by omega) h3
        replace hMq := Lib.hid hMq; replace hE2 := Lib.hid hE2; replace hbq := Lib.hid hbq
        go_wp2
        go_roundw
        case rel => exact ⟨k + 1, E, rfl, by go_num, by omega, by omega, hE2.out, hMq.out⟩
        case measure => simp [intOf]; omega
      | false =>
        have hE2 : (50 : Int) = 0 ↔ (r = 0 ∧ ∀ j x, 2 ≤ j → j < k + 1 → ws[j]? = some x → isName x = true) := by
          refine ⟨fun h => absurd h (by decide), fun h => ?_⟩
          have := h.2 k y hk2 (by omega) hy.out
          rw [← hq.out] at this
          cases this
        replace hMq := Lib.hid hMq; replace hE2 := Lib.hid hE2; replace hbq := Lib.hid hbq
        go_wp2
        go_roundw
        case rel => exact ⟨k + 1, 50, rfl, by go_num, by omega, by omega, hE2.out, hMq.out⟩
        case measure => simp [intOf]; omega
    · have hc1 : ¬ (k : Int) < n := by omega
      have hkn : k = n := by omega
      have hln := hlen.out
      have hok : E = 0 ↔ nodeOk s := by
        rw [hE.out]
        unfold nodeOk
        rw [← hws.out, hw0.out, hw1.out, ← hr.out]
        refine ⟨fun h => ⟨by omega, hq0.out.symm, fun p hp => ?_, h.1⟩, fun h => ⟨h.2.2.2, fun j x h1 h2 h3 => h.2.2.1 x ?_⟩⟩
        · obtain ⟨j, hj, e⟩ := List.getElem_of_mem hp
          rw [List.length_drop] at hj
          rw [List.getElem_drop] at e
          exact h.2 (2 + j) p (by omega) (by omega) (by rw [List.getElem?_eq_getElem (by omega), e])
        · have h4 : (ws.drop 2)[j - 2]? = some x := by rw [List.getElem?_drop, show 2 + (j - 2) = j by omega]; exact h3
          exact List.mem_of_getElem? h4
      have r0 := hM.out.r0
      have b0 : wr.cell? ⟨w.heap.size, 0, none⟩ = some (.string ByteArray.empty) := blk_cell r0 0
      have b1 : wr.cell? ⟨w.heap.size, 1, none⟩ = some (.int .i64 0) := blk_cell r0 1
      have b2 : wr.cell? ⟨w.heap.size, 2, none⟩ = some (.int .i64 0) := blk_cell r0 2
      have b3 : wr.cell? ⟨w.heap.size, 3, none⟩ = some (.int .i64 0) := blk_cell r0 3
      have b4 : wr.cell? ⟨w.heap.size, 4, none⟩ = some (.int .i64 0) := blk_cell r0 4
      have b5 : wr.cell? ⟨w.heap.size, 5, none⟩ = some (.slice none 0 0) := blk_cell r0 5
      have fr := blk_free r0
      by_cases hE0 : E = 0
      · have dE : (E != 0) = false := by simp [hE0]
        have hyes := hok.1 hE0
        have hz := nodeOf_yes hyes
        obtain ⟨b', off', e', hlt, a0⟩ := hM.out.strs.cell 0 x0 hx0.out
        cases e'
        rw [Nat.add_zero] at a0
        have r1 := hM.out.r1
        have q0' : wr.cell? ⟨vb, 0, none⟩ = some (.int .i64 u.a) := blk_cell r1 0
        have q1' : wr.cell? ⟨vb, 1, none⟩ = some (.int .i64 u.b) := blk_cell r1 1
        have q2' : wr.cell? ⟨vb, 2, none⟩ = some (.int .i64 u.c) := blk_cell r1 2
        have q3' : wr.cell? ⟨vb, 3, none⟩ = some (.int .i64 u.d) := blk_cell r1 3
        have hsl := hsl'.out
        obtain ⟨cb2, hcb2⟩ := hM.out.blk
        have hrow : ∀ v0 v1 v2 v3 v4 v5, ((((((wr.setCell ⟨w.heap.size, 0, none⟩ v0).setCell ⟨w.heap.size, 1, none⟩ v1).setCell ⟨w.heap.size, 2, none⟩ v2).setCell ⟨w.heap.size, 3, none⟩ v3).setCell ⟨w.heap.size, 4, none⟩ v4).setCell ⟨w.heap.size, 5, none⟩ v5).heap[b]? = wr.heap[b]? := fun v0 v1 v2 v3 v4 v5 => by
          have hne : b ≠ w.heap.size := by omega
          rw [heap_set_other hne, heap_set_other hne, heap_set_other hne, heap_set_other hne, heap_set_other hne, heap_set_other hne]
        have hsz9 : ∀ v0 v1 v2 v3 v4 v5, ((((((wr.setCell ⟨w.heap.size, 0, none⟩ v0).setCell ⟨w.heap.size, 1, none⟩ v1).setCell ⟨w.heap.size, 2, none⟩ v2).setCell ⟨w.heap.size, 3, none⟩ v3).setCell ⟨w.heap.size, 4, none⟩ v4).setCell ⟨w.heap.size, 5, none⟩ v5).heap.size = wr.heap.size := fun v0 v1 v2 v3 v4 v5 => by simp [World.setCell]
        have he : ∀ v0 v1 v2 v3 v4 v5, Below w.heap.size w ((((((wr.setCell ⟨w.heap.size, 0, none⟩ v0).setCell ⟨w.heap.size, 1, none⟩ v1).setCell ⟨w.heap.size, 2, none⟩ v2).setCell ⟨w.heap.size, 3, none⟩ v3).setCell ⟨w.heap.size, 4, none⟩ v4).setCell ⟨w.heap.size, 5, none⟩ v5) := fun v0 v1 v2 v3 v4 v5 =>
          ((((((hM.out.low).setCell (Nat.le_refl _) _).setCell (Nat.le_refl _) _).setCell (Nat.le_refl _) _).setCell (Nat.le_refl _) _).setCell (Nat.le_refl _) _).setCell (Nat.le_refl _) _
        have hsub := hM.out.strs.sub 2 (by omega)
        replace hrow := Lib.hid hrow; replace hsz9 := Lib.hid hsz9; replace he := Lib.hid he; replace r1 := Lib.hid r1; replace r0 := Lib.hid r0; replace hcb2 := Lib.hid hcb2; replace hok := Lib.hid hok; replace hyes := Lib.hid hyes; replace hz := Lib.hid hz; replace hE0 := Lib.hid hE0; replace hln := Lib.hid hln; replace hkn := Lib.hid hkn; replace hsub := Lib.hid hsub
        go_upto_region 13 with fail
        go_still_tail 7, (by kernel_rfl)
        change wpList _ _ _ _ _ wr.drew
        go_wp2
        refine bodyPost_ret (v := .tuple #[(⟨x0, u, some ⟨b, 2, none⟩, n - 2, c - 2, ws.drop 2⟩ : Nde).val, .int .i64 0]) (by simp [results, Tryd.results82, go_sem, b0, b1, b2, b3, b4, b5]) rfl ⟨⟨x0, u, some ⟨b, 2, none⟩, n - 2, c - 2, ws.drop 2⟩, 0, rfl, ?_⟩
        have hX := hrow.out (.string x0) (.int .i64 u.a) (.int .i64 u.b) (.int .i64 u.c) (.int .i64 u.d) (.slice (some ⟨b, 2, none⟩) (n - 2) (c - 2))
        have hY := hsz9.out (.string x0) (.int .i64 u.a) (.int .i64 u.b) (.int .i64 u.c) (.int .i64 u.d) (.slice (some ⟨b, 2, none⟩) (n - 2) (c - 2))
        have hZ := he.out (.string x0) (.int .i64 u.a) (.int .i64 u.b) (.int .i64 u.c) (.int .i64 u.d) (.slice (some ⟨b, 2, none⟩) (n - 2) (c - 2))
        generalize (((((wr.setCell ⟨w.heap.size, 0, none⟩ (.string x0)).setCell ⟨w.heap.size, 1, none⟩ (.int .i64 u.a)).setCell ⟨w.heap.size, 2, none⟩ (.int .i64 u.b)).setCell ⟨w.heap.size, 3, none⟩ (.int .i64 u.c)).setCell ⟨w.heap.size, 4, none⟩ (.int .i64 u.d)).setCell ⟨w.heap.size, 5, none⟩ (.slice (some ⟨b, 2, none⟩) (n - 2) (c - 2)) = X at hX hY hZ ⊢
        have hS : StrsAt X (some ⟨b, 2, none⟩) (n - 2) (ws.drop 2) := by
          have h := hsub.out
          rw [Nat.zero_add, hln.out] at h
          exact strs_keep h (by omega) fun b' off' e' _ => by cases e'; exact hX
        refine ⟨⟨⟨hS.len, hS.max, hS.cell⟩, by show n - 2 ≤ c - 2; omega⟩, hZ.drew, fun b' off' e' => ?_, .inr ⟨?_, rfl⟩⟩
        · have e2 : b = b' := by injection e' with e'; injection e' with e'
          subst e2
          exact ⟨by omega, cb2, hX.trans hcb2.out⟩
        · rw [hz.out, hw0.out, hw1.out, ← hu.out, ← hws.out]; rfl
      · have dE : (E != 0) = true := by simp [hE0]
        have hbad : nodeOf s = none := node_no fun h => hE0 (hok.2 h)
        have he : ∀ v0 v1 v2 v3 v4 v5, Below w.heap.size w ((((((wr.setCell ⟨w.heap.size, 0, none⟩ v0).setCell ⟨w.heap.size, 1, none⟩ v1).setCell ⟨w.heap.size, 2, none⟩ v2).setCell ⟨w.heap.size, 3, none⟩ v3).setCell ⟨w.heap.size, 4, none⟩ v4).setCell ⟨w.heap.size, 5, none⟩ v5) := fun v0 v1 v2 v3 v4 v5 =>
          ((((((hM.out.low).setCell (Nat.le_refl _) _).setCell (Nat.le_refl _) _).setCell (Nat.le_refl _) _).setCell (Nat.le_refl _) _).setCell (Nat.le_refl _) _).setCell (Nat.le_refl _) _
        replace r0 := Lib.hid r0; replace hbad := Lib.hid hbad; replace he := Lib.hid he; replace hok := Lib.hid hok; replace hE0 := Lib.hid hE0; replace hln := Lib.hid hln; replace hkn := Lib.hid hkn
        go_wp2
        refine bodyPost_ret (v := .tuple #[Nde.zero.val, .int .i64 50]) (by simp [results, Tryd.results82, go_sem, b0, b1, b2, b3, b4, b5, Nde.zero, V4.zero] <;> rfl) rfl ⟨Nde.zero, 50, rfl, ⟨strs_none _, Nat.le_refl _⟩, he.out _ _ _ _ _ _, fun b off e => (by cases e), .inl ⟨hbad.out, rfl, rfl⟩⟩
end Go.Proofs.YteoihdkaoipocaaDoor

/- corveeref05.Read: the fleet of a text. -/
namespace Go.Proofs.YteoihdkaoipocaaDoor
open Go.RowKit Go.Maps Go.Shelf

theorem said_app (a b : List (List UInt8)) (n : Nat) : said n (a ++ b) = said n a ++ said (n + a.length) b := by
  induction a generalizing n with
  | nil => simp [said]
  | cons p a ih =>
    simp only [List.cons_append, said, List.length_cons]
    rw [ih, show n + 1 + a.length = n + (a.length + 1) by omega]
    split <;> simp
theorem said_step {ls : List (List UInt8)} {k : Nat} {p : List UInt8} (h : ls[k]? = some p) : said 0 (ls.take (k + 1)) = said 0 (ls.take k) ++ (if saysB p = true then [(((k : Int) + 1), ofL p)] else []) := by
  have hk := (List.getElem?_eq_some_iff.1 h).1
  rw [take_step h, said_app, List.length_take, Nat.min_eq_left (by omega), Nat.zero_add]
  simp only [said]
theorem said_cut (ls : List (List UInt8)) (k : Nat) : said 0 ls = said 0 (ls.take k) ++ said (0 + (ls.take k).length) (ls.drop k) := by
  rw [← said_app, List.take_append_drop]
/-- the nodes read of the first k lines -/
def rdK (s : ByteArray) (k : Nat) : List Ndv × Int × Int := readTo [] (said 0 ((cutAll 10 s.data.toList).take k))
theorem rdK_stop {s : ByteArray} {k : Nat} (h : (rdK s k).2.1 ≠ 0) : readTo [] (linesOf s) = rdK s k := by
  unfold linesOf
  rw [said_cut _ k, readTo_stop _ _ _ h]; rfl
theorem rdK_end {s : ByteArray} {k : Nat} (h : (cutAll 10 s.data.toList).length ≤ k) : readTo [] (linesOf s) = rdK s k := by
  unfold linesOf rdK
  rw [List.take_of_length_le h]
theorem rdK_skip {s : ByteArray} {k : Nat} {p : List UInt8} (h : (cutAll 10 s.data.toList)[k]? = some p) (hs : saysB p = false) : rdK s (k + 1) = rdK s k := by
  unfold rdK
  rw [said_step h, if_neg (by rw [hs]; simp), List.append_nil]
theorem rdK_line {s : ByteArray} {k : Nat} {p : List UInt8} (h : (cutAll 10 s.data.toList)[k]? = some p) (hs : saysB p = true) (h0 : (rdK s k).2.1 = 0) : rdK s (k + 1) = readTo (rdK s k).1 [(((k : Int) + 1), ofL p)] := by
  unfold rdK at h0 ⊢
  rw [said_step h, if_pos hs, readTo_app _ _ _ h0]
structure RrW (w : World) (b : Nat) (ls : List ByteArray) (vs : List Ndv) (nv : Value) (xs : List Nde) (W : World) : Prop where
  low : Below w.heap.size w W
  res : W.heap[w.heap.size]? = some (.cells #[.slice none 0 0] 44 (0, 0))
  f : W.heap[w.heap.size + 1]? = some (.cells #[nv] 44 (0, 0))
  row : FlR W (w.heap.size + 2) nv xs
  pls : xs.map Nde.pl = vs
  po : ∀ x, x ∈ xs → ∀ b off, x.po = some ⟨b, off, none⟩ → w.heap.size + 2 ≤ b
  strs : StrsAt W (some ⟨b, 0, none⟩) ls.length ls
  blk : ∃ c, W.heap[b]? = some (.cells c 9 (0, 0))
  bge : w.heap.size + 2 ≤ b
theorem RrW.below {w W W' : World} {b : Nat} {ls : List ByteArray} {vs : List Ndv} {nv : Value} {xs : List Nde} (h : RrW w b ls vs nv xs W) (hb : Below W.heap.size W W') : RrW w b ls vs nv xs W' := by
  obtain ⟨c, hc⟩ := h.blk
  exact ⟨h.low.trans (hb.mono h.low.size), blk_below hb h.res (blk_lt h.res), blk_below hb h.f (blk_lt h.f), h.row.below hb, h.pls, h.po, h.strs.low hb, ⟨c, blk_below hb hc (blk_lt hc)⟩, h.bge⟩
def RreadPost (s : ByteArray) (w : World) (e : Ending) (w' : World) : Prop :=
  ∃ nv xs, e = .returned (.tuple #[.agg #[nv], .int .i64 (readOf s).2.1, .int .i64 (readOf s).2.2]) ∧ Below w.heap.size w w' ∧ FlR w' w.heap.size nv xs ∧ ((readOf s).2.1 = 0 → xs.map Nde.pl = (readOf s).1)
theorem flr_nil (w : World) (B : Nat) : FlR w B (.slice none 0 0) [] := ⟨⟨rfl, .inl ⟨rfl, rfl⟩⟩, fun x h => (by cases h)⟩
theorem flr_set {W : World} {B b o : Nat} {nv v : Value} {xs : List Nde} {c : Array Value} {T : TypeId} {fr : Nat × Nat} (h : FlR W B nv xs) (hb : W.heap[b]? = some (.cells c T fr)) (h48 : T ≠ 48) (h9 : T ≠ 9) : FlR (W.setCell ⟨b, o, none⟩ v) B nv xs := by
  have key : ∀ (k : Nat) (c' : Array Value) (T' : TypeId) (fr' : Nat × Nat), T' ≠ T → W.heap[k]? = some (.cells c' T' fr') → (W.setCell ⟨b, o, none⟩ v).heap[k]? = some (.cells c' T' fr') := fun k c' T' fr' hne hk =>
    blk_set_other (fun e => by rw [e, hb] at hk; injection hk with hk; injection hk with _ hk; exact hne hk.symm) _ hk
  refine ⟨⟨h.row.1, ?_⟩, fun x hx => ?_⟩
  · rcases h.row.2 with h | ⟨g, cap, cur, hv, hgb, hh, hr⟩
    · exact .inl h
    · exact .inr ⟨g, cap, cur, hv, hgb, key _ _ _ _ (fun e => h48 e.symm) hh, hr⟩
  · have hk : ∀ b' off, x.po = some ⟨b', off, none⟩ → ∃ c, W.heap[b']? = some (.cells c 9 (0, 0)) ∧ (W.setCell ⟨b, o, none⟩ v).heap[b']? = some (.cells c 9 (0, 0)) := fun b' off e => by
      obtain ⟨c, hc⟩ := (h.ok x hx).2 b' off e
      exact ⟨c, hc, key _ _ _ _ (fun e => h9 e.symm) hc⟩
    refine ⟨⟨strs_keep (h.ok x hx).1.parts (by simp [World.setCell]) fun b' off e _ => ?_, (h.ok x hx).1.ple⟩, fun b' off e => ?_⟩
    · obtain ⟨c, h1, h2⟩ := hk b' off e
      rw [h1, h2]
    · obtain ⟨c, _, h2⟩ := hk b' off e
      exact ⟨c, h2⟩
theorem flr_mono {w : World} {B B' : Nat} {nv : Value} {xs : List Nde} (h : FlR w B nv xs) (hb : B' ≤ B) : FlR w B' nv xs := ⟨owns_mono h.row hb, h.ok⟩
theorem rread_long (s : ByteArray) (w : World) (hs : 4096 < s.size) : Calls Tryd.prog 31 #[.string s] w (RreadPost s w) := by
  have hr : readOf s = ([], 2, 0) := if_pos hs
  have d1 : decide ((4096 : Int) < s.size) = true := decide_eq_true (by omega)
  have d1' : decide (4096 < s.size) = true := decide_eq_true (by omega)
  replace hr := Lib.hid hr
  go_enter Tryd.func31, Tryd.ntmps31
  go_wp2
  refine bodyPost_ret (v := .tuple #[.agg #[.slice none 0 0], .int .i64 2, .int .i64 0]) (by simp [results, Tryd.results31, go_sem]) rfl ?_
  refine ⟨.slice none 0 0, [], by rw [hr.out], ?_, flr_nil _ _, fun h => by rw [hr.out] at h; cases h⟩
  exact ((Below.refl _ _).alloc (Nat.le_refl _) _).alloc (by simp) _
theorem idxN_ge {ns : List ByteArray} {s : ByteArray} (h : s ∈ ns) (k : Nat) : 0 ≤ idxN ns s k := by
  induction ns generalizing k with
  | nil => cases h
  | cons n ns ih =>
    simp only [idxN]
    split
    · omega
    · next hne =>
      refine ih ?_ _
      rcases List.mem_cons.1 h with h | h
      · exact absurd h.symm hne
      · exact h
theorem rr_put {w W4 w9 : World} {b m : Nat} {ls : List ByteArray} {vs : List Ndv} {nv v1 : Value} {xs : List Nde} {x : Nde} (h : RrW w b ls vs nv xs W4) (hx : x.ok W4) (hp : PartsAt W4 x) (hpo : ∀ b off, x.po = some ⟨b, off, none⟩ → w.heap.size + 2 ≤ b) (hm : m = xs.length)
    (hg : (W4.alloc (.cells x.cells 48 (0, 0))).grownBy w9 nv.ownBlock) (ho : w9.ownsRow (w.heap.size + 2) 48 6 v1 (m + 1) (flatv Nde.cells xs ++ x.cells.toList)) : RrW w b ls (vs ++ [x.pl]) v1 (xs ++ [x]) (w9.setCell ⟨w.heap.size + 1, 0, none⟩ v1) := by
  have hs9 : W4.heap.size + 1 ≤ w9.heap.size := by have := hg.size; rwa [World.size_alloc] at this
  have hown : ∀ k, nv.ownBlock = some k → w.heap.size + 2 ≤ k ∧ ∃ cur, W4.heap[k]? = some (.cells cur 48 (0, 0)) := fun k e => ⟨(h.row.row.lt k e).1, owns_block h.row.row e⟩
  have key9 : ∀ (k : Nat) (c : Array Value) (T : TypeId) (fr : Nat × Nat), T ≠ 48 → W4.heap[k]? = some (.cells c T fr) → w9.heap[k]? = some (.cells c T fr) := fun k c T fr hT hk =>
    (hg.block k (by have := blk_lt hk; rw [World.size_alloc]; omega) (fun e => by
      obtain ⟨_, cur, e2⟩ := hown k e.symm
      rw [hk] at e2
      injection e2 with e2
      injection e2 with _ e2
      exact hT e2)).trans (blk_old _ hk)
  have hf9 := key9 _ _ _ _ (by decide) h.f
  have key : ∀ (k : Nat) (c : Array Value) (T : TypeId) (fr : Nat × Nat), T ≠ 48 → k ≠ w.heap.size + 1 → W4.heap[k]? = some (.cells c T fr) → (w9.setCell ⟨w.heap.size + 1, 0, none⟩ v1).heap[k]? = some (.cells c T fr) := fun k c T fr hT hne hk => blk_set_other hne _ (key9 k c T fr hT hk)
  have hsz : W4.heap.size ≤ (w9.setCell ⟨w.heap.size + 1, 0, none⟩ v1).heap.size := by
    have : (w9.setCell ⟨w.heap.size + 1, 0, none⟩ v1).heap.size = w9.heap.size := by simp [World.setCell]
    omega
  have hpart : ∀ y : Nde, y.ok W4 → PartsAt W4 y → (∀ b off, y.po = some ⟨b, off, none⟩ → w.heap.size + 2 ≤ b) → y.ok (w9.setCell ⟨w.heap.size + 1, 0, none⟩ v1) ∧ PartsAt (w9.setCell ⟨w.heap.size + 1, 0, none⟩ v1) y := fun y hy hyp hyb => by
    have k2 : ∀ b off, y.po = some ⟨b, off, none⟩ → ∃ c, W4.heap[b]? = some (.cells c 9 (0, 0)) ∧ (w9.setCell ⟨w.heap.size + 1, 0, none⟩ v1).heap[b]? = some (.cells c 9 (0, 0)) := fun b off e => by
      obtain ⟨c, hc⟩ := hyp b off e
      have := hyb b off e
      exact ⟨c, hc, key b _ _ _ (by decide) (by omega) hc⟩
    refine ⟨⟨strs_keep hy.parts hsz fun b off e _ => ?_, hy.ple⟩, fun b off e => ?_⟩
    · obtain ⟨c, h1, h2⟩ := k2 b off e
      rw [h1, h2]
    · obtain ⟨c, _, h2⟩ := k2 b off e
      exact ⟨c, h2⟩
  have hlow9 : Below w.heap.size w w9 := (h.low.alloc h.low.size _).grown hg (by have := h.low.size; rw [World.size_alloc]; omega) (fun k e => by have := (hown k e).1; omega)
  obtain ⟨c, hc⟩ := h.blk
  have hbk := key b _ _ _ (by decide) (by have := h.bge; omega) hc
  refine ⟨hlow9.setCell (Nat.le_succ _) _, key _ _ _ _ (by decide) (by omega) h.res, by rw [blk_set hf9]; rfl, ⟨?_, fun y hy => ?_⟩, by rw [List.map_append, h.pls]; rfl, fun y hy => ?_, ?_, ⟨c, hbk⟩, h.bge⟩
  · rw [flatv_append, flatv_one, List.length_append, ← hm]
    exact owns_setT ho hf9 (by decide) 0 v1
  · rcases List.mem_append.1 hy with hh | hh
    · exact hpart y (h.row.ok y hh).1 (h.row.ok y hh).2 (h.po y hh)
    · have : y = x := by simpa using hh
      subst this
      exact hpart y hx hp hpo
  · rcases List.mem_append.1 hy with hh | hh
    · exact h.po y hh
    · have : y = x := by simpa using hh
      subst this
      exact hpo
  · exact strs_keep h.strs hsz fun b' off e _ => by cases e; rw [hbk, hc]
set_option maxRecDepth 100000 in
set_option maxHeartbeats 6400000 in
theorem rread_short (s : ByteArray) (w : World) (hs : ¬ 4096 < s.size) : Calls Tryd.prog 31 #[.string s] w (RreadPost s w) := by
  have hr : readOf s = readTo [] (linesOf s) := if_neg hs
  have d1 : decide ((4096 : Int) < s.size) = false := decide_eq_false (by omega)
  have d1' : decide (4096 < s.size) = false := decide_eq_false (by omega)
  obtain ⟨i48, hi48, hz48, hz481, hz482⟩ := info_parts info48
  obtain ⟨W0, hW0⟩ : ∃ W0, W0 = (w.alloc (.cells #[.slice none 0 0] 44 (0, 0))).alloc (.cells #[.slice none 0 0] 44 (0, 0)) := ⟨_, rfl⟩
  have hb0 : Below w.heap.size w W0 := by rw [hW0]; exact ((Below.refl _ _).alloc (Nat.le_refl _) _).alloc (by simp) _
  have hr0 : W0.heap[w.heap.size]? = some (.cells #[.slice none 0 0] 44 (0, 0)) := by rw [hW0]; exact blk_old _ (blk_new _ _)
  have hr1 : W0.heap[w.heap.size + 1]? = some (.cells #[.slice none 0 0] 44 (0, 0)) := by rw [hW0]; exact blk_at _ _ (by simp)
  have hz0 : W0.heap.size = w.heap.size + 2 := by rw [hW0]; simp
  have hct := rcut_any s 10 W0 (by omega)
  have h10 : (((10 : UInt8).toNat : Nat) : Int) = 10 := rfl
  rw [h10] at hct
  clear h10
  rw [hW0] at hct
  have hW0' := Lib.hid hW0
  clear hW0
  replace hb0 := Lib.hid hb0; replace hr0 := Lib.hid hr0; replace hr1 := Lib.hid hr1; replace hct := Lib.hid hct; replace hr := Lib.hid hr; replace hz0 := Lib.hid hz0
  go_enter Tryd.func31, Tryd.ntmps31
  go_wp2_with fail
  refine hct.out.mono ?_
  rintro e w1 ⟨so, n, c, rfl, hnc, hst, hsob, hb1⟩
  rw [← hW0'.out] at hb1 hsob
  have hlen := hst.len
  have hpos : 1 ≤ n := by rw [← hlen, List.length_map]; exact cutAll_pos _ _
  obtain ⟨y0, hy0⟩ := hst.get (i := 0) (by omega)
  obtain ⟨b, off, rfl, hbl, _⟩ := hst.cell 0 y0 hy0
  obtain ⟨rfl, hbge, hblk⟩ := hsob b off rfl
  have hlow1 : Below w.heap.size w w1 := hb0.out.trans (hb1.mono hb0.out.size)
  have hmx := hst.max
  have hR0 : RrW w b ((cutAll 10 s.data.toList).map ofL) (rdK s 0).1 (.slice none 0 0) [] w1 :=
    ⟨hlow1, blk_below hb1 hr0.out (blk_lt hr0.out), blk_below hb1 hr1.out (blk_lt hr1.out), flr_nil _ _, rfl, fun x h => (by cases h), by rw [hlen]; exact hst, hblk, by have := hz0.out; omega⟩
  replace hst := Lib.hid hst; replace hsob := Lib.hid hsob; replace hb1 := Lib.hid hb1; replace hlen := Lib.hid hlen; replace hlow1 := Lib.hid hlow1; replace hblk := Lib.hid hblk; replace hy0 := Lib.hid hy0; replace hR0 := Lib.hid hR0
  go_wp2
  go_loopw [7, 8, 9] (fun i _ _ wr => ∃ (k : Nat) (nv : Value) (xs : List Nde), i = .int .i64 k ∧ k ≤ n ∧ Hid ((rdK s k).2.1 = 0) ∧ Hid (RrW w b ((cutAll 10 s.data.toList).map ofL) (rdK s k).1 nv xs wr)) (fun i _ _ _ => n - (intOf i).toNat)
  case atStart => exact ⟨0, .slice none 0 0, [], rfl, by omega, rfl, hR0.out⟩
  case round =>
    obtain ⟨k, nv, xs, rfl, hk, hok, hM⟩ := hrel
    by_cases hc : k < n
    · have hc1 : (k : Int) < n := by omega
      have hk0 : (0 : Int) ≤ (k : Int) := by omega
      have hln := hlen.out
      rw [List.length_map] at hln
      obtain ⟨p, hp⟩ : ∃ p, (cutAll 10 s.data.toList)[k]? = some p := ⟨_, List.getElem?_eq_getElem (by omega)⟩
      have hpm : ((cutAll 10 s.data.toList).map ofL)[k]? = some (ofL p) := by rw [List.getElem?_map, hp]; rfl
      obtain ⟨b', off', e', hlt, a0⟩ := hM.out.strs.cell k _ hpm
      cases e'
      rw [Nat.zero_add] at a0
      have hps : p.length ≤ s.size := by have := cutAll_le (List.mem_of_getElem? hp); rw [← toL_len s]; exact this
      replace hln := Lib.hid hln; replace hp := Lib.hid hp; replace hpm := Lib.hid hpm
      by_cases hpe : p = []
      · have hsy : saysB p = false := by rw [hpe]; rfl
        have em : (ofL p).toList.isEmpty = true := by rw [ofL_emp, hpe]; rfl
        replace hsy := Lib.hid hsy; replace hpe := Lib.hid hpe
        have hR2 : RrW w b ((cutAll 10 s.data.toList).map ofL) (rdK s (k + 1)).1 nv xs wr := by rw [rdK_skip hp.out hsy.out]; exact hM.out
        have hok2 : (rdK s (k + 1)).2.1 = 0 := by rw [rdK_skip hp.out hsy.out]; exact hok.out
        replace hR2 := Lib.hid hR2; replace hok2 := Lib.hid hok2
        go_wp2
        go_roundw
        case rel => exact ⟨k + 1, nv, xs, by go_num, by omega, hok2.out, hR2.out⟩
        case measure => simp [intOf]; omega
      obtain ⟨x, hx⟩ : ∃ x, x = chz (ofL p) 0 := ⟨_, rfl⟩
      have hpl : 0 < p.length := List.length_pos_iff.2 hpe
      have em : (ofL p).toList.isEmpty = false := by rw [ofL_emp]; cases p with | nil => exact absurd rfl hpe | cons c a => rfl
      have hi0 : ∀ w, (Instr.index 9 (.string (ofL p)) (.int .i64 0)).run Tryd.prog w = .ok (.int .u8 x) w := fun w => by
        rw [hx]; exact index_at Tryd.underlying9 (ofL p) 0 0 rfl (by rw [ofL_size]; exact hpl) w
      have hsy0 : saysB p = decide (x ≠ 35) := by
        rw [hx]
        cases p with
        | nil => exact absurd rfl hpe
        | cons c a =>
          have hch : chz (ofL (c :: a)) 0 = (c.toNat : Int) := by unfold chz; rw [ofL_toL]; rfl
          rw [hch]
          unfold saysB
          refine decide_eq_decide.2 (not_congr ⟨fun h => by rw [h]; rfl, fun h => UInt8.toNat_inj.1 (by have : (35 : UInt8).toNat = 35 := rfl; omega)⟩)
      have hi0' := Lib.hid hi0
      clear hi0
      replace hpe := Lib.hid hpe; replace hx := Lib.hid hx; replace hpl := Lib.hid hpl
      by_cases h35 : x = 35
      · have hsy : saysB p = false := by rw [hsy0, decide_eq_false (by simp [h35])]
        have d35 : (x == 35) = true := by simp [h35]
        have hi0 := hi0'.out
        replace hsy := Lib.hid hsy; replace h35 := Lib.hid h35; replace hsy0 := Lib.hid hsy0
        have hR2 : RrW w b ((cutAll 10 s.data.toList).map ofL) (rdK s (k + 1)).1 nv xs wr := by rw [rdK_skip hp.out hsy.out]; exact hM.out
        have hok2 : (rdK s (k + 1)).2.1 = 0 := by rw [rdK_skip hp.out hsy.out]; exact hok.out
        replace hR2 := Lib.hid hR2; replace hok2 := Lib.hid hok2
        go_wp2
        go_roundw
        case rel => exact ⟨k + 1, nv, xs, by go_num, by omega, hok2.out, hR2.out⟩
        case measure => simp [intOf]; omega
      have hsy : saysB p = true := by rw [hsy0, decide_eq_true h35]
      have d35 : (x == 35) = false := by simp [h35]
      have hi0 := hi0'.out
      have hline := rdK_line hp.out hsy hok.out
      have hnode := rnode_any (ofL p) wr (by rw [ofL_size]; omega)
      replace hsy := Lib.hid hsy; replace h35 := Lib.hid h35; replace hsy0 := Lib.hid hsy0; replace hline := Lib.hid hline; replace hnode := Lib.hid hnode
      go_wp2_with fail
      refine hnode.out.mono ?_
      rintro e w2 ⟨x5, r, rfl, hxok, hlow, hpo, hcase⟩
      have hM2 := hM.out.below hlow
      clear hi0
      have hgood : FltOk (rdK s k).1 := readTo_good _ _ fltOk_nil
      rcases hcase with ⟨hnone, rfl, rfl⟩ | ⟨hsome, rfl⟩
      · have hl2 : rdK s (k + 1) = ((rdK s k).1, 50, (k : Int) + 1) := by rw [hline.out, readTo_bad hnone]
        have hfin : readOf s = ((rdK s k).1, 50, (k : Int) + 1) := by rw [hr.out, rdK_stop (k := k + 1) (by rw [hl2]; show (50 : Int) ≠ 0; decide), hl2]
        have r0 : w2.cell? ⟨w.heap.size, 0, none⟩ = some (.slice none 0 0) := blk_cell hM2.res 0
        have fr := blk_free hM2.res
        have hlt2 := blk_lt hM2.res
        have hlowE : Below w.heap.size w ((w2.setCell ⟨w.heap.size, 0, none⟩ (.slice none 0 0)).alloc (.cells Nde.zero.cells 48 (0, 0))) := (hM2.low.setCell (Nat.le_refl _) _).alloc (hM2.low.setCell (Nat.le_refl _) _).size _
        have rE : ((w2.setCell ⟨w.heap.size, 0, none⟩ (.slice none 0 0)).alloc (.cells Nde.zero.cells 48 (0, 0))).cell? ⟨w.heap.size, 0, none⟩ = some (.slice none 0 0) := blk_cell (blk_old _ (blk_set hM2.res 0 (.slice none 0 0))) 0
        have rE' := Lib.hid rE
        clear rE
        replace hM2 := Lib.hid hM2; replace hlow := Lib.hid hlow; replace hpo := Lib.hid hpo; replace hxok := Lib.hid hxok; replace hnone := Lib.hid hnone; replace hl2 := Lib.hid hl2; replace hfin := Lib.hid hfin; replace hgood := Lib.hid hgood; replace hlowE := Lib.hid hlowE
        go_wp2
        try rw [Exit.noGoto_ret]
        have rE := rE'.out
        refine bodyPost_ret (v := .tuple #[.agg #[.slice none 0 0], .int .i64 50, .int .i64 ((k : Int) + 1)]) (by simp [results, Tryd.results31, go_sem, rE]) rfl ?_
        refine ⟨.slice none 0 0, [], by rw [hfin.out], hlowE.out, flr_nil _ _, fun h => ?_⟩
        rw [hfin.out] at h
        exact absurd h (by show (50 : Int) ≠ 0; decide)
      · have hxln : xs.length ≤ 16 := by have := hgood.len; rw [← hM2.pls, List.length_map] at this; exact this
        have hnames : xs.map Nde.name = (rdK s k).1.map Ndv.name := by rw [← hM2.pls, List.map_map]; rfl
        have hxsl : xs.length = (rdK s k).1.length := by rw [← hM2.pls, List.length_map]
        obtain ⟨W3, hW3⟩ : ∃ W3, W3 = w2.alloc (.cells x5.cells 48 (0, 0)) := ⟨_, rfl⟩
        have hlow3 : Below w2.heap.size w2 W3 := by rw [hW3]; exact (Below.refl _ _).alloc (Nat.le_refl _) _
        have hM3 := hM2.below hlow3
        have hok3 := hxok.low hlow3
        have hpa3 : PartsAt W3 x5 := fun b off e => by
          obtain ⟨_, c, hc⟩ := hpo b off e
          exact ⟨c, blk_below hlow3 hc (blk_lt hc)⟩
        have hpo2 : ∀ b off, x5.po = some ⟨b, off, none⟩ → w.heap.size + 2 ≤ b := fun b off e => by
          have := (hpo b off e).1
          have := hM.out.low.size
          have := blk_lt hM.out.f
          omega
        have hpn := hok3.parts.len
        have hxb : W3.heap[w2.heap.size]? = some (.cells x5.cells 48 (0, 0)) := by rw [hW3]; exact blk_new _ _
        have hidx := ridx_any W3 (w.heap.size + 2) nv xs x5.name hM3.row (by omega)
        have f1 : W3.cell? ⟨w.heap.size + 1, 0, none⟩ = some nv := blk_cell hM3.f 0
        have z0 : W3.cell? ⟨w2.heap.size, 0, none⟩ = some (.string x5.name) := blk_cell hxb 0
        obtain ⟨E, hE⟩ : ∃ E, E = putE ((rdK s k).1.map Ndv.name) (rdK s k).1.length x5.name x5.parts := ⟨_, rfl⟩
        have hstop : E ≠ 0 → readOf s = ((rdK s k).1, E, (k : Int) + 1) := fun hne => by
          have hl2 : rdK s (k + 1) = ((rdK s k).1, E, (k : Int) + 1) := by
            rw [hline.out, readTo_not hsome (by rw [hE] at hne; exact hne), hE]; rfl
          rw [hr.out, rdK_stop (k := k + 1) (by rw [hl2]; exact hne), hl2]
        obtain ⟨I, hI⟩ : ∃ I, I = idxN (xs.map Nde.name) x5.name 0 := ⟨_, rfl⟩
        rw [← hI] at hidx
        obtain ⟨nm, ⟨ca, cb, cc, cd⟩, po, pn, pc, ps⟩ := x5
        rw [hW3] at hidx f1 z0
        have hW3' := Lib.hid hW3
        clear hW3
        replace hM2 := Lib.hid hM2; replace hlow := Lib.hid hlow; replace hpo := Lib.hid hpo; replace hxok := Lib.hid hxok; replace hgood := Lib.hid hgood; replace hxsl := Lib.hid hxsl; replace hnames := Lib.hid hnames; replace hlow3 := Lib.hid hlow3; replace hM3 := Lib.hid hM3; replace hok3 := Lib.hid hok3; replace hpa3 := Lib.hid hpa3; replace hpo2 := Lib.hid hpo2; replace hxb := Lib.hid hxb; replace hidx := Lib.hid hidx; replace hE := Lib.hid hE; replace hstop := Lib.hid hstop; replace hI := Lib.hid hI; replace hsome := Lib.hid hsome; replace hpn := Lib.hid hpn
        go_wp2_with fail
        refine hidx.out.mono ?_
        rintro e w4 ⟨rfl, hb4⟩
        rw [← hW3'.out] at hb4
        have hM4 := hM3.out.below hb4
        have r0 : w4.cell? ⟨w.heap.size, 0, none⟩ = some (.slice none 0 0) := blk_cell hM4.res 0
        have fr := blk_free hM4.res
        clear f1 z0
        by_cases hmem : nm ∈ xs.map Nde.name
        · have hI0 : 0 ≤ I := by rw [hI.out]; exact idxN_ge hmem 0
          have dI : decide (0 ≤ I) = true := decide_eq_true hI0
          have hE51 : E = 51 := by rw [hE.out]; unfold putE; rw [if_pos (memB_iff.2 (by rw [← hnames.out]; exact hmem))]
          have hfin := hstop.out (by rw [hE51]; decide)
          rw [hE51] at hfin
          have hlowE : Below w.heap.size w (w4.setCell ⟨w.heap.size, 0, none⟩ (.slice none 0 0)) := hM4.low.setCell (Nat.le_refl _) _
          replace hM4 := Lib.hid hM4; replace hb4 := Lib.hid hb4; replace hmem := Lib.hid hmem; replace hE51 := Lib.hid hE51; replace hfin := Lib.hid hfin; replace hlowE := Lib.hid hlowE; replace hI0 := Lib.hid hI0
          go_wp2
          try rw [Exit.noGoto_ret]
          refine bodyPost_ret (v := .tuple #[.agg #[.slice none 0 0], .int .i64 51, .int .i64 ((k : Int) + 1)]) (by simp [results, Tryd.results31, go_sem, r0]) rfl ?_
          refine ⟨.slice none 0 0, [], by rw [hfin.out], hlowE.out, flr_nil _ _, fun h => ?_⟩
          rw [hfin.out] at h
          exact absurd h (by show (51 : Int) ≠ 0; decide)
        have hI1 : I = -1 := by rw [hI.out]; exact idxN_no hmem 0
        have dI : decide ((0 : Int) ≤ -1) = false := by decide
        rw [hI1]
        have hxb4 := blk_below hb4 hxb.out (blk_lt hxb.out)
        have z5 : w4.cell? ⟨w2.heap.size, 5, none⟩ = some (.slice po pn pc) := blk_cell hxb4 5
        have htw := twice_any po pn pc ps w4 (hok3.out.low hb4).parts
        obtain ⟨T, hT⟩ : ∃ T, T = twiceL ps := ⟨_, rfl⟩
        unfold TwicePost at htw
        rw [← hT] at htw
        replace hM4 := Lib.hid hM4; replace hb4 := Lib.hid hb4; replace hmem := Lib.hid hmem; replace hI1 := Lib.hid hI1; replace hxb4 := Lib.hid hxb4; replace htw := Lib.hid htw; replace hT := Lib.hid hT
        go_wp2_with fail
        refine htw.out.mono ?_
        rintro e w5 ⟨rfl, hb5⟩
        have hM5 := hM4.out.below hb5
        have hxb5 := blk_below hb5 hxb4.out (blk_lt hxb4.out)
        clear r0 fr z5
        have r0 : w5.cell? ⟨w.heap.size, 0, none⟩ = some (.slice none 0 0) := blk_cell hM5.res 0
        have f1 : w5.cell? ⟨w.heap.size + 1, 0, none⟩ = some nv := blk_cell hM5.f 0
        have z0 : w5.cell? ⟨w2.heap.size, 0, none⟩ = some (.string nm) := blk_cell hxb5 0
        have z1 : w5.cell? ⟨w2.heap.size, 1, none⟩ = some (.int .i64 ca) := blk_cell hxb5 1
        have z2 : w5.cell? ⟨w2.heap.size, 2, none⟩ = some (.int .i64 cb) := blk_cell hxb5 2
        have z3 : w5.cell? ⟨w2.heap.size, 3, none⟩ = some (.int .i64 cc) := blk_cell hxb5 3
        have z4 : w5.cell? ⟨w2.heap.size, 4, none⟩ = some (.int .i64 cd) := blk_cell hxb5 4
        have z5 : w5.cell? ⟨w2.heap.size, 5, none⟩ = some (.slice po pn pc) := blk_cell hxb5 5
        have fr := blk_free hM5.res
        have ff := blk_free hM5.f
        have hnm : ¬ memB ((rdK s k).1.map Ndv.name) nm = true := fun c => hmem.out (by rw [hnames.out]; exact memB_iff.1 c)
        have hlowE : Below w.heap.size w (w5.setCell ⟨w.heap.size, 0, none⟩ (.slice none 0 0)) := hM5.low.setCell (Nat.le_refl _) _
        cases T with
        | true =>
          have hE51 : E = 51 := by rw [hE.out]; unfold putE; rw [if_neg hnm, if_pos hT.out.symm]
          have hfin := hstop.out (by rw [hE51]; decide)
          rw [hE51] at hfin
          replace hM5 := Lib.hid hM5; replace hb5 := Lib.hid hb5; replace hxb5 := Lib.hid hxb5; replace hE51 := Lib.hid hE51; replace hfin := Lib.hid hfin; replace hlowE := Lib.hid hlowE; replace hnm := Lib.hid hnm
          go_wp2
          try rw [Exit.noGoto_ret]
          refine bodyPost_ret (v := .tuple #[.agg #[.slice none 0 0], .int .i64 51, .int .i64 ((k : Int) + 1)]) (by simp [results, Tryd.results31, go_sem, r0]) rfl ?_
          refine ⟨.slice none 0 0, [], by rw [hfin.out], hlowE.out, flr_nil _ _, fun h => ?_⟩
          rw [hfin.out] at h
          exact absurd h (by show (51 : Int) ≠ 0; decide)
        | false =>
          have hln5 := flr_len hM5.row
          obtain ⟨m, hm⟩ : ∃ m, m = xs.length := ⟨_, rfl⟩
          rw [← hm] at hln5
          by_cases q1 : 16 ≤ m
          · have d5 : decide ((16 : Int) ≤ m) = true := decide_eq_true (by omega)
            have d5' : decide (16 ≤ m) = true := decide_eq_true q1
            have hE2 : E = 2 := by rw [hE.out]; unfold putE; rw [if_neg hnm, if_neg (by rw [← hT.out]; simp), if_pos (.inl (by rw [← hxsl.out, ← hm]; exact q1))]
            have hfin := hstop.out (by rw [hE2]; decide)
            rw [hE2] at hfin
            replace hM5 := Lib.hid hM5; replace hb5 := Lib.hid hb5; replace hxb5 := Lib.hid hxb5; replace hE2 := Lib.hid hE2; replace hfin := Lib.hid hfin; replace hlowE := Lib.hid hlowE; replace hnm := Lib.hid hnm; replace hm := Lib.hid hm
            go_wp2
            try rw [Exit.noGoto_ret]
            refine bodyPost_ret (v := .tuple #[.agg #[.slice none 0 0], .int .i64 2, .int .i64 ((k : Int) + 1)]) (by simp [results, Tryd.results31, go_sem, r0]) rfl ?_
            refine ⟨.slice none 0 0, [], by rw [hfin.out], hlowE.out, flr_nil _ _, fun h => ?_⟩
            rw [hfin.out] at h
            exact absurd h (by show (2 : Int) ≠ 0; decide)
          have d5 : decide ((16 : Int) ≤ m) = false := decide_eq_false (by omega)
          have d5' : decide (16 ≤ m) = false := decide_eq_false q1
          by_cases q2 : 8 < pn
          · have d6 : decide ((8 : Int) < pn) = true := decide_eq_true (by omega)
            have d6' : decide (8 < pn) = true := decide_eq_true q2
            have hE2 : E = 2 := by rw [hE.out]; unfold putE; rw [if_neg hnm, if_neg (by rw [← hT.out]; simp), if_pos (.inr (by have : ps.length = pn := hpn.out; show 8 < ps.length; omega))]
            have hfin := hstop.out (by rw [hE2]; decide)
            rw [hE2] at hfin
            replace hM5 := Lib.hid hM5; replace hb5 := Lib.hid hb5; replace hxb5 := Lib.hid hxb5; replace hE2 := Lib.hid hE2; replace hfin := Lib.hid hfin; replace hlowE := Lib.hid hlowE; replace hnm := Lib.hid hnm; replace hm := Lib.hid hm
            go_wp2
            try rw [Exit.noGoto_ret]
            refine bodyPost_ret (v := .tuple #[.agg #[.slice none 0 0], .int .i64 2, .int .i64 ((k : Int) + 1)]) (by simp [results, Tryd.results31, go_sem, r0]) rfl ?_
            refine ⟨.slice none 0 0, [], by rw [hfin.out], hlowE.out, flr_nil _ _, fun h => ?_⟩
            rw [hfin.out] at h
            exact absurd h (by show (2 : Int) ≠ 0; decide)
          have d6 : decide ((8 : Int) < pn) = false := decide_eq_false (by omega)
          have d6' : decide (8 < pn) = false := decide_eq_false q2
          have hE0 : E = 0 := by rw [hE.out]; unfold putE; rw [if_neg hnm, if_neg (by rw [← hT.out]; simp), if_neg (by have : ps.length = pn := hpn.out; have := hxsl.out; show ¬ (16 ≤ (rdK s k).1.length ∨ 8 < ps.length); omega)]
          have hl2 : rdK s (k + 1) = ((rdK s k).1 ++ [Nde.pl ⟨nm, ⟨ca, cb, cc, cd⟩, po, pn, pc, ps⟩], 0, 0) := by rw [hline.out, readTo_put hsome.out (by rw [hE.out] at hE0; exact hE0)]
          have hxok5 := (hok3.out.low hb4.out).low hb5
          have hpa5 : PartsAt w5 ⟨nm, ⟨ca, cb, cc, cd⟩, po, pn, pc, ps⟩ := fun b off e => by
            obtain ⟨c, hc⟩ := hpa3.out b off e
            have h4 := blk_below hb4.out hc (blk_lt hc)
            exact ⟨c, blk_below hb5 h4 (blk_lt h4)⟩
          have hownA : (w5.alloc (.cells (⟨nm, ⟨ca, cb, cc, cd⟩, po, pn, pc, ps⟩ : Nde).cells 48 (0, 0))).ownsRow (w.heap.size + 2) 48 6 nv m (flatv Nde.cells xs) := by rw [hm]; exact hM5.row.row.alloc (.cells (⟨nm, ⟨ca, cb, cc, cd⟩, po, pn, pc, ps⟩ : Nde).cells 48 (0, 0))
          have hnews : ∀ j u, (⟨nm, ⟨ca, cb, cc, cd⟩, po, pn, pc, ps⟩ : Nde).cells.toList[j]? = some u → (w5.alloc (.cells (⟨nm, ⟨ca, cb, cc, cd⟩, po, pn, pc, ps⟩ : Nde).cells 48 (0, 0))).cell? ((⟨w5.heap.size, 0, none⟩ : Addr).add j) = some u := nde_new w5 _
          have hone := nde_one (⟨nm, ⟨ca, cb, cc, cd⟩, po, pn, pc, ps⟩ : Nde)
          have h63 := maxLen_ge (n := m) (by omega)
          have hby : (m + 1) * 72 ≤ 140737488355328 := by omega
          have hbas : w.heap.size + 2 ≤ (w5.alloc (.cells (⟨nm, ⟨ca, cb, cc, cd⟩, po, pn, pc, ps⟩ : Nde).cells 48 (0, 0))).heap.size := by
            have := blk_lt hM5.f
            rw [World.size_alloc]; omega
          have hok2 : (rdK s (k + 1)).2.1 = 0 := by rw [hl2]
          have hlt5 := blk_lt hM5.f
          have hfree : ∀ w9 : World, (w5.alloc (.cells (⟨nm, ⟨ca, cb, cc, cd⟩, po, pn, pc, ps⟩ : Nde).cells 48 (0, 0))).grownBy w9 nv.ownBlock → w9.heap[w.heap.size + 1]? = some (.cells #[nv] 44 (0, 0)) := fun w9 hg => by
            refine (hg.block _ (by rw [World.size_alloc]; omega) (fun e => ?_)).trans (blk_old _ hM5.f)
            have := (hM5.row.row.lt _ e.symm).1
            omega
          replace hM5 := Lib.hid hM5; replace hb5 := Lib.hid hb5; replace hxb5 := Lib.hid hxb5; replace hE0 := Lib.hid hE0; replace hl2 := Lib.hid hl2; replace hlowE := Lib.hid hlowE; replace hnm := Lib.hid hnm; replace hm := Lib.hid hm; replace hxok5 := Lib.hid hxok5; replace hpa5 := Lib.hid hpa5; replace hownA := Lib.hid hownA; replace hnews := Lib.hid hnews; replace hone := Lib.hid hone; replace h63 := Lib.hid h63; replace hby := Lib.hid hby; replace hbas := Lib.hid hbas; replace hok2 := Lib.hid hok2; replace hfree := Lib.hid hfree
          go_wp2_with (at_builtin; refine wpList_append_own _ rfl _ _ 42 rfl (w.heap.size + 2) 48 i48 _ 6 72 Tryd.underlying42 hi48 hz48 hz481 hz482 rfl six_pos nv m _ rfl hownA.out ⟨w5.heap.size, 0, none⟩ 1 1 (⟨nm, ⟨ca, cb, cc, cd⟩, po, pn, pc, ps⟩ : Nde).cells.toList rfl rfl hnews.out hone.out h63.out hby.out hbas.out ?_; intro v1 w9 hown9 hgrow9 _; obtain ⟨g9, cap9, rfl⟩ := Joins.ownsRow_form hown9 (Nat.succ_pos _); have q9 := hfree.out w9 hgrow9; have f9 := blk_cell q9 0; have z9 := blk_free q9 0; simp at f9; replace q9 := Lib.hid q9; replace hown9 := Lib.hid hown9; replace hgrow9 := Lib.hid hgrow9)
          have hR9 := rr_put hM5.out hxok5.out hpa5.out hpo2.out hm.out hgrow9.out hown9.out
          have hR9' : RrW w b ((cutAll 10 s.data.toList).map ofL) (rdK s (k + 1)).1 (.slice (some ⟨g9, 0, none⟩) (m + 1) cap9) (xs ++ [⟨nm, ⟨ca, cb, cc, cd⟩, po, pn, pc, ps⟩]) (w9.setCell ⟨w.heap.size + 1, 0, none⟩ (.slice (some ⟨g9, 0, none⟩) (m + 1) cap9)) := by rw [hl2.out]; exact hR9
          clear hR9
          replace hR9' := Lib.hid hR9'
          go_roundw
          case rel => exact ⟨k + 1, (.slice (some ⟨g9, 0, none⟩) (m + 1) cap9), xs ++ [(⟨nm, ⟨ca, cb, cc, cd⟩, po, pn, pc, ps⟩ : Nde)], by go_num, by omega, hok2.out, hR9'.out⟩
          case measure => simp [intOf]; omega
    · have hc1 : ¬ (k : Int) < n := by omega
      have hln := hlen.out
      rw [List.length_map] at hln
      have hend : readOf s = rdK s k := by rw [hr.out, rdK_end (k := k) (by omega)]
      have hz : (rdK s k).2.2 = 0 := readTo_zero _ _ hok.out
      have r0 : wr.cell? ⟨w.heap.size, 0, none⟩ = some (.slice none 0 0) := blk_cell hM.out.res 0
      have f1 : wr.cell? ⟨w.heap.size + 1, 0, none⟩ = some nv := blk_cell hM.out.f 0
      have fr := blk_free hM.out.res
      have hlowE : Below w.heap.size w (wr.setCell ⟨w.heap.size, 0, none⟩ nv) := hM.out.low.setCell (Nat.le_refl _) _
      have hrowE : FlR (wr.setCell ⟨w.heap.size, 0, none⟩ nv) w.heap.size nv xs := flr_set (flr_mono hM.out.row (by omega)) hM.out.res (by decide) (by decide)
      replace hln := Lib.hid hln; replace hend := Lib.hid hend; replace hz := Lib.hid hz; replace hlowE := Lib.hid hlowE; replace hrowE := Lib.hid hrowE
      have hfm := Joins.ownsRow_forms hM.out.row.row
      have hpls := hM.out.pls
      replace hpls := Lib.hid hpls; replace hM := Lib.hid hM
      rcases hfm with ⟨rfl, h0⟩ | ⟨g, cap, rfl⟩
      all_goals
        try (replace h0 := Lib.hid h0)
        go_wp2
        refine bodyPost_ret (v := .tuple #[.agg #[_], .int .i64 0, .int .i64 0]) (by simp [results, Tryd.results31, go_sem, r0]; rfl) rfl ?_
        exact ⟨_, xs, by rw [hend.out, hok.out, hz.out], hlowE.out, hrowE.out, fun _ => by rw [hend.out]; exact hpls.out⟩
theorem rread_any (s : ByteArray) (w : World) : Calls Tryd.prog 31 #[.string s] w (RreadPost s w) := by
  by_cases hs : 4096 < s.size
  · exact rread_long s w hs
  · exact rread_short s w hs
end Go.Proofs.YteoihdkaoipocaaDoor

/- corveelaw05.same: a fleet is what the document's is. -/
namespace Go.Proofs.YteoihdkaoipocaaDoor
open Go.RowKit Go.Maps Go.Shelf

/-- the document's fleet that tells these nodes -/
structure Flr (W : World) (nv : Value) (vs : List Ndv) : Prop where
  ex : ∃ B xs, FlR W B nv xs ∧ xs.map Nde.pl = vs
theorem Flr.below {w w' : World} {nv : Value} {vs : List Ndv} (h : Flr w nv vs) (hb : Below w.heap.size w w') : Flr w' nv vs := by
  obtain ⟨B, xs, h1, h2⟩ := h.ex
  exact ⟨B, xs, h1.below hb, h2⟩
theorem flr_in {w : World} {nv : Value} {vs : List Ndv} (h : Flr w nv vs) (hok : FltOk vs) (p : ByteArray) : Calls Tryd.prog 86 #[.agg #[nv], .string p] w (FinPost vs p w) := by
  obtain ⟨B, xs, h1, rfl⟩ := h.ex
  have := hok.len
  rw [List.length_map] at this
  exact rin_any w B nv xs p h1 (by omega)
theorem flr_idx {w : World} {nv : Value} {vs : List Ndv} (h : Flr w nv vs) (hok : FltOk vs) (s : ByteArray) : Calls Tryd.prog 83 #[.agg #[nv], .string s] w fun e w' => e = .returned (.int .i64 (idxN (vs.map Ndv.name) s 0)) ∧ Below w.heap.size w w' := by
  obtain ⟨B, xs, h1, rfl⟩ := h.ex
  have := hok.len
  rw [List.length_map] at this
  rw [show (xs.map Nde.pl).map Ndv.name = xs.map Nde.name from by rw [List.map_map]; rfl]
  exact ridx_any w B nv xs s h1 (by omega)
theorem flr_tot {w : World} {nv : Value} {vs : List Ndv} (h : Flr w nv vs) (hok : FltOk vs) (p : ByteArray) (U : V4) (hU : U = totOf vs p) : Calls Tryd.prog 87 #[.agg #[nv], .string p] w fun e w' => e = .returned U.val ∧ Below w.heap.size w w' := by
  obtain ⟨B, xs, h1, rfl⟩ := h.ex
  have := hok.len
  rw [List.length_map] at this
  subst hU
  exact rtot_any w B nv xs p h1 (by omega) fun x hx => capOk_right (hok.all x.pl (List.mem_map_of_mem hx)).ok.cap
theorem flr_parts {w : World} {nv : Value} {vs : List Ndv} (h : Flr w nv vs) (hok : FltOk vs) : Calls Tryd.prog 85 #[.agg #[nv]] w (FpaPost vs w) := by
  obtain ⟨B, xs, h1, rfl⟩ := h.ex
  have := hok.len
  rw [List.length_map] at this
  exact rparts_any w B nv xs h1 (by omega) fun x hx => (hok.all x.pl (List.mem_map_of_mem hx)).few
theorem flt_tot {w : World} {fb mb base : Nat} {vs : List Ndv} (h : Flt w fb mb base vs) (hok : FltOk vs) (p : ByteArray) (U : V4) (hU : U = totOf vs p) : Calls Tryd.prog 60 #[.pointer (some ⟨fb, 0, none⟩), .string p] w fun e w' => e = .returned U.val ∧ Below w.heap.size w w' := by
  subst hU; exact tot_flt h hok p
theorem texts_same {ao bo : Option Addr} {n m c c' : Nat} {xs : List ByteArray} {w : World} (hx : StrsAt w ao n xs) (hy : StrsAt w bo m xs) : Calls Tryd.prog 61 #[.slice ao n c, .slice bo m c'] w fun e w' => e = .returned (.bool true) ∧ Below w.heap.size w w' :=
  (texts_any ao bo n m c c' xs xs w hx hy).mono fun e w' h => ⟨by have := h.1; rwa [decide_eq_true (show xs = xs from rfl)] at this, h.2⟩
theorem samei_same {ao bo : Option Addr} {n m c c' : Nat} {xs : List Int} {w : World} (hx : IntsAt w ao n xs) (hy : IntsAt w bo m xs) : Calls Tryd.prog 68 #[.slice ao n c, .slice bo m c'] w fun e w' => e = .returned (.bool true) ∧ Below w.heap.size w w' :=
  (samei_any ao bo n m c c' xs xs w hx hy).mono fun e w' h => ⟨by have := h.1; rwa [decide_eq_true (show xs = xs from rfl)] at this, h.2⟩
theorem nodes_same {x y : Nde} {w : World} (hx : x.ok w) (hy : y.ok w) (h : x.pl = y.pl) : Calls Tryd.prog 33 #[x.val, y.val] w fun e w' => e = .returned (.bool true) ∧ Below w.heap.size w w' :=
  (nodes_any x y w hx hy).mono fun e w' hp => ⟨by
    have h1 := hp.1
    have e1 : x.parts = y.parts := congrArg Ndv.parts h
    have e2 : x.name = y.name := congrArg Ndv.name h
    have e3 : x.cap = y.cap := congrArg Ndv.cap h
    rw [decide_eq_true e1, decide_eq_true e2, decide_eq_true e3] at h1
    exact h1, hp.2⟩
theorem flr_lens {w : World} {nv : Value} {vs : List Ndv} (h : Flr w nv vs) : ∀ ty w, (Builtin.len_ #[42] ty #[nv]).run Tryd.prog w = .ok (.int .i64 (vs.length : Int)) w := by
  obtain ⟨B, xs, h1, rfl⟩ := h.ex
  rw [List.length_map]
  exact flr_len h1
theorem flr_at {w : World} {nv : Value} {vs : List Ndv} (h : Flr w nv vs) {k : Nat} {v : Ndv} (hv : vs[k]? = some v) : ∃ (y : Nde) (g cap : Nat), y.pl = v ∧ nv = .slice (some ⟨g, 0, none⟩) vs.length cap ∧ g < w.heap.size ∧ y.ok w ∧ ∀ w', Below w.heap.size w w' → ∀ j, j < 6 → w'.cell? ⟨g, k * 6 + j, none⟩ = (y.cells)[j]? := by
  obtain ⟨B, xs, h1, rfl⟩ := h.ex
  rw [List.getElem?_map] at hv
  obtain ⟨y, hy, rfl⟩ := Option.map_eq_some_iff.1 hv
  obtain ⟨g, cap, e, hg, _, hc⟩ := h1.cell hy
  refine ⟨y, g, cap, rfl, by rw [List.length_map]; exact e, hg, (h1.ok y (List.mem_of_getElem? hy)).1, fun w' hb j hj => ?_⟩
  rw [below_cell hb hg]
  exact hc j hj
theorem flt_len {w : World} {fb mb base : Nat} {vs : List Ndv} (h : Flt w fb mb base vs) {n : Nat} (hn : n = vs.length) : Calls Tryd.prog 38 #[.pointer (some ⟨fb, 0, none⟩)] w fun e w' => e = .returned (.int .i64 (n : Int)) ∧ Below w.heap.size w w' := by
  subst hn
  exact (len_flt h).mono fun e w' hp => ⟨hp.1, by rw [hp.2]; exact Below.refl _ _⟩
theorem strs_own' {w : World} {B : Nat} {v : Value} {xs : List ByteArray} (h : OwnT w B v xs) : ∃ so n c, v = .slice so n c ∧ StrsAt w so n xs := by
  obtain ⟨so, c, e, h⟩ := strs_of_ownT h
  exact ⟨so, _, c, e, h⟩
theorem ints_own' {w : World} {B : Nat} {v : Value} {xs : List Int} (h : OwnI w B v xs) : ∃ so n c, v = .slice so n c ∧ IntsAt w so n xs := by
  obtain ⟨so, c, e, h⟩ := ints_of_own h
  exact ⟨so, _, c, e, h⟩
structure SmC (w W0 : World) (fb mb base : Nat) (nv : Value) (vs : List Ndv) (wx : World) : Prop where
  cur : Below W0.heap.size W0 wx
  f : Flt wx fb mb base vs
  r : Flr wx nv vs
structure SmG (w W0 : World) (fb mb base : Nat) (nv : Value) (vs : List Ndv) (gv : Value) (wx : World) : Prop where
  gv : gv = .bool false
  ok : SmC w W0 fb mb base nv vs wx
structure SmH (w W0 wr : World) (fb mb base : Nat) (nv : Value) (vs : List Ndv) (gv : Value) (wx : World) : Prop where
  gv : gv = .bool false
  ok : SmC w W0 fb mb base nv vs wx
  low : Below wr.heap.size wr wx
set_option maxRecDepth 100000 in
set_option maxHeartbeats 6400000 in
theorem same_any {w : World} {fb mb base : Nat} {nv : Value} {vs : List Ndv} (hF : Flt w fb mb base vs) (hok : FltOk vs) (hR : Flr w nv vs) (part : ByteArray) (hp : part.size ≤ maxLen) : Calls Tryd.prog 34 #[.pointer (some ⟨fb, 0, none⟩), .agg #[nv], .string part] w fun e w' => e = .returned (.bool true) ∧ Below w.heap.size w w' := by
  obtain ⟨W0, hW0⟩ : ∃ W0, W0 = w.alloc (.cells #[nv] 44 (0, 0)) := ⟨_, rfl⟩
  have hb0 : Below w.heap.size w W0 := by rw [hW0]; exact (Below.refl _ _).alloc (Nat.le_refl _) _
  have hbx : W0.heap[w.heap.size]? = some (.cells #[nv] 44 (0, 0)) := by rw [hW0]; exact blk_new _ _
  replace hF := hF.below hb0
  replace hR := hR.below hb0
  have hln := flr_lens hR
  obtain ⟨n, hn⟩ : ∃ n, n = vs.length := ⟨_, rfl⟩
  rw [← hn] at hln
  have hn16 : n ≤ 16 := by rw [hn]; exact hok.len
  have hnn : ((n : Int) != (n : Int)) = false := by simp
  obtain ⟨U, hU⟩ : ∃ U, U = totOf vs part := ⟨_, rfl⟩
  obtain ⟨V, hV⟩ : ∃ V, V = totOf vs ⟨#[]⟩ := ⟨_, rfl⟩
  have hEU : ∀ w, (Op.equalIn 10000 25 U.val U.val).run Tryd.prog w = .ok true w := fun w => by rw [eq25, decide_eq_true (show U = U from rfl)]
  have hEV : ∀ w, (Op.equalIn 10000 25 V.val V.val).run Tryd.prog w = .ok true w := fun w => by rw [eq25, decide_eq_true (show V = V from rfl)]
  have hS0 : ∀ W' : World, Below W0.heap.size W0 W' → W'.cell? ⟨w.heap.size, 0, none⟩ = some nv := fun W' hb => (below_cell hb (blk_lt hbx)).trans (blk_cell hbx 0)
  have f0 := hS0 W0 (Below.refl _ _)
  have hcur : Below W0.heap.size W0 W0.drew := (Below.refl _ _).drew
  replace hF := hF.below hcur
  replace hR := hR.below hcur
  replace hb0 := Lib.hid hb0; replace hbx := Lib.hid hbx; replace hF := Lib.hid hF; replace hR := Lib.hid hR; replace hn := Lib.hid hn; replace hU := Lib.hid hU; replace hV := Lib.hid hV; replace hS0 := Lib.hid hS0; replace hcur := Lib.hid hcur; replace hok := Lib.hid hok
  have hW0' := Lib.hid hW0
  clear hW0
  go_enter Tryd.func34, Tryd.ntmps34
  go_wp2_with fail
  rw [← hW0'.out]
  go_cut [51] (fun gv wx => SmG w W0 fb mb base nv vs gv wx)
  case first =>
    go_region_held3 (fun w' => w'.cell? ⟨w.heap.size, 0, none⟩ = some nv)
      (first
        | with_reducible exact hS0.out _ hcur.out)
      (first
        | (go_at_call 38
           (with_reducible refine (flt_len hF.out hn.out).mono ?_)
           rintro e wz ⟨rfl, hbz⟩
           replace hcur := Lib.hid (hcur.out.trans ((hbz).mono hcur.out.size))
           replace hF := Lib.hid (hF.out.below hbz)
           replace hR := Lib.hid (hR.out.below hbz)
           replace hbz := Lib.hid hbz)
        | (go_at_call 59
           (with_reducible refine (parts_flt hF.out hok.out).mono ?_)
           rintro e wz ⟨v59, rfl, hO59, hbz⟩
           obtain ⟨so59, n59, c59, rfl, hP⟩ := strs_own' hO59
           replace hcur := Lib.hid (hcur.out.trans ((hbz).mono hcur.out.size))
           replace hF := Lib.hid (hF.out.below hbz)
           replace hR := Lib.hid (hR.out.below hbz)
           (try replace hQ := Lib.hid (hQ.out.low hbz))
           replace hO59 := Lib.hid hO59
           replace hP := Lib.hid hP
           replace hbz := Lib.hid hbz)
        | (go_at_call 85
           (with_reducible refine (flr_parts hR.out hok.out).mono ?_)
           rintro e wz ⟨v85, rfl, hO85, hbz⟩
           obtain ⟨so85, n85, c85, rfl, hQ⟩ := strs_own' hO85
           replace hcur := Lib.hid (hcur.out.trans ((hbz).mono hcur.out.size))
           replace hF := Lib.hid (hF.out.below hbz)
           replace hR := Lib.hid (hR.out.below hbz)
           (try replace hP := Lib.hid (hP.out.low hbz))
           replace hO85 := Lib.hid hO85
           replace hQ := Lib.hid hQ
           replace hbz := Lib.hid hbz)
        | (go_at_call 61
           (with_reducible refine (texts_same hP.out hQ.out).mono ?_)
           rintro e wz ⟨rfl, hbz⟩
           replace hcur := Lib.hid (hcur.out.trans ((hbz).mono hcur.out.size))
           replace hF := Lib.hid (hF.out.below hbz)
           replace hR := Lib.hid (hR.out.below hbz)
           replace hbz := Lib.hid hbz)
        | (go_at_call 58
           (with_reducible refine (in_flt hF.out hok.out _).mono ?_)
           rintro e wz ⟨v58, rfl, hO58, hbz⟩
           obtain ⟨so58, n58, c58, rfl, hA⟩ := ints_own' hO58
           replace hcur := Lib.hid (hcur.out.trans ((hbz).mono hcur.out.size))
           replace hF := Lib.hid (hF.out.below hbz)
           replace hR := Lib.hid (hR.out.below hbz)
           (try replace hB := Lib.hid (hB.out.low hbz))
           replace hO58 := Lib.hid hO58
           replace hA := Lib.hid hA
           replace hbz := Lib.hid hbz)
        | (go_at_call 86
           (with_reducible refine (flr_in hR.out hok.out _).mono ?_)
           rintro e wz ⟨v86, rfl, hO86, hbz⟩
           obtain ⟨so86, n86, c86, rfl, hB⟩ := ints_own' hO86
           replace hcur := Lib.hid (hcur.out.trans ((hbz).mono hcur.out.size))
           replace hF := Lib.hid (hF.out.below hbz)
           replace hR := Lib.hid (hR.out.below hbz)
           (try replace hA := Lib.hid (hA.out.low hbz))
           replace hO86 := Lib.hid hO86
           replace hB := Lib.hid hB
           replace hbz := Lib.hid hbz)
        | (go_at_call 68
           (with_reducible refine (samei_same hA.out hB.out).mono ?_)
           rintro e wz ⟨rfl, hbz⟩
           replace hcur := Lib.hid (hcur.out.trans ((hbz).mono hcur.out.size))
           replace hF := Lib.hid (hF.out.below hbz)
           replace hR := Lib.hid (hR.out.below hbz)
           replace hbz := Lib.hid hbz)
        | (go_at_call 60
           (first
             | (with_reducible refine (flt_tot hF.out hok.out part U hU.out).mono ?_)
             | (with_reducible refine (flt_tot hF.out hok.out ⟨#[]⟩ V hV.out).mono ?_))
           rintro e wz ⟨rfl, hbz⟩
           replace hcur := Lib.hid (hcur.out.trans ((hbz).mono hcur.out.size))
           replace hF := Lib.hid (hF.out.below hbz)
           replace hR := Lib.hid (hR.out.below hbz)
           replace hbz := Lib.hid hbz)
        | (go_at_call 87
           (first
             | (with_reducible refine (flr_tot hR.out hok.out part U hU.out).mono ?_)
             | (with_reducible refine (flr_tot hR.out hok.out ⟨#[]⟩ V hV.out).mono ?_))
           rintro e wz ⟨rfl, hbz⟩
           replace hcur := Lib.hid (hcur.out.trans ((hbz).mono hcur.out.size))
           replace hF := Lib.hid (hF.out.below hbz)
           replace hR := Lib.hid (hR.out.below hbz)
           replace hbz := Lib.hid hbz))
    all_goals
      go_wp2_with fail
      go_meet
      exact ⟨rfl, hcur.out, hF.out, hR.out⟩
  case rest =>
    obtain ⟨rfl, hC⟩ := hcut
    clear hF hR hcur f0
    have hC' := Lib.hid hC
    clear hC
    go_wp2
    go_loopw [7, 8, 9] (fun i _ _ wr => ∃ k : Nat, i = .int .i64 k ∧ k ≤ n ∧ Hid (SmC w W0 fb mb base nv vs wr)) (fun i _ _ _ => n - (intOf i).toNat)
    case atStart => exact ⟨0, rfl, Nat.zero_le _, hC'.out⟩
    case round =>
      obtain ⟨k, rfl, hk, hM⟩ := hrel
      have f0 := hS0.out wr hM.out.cur
      by_cases hc : k < n
      · have hc1 : (k : Int) < n := by omega
        have hk0 : (0 : Int) ≤ (k : Int) := by omega
        obtain ⟨v, hv⟩ : ∃ v, vs[k]? = some v := ⟨_, List.getElem?_eq_getElem (by have := hn.out; omega)⟩
        obtain ⟨y, g, cap, hyv, hnv, hgl, hyok, hycell⟩ := flr_at hM.out.r hv
        rw [← hn.out] at hnv
        have hna := node_at hM.out.f hok.out (k : Int)
        have hst : ∀ W, Below wr.heap.size wr W → SmC w W0 fb mb base nv vs W := fun W hb => ⟨hM.out.cur.trans (hb.mono hM.out.cur.size), hM.out.f.below hb, hM.out.r.below hb⟩
        have hst' := Lib.hid hst
        have hycell' := Lib.hid hycell
        clear hst hycell
        replace hv := Lib.hid hv; replace hyv := Lib.hid hyv; replace hyok := Lib.hid hyok; replace hna := Lib.hid hna
        have hnv' := Lib.hid hnv
        clear hnv
        go_wp2_with fail
        refine hna.out.mono ?_
        rintro e w2 ⟨x, b, rfl, hxok, hlow2, hxpo, hcase⟩
        have hb : b = true ∧ vs[k]? = some x.pl := by
          rcases hcase with ⟨h1, _, h3⟩ | ⟨_, _, h3⟩
          · exact ⟨h1, by simpa using h3⟩
          · exact absurd h3 (by have := hn.out; omega)
        obtain ⟨rfl, hvx⟩ := hb
        have hxy : x.pl = y.pl := by rw [hyv.out]; rw [hv.out] at hvx; exact (Option.some.inj hvx).symm
        obtain ⟨W3, hW3⟩ : ∃ W3, W3 = w2.alloc (.cells x.cells 48 (0, 0)) := ⟨_, rfl⟩
        have hlow3 : Below w2.heap.size w2 W3 := by rw [hW3]; exact (Below.refl _ _).alloc (Nat.le_refl _) _
        have hx3 : W3.heap[w2.heap.size]? = some (.cells x.cells 48 (0, 0)) := by rw [hW3]; exact blk_new _ _
        have hl3 : Below wr.heap.size wr W3 := hlow2.trans (hlow3.mono hlow2.size)
        have hC3 := hst'.out W3 hl3
        obtain ⟨nm, ⟨ca, cb, cc, cd⟩, po, pn, pc, ps⟩ := x
        obtain ⟨nm', ⟨ca', cb', cc', cd'⟩, po', pn', pc', ps'⟩ := y
        have hkk : ((k : Int) != (k : Int)) = false := by simp
        have hidx : ∀ W, Flt W fb mb base vs → Calls Tryd.prog 57 #[.pointer (some ⟨fb, 0, none⟩), .string nm] W fun e w' => e = .returned (.int .i64 (k : Int)) ∧ Below W.heap.size W w' := fun W hF => by
          have hnmk : (vs.map Ndv.name)[k]? = some nm := by rw [List.getElem?_map, hvx]; rfl
          have hsz : nm.size ≤ maxLen := by
            have := isName_le (hok.out.all _ (List.mem_of_getElem? hvx)).ok.name
            have e : (Nde.pl ⟨nm, ⟨ca, cb, cc, cd⟩, po, pn, pc, ps⟩).name = nm := rfl
            rw [e] at this
            have : maxLen = 9223372036854775807 := rfl
            omega
          refine (index_flt hF hok.out nm hsz).mono fun e w' h => ⟨?_, by rw [h.2]; exact Below.refl _ _⟩
          rw [h.1, idxN_at hok.out.nodup hnmk, Nat.zero_add]
        have hSx : ∀ W', Below W3.heap.size W3 W' → W'.cell? ⟨w.heap.size, 0, none⟩ = some (.slice (some ⟨g, 0, none⟩) n cap) ∧
            W'.cell? ⟨w2.heap.size, 0, none⟩ = some (.string nm) ∧ W'.cell? ⟨w2.heap.size, 1, none⟩ = some (.int .i64 ca) ∧ W'.cell? ⟨w2.heap.size, 2, none⟩ = some (.int .i64 cb) ∧ W'.cell? ⟨w2.heap.size, 3, none⟩ = some (.int .i64 cc) ∧ W'.cell? ⟨w2.heap.size, 4, none⟩ = some (.int .i64 cd) ∧ W'.cell? ⟨w2.heap.size, 5, none⟩ = some (.slice po pn pc) ∧
            W'.cell? ⟨g, k * 6, none⟩ = some (.string nm') ∧ W'.cell? ⟨g, k * 6 + 1, none⟩ = some (.int .i64 ca') ∧ W'.cell? ⟨g, k * 6 + 2, none⟩ = some (.int .i64 cb') ∧ W'.cell? ⟨g, k * 6 + 3, none⟩ = some (.int .i64 cc') ∧ W'.cell? ⟨g, k * 6 + 4, none⟩ = some (.int .i64 cd') ∧ W'.cell? ⟨g, k * 6 + 5, none⟩ = some (.slice po' pn' pc') := fun W' hb => by
          have hl' : Below wr.heap.size wr W' := hl3.trans (hb.mono hl3.size)
          have hz := blk_below hb hx3 (blk_lt hx3)
          have hcy := hycell'.out W' hl'
          exact ⟨by rw [← hnv'.out]; exact hS0.out W' (hM.out.cur.trans (hl'.mono hM.out.cur.size)), blk_cell hz 0, blk_cell hz 1, blk_cell hz 2, blk_cell hz 3, blk_cell hz 4, blk_cell hz 5, hcy 0 (by omega), hcy 1 (by omega), hcy 2 (by omega), hcy 3 (by omega), hcy 4 (by omega), hcy 5 (by omega)⟩
        have hcur : Below W3.heap.size W3 W3.drew := (Below.refl _ _).drew
        have hF := hC3.f.below hcur
        have hR := hC3.r.below hcur
        have hX := (hxok.low hlow3).low hcur
        have hY := (hyok.out.low hl3).low hcur
        obtain ⟨f0', z0, z1, z2, z3, z4, z5, y0, y1, y2, y3, y4, y5⟩ := hSx W3 (Below.refl _ _)
        clear f0
        replace hxok := Lib.hid hxok; replace hlow2 := Lib.hid hlow2; replace hxpo := Lib.hid hxpo; replace hcase := Lib.hid hcase; replace hvx := Lib.hid hvx; replace hxy := Lib.hid hxy; replace hlow3 := Lib.hid hlow3; replace hx3 := Lib.hid hx3; replace hl3 := Lib.hid hl3; replace hC3 := Lib.hid hC3; replace hidx := Lib.hid hidx; replace hSx := Lib.hid hSx; replace hcur := Lib.hid hcur; replace hF := Lib.hid hF; replace hR := Lib.hid hR; replace hX := Lib.hid hX; replace hY := Lib.hid hY
        have hW3' := Lib.hid hW3
        clear hW3
        go_upto_region 7 with fail
        rw [← hW3'.out]
        go_cut [84] (fun gv wx => SmG w W0 fb mb base nv vs gv wx)
        case first =>
          go_region_held3 (fun w' => w'.cell? ⟨w.heap.size, 0, none⟩ = some (.slice (some ⟨g, 0, none⟩) n cap) ∧
            w'.cell? ⟨w2.heap.size, 0, none⟩ = some (.string nm) ∧ w'.cell? ⟨w2.heap.size, 1, none⟩ = some (.int .i64 ca) ∧ w'.cell? ⟨w2.heap.size, 2, none⟩ = some (.int .i64 cb) ∧ w'.cell? ⟨w2.heap.size, 3, none⟩ = some (.int .i64 cc) ∧ w'.cell? ⟨w2.heap.size, 4, none⟩ = some (.int .i64 cd) ∧ w'.cell? ⟨w2.heap.size, 5, none⟩ = some (.slice po pn pc) ∧
            w'.cell? ⟨g, k * 6, none⟩ = some (.string nm') ∧ w'.cell? ⟨g, k * 6 + 1, none⟩ = some (.int .i64 ca') ∧ w'.cell? ⟨g, k * 6 + 2, none⟩ = some (.int .i64 cb') ∧ w'.cell? ⟨g, k * 6 + 3, none⟩ = some (.int .i64 cc') ∧ w'.cell? ⟨g, k * 6 + 4, none⟩ = some (.int .i64 cd') ∧ w'.cell? ⟨g, k * 6 + 5, none⟩ = some (.slice po' pn' pc'))
            (first
              | with_reducible exact hSx.out _ hcur.out)
            (first
              | (go_at_call 33
                 (with_reducible refine (nodes_same hX.out hY.out hxy.out).mono ?_)
                 rintro e wz ⟨rfl, hbz⟩
                 replace hcur := Lib.hid (hcur.out.trans ((hbz).mono hcur.out.size))
                 replace hF := Lib.hid (hF.out.below hbz)
                 replace hR := Lib.hid (hR.out.below hbz)
                 replace hbz := Lib.hid hbz)
              | (go_at_call 57
                 (with_reducible refine (hidx.out _ hF.out).mono ?_)
                 rintro e wz ⟨rfl, hbz⟩
                 replace hcur := Lib.hid (hcur.out.trans ((hbz).mono hcur.out.size))
                 replace hF := Lib.hid (hF.out.below hbz)
                 replace hR := Lib.hid (hR.out.below hbz)
                 replace hbz := Lib.hid hbz))
          all_goals
            go_wp2_with fail
            go_meet
            exact ⟨rfl, hC3.out.cur.trans (hcur.out.mono hC3.out.cur.size), hF.out, hR.out⟩
        case rest =>
          obtain ⟨rfl, hC⟩ := hcut
          clear f0' z0 z1 z2 z3 z4 z5 y0 y1 y2 y3 y4 y5
          have hCh := Lib.hid hC
          clear hC
          go_wp2
          go_roundw
          case rel => exact ⟨k + 1, by go_num, by omega, hCh.out⟩
          case measure => simp [intOf]; omega
      · have hc1 : ¬ (k : Int) < n := by omega
        have hcp := flr_parts hM.out.r hok.out
        replace hcp := Lib.hid hcp
        go_wp2_with fail
        refine hcp.out.mono ?_
        rintro e w2 ⟨v85, rfl, hO85, hb2⟩
        obtain ⟨so, n2, c2, rfl, hSt⟩ := strs_own' hO85
        obtain ⟨P, hP⟩ : ∃ P, P = (partsOf vs).map ofL := ⟨_, rfl⟩
        rw [← hP] at hSt
        have hn2 := hSt.max
        have hC2 : SmC w W0 fb mb base nv vs w2 := ⟨hM.out.cur.trans (hb2.mono hM.out.cur.size), hM.out.f.below hb2, hM.out.r.below hb2⟩
        clear f0 hln
        replace hO85 := Lib.hid hO85; replace hb2 := Lib.hid hb2; replace hP := Lib.hid hP; replace hSt := Lib.hid hSt; replace hC2 := Lib.hid hC2; replace hM := Lib.hid hM
        go_wp2
        go_loopw [11] (fun i wr => ∃ k : Nat, i = .int .i64 k ∧ k ≤ n2 ∧ Hid (SmC w W0 fb mb base nv vs wr) ∧ Hid (StrsAt wr so n2 P)) (fun i _ => n2 - (intOf i).toNat)
        case atStart => exact ⟨0, rfl, Nat.zero_le _, hC2.out, hSt.out⟩
        case round =>
          obtain ⟨k2, rfl, hk2, hM2, hS2⟩ := hrel
          have f0 := hS0.out wr hM2.out.cur
          by_cases hc2 : k2 < n2
          · have hc3 : (k2 : Int) < n2 := by omega
            have hk0 : (0 : Int) ≤ (k2 : Int) := by omega
            obtain ⟨q, hq⟩ := hS2.out.get hc2
            obtain ⟨b, off, rfl, hbl, a0⟩ := hS2.out.cell k2 q hq
            obtain ⟨U2, hU2⟩ : ∃ U2, U2 = totOf vs q := ⟨_, rfl⟩
            have hEU2 : ∀ w, (Op.equalIn 10000 25 U2.val U2.val).run Tryd.prog w = .ok true w := fun w => by rw [eq25, decide_eq_true (show U2 = U2 from rfl)]
            have hSx : ∀ W', Below wr.heap.size wr W' → W'.cell? ⟨w.heap.size, 0, none⟩ = some nv ∧ W'.cell? ⟨b, off + k2, none⟩ = some (.string q) := fun W' hb =>
              ⟨hS0.out W' (hM2.out.cur.trans (hb.mono hM2.out.cur.size)), (below_cell hb hbl).trans a0⟩
            have hcur : Below wr.heap.size wr wr.drew := (Below.refl _ _).drew
            have hF := hM2.out.f.below hcur
            have hR := hM2.out.r.below hcur
            replace hq := Lib.hid hq; replace hU2 := Lib.hid hU2; replace hSx := Lib.hid hSx; replace hcur := Lib.hid hcur; replace hF := Lib.hid hF; replace hR := Lib.hid hR
            go_upto_region 13 with fail
            go_cut [121] (fun gv wx => SmH w W0 wr fb mb base nv vs gv wx)
            case first =>
              go_region_held3 (fun w' => w'.cell? ⟨w.heap.size, 0, none⟩ = some nv ∧ w'.cell? ⟨b, off + k2, none⟩ = some (.string q))
                (first
                  | with_reducible exact hSx.out _ hcur.out)
                (first
                  | (go_at_call 58
                     (with_reducible refine (in_flt hF.out hok.out q).mono ?_)
                     rintro e wz ⟨v58, rfl, hO58, hbz⟩
                     obtain ⟨so58, n58, c58, rfl, hA⟩ := ints_own' hO58
                     replace hcur := Lib.hid (hcur.out.trans ((hbz).mono hcur.out.size))
                     replace hF := Lib.hid (hF.out.below hbz)
                     replace hR := Lib.hid (hR.out.below hbz)
                     (try replace hB := Lib.hid (hB.out.low hbz))
                     replace hO58 := Lib.hid hO58
                     replace hA := Lib.hid hA
                     replace hbz := Lib.hid hbz)
                  | (go_at_call 86
                     (with_reducible refine (flr_in hR.out hok.out q).mono ?_)
                     rintro e wz ⟨v86, rfl, hO86, hbz⟩
                     obtain ⟨so86, n86, c86, rfl, hB⟩ := ints_own' hO86
                     replace hcur := Lib.hid (hcur.out.trans ((hbz).mono hcur.out.size))
                     replace hF := Lib.hid (hF.out.below hbz)
                     replace hR := Lib.hid (hR.out.below hbz)
                     (try replace hA := Lib.hid (hA.out.low hbz))
                     replace hO86 := Lib.hid hO86
                     replace hB := Lib.hid hB
                     replace hbz := Lib.hid hbz)
                  | (go_at_call 68
                     (with_reducible refine (samei_same hA.out hB.out).mono ?_)
                     rintro e wz ⟨rfl, hbz⟩
                     replace hcur := Lib.hid (hcur.out.trans ((hbz).mono hcur.out.size))
                     replace hF := Lib.hid (hF.out.below hbz)
                     replace hR := Lib.hid (hR.out.below hbz)
                     replace hbz := Lib.hid hbz)
                  | (go_at_call 60
                     (with_reducible refine (flt_tot hF.out hok.out q U2 hU2.out).mono ?_)
                     rintro e wz ⟨rfl, hbz⟩
                     replace hcur := Lib.hid (hcur.out.trans ((hbz).mono hcur.out.size))
                     replace hF := Lib.hid (hF.out.below hbz)
                     replace hR := Lib.hid (hR.out.below hbz)
                     replace hbz := Lib.hid hbz)
                  | (go_at_call 87
                     (with_reducible refine (flr_tot hR.out hok.out q U2 hU2.out).mono ?_)
                     rintro e wz ⟨rfl, hbz⟩
                     replace hcur := Lib.hid (hcur.out.trans ((hbz).mono hcur.out.size))
                     replace hF := Lib.hid (hF.out.below hbz)
                     replace hR := Lib.hid (hR.out.below hbz)
                     replace hbz := Lib.hid hbz))
              all_goals
                go_wp2_with fail
                go_meet
                exact ⟨rfl, ⟨hM2.out.cur.trans (hcur.out.mono hM2.out.cur.size), hF.out, hR.out⟩, hcur.out⟩
            case rest =>
              obtain ⟨rfl, hC, hlow⟩ := hcut
              have hSn := hS2.out.low hlow
              clear f0 a0
              have hCh := Lib.hid hC
              clear hC
              replace hSn := Lib.hid hSn; replace hlow := Lib.hid hlow
              go_wp2
              go_roundw
              case rel => exact ⟨k2 + 1, by go_num, by omega, hCh.out, hSn.out⟩
              case measure => simp [intOf]; omega
          · have hc3 : ¬ (k2 : Int) < n2 := by omega
            obtain ⟨I, hI⟩ : ∃ I, I = idxN (vs.map Ndv.name) part 0 := ⟨_, rfl⟩
            have hII : (I == I) = true := by simp
            have hc57 : ∀ W, Flt W fb mb base vs → Calls Tryd.prog 57 #[.pointer (some ⟨fb, 0, none⟩), .string part] W fun e w' => e = .returned (.int .i64 I) ∧ Below W.heap.size W w' := fun W hF =>
              (index_flt hF hok.out part hp).mono fun e w' h => ⟨by rw [h.1, hI], by rw [h.2]; exact Below.refl _ _⟩
            have hc83 : ∀ W, Flr W nv vs → Calls Tryd.prog 83 #[.agg #[nv], .string part] W fun e w' => e = .returned (.int .i64 I) ∧ Below W.heap.size W w' := fun W hR => by
              rw [hI]; exact flr_idx hR hok.out part
            have hcur : Below wr.heap.size wr wr.drew := (Below.refl _ _).drew
            have hF := hM2.out.f.below hcur
            have hR := hM2.out.r.below hcur
            have hSx : ∀ W', Below wr.heap.size wr W' → W'.cell? ⟨w.heap.size, 0, none⟩ = some nv := fun W' hb => hS0.out W' (hM2.out.cur.trans (hb.mono hM2.out.cur.size))
            replace hI := Lib.hid hI; replace hc57 := Lib.hid hc57; replace hc83 := Lib.hid hc83; replace hSx := Lib.hid hSx; replace hcur := Lib.hid hcur; replace hF := Lib.hid hF; replace hR := Lib.hid hR
            go_upto_region 15 with fail
            go_region_held3 (fun w' => w'.cell? ⟨w.heap.size, 0, none⟩ = some nv)
              (first
                | with_reducible exact hSx.out _ hcur.out)
              (first
                | (go_at_call 57
                   (with_reducible refine (hc57.out _ hF.out).mono ?_)
                   rintro e wz ⟨rfl, hbz⟩
                   replace hcur := Lib.hid (hcur.out.trans ((hbz).mono hcur.out.size))
                   replace hF := Lib.hid (hF.out.below hbz)
                   replace hR := Lib.hid (hR.out.below hbz)
                   replace hbz := Lib.hid hbz)
                | (go_at_call 83
                   (with_reducible refine (hc83.out _ hR.out).mono ?_)
                   rintro e wz ⟨rfl, hbz⟩
                   replace hcur := Lib.hid (hcur.out.trans ((hbz).mono hcur.out.size))
                   replace hF := Lib.hid (hF.out.below hbz)
                   replace hR := Lib.hid (hR.out.below hbz)
                   replace hbz := Lib.hid hbz))
            all_goals
              go_wp2
              go_ret
              exact ⟨rfl, hb0.out.trans ((hM2.out.cur.trans (hcur.out.mono hM2.out.cur.size)).mono hb0.out.size)⟩
end Go.Proofs.YteoihdkaoipocaaDoor

/- (corveeref05.Fleet).Text. -/
namespace Go.Proofs.YteoihdkaoipocaaDoor
open Go.RowKit Go.Maps Go.Shelf

def tailP (ps : List ByteArray) : List UInt8 := ps.flatMap fun p => 32 :: p.data.toList
theorem join_cons (x : List UInt8) : ∀ (r : List (List UInt8)), Lib.join (x :: r) [32] = x ++ r.flatMap fun y => 32 :: y
  | [] => by simp [Lib.join, List.intercalate]
  | y :: r => by
    have h := join_cons y r
    have e : Lib.join (x :: y :: r) [32] = x ++ [32] ++ Lib.join (y :: r) [32] := by simp [Lib.join, List.intercalate]
    rw [e, h]
    simp
theorem tail_join {ps : List ByteArray} (h : ps ≠ []) : [32] ++ joinP ps = tailP ps := by
  cases ps with
  | nil => exact absurd rfl h
  | cons p r =>
    unfold joinP tailP
    rw [List.map_cons, join_cons]
    simp [List.flatMap_map]
theorem lineV_tail {v : Ndv} (h : v.parts ≠ []) : lineV v = v.name.data.toList ++ [32] ++ txtV v.cap ++ tailP v.parts ++ [10] := by
  unfold lineV
  rw [List.append_assoc (v.name.data.toList ++ [32] ++ txtV v.cap), tail_join h]
theorem tailP_step {ps : List ByteArray} {m : Nat} {p : ByteArray} (h : ps[m]? = some p) : tailP (ps.take (m + 1)) = tailP (ps.take m) ++ (32 :: p.data.toList) := by
  unfold tailP
  rw [take_step h, List.flatMap_append]
  simp
theorem tailP_len {ps : List ByteArray} (h : ∀ p, p ∈ ps → isName p = true) : (tailP ps).length ≤ ps.length * 17 := by
  induction ps with
  | nil => simp [tailP]
  | cons p ps ih =>
    have h1 := isName_le (h p (by simp))
    have h2 := ih fun q hq => h q (by simp [hq])
    have h3 : p.data.toList.length = p.size := toL_len p
    simp only [tailP, List.flatMap_cons, List.length_append, List.length_cons] at h2 ⊢
    rw [Nat.add_mul]
    omega
structure RxW (w : World) (nv : Value) (W : World) : Prop where
  low : Below w.heap.size w W
  box : W.heap[w.heap.size]? = some (.cells #[nv] 44 (0, 0))
structure RxS (W3 : World) (S : ByteArray) (sv : Value) (wx : World) : Prop where
  sv : sv = .string S
  low : Below W3.heap.size W3 wx
set_option maxRecDepth 100000 in
set_option maxHeartbeats 3200000 in
theorem rftext_any {w : World} {nv : Value} {vs : List Ndv} (hR : Flr w nv vs) (hok : FltOk vs) : Calls Tryd.prog 44 #[.agg #[nv]] w fun e w' => e = .returned (.string (ofL (textOf vs))) ∧ Below w.heap.size w w' := by
  have hln := flr_lens hR
  obtain ⟨n, hn⟩ : ∃ n, n = vs.length := ⟨_, rfl⟩
  rw [← hn] at hln
  have hn16 : n ≤ 16 := by rw [hn]; exact hok.len
  have hW0 : RxW w nv (w.alloc (.cells #[nv] 44 (0, 0))) := ⟨(Below.refl _ _).alloc (Nat.le_refl _) _, blk_new _ _⟩
  replace hR := Lib.hid hR; replace hn := Lib.hid hn; replace hW0 := Lib.hid hW0; replace hok := Lib.hid hok
  go_enter Tryd.func44, Tryd.ntmps44
  go_wp2
  go_loopw [3, 4, 5, 6] (fun sv i _ _ wr => ∃ (k : Nat) (S : ByteArray), sv = .string S ∧ i = .int .i64 k ∧ k ≤ n ∧ Hid (S = ofL (textOf (vs.take k))) ∧ Hid (RxW w nv wr)) (fun _ i _ _ _ => n - (intOf i).toNat)
  case atStart => exact ⟨0, { data := #[] }, rfl, rfl, Nat.zero_le _, rfl, hW0.out⟩
  case round =>
    obtain ⟨k, S, rfl, rfl, hk, hS, hM⟩ := hrel
    have f0 : wr.cell? ⟨w.heap.size, 0, none⟩ = some nv := blk_cell hM.out.box 0
    by_cases hc : k < n
    · have hc1 : (k : Int) < n := by omega
      have hk0 : (0 : Int) ≤ (k : Int) := by omega
      obtain ⟨v, hv⟩ : ∃ v, vs[k]? = some v := ⟨_, List.getElem?_eq_getElem (by have := hn.out; omega)⟩
      have hva := hok.out.all v (List.mem_of_getElem? hv)
      have hRr := hR.out.below hM.out.low
      obtain ⟨y, g, cap, hyv, rfl, hgl, hyok, hycell⟩ := flr_at hRr hv
      subst hyv
      rw [← hn.out] at f0
      obtain ⟨nm, ⟨ca, cb, cc, cd⟩, po, pn, pc, ps⟩ := y
      have hcell := hycell wr (Below.refl _ _)
      have hpn : ps.length = pn := hyok.parts.len
      have hone : 1 ≤ ps.length := hva.ok.one
      have hfew : ps.length ≤ 8 := hva.few
      have z0 : wr.cell? ⟨g, k * 6, none⟩ = some (.string nm) := hcell 0 (by omega)
      have z1 : wr.cell? ⟨g, k * 6 + 1, none⟩ = some (.int .i64 ca) := hcell 1 (by omega)
      have z2 : wr.cell? ⟨g, k * 6 + 2, none⟩ = some (.int .i64 cb) := hcell 2 (by omega)
      have z3 : wr.cell? ⟨g, k * 6 + 3, none⟩ = some (.int .i64 cc) := hcell 3 (by omega)
      have z4 : wr.cell? ⟨g, k * 6 + 4, none⟩ = some (.int .i64 cd) := hcell 4 (by omega)
      have z5 : wr.cell? ⟨g, k * 6 + 5, none⟩ = some (.slice po pn pc) := hcell 5 (by omega)
      obtain ⟨W3, hW3⟩ : ∃ W3, W3 = wr.alloc (.cells (⟨nm, ⟨ca, cb, cc, cd⟩, po, pn, pc, ps⟩ : Nde).cells 48 (0, 0)) := ⟨_, rfl⟩
      have hlow3 : Below wr.heap.size wr W3 := by rw [hW3]; exact (Below.refl _ _).alloc (Nat.le_refl _) _
      have hx3 : W3.heap[wr.heap.size]? = some (.cells (⟨nm, ⟨ca, cb, cc, cd⟩, po, pn, pc, ps⟩ : Nde).cells 48 (0, 0)) := by rw [hW3]; exact blk_new _ _
      have hv64 : V64 ⟨ca, cb, cc, cd⟩ := v64_cap (capOk_right hva.ok.cap)
      have hnl : nm.size ≤ 16 := isName_le hva.ok.name
      obtain ⟨A, hA⟩ : ∃ A, A = ofL (txtV ⟨ca, cb, cc, cd⟩) := ⟨_, rfl⟩
      have hAs : A.size ≤ 83 := by rw [hA, ofL_size]; exact txtV_len hv64
      have hT : (textOf (vs.take k)).length ≤ 16 * 240 := by
        refine Nat.le_trans (textOf_len fun v hv => hok.out.all v (List.mem_of_mem_take hv)) ?_
        rw [List.length_take]
        exact Nat.mul_le_mul (by have := hn.out; omega) (Nat.le_refl _)
      have hSs : S.size ≤ 3840 := by rw [hS.out, ofL_size]; exact hT
      have hc37 : ∀ W, Calls Tryd.prog 37 #[.agg #[.int .i64 ca, .int .i64 cb, .int .i64 cc, .int .i64 cd]] W fun e w' => e = .returned (.string A) ∧ Below W.heap.size W w' := fun W => by rw [hA]; exact rtext_any ⟨ca, cb, cc, cd⟩ hv64 W
      have q1 : ¬ 9223372036854775807 < nm.size + 1 := by omega
      have q2 : ¬ 9223372036854775807 < nm.size + 1 + A.size := by omega
      have q3 : ¬ 9223372036854775807 < S.size + (nm.size + 1 + A.size) := by omega
      have hSx : ∀ W' : World, Below W3.heap.size W3 W' → W'.cell? ⟨wr.heap.size, 0, none⟩ = some (.string nm) ∧ W'.cell? ⟨wr.heap.size, 1, none⟩ = some (.int .i64 ca) ∧ W'.cell? ⟨wr.heap.size, 2, none⟩ = some (.int .i64 cb) ∧ W'.cell? ⟨wr.heap.size, 3, none⟩ = some (.int .i64 cc) ∧ W'.cell? ⟨wr.heap.size, 4, none⟩ = some (.int .i64 cd) ∧ W'.cell? ⟨wr.heap.size, 5, none⟩ = some (.slice po pn pc) := fun W' hb => by
        have h := blk_below hb hx3 (blk_lt hx3)
        exact ⟨blk_cell h 0, blk_cell h 1, blk_cell h 2, blk_cell h 3, blk_cell h 4, blk_cell h 5⟩
      have hcur : Below W3.heap.size W3 W3.drew := (Below.refl _ _).drew
      obtain ⟨c0, c1, c2, c3, c4, c5⟩ := hSx W3 (Below.refl _ _)
      have hst := textOf_step hv
      replace hv := Lib.hid hv; replace hva := Lib.hid hva; replace hRr := Lib.hid hRr; replace hycell := Lib.hid hycell; replace hcell := Lib.hid hcell; replace hpn := Lib.hid hpn; replace hone := Lib.hid hone; replace hfew := Lib.hid hfew; replace hlow3 := Lib.hid hlow3; replace hx3 := Lib.hid hx3; replace hv64 := Lib.hid hv64; replace hA := Lib.hid hA; replace hT := Lib.hid hT; replace hc37 := Lib.hid hc37; replace hSx := Lib.hid hSx; replace hcur := Lib.hid hcur; replace hst := Lib.hid hst; replace hyok := Lib.hid hyok
      have hW3' := Lib.hid hW3
      clear hW3 hln
      go_upto_region 6 with fail
      rw [← hW3'.out]
      clear z0 z1 z2 z3 z4 z5 f0
      go_cut [3] (fun sv wx => RxS W3 (S ++ (nm ++ ({ data := #[32] } : ByteArray) ++ A)) sv wx)
      case first =>
        go_region_held3 (fun W' => W'.cell? ⟨wr.heap.size, 0, none⟩ = some (.string nm) ∧ W'.cell? ⟨wr.heap.size, 1, none⟩ = some (.int .i64 ca) ∧ W'.cell? ⟨wr.heap.size, 2, none⟩ = some (.int .i64 cb) ∧ W'.cell? ⟨wr.heap.size, 3, none⟩ = some (.int .i64 cc) ∧ W'.cell? ⟨wr.heap.size, 4, none⟩ = some (.int .i64 cd) ∧ W'.cell? ⟨wr.heap.size, 5, none⟩ = some (.slice po pn pc))
          (first
            | with_reducible exact hSx.out _ hcur.out)
          (first
            | (go_at_call 37
               (with_reducible refine (hc37.out _).mono ?_)
               rintro e wz ⟨rfl, hbz⟩
               replace hcur := Lib.hid (hcur.out.trans (hbz.mono hcur.out.size))
               replace hbz := Lib.hid hbz))
        all_goals
          go_wp2_with fail
          go_meet
          exact ⟨rfl, hcur.out⟩
      case rest =>
        obtain ⟨rfl, hlow5⟩ := hcut
        clear hcur c0 c1 c2 c3 c4 c5
        obtain ⟨_, _, _, _, _, c5⟩ := hSx.out wc hlow5
        have hP := ((hyok.out.low hlow3.out).low hlow5).parts
        have hP' : StrsAt wc po pn ps := hP
        obtain ⟨L, hL⟩ : ∃ L, L = textOf (vs.take k) ++ nm.data.toList ++ [32] ++ txtV ⟨ca, cb, cc, cd⟩ := ⟨_, rfl⟩
        obtain ⟨S1, hS1⟩ : ∃ S1, S1 = S ++ (nm ++ ({ data := #[32] } : ByteArray) ++ A) := ⟨_, rfl⟩
        have hS1e : S1 = ofL L := by
          rw [hS1, hL, hS.out, hA.out, show ({ data := #[32] } : ByteArray) = ofL [32] from rfl]
          conv => lhs; rw [← ofL_self nm]
          rw [ofL_app, ofL_app, ofL_app]
          simp
        have hLl : L.length ≤ 3940 := by
          have h1 : nm.data.toList.length = nm.size := toL_len nm
          have h2 := txtV_len hv64.out
          have h3 := hT.out
          rw [hL]
          simp only [List.length_append, List.length_cons, List.length_nil]
          omega
        have hst2 : textOf (vs.take (k + 1)) = L ++ tailP ps ++ [10] := by
          rw [hst.out, hL, lineV_tail (v := Nde.pl ⟨nm, ⟨ca, cb, cc, cd⟩, po, pn, pc, ps⟩) (by intro e; have h := hone.out; have e' : ps = [] := e; rw [e'] at h; simp at h)]
          show textOf (vs.take k) ++ (nm.data.toList ++ [32] ++ txtV ⟨ca, cb, cc, cd⟩ ++ tailP ps ++ [10]) = _
          simp
        have hpmx := hP'.max
        have hnames := hva.out.ok.parts
        have hlowR : Below w.heap.size w wc := hM.out.low.trans ((hlow3.out.trans (hlow5.mono hlow3.out.size)).mono hM.out.low.size)
        have hboxR := blk_below hlow5 (blk_below hlow3.out hM.out.box (blk_lt hM.out.box)) (Nat.lt_of_lt_of_le (blk_lt hM.out.box) hlow3.out.size)
        rw [← hS1]
        replace hP := Lib.hid hP; replace hP' := Lib.hid hP'; replace hL := Lib.hid hL; replace hS1 := Lib.hid hS1; replace hS1e := Lib.hid hS1e; replace hLl := Lib.hid hLl; replace hst2 := Lib.hid hst2; replace hnames := Lib.hid hnames; replace hlowR := Lib.hid hlowR; replace hboxR := Lib.hid hboxR; replace hlow5 := Lib.hid hlow5
        go_wp2
        go_loop [3, 6] (fun sv m => ∃ (j : Nat) (Z : ByteArray), sv = .string Z ∧ m = .int .i64 j ∧ j ≤ pn ∧ Hid (Z = ofL (L ++ tailP (ps.take j)))) (fun _ m => pn - (intOf m).toNat)
        case atStart => exact ⟨0, S1, rfl, rfl, Nat.zero_le _, by rw [hS1e.out, List.take_zero]; exact congrArg ofL (List.append_nil L).symm⟩
        case round =>
          obtain ⟨j, Z, rfl, rfl, hj, hZ⟩ := hrel
          have htl : ∀ m, (tailP (ps.take m)).length ≤ 136 := fun m => by
            refine Nat.le_trans (tailP_len fun p hp => hnames.out p (List.mem_of_mem_take hp)) ?_
            have : (ps.take m).length ≤ 8 := by rw [List.length_take]; have := hfew.out; omega
            exact Nat.mul_le_mul this (Nat.le_refl 17)
          have hZs : Z.size ≤ 4100 := by
            have := htl j
            have := hLl.out
            rw [hZ.out, ofL_size, List.length_append]
            omega
          have htl' := Lib.hid htl
          clear htl
          by_cases hjc : j < pn
          · have hj1 : (j : Int) < pn := by omega
            have hj0 : (0 : Int) ≤ (j : Int) := by omega
            obtain ⟨p, hp⟩ := hP'.out.get hjc
            obtain ⟨b, off, e, hbl, a0⟩ := hP'.out.cell j p hp
            subst e
            have hps : p.size ≤ 16 := isName_le (hnames.out p (List.mem_of_getElem? hp))
            have q1 : ¬ 9223372036854775807 < 1 + p.size := by omega
            have q2 : ¬ 9223372036854775807 < Z.size + (1 + p.size) := by omega
            have hZ2 : Z ++ (({ data := #[32] } : ByteArray) ++ p) = ofL (L ++ tailP (ps.take (j + 1))) := by
              rw [hZ.out, tailP_step hp, show ({ data := #[32] } : ByteArray) = ofL [32] from rfl]
              conv => lhs; rw [← ofL_self p]
              rw [ofL_app, ofL_app]
              simp
            replace hp := Lib.hid hp; replace hZ2 := Lib.hid hZ2
            go_wp2
            go_round
            case rel => exact ⟨j + 1, Z ++ (({ data := #[32] } : ByteArray) ++ p), rfl, by go_num, by omega, hZ2.out⟩
            case measure => simp [intOf]; omega
          · have hj1 : ¬ (j : Int) < pn := by omega
            have q1 : ¬ 9223372036854775807 < Z.size + 1 := by omega
            have hZ2 : Z ++ ({ data := #[10] } : ByteArray) = ofL (textOf (vs.take (k + 1))) := by
              have := hZ.out
              rw [List.take_of_length_le (by have := hpn.out; omega)] at this
              rw [this, hst2.out, show ({ data := #[10] } : ByteArray) = ofL [10] from rfl, ofL_app]
            have hR2 : RxW w (.slice (some ⟨g, 0, none⟩) vs.length cap) wc := ⟨hlowR.out, hboxR.out⟩
            replace hZ2 := Lib.hid hZ2; replace hR2 := Lib.hid hR2
            go_wp2
            go_roundw
            case rel => exact ⟨k + 1, Z ++ ({ data := #[10] } : ByteArray), rfl, by go_num, by omega, hZ2.out, hR2.out⟩
            case measure => simp [intOf]; omega
    · have hc1 : ¬ (k : Int) < n := by omega
      have hkn : vs.take k = vs := List.take_of_length_le (by have := hn.out; omega)
      replace hkn := Lib.hid hkn
      go_wp2
      go_ret
      exact ⟨by rw [← hkn.out, ← hS.out]; rfl, hM.out.low⟩
end Go.Proofs.YteoihdkaoipocaaDoor

/- The text of right nodes is read as these nodes: plain. -/
namespace Go.Proofs.YteoihdkaoipocaaDoor
open Go.RowKit

def digC (c : UInt8) : Prop := 48 ≤ c.toNat ∧ c.toNat ≤ 57
theorem dec_chars : ∀ (u : Nat), ∀ c, c ∈ Lib.decDigits u → digC c := by
  intro u
  induction u using Nat.strongRecOn with
  | _ u ih =>
    intro c hc
    have one : ∀ d, d < 10 → digC (UInt8.ofNat (48 + d)) := fun d hd => by
      unfold digC
      rw [UInt8.toNat_ofNat']
      omega
    rw [Lib.decDigits] at hc
    split at hc
    · next h =>
      have : c = UInt8.ofNat (48 + u) := by simpa using hc
      subst this
      exact one u h
    · next h =>
      rcases List.mem_append.1 hc with hc | hc
      · exact ih (u / 10) (by omega) c hc
      · have : c = UInt8.ofNat (48 + u % 10) := by simpa using hc
        subst this
        exact one (u % 10) (by omega)
theorem dec_ne (u : Nat) : Lib.decDigits u ≠ [] := by
  rw [Lib.decDigits]
  split <;> simp
theorem chz_app {a b : List UInt8} {k : Nat} (h : k < a.length) : chz (ofL (a ++ b)) k = chz (ofL a) k := by
  unfold chz
  rw [ofL_toL, ofL_toL, List.getD, List.getD, List.getElem?_append_left h]
theorem chz_last (a : List UInt8) (x : UInt8) : chz (ofL (a ++ [x])) a.length = (x.toNat : Int) := by
  unfold chz
  rw [ofL_toL, List.getD, List.getElem?_append_right (Nat.le_refl _)]
  simp
theorem numTo_app {a b : List UInt8} : ∀ {k : Nat}, k ≤ a.length → numTo (ofL (a ++ b)) k = numTo (ofL a) k
  | 0, _ => rfl
  | k + 1, h => by
    simp only [numTo]
    rw [numTo_app (by omega), chz_app (by omega)]
theorem digTo_all {l : List UInt8} (h : ∀ c, c ∈ l → digC c) : ∀ {k : Nat}, k ≤ l.length → digTo (ofL l) k = true
  | 0, _ => rfl
  | k + 1, hk => by
    simp only [digTo, Bool.and_eq_true]
    refine ⟨digTo_all h (by omega), ?_⟩
    rw [isDig_iff]
    have hm : l.getD k 0 ∈ l := by
      rw [List.getD, List.getElem?_eq_getElem (by omega)]
      exact List.getElem_mem _
    have := h _ hm
    unfold chz
    rw [ofL_toL]
    unfold digC at this
    omega
theorem dec_num : ∀ (u : Nat), numTo (ofL (Lib.decDigits u)) (Lib.decDigits u).length = (u : Int) := by
  intro u
  induction u using Nat.strongRecOn with
  | _ u ih =>
    by_cases h : u < 10
    · rw [Lib.decDigits, dif_pos h]
      have := chz_last [] (UInt8.ofNat (48 + u))
      simp only [List.nil_append, List.length_nil] at this
      simp only [List.length_cons, List.length_nil, numTo, this, UInt8.toNat_ofNat']
      omega
    · rw [Lib.decDigits, dif_neg h, List.length_append]
      simp only [List.length_cons, List.length_nil]
      show 10 * numTo _ (Lib.decDigits (u / 10)).length + (chz _ (Lib.decDigits (u / 10)).length - 48) = _
      rw [numTo_app (Nat.le_refl _), ih (u / 10) (by omega), chz_last, UInt8.toNat_ofNat']
      omega
theorem dec_head : ∀ (u : Nat), 0 < u → (Lib.decDigits u).getD 0 0 ≠ 48 := by
  intro u
  induction u using Nat.strongRecOn with
  | _ u ih =>
    intro hu e
    by_cases h : u < 10
    · rw [Lib.decDigits, dif_pos h] at e
      have := congrArg UInt8.toNat e
      simp [UInt8.toNat_ofNat'] at this
      omega
    · rw [Lib.decDigits, dif_neg h] at e
      refine ih (u / 10) (by omega) (by omega) ?_
      have hp := List.length_pos_iff.2 (dec_ne (u / 10))
      rw [List.getD, List.getElem?_append_left hp] at e
      exact e
theorem numOf_dec {u : Nat} (hu : u ≤ 1073741824) : numOf (ofL (Lib.decDigits u)) 10 = (u : Int) := by
  have h10 : (10 : Nat) ^ (9 + 1) = 10000000000 := by decide
  have hl : (Lib.decDigits u).length ≤ 10 := dec_len 9 u (by rw [h10]; omega)
  have hp := List.length_pos_iff.2 (dec_ne u)
  unfold numOf
  rw [ofL_size, if_neg, if_pos (digTo_all (dec_chars u) (Nat.le_refl _)), dec_num]
  rintro (h | h | ⟨h, e⟩)
  · omega
  · omega
  · have h0 : 0 < u := by
      rcases Nat.eq_zero_or_pos u with rfl | h0
      · rw [Lib.decDigits, dif_pos (by omega)] at h; simp at h
      · exact h0
    refine dec_head u h0 ?_
    unfold chz at e
    rw [ofL_toL] at e
    exact UInt8.toNat_inj.1 (by have : (48 : UInt8).toNat = 48 := rfl; omega)
theorem itoa_pos {n : Int} (h : 0 ≤ n) : Lib.itoa n = Lib.decDigits n.toNat := if_neg (by omega)
theorem itoa_chars {n : Int} (h : 0 ≤ n) : ∀ c, c ∈ Lib.itoa n → digC c := by rw [itoa_pos h]; exact dec_chars _
theorem numOf_itoa {n : Int} (h0 : 0 ≤ n) (h1 : n ≤ 1073741824) : numOf (ofL (Lib.itoa n)) 10 = n := by
  rw [itoa_pos h0, numOf_dec (by omega)]
  omega
theorem not_mem_dig {x : UInt8} {l : List UInt8} (h : ∀ c, c ∈ l → digC c) (hx : x.toNat < 48 ∨ 57 < x.toNat) : x ∉ l := fun hm => by
  have := h x hm
  unfold digC at this
  omega
theorem vecOf_txt {v : V4} (h : v.right = true) : vecOf (ofL (txtV v)) = (v, 0) := by
  obtain ⟨h1, h2, h3, h4, h5, h6, h7, h8⟩ := capOk_right h
  have n44 : ∀ {n : Int}, 0 ≤ n → (44 : UInt8) ∉ Lib.itoa n := fun hn => not_mem_dig (itoa_chars hn) (by decide)
  have e : cutAll 44 (ofL (txtV v)).data.toList = [Lib.itoa v.a, Lib.itoa v.b, Lib.itoa v.c, Lib.itoa v.d] := by
    rw [ofL_toL]
    unfold txtV
    rw [show Lib.itoa v.a ++ [44] ++ Lib.itoa v.b ++ [44] ++ Lib.itoa v.c ++ [44] ++ Lib.itoa v.d = Lib.itoa v.a ++ 44 :: (Lib.itoa v.b ++ 44 :: (Lib.itoa v.c ++ 44 :: Lib.itoa v.d)) by simp]
    rw [cutAll_hit (n44 h1), cutAll_hit (n44 h3), cutAll_hit (n44 h5), cutAll_no (n44 h7)]
  unfold vecOf
  rw [e, if_pos (show [Lib.itoa v.a, Lib.itoa v.b, Lib.itoa v.c, Lib.itoa v.d].length = 4 from rfl)]
  have e2 : vecP [Lib.itoa v.a, Lib.itoa v.b, Lib.itoa v.c, Lib.itoa v.d] = v := by
    show (⟨numOf (ofL (Lib.itoa v.a)) 10, numOf (ofL (Lib.itoa v.b)) 10, numOf (ofL (Lib.itoa v.c)) 10, numOf (ofL (Lib.itoa v.d)) 10⟩ : V4) = v
    rw [numOf_itoa h1 h2, numOf_itoa h3 h4, numOf_itoa h5 h6, numOf_itoa h7 h8]
  rw [e2]
  unfold V4.told
  rw [if_pos h]
theorem name_chars {s : ByteArray} (h : isName s = true) : ∀ c, c ∈ s.data.toList → nameCh (c.toNat : Int) = true := fun c hc => by
  simp only [isName, Bool.and_eq_true] at h
  obtain ⟨k, hk, e⟩ := List.mem_iff_getElem.1 hc
  have hs : s.data.toList.length = s.size := toL_len s
  have := nameTo_le h.2 (show k + 1 ≤ s.size by omega)
  simp only [nameTo, Bool.and_eq_true] at this
  have h2 := this.2
  unfold chz at h2
  rw [List.getD, List.getElem?_eq_getElem hk, e] at h2
  exact h2
theorem name_not {s : ByteArray} (h : isName s = true) {x : UInt8} (hx : nameCh (x.toNat : Int) = false) : x ∉ s.data.toList := fun hm => by
  have := name_chars h x hm
  rw [hx] at this
  cases this
theorem name_pos {s : ByteArray} (h : isName s = true) : s.data.toList ≠ [] := fun e => by
  simp only [isName, Bool.and_eq_true, decide_eq_true_eq] at h
  have hs : s.data.toList.length = s.size := toL_len s
  rw [e] at hs
  simp at hs
  omega
/-- a node's line without its end -/
def bodyV (v : Ndv) : List UInt8 := v.name.data.toList ++ [32] ++ txtV v.cap ++ tailP v.parts
theorem cut_tail {a : List UInt8} (ha : (32 : UInt8) ∉ a) : ∀ {ps : List ByteArray}, (∀ p, p ∈ ps → isName p = true) → cutAll 32 (a ++ tailP ps) = a :: ps.map (·.data.toList)
  | [], _ => by simp [tailP, cutAll_no ha]
  | p :: ps, h => by
    rw [show a ++ tailP (p :: ps) = a ++ 32 :: (p.data.toList ++ tailP ps) by simp [tailP], cutAll_hit ha]
    rw [cut_tail (name_not (h p (by simp)) (by decide)) fun q hq => h q (by simp [hq])]
    rfl
theorem txt_not {v : V4} (h : v.right = true) {x : UInt8} (hx : (x.toNat < 48 ∨ 57 < x.toNat) ∧ x ≠ 44) : x ∉ txtV v := by
  obtain ⟨h1, h2, h3, h4, h5, h6, h7, h8⟩ := capOk_right h
  have n : ∀ {n : Int}, 0 ≤ n → x ∉ Lib.itoa n := fun hn => not_mem_dig (itoa_chars hn) hx.1
  unfold txtV
  simp only [List.mem_append, List.mem_singleton]
  rintro ((((((h | h) | h) | h) | h) | h) | h)
  · exact n h1 h
  · exact hx.2 h
  · exact n h3 h
  · exact hx.2 h
  · exact n h5 h
  · exact hx.2 h
  · exact n h7 h
theorem nodeOf_body {v : Ndv} (h : NdvAll v) : nodeOf (ofL (bodyV v)) = some v := by
  have hw : words (ofL (bodyV v)) = v.name :: ofL (txtV v.cap) :: v.parts := by
    unfold words
    rw [ofL_toL]
    unfold bodyV
    rw [show v.name.data.toList ++ [32] ++ txtV v.cap ++ tailP v.parts = v.name.data.toList ++ 32 :: (txtV v.cap ++ tailP v.parts) by simp]
    rw [cutAll_hit (name_not h.ok.name (by decide)), cut_tail (txt_not h.ok.cap (by decide)) h.ok.parts]
    rw [List.map_cons, List.map_cons, ofL_self, List.map_map]
    rw [show (ofL ∘ fun (x : ByteArray) => x.data.toList) = id from by funext x; exact ofL_self x, List.map_id]
  have w0 : wrd (ofL (bodyV v)) 0 = v.name := by unfold wrd; rw [hw]; rfl
  have w1 : wrd (ofL (bodyV v)) 1 = ofL (txtV v.cap) := by unfold wrd; rw [hw]; rfl
  have hd : (words (ofL (bodyV v))).drop 2 = v.parts := by rw [hw]; rfl
  have hy : nodeOk (ofL (bodyV v)) := by
    refine ⟨?_, by rw [w0]; exact h.ok.name, by rw [hd]; exact h.ok.parts, by rw [w1, vecOf_txt h.ok.cap]⟩
    rw [hw]
    have := h.ok.one
    simp
    omega
  rw [nodeOf_yes hy, w0, w1, hd, vecOf_txt h.ok.cap]
theorem body_not {v : Ndv} (h : NdvAll v) : (10 : UInt8) ∉ bodyV v := by
  unfold bodyV
  simp only [List.mem_append, List.mem_singleton]
  rintro (((h1 | h1) | h1) | h1)
  · exact name_not h.ok.name (by decide) h1
  · exact absurd h1 (by decide)
  · exact txt_not h.ok.cap (by decide) h1
  · unfold tailP at h1
    obtain ⟨p, hp, hc⟩ := List.mem_flatMap.1 h1
    rcases List.mem_cons.1 hc with hc | hc
    · exact absurd hc (by decide)
    · exact name_not (h.ok.parts p hp) (by decide) hc
theorem body_says {v : Ndv} (h : NdvAll v) : saysB (bodyV v) = true := by
  cases e : v.name.data.toList with
  | nil => exact absurd e (name_pos h.ok.name)
  | cons c r =>
    have hb : bodyV v = c :: (r ++ [32] ++ txtV v.cap ++ tailP v.parts) := by unfold bodyV; rw [e]; rfl
    rw [hb]
    show decide (c ≠ 35) = true
    refine decide_eq_true fun hc => ?_
    exact name_not h.ok.name (x := 35) (by decide) (by rw [e, hc]; simp)
theorem lineV_body {v : Ndv} (h : NdvAll v) : lineV v = bodyV v ++ [10] := by
  rw [lineV_tail (by intro e; have := h.ok.one; rw [e] at this; simp at this)]
  rfl
theorem putE_ok {xs : List Ndv} {v : Ndv} {r : List Ndv} (h : FltOk (xs ++ v :: r)) : putE (xs.map Ndv.name) xs.length v.name v.parts = 0 := by
  have hv := h.all v (by simp)
  have hn := h.nodup
  have hl := h.len
  rw [List.map_append, List.map_cons, List.nodup_append] at hn
  simp at hl
  unfold putE
  rw [if_neg (fun c => (hn.2.2 _ (memB_iff.1 c) _ (List.mem_cons_self ..)) rfl), if_neg (by rw [hv.once]; simp), if_neg (by have := hv.few; omega)]
theorem read_lines : ∀ (r xs : List Ndv) (n : Nat), FltOk (xs ++ r) → readTo xs (said n (cutAll 10 (textOf r))) = (xs ++ r, 0, 0)
  | [], xs, n, _ => by
    rw [List.append_nil]
    rfl
  | v :: r, xs, n, h => by
    have hv := h.all v (by simp)
    have e : textOf (v :: r) = bodyV v ++ 10 :: textOf r := by
      unfold textOf
      rw [List.flatMap_cons, lineV_body hv]
      simp
    rw [e, cutAll_hit (body_not hv)]
    simp only [said]
    rw [if_pos (body_says hv)]
    simp only [readTo, nodeOf_body hv]
    rw [if_pos (putE_ok h), read_lines r (xs ++ [v]) (n + 1) (by simpa using h)]
    simp
/-- what a fleet tells is read as the same fleet -/
theorem readOf_text {vs : List Ndv} (h : FltOk vs) : readOf (ofL (textOf vs)) = (vs, 0, 0) := by
  have hl := textOf_len h.all
  have hn := h.len
  unfold readOf
  rw [if_neg (by rw [ofL_size]; have : vs.length * 240 ≤ 16 * 240 := Nat.mul_le_mul_right _ hn; omega)]
  unfold linesOf
  rw [ofL_toL, read_lines vs [] 0 (by simpa using h)]
  rfl
end Go.Proofs.YteoihdkaoipocaaDoor

/- corveeref03.Right: whether an amount may be. -/
namespace Go.Proofs.YteoihdkaoipocaaDoor
open Go.RowKit

set_option maxRecDepth 100000 in
set_option maxHeartbeats 1600000 in
theorem rright_any (v : V4) (w : World) : Calls Tryd.prog 35 #[v.val] w fun e w' => e = .returned (.bool v.right) ∧ Below w.heap.size w w' := by
  obtain ⟨a, b, c, d⟩ := v
  go_enter Tryd.func35, Tryd.ntmps35
  go_wp2
  all_goals
    go_ret
    refine ⟨congrArg Ending.returned (congrArg Value.bool (?_ : (_ : Bool) = _)), (Below.refl _ _).alloc (Nat.le_refl _) _⟩
    rw [Bool.eq_iff_iff]
    simp [V4.right, okn]
    try omega
end Go.Proofs.YteoihdkaoipocaaDoor

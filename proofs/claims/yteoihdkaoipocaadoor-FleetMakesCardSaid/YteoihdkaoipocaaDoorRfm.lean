/- The document's fleet: In, Total. -/
import Derived.Test.YteoihdkaoipocaaDoorRfl
import Derived.StillTailTactics
import Derived.IntWalk
namespace Go.Proofs.YteoihdkaoipocaaDoor
open Go.RowKit Go.Maps Go.Shelf

theorem owns_mono {w : World} {base base' : Nat} {e : TypeId} {size : Nat} {v : Value} {n : Nat} {xs : List Value} (h : w.ownsRow base e size v n xs) (hb : base' ≤ base) : w.ownsRow base' e size v n xs := by
  refine ⟨h.1, ?_⟩
  rcases h.2 with h | ⟨g, cap, cur, hv, hg, hr⟩
  · exact .inl h
  · exact .inr ⟨g, cap, cur, hv, Nat.le_trans hb hg, hr⟩
structure RinW (w : World) (nv ov : Value) (zs : List Int) (W : World) : Prop where
  low : Below w.heap.size w W
  box : W.heap[w.heap.size]? = some (.cells #[nv] 44 (0, 0))
  out : OwnI W (w.heap.size + 1) ov zs
  sz : w.heap.size + 1 ≤ W.heap.size
set_option maxRecDepth 100000 in
set_option maxHeartbeats 1600000 in
theorem rin_any (w : World) (base : Nat) (nv : Value) (xs : List Nde) (p : ByteArray) (hF : FlR w base nv xs) (hlen : xs.length ≤ 4096) : Calls Tryd.prog 86 #[.agg #[nv], .string p] w (FinPost (xs.map Nde.pl) p w) := by
  obtain ⟨i3, hi3, hz3, hz31, hz32⟩ := info_parts info3
  have hln := flr_len hF
  obtain ⟨n, hn⟩ : ∃ n, n = xs.length := ⟨_, rfl⟩
  rw [← hn] at hln hlen
  have hR0 : RinW w nv (.slice none 0 0) (inOf ((xs.map Nde.pl).take 0) p) (w.alloc (.cells #[nv] 44 (0, 0))) := ⟨(Below.refl _ _).alloc (Nat.le_refl _) _, blk_new _ _, ⟨rfl, .inl ⟨rfl, rfl⟩⟩, by simp⟩
  replace hF := Lib.hid hF; replace hn := Lib.hid hn; replace hR0 := Lib.hid hR0
  go_enter Tryd.func86, Tryd.ntmps86
  go_wp2
  go_loopw [5, 6] (fun ov i wr => ∃ k : Nat, i = .int .i64 k ∧ k ≤ n ∧ Hid (RinW w nv ov (inOf ((xs.map Nde.pl).take k) p) wr)) (fun _ i _ => n - (intOf i).toNat)
  case atStart => exact ⟨0, rfl, Nat.zero_le _, hR0.out⟩
  case round =>
    obtain ⟨k, rfl, hk, hR⟩ := hrel
    have f0 : wr.cell? ⟨w.heap.size, 0, none⟩ = some nv := blk_cell hR.out.box 0
    by_cases hc : k < n
    · have hc1 : (k : Int) < n := by omega
      have hk0 : (0 : Int) ≤ (k : Int) := by omega
      have hFr := hF.out.below hR.out.low
      obtain ⟨x, hx⟩ : ∃ x, xs[k]? = some x := ⟨_, List.getElem?_eq_getElem (by have := hn.out; omega)⟩
      obtain ⟨g, cap, rfl, _, _, hcell⟩ := hFr.cell hx
      have c5 : wr.cell? ⟨g, k * 6 + 5, none⟩ = some (.slice x.po x.pn x.pc) := hcell 5 (by omega)
      rw [← hn.out] at f0
      clear hln
      have hct := has_any x.po x.pn x.pc x.parts p wr (hFr.ok x (List.mem_of_getElem? hx)).1.parts
      obtain ⟨b, hb⟩ : ∃ b, b = memB x.parts p := ⟨_, rfl⟩
      rw [← hb] at hct
      have hpl := pl_at hx
      replace hFr := Lib.hid hFr; replace hx := Lib.hid hx; replace hct := Lib.hid hct; replace hb := Lib.hid hb; replace hpl := Lib.hid hpl; replace hcell := Lib.hid hcell
      cases b with
      | false =>
        have hR2 : RinW w (.slice (some ⟨g, 0, none⟩) xs.length cap) u5 (inOf ((xs.map Nde.pl).take (k + 1)) p) wr := by rw [inOf_no hpl.out hb.out.symm]; exact hR.out
        replace hR2 := Lib.hid hR2
        go_wp2_with fail
        (with_reducible refine hct.out.mono ?_)
        rintro e wr ⟨rfl, rfl⟩
        go_wp2
        go_roundw
        case rel => exact ⟨k + 1, by go_num, by omega, hR2.out⟩
        case measure => simp [intOf]; omega
      | true =>
        obtain ⟨L, hL⟩ : ∃ L, L = (inOf ((xs.map Nde.pl).take k) p).length := ⟨_, rfl⟩
        have hLk : L ≤ k := by rw [hL]; refine Nat.le_trans (inOf_len _ _) ?_; rw [List.length_take]; omega
        have hownA : (wr.alloc (.cells #[.int .i64 (k : Int)] 3 (0, 0))).ownsRow (w.heap.size + 1) 3 1 u5 L (intsV (inOf ((xs.map Nde.pl).take k) p)) := by rw [hL]; exact hR.out.out.row.alloc (.cells #[.int .i64 (k : Int)] 3 (0, 0))
        have hnews := one_new wr (k : Int)
        have hone1 : ∀ u ∈ ([.int .i64 (k : Int)] : List Value), u.oneCell' = true := by simp [Value.oneCell']
        have h63 := maxLen_ge (n := L) (by omega)
        have hby : (L + 1) * 8 ≤ 140737488355328 := by omega
        have hbas : w.heap.size + 1 ≤ (wr.alloc (.cells #[.int .i64 (k : Int)] 3 (0, 0))).heap.size := by have := hR.out.sz; simp; omega
        replace hL := Lib.hid hL; replace hownA := Lib.hid hownA; replace hnews := Lib.hid hnews; replace hone1 := Lib.hid hone1; replace h63 := Lib.hid h63; replace hby := Lib.hid hby; replace hbas := Lib.hid hbas
        go_wp2_with fail
        (with_reducible refine hct.out.mono ?_)
        rintro e wr ⟨rfl, rfl⟩
        go_wp2_with (at_builtin; refine wpList_append_own _ rfl _ _ 26 rfl (w.heap.size + 1) 3 i3 _ 1 8 Tryd.underlying26 hi3 hz3 hz31 hz32 rfl (by decide) _ L _ rfl hownA.out ⟨wr.heap.size, 0, none⟩ 1 1 [.int .i64 (k : Int)] rfl rfl hnews.out hone1.out h63.out hby.out hbas.out ?_; intro v1 w7 hown7 hgrow _; obtain ⟨g7, cap1, rfl⟩ := Joins.ownsRow_form hown7 (by omega); replace hown7 := Lib.hid hown7; replace hgrow := Lib.hid hgrow)
        have hR7 : RinW w (.slice (some ⟨g, 0, none⟩) xs.length cap) (.slice (some ⟨g7, 0, none⟩) (L + 1) cap1) (inOf ((xs.map Nde.pl).take (k + 1)) p) w7 := by
          have hlt := hR.out.out.row.lt
          refine ⟨?_, ?_, ⟨?_⟩, ?_⟩
          · exact (hR.out.low.alloc hR.out.low.size _).grown hgrow.out (by have := hbas.out; omega) (fun k hk => by have := (hlt k hk).1; omega)
          · exact (hgrow.out.block _ (by have := hR.out.sz; simp; omega) (fun e => by have := (hlt _ e.symm).1; omega)).trans (blk_old _ hR.out.box)
          · rw [inOf_yes hpl.out hb.out.symm, List.length_append, ← hL.out]
            simpa [intsV] using hown7.out
          · have := hgrow.out.size; have := hbas.out; omega
        replace hR7 := Lib.hid hR7
        go_roundw
        case rel => exact ⟨k + 1, by go_num, by omega, hR7.out⟩
        case measure => simp [intOf]; omega
    · have hc1 : ¬ (k : Int) < n := by omega
      have hkn : (xs.map Nde.pl).take k = xs.map Nde.pl := List.take_of_length_le (by rw [List.length_map]; have := hn.out; omega)
      replace hkn := Lib.hid hkn
      go_wp2
      go_ret
      refine ⟨u5, rfl, ⟨?_⟩, hR.out.low⟩
      have := hR.out.out.row
      rw [hkn.out] at this
      exact owns_mono this (Nat.le_succ _)

structure RtW (w : World) (nv : Value) (v : V4) (W : World) : Prop where
  low : Below w.heap.size w W
  box : W.heap[w.heap.size]? = some (.cells #[nv] 44 (0, 0))
  r0 : W.heap[w.heap.size + 1]? = some (.cells V4.zero.cells 25 (0, 0))
  r1 : W.heap[w.heap.size + 2]? = some (.cells v.cells 25 (0, 0))
theorem RtW.set {w W : World} {nv : Value} {v v' : V4} (h : RtW w nv v W) (o : Nat) (x : Value) (e : v.cells.setIfInBounds o x = v'.cells) : RtW w nv v' (W.setCell ⟨w.heap.size + 2, o, none⟩ x) :=
  ⟨h.low.setCell (Nat.le_add_right _ _) _, blk_set_other (by omega) _ h.box, blk_set_other (by omega) _ h.r0, by rw [blk_set h.r1, e]⟩
theorem RtW.drew {w W : World} {nv : Value} {v : V4} (h : RtW w nv v W) : RtW w nv v W.drew := ⟨h.low.drew, h.box, h.r0, h.r1⟩
set_option maxRecDepth 100000 in
set_option maxHeartbeats 6400000 in
theorem rtot_any (w : World) (base : Nat) (nv : Value) (xs : List Nde) (p : ByteArray) (hF : FlR w base nv xs) (hlen : xs.length ≤ 4096) (hcap : ∀ x, x ∈ xs → CapOk x.cap) : Calls Tryd.prog 87 #[.agg #[nv], .string p] w (TotPost (xs.map Nde.pl) p w) := by
  have hln := flr_len hF
  obtain ⟨n, hn⟩ : ∃ n, n = xs.length := ⟨_, rfl⟩
  rw [← hn] at hln hlen
  have hR0 : RtW w nv (totOf ((xs.map Nde.pl).take 0) p) (((w.alloc (.cells #[nv] 44 (0, 0))).alloc (.cells V4.zero.cells 25 (0, 0))).alloc (.cells V4.zero.cells 25 (0, 0))) :=
    ⟨(((Below.refl _ _).alloc (Nat.le_refl _) _).alloc (by simp) _).alloc (by simp; omega) _, blk_old _ (blk_old _ (blk_new _ _)), blk_old _ (blk_at _ _ (by simp)), blk_at _ _ (by simp)⟩
  have hcp : ∀ v, v ∈ xs.map Nde.pl → CapOk v.cap := fun v hv => by
    obtain ⟨x, hx, rfl⟩ := List.mem_map.1 hv
    exact hcap x hx
  replace hF := Lib.hid hF; replace hn := Lib.hid hn; replace hR0 := Lib.hid hR0; replace hcp := Lib.hid hcp; replace hcap := Lib.hid hcap
  go_enter Tryd.func87, Tryd.ntmps87
  go_wp2
  go_loopw [6] (fun i wr => ∃ k : Nat, i = .int .i64 k ∧ k ≤ n ∧ Hid (RtW w nv (totOf ((xs.map Nde.pl).take k) p) wr)) (fun i _ => n - (intOf i).toNat)
  case atStart => exact ⟨0, rfl, Nat.zero_le _, hR0.out⟩
  case round =>
    obtain ⟨k, rfl, hk, hR⟩ := hrel
    have f0 : wr.cell? ⟨w.heap.size, 0, none⟩ = some nv := blk_cell hR.out.box 0
    by_cases hc : k < n
    · have hc1 : (k : Int) < n := by omega
      have hk0 : (0 : Int) ≤ (k : Int) := by omega
      have hFr := hF.out.below hR.out.low
      obtain ⟨x, hx⟩ : ∃ x, xs[k]? = some x := ⟨_, List.getElem?_eq_getElem (by have := hn.out; omega)⟩
      obtain ⟨g, cap, rfl, _, _, hcell⟩ := hFr.cell hx
      have c5 : wr.cell? ⟨g, k * 6 + 5, none⟩ = some (.slice x.po x.pn x.pc) := hcell 5 (by omega)
      have hct2 : ∀ wq, Below w.heap.size w wq → ∀ j, j < 6 → wq.cell? ⟨g, k * 6 + j, none⟩ = (x.cells)[j]? := fun wq hb j hj => by
        obtain ⟨g', cap', e, _, _, h2⟩ := (hF.out.below hb).cell hx
        cases e
        exact h2 j hj
      rw [← hn.out] at f0
      clear hln
      have hct := has_any x.po x.pn x.pc x.parts p wr (hFr.ok x (List.mem_of_getElem? hx)).1.parts
      obtain ⟨b, hb⟩ : ∃ b, b = memB x.parts p := ⟨_, rfl⟩
      rw [← hb] at hct
      have hpl := pl_at hx
      have hst := totOf_step p hpl
      have hup := totOf_upto (vs := (xs.map Nde.pl).take k) p (fun v hv => hcp.out v (List.mem_of_mem_take hv))
      have hcx := hcap.out x (List.mem_of_getElem? hx)
      have hltk : ((xs.map Nde.pl).take k).length = k := by rw [List.length_take, List.length_map]; have := hn.out; omega
      rw [hltk] at hup
      replace hFr := Lib.hid hFr; replace hx := Lib.hid hx; replace hct := Lib.hid hct; replace hb := Lib.hid hb; replace hpl := Lib.hid hpl; replace hcell := Lib.hid hcell; replace hst := Lib.hid hst; replace hup := Lib.hid hup; replace hcx := Lib.hid hcx; replace hltk := Lib.hid hltk; replace hct2 := Lib.hid hct2
      obtain ⟨U, hU⟩ : ∃ U, U = totOf ((xs.map Nde.pl).take k) p := ⟨_, rfl⟩
      have hR' := hR.out
      have hup' := hup.out
      have hst' := hst.out
      rw [← hU] at hR' hup' hst'
      obtain ⟨nm, ⟨ca, cb, cc, cd⟩, po, pn, pc, ps⟩ := x
      obtain ⟨ua, ub, uc, ud⟩ := U
      obtain ⟨v1, v2, v3, v4, v5, v6, v7, v8⟩ := hup'
      obtain ⟨x1, x2, x3, x4, x5, x6, x7, x8⟩ := hcx.out
      simp only at v1 v2 v3 v4 v5 v6 v7 v8 x1 x2 x3 x4 x5 x6 x7 x8
      have y1 : ua ≤ 4398046511104 := by omega
      have y2 : ub ≤ 4398046511104 := by omega
      have y3 : uc ≤ 4398046511104 := by omega
      have y4 : ud ≤ 4398046511104 := by omega
      clear v2 v4 v6 v8
      replace hU := Lib.hid hU; replace hR' := Lib.hid hR'; replace hst' := Lib.hid hst'; replace hR := Lib.hid hR
      cases hp : p.toList.isEmpty with
      | true =>
        have hcn : counts (Nde.pl ⟨nm, ⟨ca, cb, cc, cd⟩, po, pn, pc, ps⟩) p = true := by unfold counts; rw [hp]; rfl
        replace hcn := Lib.hid hcn
        go_wp2_with fail
        clear f0
        go_loopw [7] (fun i wq => ∃ j : Nat, j ≤ 4 ∧ i = .int .i64 j ∧ Hid (RtW w (.slice (some ⟨g, 0, none⟩) xs.length cap) (mixV ⟨ua, ub, uc, ud⟩ ⟨ca, cb, cc, cd⟩ j) wq)) (fun i _ => 4 - (intOf i).toNat)
        case atStart => exact ⟨0, by omega, rfl, hR'.out⟩
        case round =>
          obtain ⟨j, hj, hjv, hM⟩ := hrel
          rcases (show j = 0 ∨ j = 1 ∨ j = 2 ∨ j = 3 ∨ j = 4 by omega) with rfl | rfl | rfl | rfl | rfl
          · have hjv' : u7 = .int .i64 0 := hjv
            clear hjv
            subst hjv'
            have q0 : wr.cell? ⟨w.heap.size + 1 + 1, 0, none⟩ = some (.int .i64 ua) := blk_cell hM.out.r1 0
            have f0 : wr.frozen? ⟨w.heap.size + 1 + 1, 0, none⟩ = false := blk_free hM.out.r1 0
            have x0 : wr.cell? ⟨g, k * 6 + 1 + 0, none⟩ = some (.int .i64 ca) := by rw [Nat.add_assoc]; exact hct2.out wr hM.out.low (1 + 0) (by omega)
            have fb : wr.cell? ⟨w.heap.size, 0, none⟩ = some (.slice (some ⟨g, 0, none⟩) n cap) := by rw [hn.out]; exact blk_cell hM.out.box 0
            have hM2 : RtW w (.slice (some ⟨g, 0, none⟩) xs.length cap) (mixV ⟨ua, ub, uc, ud⟩ ⟨ca, cb, cc, cd⟩ 1) (wr.drew.setCell ⟨w.heap.size + 2, 0, none⟩ (.int .i64 (ua + ca))) := hM.out.drew.set 0 _ rfl
            replace hM2 := Lib.hid hM2
            have hwr : IntKind.i64.wrap (ua + ca) = ua + ca := IntWalk.i64_in _ (by omega)
            go_upto_region 9 with fail
            go_still_tail 13, (by kernel_rfl)
            change wpList _ _ _ _ _ wr.drew
            clear hwr
            go_wp2
            go_roundw
            case rel => exact ⟨1, by omega, rfl, hM2.out⟩
            case measure => simp [intOf]
          · have hjv' : u7 = .int .i64 1 := hjv
            clear hjv
            subst hjv'
            have q1 : wr.cell? ⟨w.heap.size + 1 + 1, 1, none⟩ = some (.int .i64 ub) := blk_cell hM.out.r1 1
            have f1 : wr.frozen? ⟨w.heap.size + 1 + 1, 1, none⟩ = false := blk_free hM.out.r1 1
            have x1 : wr.cell? ⟨g, k * 6 + 1 + 1, none⟩ = some (.int .i64 cb) := by rw [Nat.add_assoc]; exact hct2.out wr hM.out.low (1 + 1) (by omega)
            have fb : wr.cell? ⟨w.heap.size, 0, none⟩ = some (.slice (some ⟨g, 0, none⟩) n cap) := by rw [hn.out]; exact blk_cell hM.out.box 0
            have hM2 : RtW w (.slice (some ⟨g, 0, none⟩) xs.length cap) (mixV ⟨ua, ub, uc, ud⟩ ⟨ca, cb, cc, cd⟩ 2) (wr.drew.setCell ⟨w.heap.size + 2, 1, none⟩ (.int .i64 (ub + cb))) := hM.out.drew.set 1 _ rfl
            replace hM2 := Lib.hid hM2
            have hwr : IntKind.i64.wrap (ub + cb) = ub + cb := IntWalk.i64_in _ (by omega)
            go_upto_region 9 with fail
            go_still_tail 13, (by kernel_rfl)
            change wpList _ _ _ _ _ wr.drew
            clear hwr
            go_wp2
            go_roundw
            case rel => exact ⟨2, by omega, rfl, hM2.out⟩
            case measure => simp [intOf]
          · have hjv' : u7 = .int .i64 2 := hjv
            clear hjv
            subst hjv'
            have q2 : wr.cell? ⟨w.heap.size + 1 + 1, 2, none⟩ = some (.int .i64 uc) := blk_cell hM.out.r1 2
            have f2 : wr.frozen? ⟨w.heap.size + 1 + 1, 2, none⟩ = false := blk_free hM.out.r1 2
            have x2 : wr.cell? ⟨g, k * 6 + 1 + 2, none⟩ = some (.int .i64 cc) := by rw [Nat.add_assoc]; exact hct2.out wr hM.out.low (1 + 2) (by omega)
            have fb : wr.cell? ⟨w.heap.size, 0, none⟩ = some (.slice (some ⟨g, 0, none⟩) n cap) := by rw [hn.out]; exact blk_cell hM.out.box 0
            have hM2 : RtW w (.slice (some ⟨g, 0, none⟩) xs.length cap) (mixV ⟨ua, ub, uc, ud⟩ ⟨ca, cb, cc, cd⟩ 3) (wr.drew.setCell ⟨w.heap.size + 2, 2, none⟩ (.int .i64 (uc + cc))) := hM.out.drew.set 2 _ rfl
            replace hM2 := Lib.hid hM2
            have hwr : IntKind.i64.wrap (uc + cc) = uc + cc := IntWalk.i64_in _ (by omega)
            go_upto_region 9 with fail
            go_still_tail 13, (by kernel_rfl)
            change wpList _ _ _ _ _ wr.drew
            clear hwr
            go_wp2
            go_roundw
            case rel => exact ⟨3, by omega, rfl, hM2.out⟩
            case measure => simp [intOf]
          · have hjv' : u7 = .int .i64 3 := hjv
            clear hjv
            subst hjv'
            have q3 : wr.cell? ⟨w.heap.size + 1 + 1, 3, none⟩ = some (.int .i64 ud) := blk_cell hM.out.r1 3
            have f3 : wr.frozen? ⟨w.heap.size + 1 + 1, 3, none⟩ = false := blk_free hM.out.r1 3
            have x3 : wr.cell? ⟨g, k * 6 + 1 + 3, none⟩ = some (.int .i64 cd) := by rw [Nat.add_assoc]; exact hct2.out wr hM.out.low (1 + 3) (by omega)
            have fb : wr.cell? ⟨w.heap.size, 0, none⟩ = some (.slice (some ⟨g, 0, none⟩) n cap) := by rw [hn.out]; exact blk_cell hM.out.box 0
            have hM2 : RtW w (.slice (some ⟨g, 0, none⟩) xs.length cap) (mixV ⟨ua, ub, uc, ud⟩ ⟨ca, cb, cc, cd⟩ 4) (wr.drew.setCell ⟨w.heap.size + 2, 3, none⟩ (.int .i64 (ud + cd))) := hM.out.drew.set 3 _ rfl
            replace hM2 := Lib.hid hM2
            have hwr : IntKind.i64.wrap (ud + cd) = ud + cd := IntWalk.i64_in _ (by omega)
            go_upto_region 9 with fail
            go_still_tail 13, (by kernel_rfl)
            change wpList _ _ _ _ _ wr.drew
            clear hwr
            go_wp2
            go_roundw
            case rel => exact ⟨4, by omega, rfl, hM2.out⟩
            case measure => simp [intOf]
          · have hjv' : u7 = .int .i64 4 := hjv
            clear hjv
            subst hjv'
            have hR3 : RtW w (.slice (some ⟨g, 0, none⟩) xs.length cap) (totOf ((xs.map Nde.pl).take (k + 1)) p) wr := by rw [hst'.out, if_pos hcn.out]; exact hM.out
            replace hR3 := Lib.hid hR3
            go_wp2
            go_roundw
            case rel => exact ⟨k + 1, by go_num, by omega, hR3.out⟩
            case measure => simp [intOf]; omega
      | false =>
        cases b with
        | true =>
          have hcn : counts (Nde.pl ⟨nm, ⟨ca, cb, cc, cd⟩, po, pn, pc, ps⟩) p = true := by unfold counts; rw [hp]; exact hb.out.symm
          replace hcn := Lib.hid hcn
          go_wp2_with fail
          (with_reducible refine hct.out.mono ?_)
          rintro e wr ⟨rfl, rfl⟩
          go_wp2
          clear f0
          go_loopw [7] (fun i wq => ∃ j : Nat, j ≤ 4 ∧ i = .int .i64 j ∧ Hid (RtW w (.slice (some ⟨g, 0, none⟩) xs.length cap) (mixV ⟨ua, ub, uc, ud⟩ ⟨ca, cb, cc, cd⟩ j) wq)) (fun i _ => 4 - (intOf i).toNat)
          case atStart => exact ⟨0, by omega, rfl, hR'.out⟩
          case round =>
            obtain ⟨j, hj, hjv, hM⟩ := hrel
            rcases (show j = 0 ∨ j = 1 ∨ j = 2 ∨ j = 3 ∨ j = 4 by omega) with rfl | rfl | rfl | rfl | rfl
            · have hjv' : u7 = .int .i64 0 := hjv
              clear hjv
              subst hjv'
              have q0 : wr.cell? ⟨w.heap.size + 1 + 1, 0, none⟩ = some (.int .i64 ua) := blk_cell hM.out.r1 0
              have f0 : wr.frozen? ⟨w.heap.size + 1 + 1, 0, none⟩ = false := blk_free hM.out.r1 0
              have x0 : wr.cell? ⟨g, k * 6 + 1 + 0, none⟩ = some (.int .i64 ca) := by rw [Nat.add_assoc]; exact hct2.out wr hM.out.low (1 + 0) (by omega)
              have fb : wr.cell? ⟨w.heap.size, 0, none⟩ = some (.slice (some ⟨g, 0, none⟩) n cap) := by rw [hn.out]; exact blk_cell hM.out.box 0
              have hM2 : RtW w (.slice (some ⟨g, 0, none⟩) xs.length cap) (mixV ⟨ua, ub, uc, ud⟩ ⟨ca, cb, cc, cd⟩ 1) (wr.drew.setCell ⟨w.heap.size + 2, 0, none⟩ (.int .i64 (ua + ca))) := hM.out.drew.set 0 _ rfl
              replace hM2 := Lib.hid hM2
              have hwr : IntKind.i64.wrap (ua + ca) = ua + ca := IntWalk.i64_in _ (by omega)
              go_upto_region 9 with fail
              go_still_tail 13, (by kernel_rfl)
              change wpList _ _ _ _ _ wr.drew
              clear hwr
              go_wp2
              go_roundw
              case rel => exact ⟨1, by omega, rfl, hM2.out⟩
              case measure => simp [intOf]
            · have hjv' : u7 = .int .i64 1 := hjv
              clear hjv
              subst hjv'
              have q1 : wr.cell? ⟨w.heap.size + 1 + 1, 1, none⟩ = some (.int .i64 ub) := blk_cell hM.out.r1 1
              have f1 : wr.frozen? ⟨w.heap.size + 1 + 1, 1, none⟩ = false := blk_free hM.out.r1 1
              have x1 : wr.cell? ⟨g, k * 6 + 1 + 1, none⟩ = some (.int .i64 cb) := by rw [Nat.add_assoc]; exact hct2.out wr hM.out.low (1 + 1) (by omega)
              have fb : wr.cell? ⟨w.heap.size, 0, none⟩ = some (.slice (some ⟨g, 0, none⟩) n cap) := by rw [hn.out]; exact blk_cell hM.out.box 0
              have hM2 : RtW w (.slice (some ⟨g, 0, none⟩) xs.length cap) (mixV ⟨ua, ub, uc, ud⟩ ⟨ca, cb, cc, cd⟩ 2) (wr.drew.setCell ⟨w.heap.size + 2, 1, none⟩ (.int .i64 (ub + cb))) := hM.out.drew.set 1 _ rfl
              replace hM2 := Lib.hid hM2
              have hwr : IntKind.i64.wrap (ub + cb) = ub + cb := IntWalk.i64_in _ (by omega)
              go_upto_region 9 with fail
              go_still_tail 13, (by kernel_rfl)
              change wpList _ _ _ _ _ wr.drew
              clear hwr
              go_wp2
              go_roundw
              case rel => exact ⟨2, by omega, rfl, hM2.out⟩
              case measure => simp [intOf]
            · have hjv' : u7 = .int .i64 2 := hjv
              clear hjv
              subst hjv'
              have q2 : wr.cell? ⟨w.heap.size + 1 + 1, 2, none⟩ = some (.int .i64 uc) := blk_cell hM.out.r1 2
              have f2 : wr.frozen? ⟨w.heap.size + 1 + 1, 2, none⟩ = false := blk_free hM.out.r1 2
              have x2 : wr.cell? ⟨g, k * 6 + 1 + 2, none⟩ = some (.int .i64 cc) := by rw [Nat.add_assoc]; exact hct2.out wr hM.out.low (1 + 2) (by omega)
              have fb : wr.cell? ⟨w.heap.size, 0, none⟩ = some (.slice (some ⟨g, 0, none⟩) n cap) := by rw [hn.out]; exact blk_cell hM.out.box 0
              have hM2 : RtW w (.slice (some ⟨g, 0, none⟩) xs.length cap) (mixV ⟨ua, ub, uc, ud⟩ ⟨ca, cb, cc, cd⟩ 3) (wr.drew.setCell ⟨w.heap.size + 2, 2, none⟩ (.int .i64 (uc + cc))) := hM.out.drew.set 2 _ rfl
              replace hM2 := Lib.hid hM2
              have hwr : IntKind.i64.wrap (uc + cc) = uc + cc := IntWalk.i64_in _ (by omega)
              go_upto_region 9 with fail
              go_still_tail 13, (by kernel_rfl)
              change wpList _ _ _ _ _ wr.drew
              clear hwr
              go_wp2
              go_roundw
              case rel => exact ⟨3, by omega, rfl, hM2.out⟩
              case measure => simp [intOf]
            · have hjv' : u7 = .int .i64 3 := hjv
              clear hjv
              subst hjv'
              have q3 : wr.cell? ⟨w.heap.size + 1 + 1, 3, none⟩ = some (.int .i64 ud) := blk_cell hM.out.r1 3
              have f3 : wr.frozen? ⟨w.heap.size + 1 + 1, 3, none⟩ = false := blk_free hM.out.r1 3
              have x3 : wr.cell? ⟨g, k * 6 + 1 + 3, none⟩ = some (.int .i64 cd) := by rw [Nat.add_assoc]; exact hct2.out wr hM.out.low (1 + 3) (by omega)
              have fb : wr.cell? ⟨w.heap.size, 0, none⟩ = some (.slice (some ⟨g, 0, none⟩) n cap) := by rw [hn.out]; exact blk_cell hM.out.box 0
              have hM2 : RtW w (.slice (some ⟨g, 0, none⟩) xs.length cap) (mixV ⟨ua, ub, uc, ud⟩ ⟨ca, cb, cc, cd⟩ 4) (wr.drew.setCell ⟨w.heap.size + 2, 3, none⟩ (.int .i64 (ud + cd))) := hM.out.drew.set 3 _ rfl
              replace hM2 := Lib.hid hM2
              have hwr : IntKind.i64.wrap (ud + cd) = ud + cd := IntWalk.i64_in _ (by omega)
              go_upto_region 9 with fail
              go_still_tail 13, (by kernel_rfl)
              change wpList _ _ _ _ _ wr.drew
              clear hwr
              go_wp2
              go_roundw
              case rel => exact ⟨4, by omega, rfl, hM2.out⟩
              case measure => simp [intOf]
            · have hjv' : u7 = .int .i64 4 := hjv
              clear hjv
              subst hjv'
              have hR3 : RtW w (.slice (some ⟨g, 0, none⟩) xs.length cap) (totOf ((xs.map Nde.pl).take (k + 1)) p) wr := by rw [hst'.out, if_pos hcn.out]; exact hM.out
              replace hR3 := Lib.hid hR3
              go_wp2
              go_roundw
              case rel => exact ⟨k + 1, by go_num, by omega, hR3.out⟩
              case measure => simp [intOf]; omega
        | false =>
          have hcn : counts (Nde.pl ⟨nm, ⟨ca, cb, cc, cd⟩, po, pn, pc, ps⟩) p = false := by unfold counts; rw [hp]; exact hb.out.symm
          have hT2 : RtW w (.slice (some ⟨g, 0, none⟩) xs.length cap) (totOf ((xs.map Nde.pl).take (k + 1)) p) wr := by rw [hst'.out, if_neg (by rw [hcn]; simp)]; exact hR'.out
          replace hcn := Lib.hid hcn; replace hT2 := Lib.hid hT2
          go_wp2_with fail
          (with_reducible refine hct.out.mono ?_)
          rintro e wr ⟨rfl, rfl⟩
          go_wp2
          go_roundw
          case rel => exact ⟨k + 1, by go_num, by omega, hT2.out⟩
          case measure => simp [intOf]; omega
    · have hc1 : ¬ (k : Int) < n := by omega
      have hkn : (xs.map Nde.pl).take k = xs.map Nde.pl := List.take_of_length_le (by rw [List.length_map]; have := hn.out; omega)
      have hR' := hR.out
      rw [hkn] at hR'
      obtain ⟨U, hU⟩ : ∃ U, U = totOf (xs.map Nde.pl) p := ⟨_, rfl⟩
      rw [← hU] at hR'
      obtain ⟨ua, ub, uc, ud⟩ := U
      have r1 := hR'.r1
      have a0 : wr.cell? ⟨w.heap.size + 1 + 1, 0, none⟩ = some (.int .i64 ua) := blk_cell r1 0
      have a1 : wr.cell? ⟨w.heap.size + 1 + 1, 1, none⟩ = some (.int .i64 ub) := blk_cell r1 1
      have a2 : wr.cell? ⟨w.heap.size + 1 + 1, 2, none⟩ = some (.int .i64 uc) := blk_cell r1 2
      have a3 : wr.cell? ⟨w.heap.size + 1 + 1, 3, none⟩ = some (.int .i64 ud) := blk_cell r1 3
      have r0 := hR'.r0
      have b0 : wr.cell? ⟨w.heap.size + 1, 0, none⟩ = some (.int .i64 0) := blk_cell r0 0
      have b1 : wr.cell? ⟨w.heap.size + 1, 1, none⟩ = some (.int .i64 0) := blk_cell r0 1
      have b2 : wr.cell? ⟨w.heap.size + 1, 2, none⟩ = some (.int .i64 0) := blk_cell r0 2
      have b3 : wr.cell? ⟨w.heap.size + 1, 3, none⟩ = some (.int .i64 0) := blk_cell r0 3
      have fr := blk_free hR'.r0
      have e : ∀ v0 v1 v2 v3, Below w.heap.size w ((((wr.setCell ⟨w.heap.size + 1, 0, none⟩ v0).setCell ⟨w.heap.size + 1, 1, none⟩ v1).setCell ⟨w.heap.size + 1, 2, none⟩ v2).setCell ⟨w.heap.size + 1, 3, none⟩ v3) := fun v0 v1 v2 v3 =>
        (((hR'.low.setCell (Nat.le_succ _) _).setCell (Nat.le_succ _) _).setCell (Nat.le_succ _) _).setCell (Nat.le_succ _) _
      replace hkn := Lib.hid hkn; replace hR' := Lib.hid hR'; replace hU := Lib.hid hU; replace hR := Lib.hid hR; replace r1 := Lib.hid r1; replace r0 := Lib.hid r0; replace e := Lib.hid e
      go_wp2
      refine bodyPost_ret (v := V4.val ⟨ua, ub, uc, ud⟩) (by simp [results, Tryd.results87, go_sem, b0, b1, b2, b3]) rfl ⟨?_, e.out _ _ _ _⟩
      rw [hU.out]
end Go.Proofs.YteoihdkaoipocaaDoor

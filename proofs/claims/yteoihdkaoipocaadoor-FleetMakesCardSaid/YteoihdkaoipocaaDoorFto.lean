/- (*fleet.Fleet).Total: what a partition's nodes have. -/
import Derived.Test.YteoihdkaoipocaaDoorFin
namespace Go.Proofs.YteoihdkaoipocaaDoor
open Go.RowKit Go.Maps Go.Shelf

structure TtW (w : World) (v : V4) (W : World) : Prop where
  low : Below w.heap.size w W
  r0 : W.heap[w.heap.size]? = some (.cells V4.zero.cells 25 (0, 0))
  r1 : W.heap[w.heap.size + 1]? = some (.cells v.cells 25 (0, 0))
theorem TtW.drew {w W : World} {v : V4} (h : TtW w v W) : TtW w v W.drew := ⟨h.low.drew, h.r0, h.r1⟩
theorem TtW.set {w W : World} {v v' : V4} (h : TtW w v W) (o : Nat) (x : Value) (e : v.cells.setIfInBounds o x = v'.cells) : TtW w v' (W.setCell ⟨w.heap.size + 1, o, none⟩ x) :=
  ⟨h.low.setCell (Nat.le_succ _) _, blk_set_other (Nat.ne_of_lt (Nat.lt_succ_self _)) _ h.r0, by rw [blk_set h.r1, e]⟩
/-- the first k are added -/
def mixV (u c : V4) (k : Nat) : V4 := ⟨if 0 < k then u.a + c.a else u.a, if 1 < k then u.b + c.b else u.b, if 2 < k then u.c + c.c else u.c, if 3 < k then u.d + c.d else u.d⟩
theorem mixV_zero (u c : V4) : mixV u c 0 = u := rfl
theorem mixV_four (u c : V4) : mixV u c 4 = addV u c := rfl
theorem tt_end {w W : World} {v : V4} (h : TtW w v W) : Below w.heap.size w ((((W.setCell ⟨w.heap.size, 0, none⟩ (.int .i64 v.a)).setCell ⟨w.heap.size, 1, none⟩ (.int .i64 v.b)).setCell ⟨w.heap.size, 2, none⟩ (.int .i64 v.c)).setCell ⟨w.heap.size, 3, none⟩ (.int .i64 v.d)) :=
  (((h.low.setCell (Nat.le_refl _) _).setCell (Nat.le_refl _) _).setCell (Nat.le_refl _) _).setCell (Nat.le_refl _) _
def TotPost (vs : List Ndv) (p : ByteArray) (w : World) (e : Ending) (w' : World) : Prop := e = .returned (totOf vs p).val ∧ Below w.heap.size w w'
theorem tot_nil (p : ByteArray) (w : World) : Calls Tryd.prog 60 #[.pointer none, .string p] w (TotPost [] p w) := by
  go_enter Tryd.func60, Tryd.ntmps60
  go_wp2_with fail
  (with_reducible refine (len_nil _).mono ?_)
  rintro e w1 ⟨rfl, rfl⟩
  go_wp2
  go_loopw [11] (fun i wr => i = .int .i64 0 ∧ Hid (TtW w V4.zero wr)) (fun i _ => 0)
  case atStart => exact ⟨rfl, ⟨((Below.refl _ _).alloc (Nat.le_refl _) _).alloc (by simp) _, blk_old _ (blk_new _ _), blk_at _ _ (by simp)⟩⟩
  case round =>
    obtain ⟨rfl, hT⟩ := hrel
    have r1 := blk_cell hT.out.r1
    have r0 := blk_cell hT.out.r0
    have hr1 := blk_free hT.out.r0
    go_wp2
    have e := tt_end hT.out
    refine bodyPost_ret (v := V4.zero.val) (by simp [results, Tryd.results60, go_sem, r0, V4.zero]) rfl ⟨rfl, ?_⟩
    exact e
theorem idx4_0 (a b c d : Int) (w : World) : (Instr.index 25 (.agg #[.int .i64 a, .int .i64 b, .int .i64 c, .int .i64 d]) (.int .i64 0)).run Tryd.prog w = .ok (.int .i64 a) w := by kernel_rfl
theorem idx4_1 (a b c d : Int) (w : World) : (Instr.index 25 (.agg #[.int .i64 a, .int .i64 b, .int .i64 c, .int .i64 d]) (.int .i64 1)).run Tryd.prog w = .ok (.int .i64 b) w := by kernel_rfl
theorem idx4_2 (a b c d : Int) (w : World) : (Instr.index 25 (.agg #[.int .i64 a, .int .i64 b, .int .i64 c, .int .i64 d]) (.int .i64 2)).run Tryd.prog w = .ok (.int .i64 c) w := by kernel_rfl
theorem idx4_3 (a b c d : Int) (w : World) : (Instr.index 25 (.agg #[.int .i64 a, .int .i64 b, .int .i64 c, .int .i64 d]) (.int .i64 3)).run Tryd.prog w = .ok (.int .i64 d) w := by kernel_rfl
set_option maxRecDepth 100000 in
set_option maxHeartbeats 6400000 in
theorem tot_any (w : World) (fb mb base : Nat) (nv : Value) (xs : List Nde) (p : ByteArray) (hF : FlW w fb mb base nv xs) (hlen : xs.length ≤ 4096) (hcap : ∀ x, x ∈ xs → CapOk x.cap) : Calls Tryd.prog 60 #[.pointer (some ⟨fb, 0, none⟩), .string p] w (TotPost (xs.map Nde.pl) p w) := by
  obtain ⟨n, hn⟩ : ∃ n, n = xs.length := ⟨_, rfl⟩
  have hW0 : TtW w V4.zero ((w.alloc (.cells V4.zero.cells 25 (0, 0))).alloc (.cells V4.zero.cells 25 (0, 0))) := ⟨((Below.refl _ _).alloc (Nat.le_refl _) _).alloc (by simp) _, blk_old _ (blk_new _ _), blk_at _ _ (by simp)⟩
  have hlc := len_any _ fb mb base nv xs (hF.below hW0.low)
  rw [← hn] at hlc hlen
  have hn0 : (0 : Int) ≤ (n : Int) := by omega
  have hcp : ∀ v, v ∈ xs.map Nde.pl → CapOk v.cap := fun v hv => by
    obtain ⟨x, hx, rfl⟩ := List.mem_map.1 hv
    exact hcap x hx
  replace hF := Lib.hid hF; replace hn := Lib.hid hn; replace hlc := Lib.hid hlc; replace hW0 := Lib.hid hW0; replace hcp := Lib.hid hcp; replace hcap := Lib.hid hcap
  go_enter Tryd.func60, Tryd.ntmps60
  go_wp2_with fail
  refine hlc.out.mono ?_
  rintro e w1 ⟨rfl, rfl⟩
  go_wp2
  go_loopw [11] (fun i wr => ∃ k : Nat, i = .int .i64 k ∧ k ≤ n ∧ Hid (TtW w (totOf ((xs.map Nde.pl).take k) p) wr)) (fun i _ => n - (intOf i).toNat)
  case atStart => exact ⟨0, rfl, Nat.zero_le _, hW0.out⟩
  case round =>
    obtain ⟨k, rfl, hk, hT⟩ := hrel
    by_cases hc : k < n
    · have hc1 : (k : Int) < n := by omega
      have hk0 : (0 : Int) ≤ (k : Int) := by omega
      have hFr := hF.out.below hT.out.low
      obtain ⟨g, cap, rfl⟩ := Joins.ownsRow_form hFr.row (by have := hn.out; omega)
      obtain ⟨x, hx⟩ : ∃ x, xs[k]? = some x := ⟨_, List.getElem?_eq_getElem (by have := hn.out; omega)⟩
      obtain ⟨g', e1, hgl, hgb, hcell⟩ := hFr.cell hx
      have e2 : g = g' := by simpa [Value.ownBlock] using e1
      subst e2
      have c1 : wr.cell? ⟨g, k * 6 + 1, none⟩ = some (.int .i64 x.cap.a) := hcell 1 (by omega)
      have c2 : wr.cell? ⟨g, k * 6 + 2, none⟩ = some (.int .i64 x.cap.b) := hcell 2 (by omega)
      have c3 : wr.cell? ⟨g, k * 6 + 3, none⟩ = some (.int .i64 x.cap.c) := hcell 3 (by omega)
      have c4 : wr.cell? ⟨g, k * 6 + 4, none⟩ = some (.int .i64 x.cap.d) := hcell 4 (by omega)
      have c5 : wr.cell? ⟨g, k * 6 + 5, none⟩ = some (.slice x.po x.pn x.pc) := hcell 5 (by omega)
      have f0 := blk_cell hFr.head 0
      simp at f0
      rw [← hn.out] at f0
      have hct := contains_call wr x.po x.pn x.pc x.parts p (hFr.ok x (List.mem_of_getElem? hx)).1.parts
      obtain ⟨b, hb⟩ : ∃ b, b = memB x.parts p := ⟨_, rfl⟩
      rw [← hb] at hct
      have hpl := pl_at hx
      have hst := totOf_step p hpl
      have hup := totOf_upto (vs := (xs.map Nde.pl).take k) p (fun v hv => hcp.out v (List.mem_of_mem_take hv))
      have hcx := hcap.out x (List.mem_of_getElem? hx)
      have hltk : ((xs.map Nde.pl).take k).length = k := by rw [List.length_take, List.length_map]; have := hn.out; omega
      rw [hltk] at hup
      replace hFr := Lib.hid hFr; replace hx := Lib.hid hx; replace hct := Lib.hid hct; replace hb := Lib.hid hb; replace hpl := Lib.hid hpl; replace hcell := Lib.hid hcell; replace e1 := Lib.hid e1; replace hst := Lib.hid hst; replace hup := Lib.hid hup; replace hcx := Lib.hid hcx; replace hltk := Lib.hid hltk
      obtain ⟨U, hU⟩ : ∃ U, U = totOf ((xs.map Nde.pl).take k) p := ⟨_, rfl⟩
      have hT' := hT.out
      have hup' := hup.out
      have hst' := hst.out
      rw [← hU] at hT' hup' hst'
      obtain ⟨nm, ⟨ca, cb, cc, cd⟩, po, pn, pc, ps⟩ := x
      obtain ⟨ua, ub, uc, ud⟩ := U
      obtain ⟨v1, v2, v3, v4, v5, v6, v7, v8⟩ := hup'
      obtain ⟨x1, x2, x3, x4, x5, x6, x7, x8⟩ := hcx.out
      simp only at v1 v2 v3 v4 v5 v6 v7 v8 x1 x2 x3 x4 x5 x6 x7 x8 c1 c2 c3 c4
      have y1 : ua ≤ 4398046511104 := by omega
      have y2 : ub ≤ 4398046511104 := by omega
      have y3 : uc ≤ 4398046511104 := by omega
      have y4 : ud ≤ 4398046511104 := by omega
      clear v2 v4 v6 v8
      replace hU := Lib.hid hU; replace hT' := Lib.hid hT'; replace hst' := Lib.hid hst'; replace hT := Lib.hid hT
      cases hp : p.toList.isEmpty with
      | true =>
        have hcn : counts (Nde.pl ⟨nm, ⟨ca, cb, cc, cd⟩, po, pn, pc, ps⟩) p = true := by unfold counts; rw [hp]; rfl
        replace hcn := Lib.hid hcn
        go_wp2_with fail
        have hT2 : TtW w (mixV ⟨ua, ub, uc, ud⟩ ⟨ca, cb, cc, cd⟩ 0) wr := hT'.out
        replace hT2 := Lib.hid hT2
        go_loopw [37] (fun i wq => ∃ j : Nat, j ≤ 4 ∧ i = .int .i64 j ∧ Hid (TtW w (mixV ⟨ua, ub, uc, ud⟩ ⟨ca, cb, cc, cd⟩ j) wq)) (fun i _ => 4 - (intOf i).toNat)
        case atStart => exact ⟨0, by omega, rfl, hT2.out⟩
        case round =>
          obtain ⟨j, hj, hjv, hM⟩ := hrel
          rcases (show j = 0 ∨ j = 1 ∨ j = 2 ∨ j = 3 ∨ j = 4 by omega) with rfl | rfl | rfl | rfl | rfl
          · have hjv' : u37 = .int .i64 0 := hjv
            clear hjv
            subst hjv'
            have hix := fun w => idx4_0 ca cb cc cd w
            have q0 : wr.cell? ⟨w.heap.size + 1, 0, none⟩ = some (.int .i64 ua) := blk_cell hM.out.r1 0
            have f0 : wr.frozen? ⟨w.heap.size + 1, 0, none⟩ = false := blk_free hM.out.r1 0
            have hM2 : TtW w (mixV ⟨ua, ub, uc, ud⟩ ⟨ca, cb, cc, cd⟩ 1) (wr.setCell ⟨w.heap.size + 1, 0, none⟩ (.int .i64 (ua + ca))) := hM.out.set 0 _ rfl
            replace hM2 := Lib.hid hM2
            go_wp2
            go_roundw
            case rel => exact ⟨1, by omega, rfl, hM2.out⟩
            case measure => simp [intOf]
          · have hjv' : u37 = .int .i64 1 := hjv
            clear hjv
            subst hjv'
            have hix := fun w => idx4_1 ca cb cc cd w
            have q1 : wr.cell? ⟨w.heap.size + 1, 1, none⟩ = some (.int .i64 ub) := blk_cell hM.out.r1 1
            have f1 : wr.frozen? ⟨w.heap.size + 1, 1, none⟩ = false := blk_free hM.out.r1 1
            have hM2 : TtW w (mixV ⟨ua, ub, uc, ud⟩ ⟨ca, cb, cc, cd⟩ 2) (wr.setCell ⟨w.heap.size + 1, 1, none⟩ (.int .i64 (ub + cb))) := hM.out.set 1 _ rfl
            replace hM2 := Lib.hid hM2
            go_wp2
            go_roundw
            case rel => exact ⟨2, by omega, rfl, hM2.out⟩
            case measure => simp [intOf]
          · have hjv' : u37 = .int .i64 2 := hjv
            clear hjv
            subst hjv'
            have hix := fun w => idx4_2 ca cb cc cd w
            have q2 : wr.cell? ⟨w.heap.size + 1, 2, none⟩ = some (.int .i64 uc) := blk_cell hM.out.r1 2
            have f2 : wr.frozen? ⟨w.heap.size + 1, 2, none⟩ = false := blk_free hM.out.r1 2
            have hM2 : TtW w (mixV ⟨ua, ub, uc, ud⟩ ⟨ca, cb, cc, cd⟩ 3) (wr.setCell ⟨w.heap.size + 1, 2, none⟩ (.int .i64 (uc + cc))) := hM.out.set 2 _ rfl
            replace hM2 := Lib.hid hM2
            go_wp2
            go_roundw
            case rel => exact ⟨3, by omega, rfl, hM2.out⟩
            case measure => simp [intOf]
          · have hjv' : u37 = .int .i64 3 := hjv
            clear hjv
            subst hjv'
            have hix := fun w => idx4_3 ca cb cc cd w
            have q3 : wr.cell? ⟨w.heap.size + 1, 3, none⟩ = some (.int .i64 ud) := blk_cell hM.out.r1 3
            have f3 : wr.frozen? ⟨w.heap.size + 1, 3, none⟩ = false := blk_free hM.out.r1 3
            have hM2 : TtW w (mixV ⟨ua, ub, uc, ud⟩ ⟨ca, cb, cc, cd⟩ 4) (wr.setCell ⟨w.heap.size + 1, 3, none⟩ (.int .i64 (ud + cd))) := hM.out.set 3 _ rfl
            replace hM2 := Lib.hid hM2
            go_wp2
            go_roundw
            case rel => exact ⟨4, by omega, rfl, hM2.out⟩
            case measure => simp [intOf]
          · have hjv' : u37 = .int .i64 4 := hjv
            clear hjv
            subst hjv'
            have hT3 : TtW w (totOf ((xs.map Nde.pl).take (k + 1)) p) wr := by rw [hst'.out, if_pos hcn.out]; exact hM.out
            replace hT3 := Lib.hid hT3
            go_wp2
            go_roundw
            case rel => exact ⟨k + 1, by go_num, by omega, hT3.out⟩
            case measure => simp [intOf]; omega
      | false =>
        cases b with
        | true =>
          have hcn : counts (Nde.pl ⟨nm, ⟨ca, cb, cc, cd⟩, po, pn, pc, ps⟩) p = true := by unfold counts; rw [hp]; exact hb.out.symm
          replace hcn := Lib.hid hcn
          go_wp2_with fail
          (with_reducible refine hct.out.mono ?_)
          rintro e wr ⟨rfl, rfl⟩
          go_wp2
          have hT2 : TtW w (mixV ⟨ua, ub, uc, ud⟩ ⟨ca, cb, cc, cd⟩ 0) wr := hT'.out
          replace hT2 := Lib.hid hT2
          go_loopw [37] (fun i wq => ∃ j : Nat, j ≤ 4 ∧ i = .int .i64 j ∧ Hid (TtW w (mixV ⟨ua, ub, uc, ud⟩ ⟨ca, cb, cc, cd⟩ j) wq)) (fun i _ => 4 - (intOf i).toNat)
          case atStart => exact ⟨0, by omega, rfl, hT2.out⟩
          case round =>
            obtain ⟨j, hj, hjv, hM⟩ := hrel
            rcases (show j = 0 ∨ j = 1 ∨ j = 2 ∨ j = 3 ∨ j = 4 by omega) with rfl | rfl | rfl | rfl | rfl
            · have hjv' : u37 = .int .i64 0 := hjv
              clear hjv
              subst hjv'
              have hix := fun w => idx4_0 ca cb cc cd w
              have q0 : wr.cell? ⟨w.heap.size + 1, 0, none⟩ = some (.int .i64 ua) := blk_cell hM.out.r1 0
              have f0 : wr.frozen? ⟨w.heap.size + 1, 0, none⟩ = false := blk_free hM.out.r1 0
              have hM2 : TtW w (mixV ⟨ua, ub, uc, ud⟩ ⟨ca, cb, cc, cd⟩ 1) (wr.setCell ⟨w.heap.size + 1, 0, none⟩ (.int .i64 (ua + ca))) := hM.out.set 0 _ rfl
              replace hM2 := Lib.hid hM2
              go_wp2
              go_roundw
              case rel => exact ⟨1, by omega, rfl, hM2.out⟩
              case measure => simp [intOf]
            · have hjv' : u37 = .int .i64 1 := hjv
              clear hjv
              subst hjv'
              have hix := fun w => idx4_1 ca cb cc cd w
              have q1 : wr.cell? ⟨w.heap.size + 1, 1, none⟩ = some (.int .i64 ub) := blk_cell hM.out.r1 1
              have f1 : wr.frozen? ⟨w.heap.size + 1, 1, none⟩ = false := blk_free hM.out.r1 1
              have hM2 : TtW w (mixV ⟨ua, ub, uc, ud⟩ ⟨ca, cb, cc, cd⟩ 2) (wr.setCell ⟨w.heap.size + 1, 1, none⟩ (.int .i64 (ub + cb))) := hM.out.set 1 _ rfl
              replace hM2 := Lib.hid hM2
              go_wp2
              go_roundw
              case rel => exact ⟨2, by omega, rfl, hM2.out⟩
              case measure => simp [intOf]
            · have hjv' : u37 = .int .i64 2 := hjv
              clear hjv
              subst hjv'
              have hix := fun w => idx4_2 ca cb cc cd w
              have q2 : wr.cell? ⟨w.heap.size + 1, 2, none⟩ = some (.int .i64 uc) := blk_cell hM.out.r1 2
              have f2 : wr.frozen? ⟨w.heap.size + 1, 2, none⟩ = false := blk_free hM.out.r1 2
              have hM2 : TtW w (mixV ⟨ua, ub, uc, ud⟩ ⟨ca, cb, cc, cd⟩ 3) (wr.setCell ⟨w.heap.size + 1, 2, none⟩ (.int .i64 (uc + cc))) := hM.out.set 2 _ rfl
              replace hM2 := Lib.hid hM2
              go_wp2
              go_roundw
              case rel => exact ⟨3, by omega, rfl, hM2.out⟩
              case measure => simp [intOf]
            · have hjv' : u37 = .int .i64 3 := hjv
              clear hjv
              subst hjv'
              have hix := fun w => idx4_3 ca cb cc cd w
              have q3 : wr.cell? ⟨w.heap.size + 1, 3, none⟩ = some (.int .i64 ud) := blk_cell hM.out.r1 3
              have f3 : wr.frozen? ⟨w.heap.size + 1, 3, none⟩ = false := blk_free hM.out.r1 3
              have hM2 : TtW w (mixV ⟨ua, ub, uc, ud⟩ ⟨ca, cb, cc, cd⟩ 4) (wr.setCell ⟨w.heap.size + 1, 3, none⟩ (.int .i64 (ud + cd))) := hM.out.set 3 _ rfl
              replace hM2 := Lib.hid hM2
              go_wp2
              go_roundw
              case rel => exact ⟨4, by omega, rfl, hM2.out⟩
              case measure => simp [intOf]
            · have hjv' : u37 = .int .i64 4 := hjv
              clear hjv
              subst hjv'
              have hT3 : TtW w (totOf ((xs.map Nde.pl).take (k + 1)) p) wr := by rw [hst'.out, if_pos hcn.out]; exact hM.out
              replace hT3 := Lib.hid hT3
              go_wp2
              go_roundw
              case rel => exact ⟨k + 1, by go_num, by omega, hT3.out⟩
              case measure => simp [intOf]; omega
        | false =>
          have hcn : counts (Nde.pl ⟨nm, ⟨ca, cb, cc, cd⟩, po, pn, pc, ps⟩) p = false := by unfold counts; rw [hp]; exact hb.out.symm
          have hT2 : TtW w (totOf ((xs.map Nde.pl).take (k + 1)) p) wr := by rw [hst'.out, if_neg (by rw [hcn]; simp)]; exact hT'.out
          replace hcn := Lib.hid hcn; replace hT2 := Lib.hid hT2
          go_wp2_with fail
          (with_reducible refine hct.out.mono ?_)
          rintro e wr ⟨rfl, rfl⟩
          go_wp2
          go_roundw
          case rel => exact ⟨k + 1, by go_num, by omega, hT2.out⟩
          case measure => simp [intOf]; omega
    · have hc1 : ¬ (k : Int) < n := by omega
      have hkn : (xs.map Nde.pl).take k = xs.map Nde.pl := List.take_of_length_le (by rw [List.length_map]; have := hn.out; omega)
      have hT' := hT.out
      rw [hkn] at hT'
      obtain ⟨U, hU⟩ : ∃ U, U = totOf (xs.map Nde.pl) p := ⟨_, rfl⟩
      rw [← hU] at hT'
      obtain ⟨ua, ub, uc, ud⟩ := U
      have r1 := hT'.r1
      have a0 : wr.cell? ⟨w.heap.size + 1, 0, none⟩ = some (.int .i64 ua) := blk_cell r1 0
      have a1 : wr.cell? ⟨w.heap.size + 1, 1, none⟩ = some (.int .i64 ub) := blk_cell r1 1
      have a2 : wr.cell? ⟨w.heap.size + 1, 2, none⟩ = some (.int .i64 uc) := blk_cell r1 2
      have a3 : wr.cell? ⟨w.heap.size + 1, 3, none⟩ = some (.int .i64 ud) := blk_cell r1 3
      have r0 := hT'.r0
      have b0 : wr.cell? ⟨w.heap.size, 0, none⟩ = some (.int .i64 0) := blk_cell r0 0
      have b1 : wr.cell? ⟨w.heap.size, 1, none⟩ = some (.int .i64 0) := blk_cell r0 1
      have b2 : wr.cell? ⟨w.heap.size, 2, none⟩ = some (.int .i64 0) := blk_cell r0 2
      have b3 : wr.cell? ⟨w.heap.size, 3, none⟩ = some (.int .i64 0) := blk_cell r0 3
      have fr := blk_free hT'.r0
      have e := tt_end hT'
      replace hkn := Lib.hid hkn; replace hT' := Lib.hid hT'; replace hU := Lib.hid hU; replace hT := Lib.hid hT; replace r1 := Lib.hid r1; replace r0 := Lib.hid r0; replace e := Lib.hid e
      go_wp2
      refine bodyPost_ret (v := V4.val ⟨ua, ub, uc, ud⟩) (by simp [results, Tryd.results60, go_sem, b0, b1, b2, b3]) rfl ⟨?_, e.out⟩
      rw [hU.out]
end Go.Proofs.YteoihdkaoipocaaDoor

/- corveelaw05.same: a fleet is what the document's is. -/
import Derived.Test.YteoihdkaoipocaaDoorNda
import Derived.Test.YteoihdkaoipocaaDoorRre
import Derived.Deep.RegionHeld3
import Derived.Deep.DeepCutAuto
namespace Go.Proofs.YteoihdkaoipocaaDoor
open Go.RowKit Go.Maps Go.Shelf

/-- the document's fleet that tells these nodes -/
structure Flr (W : World) (nv : Value) (vs : List Ndv) : Prop where
  ex : ∃ B xs, FlR W B nv xs ∧ xs.map Nde.pl = vs
theorem Flr.below {w w' : World} {nv : Value} {vs : List Ndv} (h : Flr w nv vs) (hb : Below w.heap.size w w') : Flr w' nv vs := by
  obtain ⟨B, xs, h1, h2⟩ := h.ex
  exact ⟨B, xs, h1.below hb, h2⟩
theorem flr_in {w : World} {nv : Value} {vs : List Ndv} (h : Flr w nv vs) (hok : FltOk vs) (p : ByteArray) : Calls Tryd.prog 86 #[.agg #[nv], .string p] w (FinPost vs p w) := by
  obtain ⟨B, xs, h1, rfl⟩ := h.ex
  have := hok.len
  rw [List.length_map] at this
  exact rin_any w B nv xs p h1 (by omega)
theorem flr_idx {w : World} {nv : Value} {vs : List Ndv} (h : Flr w nv vs) (hok : FltOk vs) (s : ByteArray) : Calls Tryd.prog 83 #[.agg #[nv], .string s] w fun e w' => e = .returned (.int .i64 (idxN (vs.map Ndv.name) s 0)) ∧ Below w.heap.size w w' := by
  obtain ⟨B, xs, h1, rfl⟩ := h.ex
  have := hok.len
  rw [List.length_map] at this
  rw [show (xs.map Nde.pl).map Ndv.name = xs.map Nde.name from by rw [List.map_map]; rfl]
  exact ridx_any w B nv xs s h1 (by omega)
theorem flr_tot {w : World} {nv : Value} {vs : List Ndv} (h : Flr w nv vs) (hok : FltOk vs) (p : ByteArray) (U : V4) (hU : U = totOf vs p) : Calls Tryd.prog 87 #[.agg #[nv], .string p] w fun e w' => e = .returned U.val ∧ Below w.heap.size w w' := by
  obtain ⟨B, xs, h1, rfl⟩ := h.ex
  have := hok.len
  rw [List.length_map] at this
  subst hU
  exact rtot_any w B nv xs p h1 (by omega) fun x hx => capOk_right (hok.all x.pl (List.mem_map_of_mem hx)).ok.cap
theorem flr_parts {w : World} {nv : Value} {vs : List Ndv} (h : Flr w nv vs) (hok : FltOk vs) : Calls Tryd.prog 85 #[.agg #[nv]] w (FpaPost vs w) := by
  obtain ⟨B, xs, h1, rfl⟩ := h.ex
  have := hok.len
  rw [List.length_map] at this
  exact rparts_any w B nv xs h1 (by omega) fun x hx => (hok.all x.pl (List.mem_map_of_mem hx)).few
theorem flt_tot {w : World} {fb mb base : Nat} {vs : List Ndv} (h : Flt w fb mb base vs) (hok : FltOk vs) (p : ByteArray) (U : V4) (hU : U = totOf vs p) : Calls Tryd.prog 60 #[.pointer (some ⟨fb, 0, none⟩), .string p] w fun e w' => e = .returned U.val ∧ Below w.heap.size w w' := by
  subst hU; exact tot_flt h hok p
theorem texts_same {ao bo : Option Addr} {n m c c' : Nat} {xs : List ByteArray} {w : World} (hx : StrsAt w ao n xs) (hy : StrsAt w bo m xs) : Calls Tryd.prog 61 #[.slice ao n c, .slice bo m c'] w fun e w' => e = .returned (.bool true) ∧ Below w.heap.size w w' :=
  (texts_any ao bo n m c c' xs xs w hx hy).mono fun e w' h => ⟨by have := h.1; rwa [decide_eq_true (show xs = xs from rfl)] at this, h.2⟩
theorem samei_same {ao bo : Option Addr} {n m c c' : Nat} {xs : List Int} {w : World} (hx : IntsAt w ao n xs) (hy : IntsAt w bo m xs) : Calls Tryd.prog 68 #[.slice ao n c, .slice bo m c'] w fun e w' => e = .returned (.bool true) ∧ Below w.heap.size w w' :=
  (samei_any ao bo n m c c' xs xs w hx hy).mono fun e w' h => ⟨by have := h.1; rwa [decide_eq_true (show xs = xs from rfl)] at this, h.2⟩
theorem nodes_same {x y : Nde} {w : World} (hx : x.ok w) (hy : y.ok w) (h : x.pl = y.pl) : Calls Tryd.prog 33 #[x.val, y.val] w fun e w' => e = .returned (.bool true) ∧ Below w.heap.size w w' :=
  (nodes_any x y w hx hy).mono fun e w' hp => ⟨by
    have h1 := hp.1
    have e1 : x.parts = y.parts := congrArg Ndv.parts h
    have e2 : x.name = y.name := congrArg Ndv.name h
    have e3 : x.cap = y.cap := congrArg Ndv.cap h
    rw [decide_eq_true e1, decide_eq_true e2, decide_eq_true e3] at h1
    exact h1, hp.2⟩
theorem flr_lens {w : World} {nv : Value} {vs : List Ndv} (h : Flr w nv vs) : ∀ ty w, (Builtin.len_ #[42] ty #[nv]).run Tryd.prog w = .ok (.int .i64 (vs.length : Int)) w := by
  obtain ⟨B, xs, h1, rfl⟩ := h.ex
  rw [List.length_map]
  exact flr_len h1
theorem flr_at {w : World} {nv : Value} {vs : List Ndv} (h : Flr w nv vs) {k : Nat} {v : Ndv} (hv : vs[k]? = some v) : ∃ (y : Nde) (g cap : Nat), y.pl = v ∧ nv = .slice (some ⟨g, 0, none⟩) vs.length cap ∧ g < w.heap.size ∧ y.ok w ∧ ∀ w', Below w.heap.size w w' → ∀ j, j < 6 → w'.cell? ⟨g, k * 6 + j, none⟩ = (y.cells)[j]? := by
  obtain ⟨B, xs, h1, rfl⟩ := h.ex
  rw [List.getElem?_map] at hv
  obtain ⟨y, hy, rfl⟩ := Option.map_eq_some_iff.1 hv
  obtain ⟨g, cap, e, hg, _, hc⟩ := h1.cell hy
  refine ⟨y, g, cap, rfl, by rw [List.length_map]; exact e, hg, (h1.ok y (List.mem_of_getElem? hy)).1, fun w' hb j hj => ?_⟩
  rw [below_cell hb hg]
  exact hc j hj
theorem flt_len {w : World} {fb mb base : Nat} {vs : List Ndv} (h : Flt w fb mb base vs) {n : Nat} (hn : n = vs.length) : Calls Tryd.prog 38 #[.pointer (some ⟨fb, 0, none⟩)] w fun e w' => e = .returned (.int .i64 (n : Int)) ∧ Below w.heap.size w w' := by
  subst hn
  exact (len_flt h).mono fun e w' hp => ⟨hp.1, by rw [hp.2]; exact Below.refl _ _⟩
theorem strs_own' {w : World} {B : Nat} {v : Value} {xs : List ByteArray} (h : OwnT w B v xs) : ∃ so n c, v = .slice so n c ∧ StrsAt w so n xs := by
  obtain ⟨so, c, e, h⟩ := strs_of_ownT h
  exact ⟨so, _, c, e, h⟩
theorem ints_own' {w : World} {B : Nat} {v : Value} {xs : List Int} (h : OwnI w B v xs) : ∃ so n c, v = .slice so n c ∧ IntsAt w so n xs := by
  obtain ⟨so, c, e, h⟩ := ints_of_own h
  exact ⟨so, _, c, e, h⟩
structure SmC (w W0 : World) (fb mb base : Nat) (nv : Value) (vs : List Ndv) (wx : World) : Prop where
  cur : Below W0.heap.size W0 wx
  f : Flt wx fb mb base vs
  r : Flr wx nv vs
structure SmG (w W0 : World) (fb mb base : Nat) (nv : Value) (vs : List Ndv) (gv : Value) (wx : World) : Prop where
  gv : gv = .bool false
  ok : SmC w W0 fb mb base nv vs wx
structure SmH (w W0 wr : World) (fb mb base : Nat) (nv : Value) (vs : List Ndv) (gv : Value) (wx : World) : Prop where
  gv : gv = .bool false
  ok : SmC w W0 fb mb base nv vs wx
  low : Below wr.heap.size wr wx
set_option maxRecDepth 100000 in
set_option maxHeartbeats 6400000 in
theorem same_any {w : World} {fb mb base : Nat} {nv : Value} {vs : List Ndv} (hF : Flt w fb mb base vs) (hok : FltOk vs) (hR : Flr w nv vs) (part : ByteArray) (hp : part.size ≤ maxLen) : Calls Tryd.prog 34 #[.pointer (some ⟨fb, 0, none⟩), .agg #[nv], .string part] w fun e w' => e = .returned (.bool true) ∧ Below w.heap.size w w' := by
  obtain ⟨W0, hW0⟩ : ∃ W0, W0 = w.alloc (.cells #[nv] 44 (0, 0)) := ⟨_, rfl⟩
  have hb0 : Below w.heap.size w W0 := by rw [hW0]; exact (Below.refl _ _).alloc (Nat.le_refl _) _
  have hbx : W0.heap[w.heap.size]? = some (.cells #[nv] 44 (0, 0)) := by rw [hW0]; exact blk_new _ _
  replace hF := hF.below hb0
  replace hR := hR.below hb0
  have hln := flr_lens hR
  obtain ⟨n, hn⟩ : ∃ n, n = vs.length := ⟨_, rfl⟩
  rw [← hn] at hln
  have hn16 : n ≤ 16 := by rw [hn]; exact hok.len
  have hnn : ((n : Int) != (n : Int)) = false := by simp
  obtain ⟨U, hU⟩ : ∃ U, U = totOf vs part := ⟨_, rfl⟩
  obtain ⟨V, hV⟩ : ∃ V, V = totOf vs ⟨#[]⟩ := ⟨_, rfl⟩
  have hEU : ∀ w, (Op.equalIn 10000 25 U.val U.val).run Tryd.prog w = .ok true w := fun w => by rw [eq25, decide_eq_true (show U = U from rfl)]
  have hEV : ∀ w, (Op.equalIn 10000 25 V.val V.val).run Tryd.prog w = .ok true w := fun w => by rw [eq25, decide_eq_true (show V = V from rfl)]
  have hS0 : ∀ W' : World, Below W0.heap.size W0 W' → W'.cell? ⟨w.heap.size, 0, none⟩ = some nv := fun W' hb => (below_cell hb (blk_lt hbx)).trans (blk_cell hbx 0)
  have f0 := hS0 W0 (Below.refl _ _)
  have hcur : Below W0.heap.size W0 W0.drew := (Below.refl _ _).drew
  replace hF := hF.below hcur
  replace hR := hR.below hcur
  replace hb0 := Lib.hid hb0; replace hbx := Lib.hid hbx; replace hF := Lib.hid hF; replace hR := Lib.hid hR; replace hn := Lib.hid hn; replace hU := Lib.hid hU; replace hV := Lib.hid hV; replace hS0 := Lib.hid hS0; replace hcur := Lib.hid hcur; replace hok := Lib.hid hok
  have hW0' := Lib.hid hW0
  clear hW0
  go_enter Tryd.func34, Tryd.ntmps34
  go_wp2_with fail
  rw [← hW0'.out]
  go_cut [51] (fun gv wx => SmG w W0 fb mb base nv vs gv wx)
  case first =>
    go_region_held3 (fun w' => w'.cell? ⟨w.heap.size, 0, none⟩ = some nv)
      (first
        | with_reducible exact hS0.out _ hcur.out)
      (first
        | (go_at_call 38
           (with_reducible refine (flt_len hF.out hn.out).mono ?_)
           rintro e wz ⟨rfl, hbz⟩
           replace hcur := Lib.hid (hcur.out.trans ((hbz).mono hcur.out.size))
           replace hF := Lib.hid (hF.out.below hbz)
           replace hR := Lib.hid (hR.out.below hbz)
           replace hbz := Lib.hid hbz)
        | (go_at_call 59
           (with_reducible refine (parts_flt hF.out hok.out).mono ?_)
           rintro e wz ⟨v59, rfl, hO59, hbz⟩
           obtain ⟨so59, n59, c59, rfl, hP⟩ := strs_own' hO59
           replace hcur := Lib.hid (hcur.out.trans ((hbz).mono hcur.out.size))
           replace hF := Lib.hid (hF.out.below hbz)
           replace hR := Lib.hid (hR.out.below hbz)
           (try replace hQ := Lib.hid (hQ.out.low hbz))
           replace hO59 := Lib.hid hO59
           replace hP := Lib.hid hP
           replace hbz := Lib.hid hbz)
        | (go_at_call 85
           (with_reducible refine (flr_parts hR.out hok.out).mono ?_)
           rintro e wz ⟨v85, rfl, hO85, hbz⟩
           obtain ⟨so85, n85, c85, rfl, hQ⟩ := strs_own' hO85
           replace hcur := Lib.hid (hcur.out.trans ((hbz).mono hcur.out.size))
           replace hF := Lib.hid (hF.out.below hbz)
           replace hR := Lib.hid (hR.out.below hbz)
           (try replace hP := Lib.hid (hP.out.low hbz))
           replace hO85 := Lib.hid hO85
           replace hQ := Lib.hid hQ
           replace hbz := Lib.hid hbz)
        | (go_at_call 61
           (with_reducible refine (texts_same hP.out hQ.out).mono ?_)
           rintro e wz ⟨rfl, hbz⟩
           replace hcur := Lib.hid (hcur.out.trans ((hbz).mono hcur.out.size))
           replace hF := Lib.hid (hF.out.below hbz)
           replace hR := Lib.hid (hR.out.below hbz)
           replace hbz := Lib.hid hbz)
        | (go_at_call 58
           (with_reducible refine (in_flt hF.out hok.out _).mono ?_)
           rintro e wz ⟨v58, rfl, hO58, hbz⟩
           obtain ⟨so58, n58, c58, rfl, hA⟩ := ints_own' hO58
           replace hcur := Lib.hid (hcur.out.trans ((hbz).mono hcur.out.size))
           replace hF := Lib.hid (hF.out.below hbz)
           replace hR := Lib.hid (hR.out.below hbz)
           (try replace hB := Lib.hid (hB.out.low hbz))
           replace hO58 := Lib.hid hO58
           replace hA := Lib.hid hA
           replace hbz := Lib.hid hbz)
        | (go_at_call 86
           (with_reducible refine (flr_in hR.out hok.out _).mono ?_)
           rintro e wz ⟨v86, rfl, hO86, hbz⟩
           obtain ⟨so86, n86, c86, rfl, hB⟩ := ints_own' hO86
           replace hcur := Lib.hid (hcur.out.trans ((hbz).mono hcur.out.size))
           replace hF := Lib.hid (hF.out.below hbz)
           replace hR := Lib.hid (hR.out.below hbz)
           (try replace hA := Lib.hid (hA.out.low hbz))
           replace hO86 := Lib.hid hO86
           replace hB := Lib.hid hB
           replace hbz := Lib.hid hbz)
        | (go_at_call 68
           (with_reducible refine (samei_same hA.out hB.out).mono ?_)
           rintro e wz ⟨rfl, hbz⟩
           replace hcur := Lib.hid (hcur.out.trans ((hbz).mono hcur.out.size))
           replace hF := Lib.hid (hF.out.below hbz)
           replace hR := Lib.hid (hR.out.below hbz)
           replace hbz := Lib.hid hbz)
        | (go_at_call 60
           (first
             | (with_reducible refine (flt_tot hF.out hok.out part U hU.out).mono ?_)
             | (with_reducible refine (flt_tot hF.out hok.out ⟨#[]⟩ V hV.out).mono ?_))
           rintro e wz ⟨rfl, hbz⟩
           replace hcur := Lib.hid (hcur.out.trans ((hbz).mono hcur.out.size))
           replace hF := Lib.hid (hF.out.below hbz)
           replace hR := Lib.hid (hR.out.below hbz)
           replace hbz := Lib.hid hbz)
        | (go_at_call 87
           (first
             | (with_reducible refine (flr_tot hR.out hok.out part U hU.out).mono ?_)
             | (with_reducible refine (flr_tot hR.out hok.out ⟨#[]⟩ V hV.out).mono ?_))
           rintro e wz ⟨rfl, hbz⟩
           replace hcur := Lib.hid (hcur.out.trans ((hbz).mono hcur.out.size))
           replace hF := Lib.hid (hF.out.below hbz)
           replace hR := Lib.hid (hR.out.below hbz)
           replace hbz := Lib.hid hbz))
    all_goals
      go_wp2_with fail
      go_meet
      exact ⟨rfl, hcur.out, hF.out, hR.out⟩
  case rest =>
    obtain ⟨rfl, hC⟩ := hcut
    clear hF hR hcur f0
    have hC' := Lib.hid hC
    clear hC
    go_wp2
    go_loopw [7, 8, 9] (fun i _ _ wr => ∃ k : Nat, i = .int .i64 k ∧ k ≤ n ∧ Hid (SmC w W0 fb mb base nv vs wr)) (fun i _ _ _ => n - (intOf i).toNat)
    case atStart => exact ⟨0, rfl, Nat.zero_le _, hC'.out⟩
    case round =>
      obtain ⟨k, rfl, hk, hM⟩ := hrel
      have f0 := hS0.out wr hM.out.cur
      by_cases hc : k < n
      · have hc1 : (k : Int) < n := by omega
        have hk0 : (0 : Int) ≤ (k : Int) := by omega
        obtain ⟨v, hv⟩ : ∃ v, vs[k]? = some v := ⟨_, List.getElem?_eq_getElem (by have := hn.out; omega)⟩
        obtain ⟨y, g, cap, hyv, hnv, hgl, hyok, hycell⟩ := flr_at hM.out.r hv
        rw [← hn.out] at hnv
        have hna := node_at hM.out.f hok.out (k : Int)
        have hst : ∀ W, Below wr.heap.size wr W → SmC w W0 fb mb base nv vs W := fun W hb => ⟨hM.out.cur.trans (hb.mono hM.out.cur.size), hM.out.f.below hb, hM.out.r.below hb⟩
        have hst' := Lib.hid hst
        have hycell' := Lib.hid hycell
        clear hst hycell
        replace hv := Lib.hid hv; replace hyv := Lib.hid hyv; replace hyok := Lib.hid hyok; replace hna := Lib.hid hna
        have hnv' := Lib.hid hnv
        clear hnv
        go_wp2_with fail
        refine hna.out.mono ?_
        rintro e w2 ⟨x, b, rfl, hxok, hlow2, hxpo, hcase⟩
        have hb : b = true ∧ vs[k]? = some x.pl := by
          rcases hcase with ⟨h1, _, h3⟩ | ⟨_, _, h3⟩
          · exact ⟨h1, by simpa using h3⟩
          · exact absurd h3 (by have := hn.out; omega)
        obtain ⟨rfl, hvx⟩ := hb
        have hxy : x.pl = y.pl := by rw [hyv.out]; rw [hv.out] at hvx; exact (Option.some.inj hvx).symm
        obtain ⟨W3, hW3⟩ : ∃ W3, W3 = w2.alloc (.cells x.cells 48 (0, 0)) := ⟨_, rfl⟩
        have hlow3 : Below w2.heap.size w2 W3 := by rw [hW3]; exact (Below.refl _ _).alloc (Nat.le_refl _) _
        have hx3 : W3.heap[w2.heap.size]? = some (.cells x.cells 48 (0, 0)) := by rw [hW3]; exact blk_new _ _
        have hl3 : Below wr.heap.size wr W3 := hlow2.trans (hlow3.mono hlow2.size)
        have hC3 := hst'.out W3 hl3
        obtain ⟨nm, ⟨ca, cb, cc, cd⟩, po, pn, pc, ps⟩ := x
        obtain ⟨nm', ⟨ca', cb', cc', cd'⟩, po', pn', pc', ps'⟩ := y
        have hkk : ((k : Int) != (k : Int)) = false := by simp
        have hidx : ∀ W, Flt W fb mb base vs → Calls Tryd.prog 57 #[.pointer (some ⟨fb, 0, none⟩), .string nm] W fun e w' => e = .returned (.int .i64 (k : Int)) ∧ Below W.heap.size W w' := fun W hF => by
          have hnmk : (vs.map Ndv.name)[k]? = some nm := by rw [List.getElem?_map, hvx]; rfl
          have hsz : nm.size ≤ maxLen := by
            have := isName_le (hok.out.all _ (List.mem_of_getElem? hvx)).ok.name
            have e : (Nde.pl ⟨nm, ⟨ca, cb, cc, cd⟩, po, pn, pc, ps⟩).name = nm := rfl
            rw [e] at this
            have : maxLen = 9223372036854775807 := rfl
            omega
          refine (index_flt hF hok.out nm hsz).mono fun e w' h => ⟨?_, by rw [h.2]; exact Below.refl _ _⟩
          rw [h.1, idxN_at hok.out.nodup hnmk, Nat.zero_add]
        have hSx : ∀ W', Below W3.heap.size W3 W' → W'.cell? ⟨w.heap.size, 0, none⟩ = some (.slice (some ⟨g, 0, none⟩) n cap) ∧
            W'.cell? ⟨w2.heap.size, 0, none⟩ = some (.string nm) ∧ W'.cell? ⟨w2.heap.size, 1, none⟩ = some (.int .i64 ca) ∧ W'.cell? ⟨w2.heap.size, 2, none⟩ = some (.int .i64 cb) ∧ W'.cell? ⟨w2.heap.size, 3, none⟩ = some (.int .i64 cc) ∧ W'.cell? ⟨w2.heap.size, 4, none⟩ = some (.int .i64 cd) ∧ W'.cell? ⟨w2.heap.size, 5, none⟩ = some (.slice po pn pc) ∧
            W'.cell? ⟨g, k * 6, none⟩ = some (.string nm') ∧ W'.cell? ⟨g, k * 6 + 1, none⟩ = some (.int .i64 ca') ∧ W'.cell? ⟨g, k * 6 + 2, none⟩ = some (.int .i64 cb') ∧ W'.cell? ⟨g, k * 6 + 3, none⟩ = some (.int .i64 cc') ∧ W'.cell? ⟨g, k * 6 + 4, none⟩ = some (.int .i64 cd') ∧ W'.cell? ⟨g, k * 6 + 5, none⟩ = some (.slice po' pn' pc') := fun W' hb => by
          have hl' : Below wr.heap.size wr W' := hl3.trans (hb.mono hl3.size)
          have hz := blk_below hb hx3 (blk_lt hx3)
          have hcy := hycell'.out W' hl'
          exact ⟨by rw [← hnv'.out]; exact hS0.out W' (hM.out.cur.trans (hl'.mono hM.out.cur.size)), blk_cell hz 0, blk_cell hz 1, blk_cell hz 2, blk_cell hz 3, blk_cell hz 4, blk_cell hz 5, hcy 0 (by omega), hcy 1 (by omega), hcy 2 (by omega), hcy 3 (by omega), hcy 4 (by omega), hcy 5 (by omega)⟩
        have hcur : Below W3.heap.size W3 W3.drew := (Below.refl _ _).drew
        have hF := hC3.f.below hcur
        have hR := hC3.r.below hcur
        have hX := (hxok.low hlow3).low hcur
        have hY := (hyok.out.low hl3).low hcur
        obtain ⟨f0', z0, z1, z2, z3, z4, z5, y0, y1, y2, y3, y4, y5⟩ := hSx W3 (Below.refl _ _)
        clear f0
        replace hxok := Lib.hid hxok; replace hlow2 := Lib.hid hlow2; replace hxpo := Lib.hid hxpo; replace hcase := Lib.hid hcase; replace hvx := Lib.hid hvx; replace hxy := Lib.hid hxy; replace hlow3 := Lib.hid hlow3; replace hx3 := Lib.hid hx3; replace hl3 := Lib.hid hl3; replace hC3 := Lib.hid hC3; replace hidx := Lib.hid hidx; replace hSx := Lib.hid hSx; replace hcur := Lib.hid hcur; replace hF := Lib.hid hF; replace hR := Lib.hid hR; replace hX := Lib.hid hX; replace hY := Lib.hid hY
        have hW3' := Lib.hid hW3
        clear hW3
        go_upto_region 7 with fail
        rw [← hW3'.out]
        go_cut [84] (fun gv wx => SmG w W0 fb mb base nv vs gv wx)
        case first =>
          go_region_held3 (fun w' => w'.cell? ⟨w.heap.size, 0, none⟩ = some (.slice (some ⟨g, 0, none⟩) n cap) ∧
            w'.cell? ⟨w2.heap.size, 0, none⟩ = some (.string nm) ∧ w'.cell? ⟨w2.heap.size, 1, none⟩ = some (.int .i64 ca) ∧ w'.cell? ⟨w2.heap.size, 2, none⟩ = some (.int .i64 cb) ∧ w'.cell? ⟨w2.heap.size, 3, none⟩ = some (.int .i64 cc) ∧ w'.cell? ⟨w2.heap.size, 4, none⟩ = some (.int .i64 cd) ∧ w'.cell? ⟨w2.heap.size, 5, none⟩ = some (.slice po pn pc) ∧
            w'.cell? ⟨g, k * 6, none⟩ = some (.string nm') ∧ w'.cell? ⟨g, k * 6 + 1, none⟩ = some (.int .i64 ca') ∧ w'.cell? ⟨g, k * 6 + 2, none⟩ = some (.int .i64 cb') ∧ w'.cell? ⟨g, k * 6 + 3, none⟩ = some (.int .i64 cc') ∧ w'.cell? ⟨g, k * 6 + 4, none⟩ = some (.int .i64 cd') ∧ w'.cell? ⟨g, k * 6 + 5, none⟩ = some (.slice po' pn' pc'))
            (first
              | with_reducible exact hSx.out _ hcur.out)
            (first
              | (go_at_call 33
                 (with_reducible refine (nodes_same hX.out hY.out hxy.out).mono ?_)
                 rintro e wz ⟨rfl, hbz⟩
                 replace hcur := Lib.hid (hcur.out.trans ((hbz).mono hcur.out.size))
                 replace hF := Lib.hid (hF.out.below hbz)
                 replace hR := Lib.hid (hR.out.below hbz)
                 replace hbz := Lib.hid hbz)
              | (go_at_call 57
                 (with_reducible refine (hidx.out _ hF.out).mono ?_)
                 rintro e wz ⟨rfl, hbz⟩
                 replace hcur := Lib.hid (hcur.out.trans ((hbz).mono hcur.out.size))
                 replace hF := Lib.hid (hF.out.below hbz)
                 replace hR := Lib.hid (hR.out.below hbz)
                 replace hbz := Lib.hid hbz))
          all_goals
            go_wp2_with fail
            go_meet
            exact ⟨rfl, hC3.out.cur.trans (hcur.out.mono hC3.out.cur.size), hF.out, hR.out⟩
        case rest =>
          obtain ⟨rfl, hC⟩ := hcut
          clear f0' z0 z1 z2 z3 z4 z5 y0 y1 y2 y3 y4 y5
          have hCh := Lib.hid hC
          clear hC
          go_wp2
          go_roundw
          case rel => exact ⟨k + 1, by go_num, by omega, hCh.out⟩
          case measure => simp [intOf]; omega
      · have hc1 : ¬ (k : Int) < n := by omega
        have hcp := flr_parts hM.out.r hok.out
        replace hcp := Lib.hid hcp
        go_wp2_with fail
        refine hcp.out.mono ?_
        rintro e w2 ⟨v85, rfl, hO85, hb2⟩
        obtain ⟨so, n2, c2, rfl, hSt⟩ := strs_own' hO85
        obtain ⟨P, hP⟩ : ∃ P, P = (partsOf vs).map ofL := ⟨_, rfl⟩
        rw [← hP] at hSt
        have hn2 := hSt.max
        have hC2 : SmC w W0 fb mb base nv vs w2 := ⟨hM.out.cur.trans (hb2.mono hM.out.cur.size), hM.out.f.below hb2, hM.out.r.below hb2⟩
        clear f0 hln
        replace hO85 := Lib.hid hO85; replace hb2 := Lib.hid hb2; replace hP := Lib.hid hP; replace hSt := Lib.hid hSt; replace hC2 := Lib.hid hC2; replace hM := Lib.hid hM
        go_wp2
        go_loopw [11] (fun i wr => ∃ k : Nat, i = .int .i64 k ∧ k ≤ n2 ∧ Hid (SmC w W0 fb mb base nv vs wr) ∧ Hid (StrsAt wr so n2 P)) (fun i _ => n2 - (intOf i).toNat)
        case atStart => exact ⟨0, rfl, Nat.zero_le _, hC2.out, hSt.out⟩
        case round =>
          obtain ⟨k2, rfl, hk2, hM2, hS2⟩ := hrel
          have f0 := hS0.out wr hM2.out.cur
          by_cases hc2 : k2 < n2
          · have hc3 : (k2 : Int) < n2 := by omega
            have hk0 : (0 : Int) ≤ (k2 : Int) := by omega
            obtain ⟨q, hq⟩ := hS2.out.get hc2
            obtain ⟨b, off, rfl, hbl, a0⟩ := hS2.out.cell k2 q hq
            obtain ⟨U2, hU2⟩ : ∃ U2, U2 = totOf vs q := ⟨_, rfl⟩
            have hEU2 : ∀ w, (Op.equalIn 10000 25 U2.val U2.val).run Tryd.prog w = .ok true w := fun w => by rw [eq25, decide_eq_true (show U2 = U2 from rfl)]
            have hSx : ∀ W', Below wr.heap.size wr W' → W'.cell? ⟨w.heap.size, 0, none⟩ = some nv ∧ W'.cell? ⟨b, off + k2, none⟩ = some (.string q) := fun W' hb =>
              ⟨hS0.out W' (hM2.out.cur.trans (hb.mono hM2.out.cur.size)), (below_cell hb hbl).trans a0⟩
            have hcur : Below wr.heap.size wr wr.drew := (Below.refl _ _).drew
            have hF := hM2.out.f.below hcur
            have hR := hM2.out.r.below hcur
            replace hq := Lib.hid hq; replace hU2 := Lib.hid hU2; replace hSx := Lib.hid hSx; replace hcur := Lib.hid hcur; replace hF := Lib.hid hF; replace hR := Lib.hid hR
            go_upto_region 13 with fail
            go_cut [121] (fun gv wx => SmH w W0 wr fb mb base nv vs gv wx)
            case first =>
              go_region_held3 (fun w' => w'.cell? ⟨w.heap.size, 0, none⟩ = some nv ∧ w'.cell? ⟨b, off + k2, none⟩ = some (.string q))
                (first
                  | with_reducible exact hSx.out _ hcur.out)
                (first
                  | (go_at_call 58
                     (with_reducible refine (in_flt hF.out hok.out q).mono ?_)
                     rintro e wz ⟨v58, rfl, hO58, hbz⟩
                     obtain ⟨so58, n58, c58, rfl, hA⟩ := ints_own' hO58
                     replace hcur := Lib.hid (hcur.out.trans ((hbz).mono hcur.out.size))
                     replace hF := Lib.hid (hF.out.below hbz)
                     replace hR := Lib.hid (hR.out.below hbz)
                     (try replace hB := Lib.hid (hB.out.low hbz))
                     replace hO58 := Lib.hid hO58
                     replace hA := Lib.hid hA
                     replace hbz := Lib.hid hbz)
                  | (go_at_call 86
                     (with_reducible refine (flr_in hR.out hok.out q).mono ?_)
                     rintro e wz ⟨v86, rfl, hO86, hbz⟩
                     obtain ⟨so86, n86, c86, rfl, hB⟩ := ints_own' hO86
                     replace hcur := Lib.hid (hcur.out.trans ((hbz).mono hcur.out.size))
                     replace hF := Lib.hid (hF.out.below hbz)
                     replace hR := Lib.hid (hR.out.below hbz)
                     (try replace hA := Lib.hid (hA.out.low hbz))
                     replace hO86 := Lib.hid hO86
                     replace hB := Lib.hid hB
                     replace hbz := Lib.hid hbz)
                  | (go_at_call 68
                     (with_reducible refine (samei_same hA.out hB.out).mono ?_)
                     rintro e wz ⟨rfl, hbz⟩
                     replace hcur := Lib.hid (hcur.out.trans ((hbz).mono hcur.out.size))
                     replace hF := Lib.hid (hF.out.below hbz)
                     replace hR := Lib.hid (hR.out.below hbz)
                     replace hbz := Lib.hid hbz)
                  | (go_at_call 60
                     (with_reducible refine (flt_tot hF.out hok.out q U2 hU2.out).mono ?_)
                     rintro e wz ⟨rfl, hbz⟩
                     replace hcur := Lib.hid (hcur.out.trans ((hbz).mono hcur.out.size))
                     replace hF := Lib.hid (hF.out.below hbz)
                     replace hR := Lib.hid (hR.out.below hbz)
                     replace hbz := Lib.hid hbz)
                  | (go_at_call 87
                     (with_reducible refine (flr_tot hR.out hok.out q U2 hU2.out).mono ?_)
                     rintro e wz ⟨rfl, hbz⟩
                     replace hcur := Lib.hid (hcur.out.trans ((hbz).mono hcur.out.size))
                     replace hF := Lib.hid (hF.out.below hbz)
                     replace hR := Lib.hid (hR.out.below hbz)
                     replace hbz := Lib.hid hbz))
              all_goals
                go_wp2_with fail
                go_meet
                exact ⟨rfl, ⟨hM2.out.cur.trans (hcur.out.mono hM2.out.cur.size), hF.out, hR.out⟩, hcur.out⟩
            case rest =>
              obtain ⟨rfl, hC, hlow⟩ := hcut
              have hSn := hS2.out.low hlow
              clear f0 a0
              have hCh := Lib.hid hC
              clear hC
              replace hSn := Lib.hid hSn; replace hlow := Lib.hid hlow
              go_wp2
              go_roundw
              case rel => exact ⟨k2 + 1, by go_num, by omega, hCh.out, hSn.out⟩
              case measure => simp [intOf]; omega
          · have hc3 : ¬ (k2 : Int) < n2 := by omega
            obtain ⟨I, hI⟩ : ∃ I, I = idxN (vs.map Ndv.name) part 0 := ⟨_, rfl⟩
            have hII : (I == I) = true := by simp
            have hc57 : ∀ W, Flt W fb mb base vs → Calls Tryd.prog 57 #[.pointer (some ⟨fb, 0, none⟩), .string part] W fun e w' => e = .returned (.int .i64 I) ∧ Below W.heap.size W w' := fun W hF =>
              (index_flt hF hok.out part hp).mono fun e w' h => ⟨by rw [h.1, hI], by rw [h.2]; exact Below.refl _ _⟩
            have hc83 : ∀ W, Flr W nv vs → Calls Tryd.prog 83 #[.agg #[nv], .string part] W fun e w' => e = .returned (.int .i64 I) ∧ Below W.heap.size W w' := fun W hR => by
              rw [hI]; exact flr_idx hR hok.out part
            have hcur : Below wr.heap.size wr wr.drew := (Below.refl _ _).drew
            have hF := hM2.out.f.below hcur
            have hR := hM2.out.r.below hcur
            have hSx : ∀ W', Below wr.heap.size wr W' → W'.cell? ⟨w.heap.size, 0, none⟩ = some nv := fun W' hb => hS0.out W' (hM2.out.cur.trans (hb.mono hM2.out.cur.size))
            replace hI := Lib.hid hI; replace hc57 := Lib.hid hc57; replace hc83 := Lib.hid hc83; replace hSx := Lib.hid hSx; replace hcur := Lib.hid hcur; replace hF := Lib.hid hF; replace hR := Lib.hid hR
            go_upto_region 15 with fail
            go_region_held3 (fun w' => w'.cell? ⟨w.heap.size, 0, none⟩ = some nv)
              (first
                | with_reducible exact hSx.out _ hcur.out)
              (first
                | (go_at_call 57
                   (with_reducible refine (hc57.out _ hF.out).mono ?_)
                   rintro e wz ⟨rfl, hbz⟩
                   replace hcur := Lib.hid (hcur.out.trans ((hbz).mono hcur.out.size))
                   replace hF := Lib.hid (hF.out.below hbz)
                   replace hR := Lib.hid (hR.out.below hbz)
                   replace hbz := Lib.hid hbz)
                | (go_at_call 83
                   (with_reducible refine (hc83.out _ hR.out).mono ?_)
                   rintro e wz ⟨rfl, hbz⟩
                   replace hcur := Lib.hid (hcur.out.trans ((hbz).mono hcur.out.size))
                   replace hF := Lib.hid (hF.out.below hbz)
                   replace hR := Lib.hid (hR.out.below hbz)
                   replace hbz := Lib.hid hbz))
            all_goals
              go_wp2
              go_ret
              exact ⟨rfl, hb0.out.trans ((hM2.out.cur.trans (hcur.out.mono hM2.out.cur.size)).mono hb0.out.size)⟩
end Go.Proofs.YteoihdkaoipocaaDoor

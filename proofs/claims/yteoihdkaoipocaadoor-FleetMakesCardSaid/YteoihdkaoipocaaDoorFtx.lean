/- (*fleet.Fleet).Text: the fleet's text. -/
import Derived.Test.YteoihdkaoipocaaDoorBld
import Derived.Test.YteoihdkaoipocaaDoorFct
import Derived.Deep.RegionHeld3
import Derived.Deep.DeepCutAuto
namespace Go.Proofs.YteoihdkaoipocaaDoor
open Go.RowKit Go.Maps Go.Shelf

def joinP (ps : List ByteArray) : List UInt8 := Lib.join (ps.map (·.data.toList)) [32]
/-- a node's line -/
def lineV (v : Ndv) : List UInt8 := v.name.data.toList ++ [32] ++ txtV v.cap ++ [32] ++ joinP v.parts ++ [10]
def textOf (vs : List Ndv) : List UInt8 := vs.flatMap lineV
theorem textOf_step {vs : List Ndv} {k : Nat} {v : Ndv} (h : vs[k]? = some v) : textOf (vs.take (k + 1)) = textOf (vs.take k) ++ lineV v := by
  unfold textOf
  rw [take_step h, List.flatMap_append]
  simp
theorem inter_len (sep : List UInt8) (m : Nat) : ∀ (xs : List (List UInt8)), (∀ x, x ∈ xs → x.length ≤ m) → (sep.intercalate xs).length ≤ xs.length * (m + sep.length)
  | [], _ => by simp [List.intercalate]
  | [x], h => by
    have := h x (by simp)
    simp [List.intercalate]
    omega
  | x :: y :: r, h => by
    have h1 := h x (by simp)
    have h2 := inter_len sep m (y :: r) fun z hz => h z (by simp at hz ⊢; exact .inr hz)
    have e : sep.intercalate (x :: y :: r) = x ++ sep ++ sep.intercalate (y :: r) := by simp [List.intercalate]
    rw [e, List.length_append, List.length_append, List.length_cons, Nat.add_mul]
    omega
theorem joinP_len {v : Ndv} (h : NdvAll v) : (joinP v.parts).length ≤ 136 := by
  have := inter_len [32] 16 (v.parts.map (·.data.toList)) fun x hx => by
    obtain ⟨p, hp, rfl⟩ := List.mem_map.1 hx
    have := isName_le (h.ok.parts p hp)
    rw [toL_len]; exact this
  rw [List.length_map] at this
  have h8 := h.few
  show (List.intercalate [32] _).length ≤ 136
  have : v.parts.length * (16 + [(32 : UInt8)].length) ≤ 8 * 17 := Nat.mul_le_mul h8 (Nat.le_refl _)
  omega
theorem v64_cap {v : V4} (h : CapOk v) : V64 v := by
  obtain ⟨h1, h2, h3, h4, h5, h6, h7, h8⟩ := h
  exact ⟨⟨by omega, by omega⟩, ⟨by omega, by omega⟩, ⟨by omega, by omega⟩, ⟨by omega, by omega⟩⟩
theorem lineV_len {v : Ndv} (h : NdvAll v) : (lineV v).length ≤ 240 := by
  have h1 := isName_le h.ok.name
  have h2 := txtV_len (v64_cap (capOk_right h.ok.cap))
  have h3 := joinP_len h
  have h4 : v.name.data.toList.length = v.name.size := toL_len v.name
  simp only [lineV, List.length_append, List.length_cons, List.length_nil]
  omega
theorem textOf_len {vs : List Ndv} (h : ∀ v, v ∈ vs → NdvAll v) : (textOf vs).length ≤ vs.length * 240 := by
  induction vs with
  | nil => simp [textOf]
  | cons v vs ih =>
    have h1 := lineV_len (h v (by simp))
    have h2 := ih fun v hv => h v (by simp [hv])
    simp only [textOf, List.flatMap_cons, List.length_append, List.length_cons] at h2 ⊢
    rw [Nat.add_mul]
    omega
theorem isb_low {B b : Nat} {bs : List Value} {w w' : World} (h : Lib.IsBuilder 134 5 B b bs w) (hb : Below w.heap.size w w') : Lib.IsBuilder 134 5 B b bs w' := by
  have key : ∀ p, Lib.BuilderAt 134 5 B b p bs w → Lib.BuilderAt 134 5 B b p bs w' := fun p ⟨h1, v, h2, h3, h4⟩ =>
    ⟨h1, v, blk_below hb h2 (blk_lt h2), by
      refine ⟨h3.1, ?_⟩
      rcases h3.2 with h | ⟨g, cap, cur, hv, hg, hh, hr⟩
      · exact .inl h
      · exact .inr ⟨g, cap, cur, hv, hg, blk_below hb hh (blk_lt hh), hr⟩, h4⟩
  rcases h with h | h
  · exact .inl (key _ h)
  · exact .inr (key _ h)
theorem join_call {w : World} {b off pn pc : Nat} {ps : List ByteArray} (h : StrsAt w (some ⟨b, off, none⟩) pn ps) (hle : pn ≤ pc) (hlt : b < w.heap.size) (h8 : pn ≤ 8) (hl : (joinP ps).length ≤ 136) :
    Calls Tryd.prog 77 #[.slice (some ⟨b, off, none⟩) pn pc, .string { data := #[32] }] w fun e w' => e = .returned (.string (ofL (joinP ps))) ∧ Below w.heap.size w w' := by
  have hlen := h.len
  have := Tryd.strings_Join b off pc ps { data := #[32] } w (fun j x hx => by
    obtain ⟨b', off', e, _, hc⟩ := h.cell j x hx
    cases e
    exact hc) hlt (by omega) (by omega) (by show (joinP ps).length ≤ _; omega)
  rw [hlen] at this
  exact this
theorem ofL_self (s : ByteArray) : ofL s.data.toList = s := toL_inj (by rw [ofL_toL])
theorem line_eq (nm : ByteArray) (cp : V4) (ps : List ByteArray) : nm ++ ({ data := #[32] } : ByteArray) ++ ofL (txtV cp) ++ ({ data := #[32] } : ByteArray) ++ ofL (joinP ps) ++ ({ data := #[10] } : ByteArray) = ofL (lineV ⟨nm, cp, ps⟩) := by
  rw [show ({ data := #[32] } : ByteArray) = ofL [32] from rfl, show ({ data := #[10] } : ByteArray) = ofL [10] from rfl]
  conv => lhs; rw [← ofL_self nm]
  rw [ofL_app, ofL_app, ofL_app, ofL_app, ofL_app]
  rfl
structure FtW (w : World) (l : List UInt8) (W : World) : Prop where
  low : Below w.heap.size w W
  b : Lib.IsBuilder 134 5 w.heap.size w.heap.size (Lib.byteCells l) W
set_option maxRecDepth 100000 in
set_option maxHeartbeats 3200000 in
theorem ftext_any {w : World} {fb mb base : Nat} {vs : List Ndv} (hF : Flt w fb mb base vs) (hok : FltOk vs) (ht : Tb w) : Calls Tryd.prog 56 #[.pointer (some ⟨fb, 0, none⟩)] w fun e w' => e = .returned (.string (ofL (textOf vs))) ∧ Below w.heap.size w w' := by
  obtain ⟨n, hn⟩ : ∃ n, n = vs.length := ⟨_, rfl⟩
  have hW0 : FtW w (textOf (vs.take 0)) (w.alloc (.cells #[.pointer none, .slice none 0 0] 134 (0, 0))) :=
    ⟨(Below.refl _ _).alloc (Nat.le_refl _) _, .inl ⟨Nat.le_refl _, _, blk_new _ _, ⟨rfl, .inl ⟨rfl, rfl⟩⟩, by simp [Value.ownBlock]⟩⟩
  have hlc := len_flt (hF.below hW0.low)
  have hn16 : n ≤ 16 := by rw [hn]; exact hok.len
  rw [← hn] at hlc
  replace hF := Lib.hid hF; replace hn := Lib.hid hn; replace hlc := Lib.hid hlc; replace hW0 := Lib.hid hW0; replace hok := Lib.hid hok; replace ht := Lib.hid ht
  go_enter Tryd.func56, Tryd.ntmps56
  go_wp2_with fail
  refine hlc.out.mono ?_
  rintro e w1 ⟨rfl, rfl⟩
  go_wp2
  go_loopw [4, 5, 8] (fun _ _ i wr => ∃ k : Nat, i = .int .i64 k ∧ k ≤ n ∧ Hid (FtW w (textOf (vs.take k)) wr)) (fun _ _ i _ => n - (intOf i).toNat)
  case atStart => exact ⟨0, rfl, Nat.zero_le _, hW0.out⟩
  case round =>
    obtain ⟨k, rfl, hk, hM⟩ := hrel
    by_cases hc : k < n
    · have hc1 : (k : Int) < n := by omega
      have hk0 : (0 : Int) ≤ (k : Int) := by omega
      obtain ⟨v, hv⟩ : ∃ v, vs[k]? = some v := ⟨_, List.getElem?_eq_getElem (by have := hn.out; omega)⟩
      have hva := hok.out.all v (List.mem_of_getElem? hv)
      have hFr := hF.out.below hM.out.low
      obtain ⟨nv, xs, h1, h2, h3⟩ := hFr.ex
      have hnx : n = xs.length := by rw [hn.out, ← h2, List.length_map]
      obtain ⟨x, hx⟩ : ∃ x, xs[k]? = some x := ⟨_, List.getElem?_eq_getElem (by omega)⟩
      obtain ⟨g, cap, rfl⟩ := Joins.ownsRow_form h1.row (by omega)
      obtain ⟨g', e1, _, _, hcell⟩ := h1.cell hx
      have e2 : g = g' := by simpa [Value.ownBlock] using e1
      subst e2
      have hvx : v = x.pl := by
        have := pl_at hx
        rw [h2, hv] at this
        exact Option.some.inj this
      subst hvx
      have hxo := (h1.ok x (List.mem_of_getElem? hx)).1
      obtain ⟨nm, ⟨ca, cb, cc, cd⟩, po, pn, pc, ps⟩ := x
      have hpn : ps.length = pn := hxo.parts.len
      have hone : 1 ≤ ps.length := hva.ok.one
      have hfew : ps.length ≤ 8 := hva.few
      have hple : pn ≤ pc := hxo.ple
      obtain ⟨y0, hy0⟩ := hxo.parts.get (i := 0) (by show 0 < pn; omega)
      obtain ⟨b, off, e, hbl, _⟩ := hxo.parts.cell 0 y0 hy0
      have e' : po = some ⟨b, off, none⟩ := e
      subst e'
      have z0 : wr.cell? ⟨g, k * 6, none⟩ = some (.string nm) := hcell 0 (by omega)
      have z1 : wr.cell? ⟨g, k * 6 + 1, none⟩ = some (.int .i64 ca) := hcell 1 (by omega)
      have z2 : wr.cell? ⟨g, k * 6 + 2, none⟩ = some (.int .i64 cb) := hcell 2 (by omega)
      have z3 : wr.cell? ⟨g, k * 6 + 3, none⟩ = some (.int .i64 cc) := hcell 3 (by omega)
      have z4 : wr.cell? ⟨g, k * 6 + 4, none⟩ = some (.int .i64 cd) := hcell 4 (by omega)
      have z5 : wr.cell? ⟨g, k * 6 + 5, none⟩ = some (.slice (some ⟨b, off, none⟩) pn pc) := hcell 5 (by omega)
      have f0 : wr.cell? ⟨fb, 0, none⟩ = some (.slice (some ⟨g, 0, none⟩) n cap) := by rw [hnx]; exact blk_cell h1.head 0
      obtain ⟨W3, hW3⟩ : ∃ W3, W3 = wr.alloc (.cells (⟨nm, ⟨ca, cb, cc, cd⟩, some ⟨b, off, none⟩, pn, pc, ps⟩ : Nde).cells 48 (0, 0)) := ⟨_, rfl⟩
      have hlow3 : Below wr.heap.size wr W3 := by rw [hW3]; exact (Below.refl _ _).alloc (Nat.le_refl _) _
      have hx3 : W3.heap[wr.heap.size]? = some (.cells (⟨nm, ⟨ca, cb, cc, cd⟩, some ⟨b, off, none⟩, pn, pc, ps⟩ : Nde).cells 48 (0, 0)) := by rw [hW3]; exact blk_new _ _
      have hwl : w.heap.size < wr.heap.size := by
        rcases hM.out.b with ⟨_, _, h, _⟩ | ⟨_, _, h, _⟩ <;> exact blk_lt h
      have hv64 : V64 ⟨ca, cb, cc, cd⟩ := v64_cap (capOk_right hva.ok.cap)
      have htl := txtV_len hv64
      have hjl : (joinP ps).length ≤ 136 := joinP_len hva
      have hnl : nm.size ≤ 16 := isName_le hva.ok.name
      obtain ⟨A, hA⟩ : ∃ A, A = ofL (txtV ⟨ca, cb, cc, cd⟩) := ⟨_, rfl⟩
      obtain ⟨J, hJ⟩ : ∃ J, J = ofL (joinP ps) := ⟨_, rfl⟩
      have hAs : A.size ≤ 83 := by rw [hA, ofL_size]; exact htl
      have hJs : J.size ≤ 136 := by rw [hJ, ofL_size]; exact hjl
      have q1 : ¬ 9223372036854775807 < nm.size + 1 := by omega
      have q2 : ¬ 9223372036854775807 < nm.size + 1 + A.size := by omega
      have q3 : ¬ 9223372036854775807 < nm.size + 1 + A.size + 1 := by omega
      have q4 : ¬ 9223372036854775807 < nm.size + 1 + A.size + 1 + J.size := by omega
      have q5 : ¬ 9223372036854775807 < nm.size + 1 + A.size + 1 + J.size + 1 := by omega
      have hS : ∀ W' : World, W'.heap[wr.heap.size]? = some (.cells (⟨nm, ⟨ca, cb, cc, cd⟩, some ⟨b, off, none⟩, pn, pc, ps⟩ : Nde).cells 48 (0, 0)) → W'.cell? ⟨wr.heap.size, 0, none⟩ = some (.string nm) ∧ W'.cell? ⟨wr.heap.size, 1, none⟩ = some (.int .i64 ca) ∧ W'.cell? ⟨wr.heap.size, 2, none⟩ = some (.int .i64 cb) ∧ W'.cell? ⟨wr.heap.size, 3, none⟩ = some (.int .i64 cc) ∧ W'.cell? ⟨wr.heap.size, 4, none⟩ = some (.int .i64 cd) ∧ W'.cell? ⟨wr.heap.size, 5, none⟩ = some (.slice (some ⟨b, off, none⟩) pn pc) := fun W' h =>
        ⟨blk_cell h 0, blk_cell h 1, blk_cell h 2, blk_cell h 3, blk_cell h 4, blk_cell h 5⟩
      have hst : textOf (vs.take (k + 1)) = textOf (vs.take k) ++ lineV _ := textOf_step hv
      have hT : (textOf (vs.take k)).length ≤ 16 * 240 := by
        refine Nat.le_trans (textOf_len fun v hv => hok.out.all v (List.mem_of_mem_take hv)) ?_
        rw [List.length_take]
        exact Nat.mul_le_mul (by have := hn.out; omega) (Nat.le_refl _)
      have hc75 : ∀ W, Tb W → Calls Tryd.prog 75 #[.agg #[.int .i64 ca, .int .i64 cb, .int .i64 cc, .int .i64 cd]] W fun e w' => e = .returned (.string A) ∧ Below W.heap.size W w' := fun W ht => by rw [hA]; exact vtext_any ⟨ca, cb, cc, cd⟩ hv64 W ht
      have hc77 : ∀ W, StrsAt W (some ⟨b, off, none⟩) pn ps → b < W.heap.size → Calls Tryd.prog 77 #[.slice (some ⟨b, off, none⟩) pn pc, .string { data := #[32] }] W fun e w' => e = .returned (.string J) ∧ Below W.heap.size W w' := fun W hp hb => by rw [hJ]; exact join_call hp hple hb (by omega) hjl
      have hSeq : nm ++ ({ data := #[32] } : ByteArray) ++ A ++ ({ data := #[32] } : ByteArray) ++ J ++ ({ data := #[10] } : ByteArray) = ofL (lineV ⟨nm, ⟨ca, cb, cc, cd⟩, ps⟩) := by rw [hA, hJ]; exact line_eq nm _ ps
      have hll := lineV_len hva
      have hc98 : ∀ W, Lib.IsBuilder 134 5 w.heap.size w.heap.size (Lib.byteCells (textOf (vs.take k))) W → w.heap.size ≤ W.heap.size → Calls Tryd.prog 98 #[.pointer (some ⟨w.heap.size, 0, none⟩), .string (nm ++ ({ data := #[32] } : ByteArray) ++ A ++ ({ data := #[32] } : ByteArray) ++ J ++ ({ data := #[10] } : ByteArray))] W fun e w' => (∃ m, e = .returned (.tuple #[.int .i64 m, .nilIface])) ∧ Lib.IsBuilder 134 5 w.heap.size w.heap.size (Lib.byteCells (textOf (vs.take (k + 1)))) w' ∧ Below w.heap.size W w' ∧ Lib.OthersKept 5 (some w.heap.size) W w' := fun W hb hs => by
        rw [hSeq]
        have hsz : (ofL (lineV ⟨nm, ⟨ca, cb, cc, cd⟩, ps⟩)).size ≤ 240 := by rw [ofL_size]; exact hll
        refine (bwrite_any w.heap.size w.heap.size _ (ofL (lineV ⟨nm, ⟨ca, cb, cc, cd⟩, ps⟩)) W hb (by rw [Lib.byteCells_length]; omega) hs).mono ?_
        rintro e w' ⟨rfl, ⟨h1, h2⟩, h3⟩
        refine ⟨⟨_, rfl⟩, .inr ?_, h2, h3⟩
        rw [hst, byteCells_app]
        have e : Lib.strCells (ofL (lineV ⟨nm, ⟨ca, cb, cc, cd⟩, ps⟩)) = Lib.byteCells (lineV ⟨nm, ⟨ca, cb, cc, cd⟩, ps⟩) := by
          unfold Lib.strCells Lib.byteCells
          rw [ofL_toL]
        rw [e] at h1
        exact h1
      have hcur : Below W3.heap.size W3 W3.drew := (Below.refl _ _).drew
      have hB := isb_low hM.out.b (hlow3.trans (hcur.mono hlow3.size))
      have hX : W3.drew.heap[wr.heap.size]? = some (.cells (⟨nm, ⟨ca, cb, cc, cd⟩, some ⟨b, off, none⟩, pn, pc, ps⟩ : Nde).cells 48 (0, 0)) := hx3
      have hP := ((hxo.low hlow3).low hcur).parts
      have hTb := ((ht.out.low hM.out.low).low hlow3).low hcur
      have hbl3 : b < W3.drew.heap.size := Nat.lt_of_lt_of_le hbl (Nat.le_trans hlow3.size hcur.size)
      have hlw := hM.out.low.trans ((hlow3.trans (hcur.mono hlow3.size)).mono hM.out.low.size)
      obtain ⟨c0, c1, c2, c3, c4, c5⟩ := hS W3 hx3
      replace hv := Lib.hid hv; replace hva := Lib.hid hva; replace hFr := Lib.hid hFr; replace h1 := Lib.hid h1; replace h2 := Lib.hid h2; replace h3 := Lib.hid h3; replace hnx := Lib.hid hnx; replace hx := Lib.hid hx; replace hcell := Lib.hid hcell; replace hxo := Lib.hid hxo; replace hpn := Lib.hid hpn; replace hone := Lib.hid hone; replace hfew := Lib.hid hfew; replace hy0 := Lib.hid hy0; replace hlow3 := Lib.hid hlow3; replace hx3 := Lib.hid hx3; replace hv64 := Lib.hid hv64; replace htl := Lib.hid htl; replace hjl := Lib.hid hjl; replace hA := Lib.hid hA; replace hJ := Lib.hid hJ; replace hS := Lib.hid hS; replace hst := Lib.hid hst; replace hT := Lib.hid hT; replace hcur := Lib.hid hcur; replace hB := Lib.hid hB; replace hX := Lib.hid hX; replace hP := Lib.hid hP; replace hTb := Lib.hid hTb; replace hlw := Lib.hid hlw; replace e1 := Lib.hid e1; replace hc75 := Lib.hid hc75; replace hc77 := Lib.hid hc77; replace hc98 := Lib.hid hc98; replace hSeq := Lib.hid hSeq; replace hll := Lib.hid hll; replace hbl3 := Lib.hid hbl3
      have hW3' := Lib.hid hW3
      clear hW3
      go_upto_region 6 with fail
      rw [← hW3'.out]
      clear z0 z1 z2 z3 z4 z5 f0
      go_region_held3 (fun W' => W'.cell? ⟨wr.heap.size, 0, none⟩ = some (.string nm) ∧ W'.cell? ⟨wr.heap.size, 1, none⟩ = some (.int .i64 ca) ∧ W'.cell? ⟨wr.heap.size, 2, none⟩ = some (.int .i64 cb) ∧ W'.cell? ⟨wr.heap.size, 3, none⟩ = some (.int .i64 cc) ∧ W'.cell? ⟨wr.heap.size, 4, none⟩ = some (.int .i64 cd) ∧ W'.cell? ⟨wr.heap.size, 5, none⟩ = some (.slice (some ⟨b, off, none⟩) pn pc))
        (first
          | with_reducible exact hS.out _ hX.out)
        (first
          | (go_at_call 75
             (with_reducible refine (hc75.out _ hTb.out).mono ?_)
             rintro e wz ⟨rfl, hbz⟩
             replace hX := Lib.hid (blk_below hbz hX.out (blk_lt hX.out))
             replace hB := Lib.hid (isb_low hB.out hbz)
             replace hP := Lib.hid (hP.out.low hbz)
             replace hTb := Lib.hid (hTb.out.low hbz)
             replace hbl3 := Lib.hid (Nat.lt_of_lt_of_le hbl3.out hbz.size)
             replace hlw := Lib.hid (hlw.out.trans (hbz.mono hlw.out.size))
             replace hbz := Lib.hid hbz)
          | (go_at_call 77
             (with_reducible refine (hc77.out _ hP.out hbl3.out).mono ?_)
             rintro e wz ⟨rfl, hbz⟩
             replace hX := Lib.hid (blk_below hbz hX.out (blk_lt hX.out))
             replace hB := Lib.hid (isb_low hB.out hbz)
             replace hP := Lib.hid (hP.out.low hbz)
             replace hTb := Lib.hid (hTb.out.low hbz)
             replace hbl3 := Lib.hid (Nat.lt_of_lt_of_le hbl3.out hbz.size)
             replace hlw := Lib.hid (hlw.out.trans (hbz.mono hlw.out.size))
             replace hbz := Lib.hid hbz)
          | (go_at_call 98
             (with_reducible refine (hc98.out _ hB.out hlw.out.size).mono ?_)
             rintro e wz ⟨⟨m98, rfl⟩, hB', hbz, hoth⟩
             replace hX := Lib.hid (hoth _ _ hX.out (fun e => by injection e with e; omega) (fun c fr e => by injection e with _ e; exact absurd e (by decide)))
             replace hB := Lib.hid hB'
             replace hlw := Lib.hid (hlw.out.trans hbz)
             clear hB'
             replace hbz := Lib.hid hbz
             replace hoth := Lib.hid hoth))
      all_goals
        have hC : FtW w (textOf (vs.take (k + 1))) wz := ⟨hlw.out, hB.out⟩
        replace hC := Lib.hid hC
        go_wp2
        go_roundw
        case rel => exact ⟨k + 1, by go_num, by omega, hC.out⟩
        case measure => simp [intOf]; omega
    · have hc1 : ¬ (k : Int) < n := by omega
      have hkn : vs.take k = vs := List.take_of_length_le (by have := hn.out; omega)
      have hb := hM.out.b
      rw [hkn] at hb
      have hlow := hM.out.low
      have hcl := Tryd.Builder_String_any w.heap.size w.heap.size (textOf vs) wr hb hlow.size
      replace hkn := Lib.hid hkn; replace hb := Lib.hid hb; replace hlow := Lib.hid hlow; replace hcl := Lib.hid hcl
      go_wp2_with fail
      refine hcl.out.mono ?_
      rintro e w2 ⟨rfl, hb2⟩
      replace hb2 := Lib.hid hb2
      go_wp2
      go_ret
      exact ⟨rfl, hlow.out.trans hb2.out⟩
end Go.Proofs.YteoihdkaoipocaaDoor

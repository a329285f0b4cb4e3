/- (corveeref05.Fleet).Text. -/
import Derived.Test.YteoihdkaoipocaaDoorFtx
import Derived.Test.YteoihdkaoipocaaDoorSma
namespace Go.Proofs.YteoihdkaoipocaaDoor
open Go.RowKit Go.Maps Go.Shelf

def tailP (ps : List ByteArray) : List UInt8 := ps.flatMap fun p => 32 :: p.data.toList
theorem join_cons (x : List UInt8) : ∀ (r : List (List UInt8)), Lib.join (x :: r) [32] = x ++ r.flatMap fun y => 32 :: y
  | [] => by simp [Lib.join, List.intercalate]
  | y :: r => by
    have h := join_cons y r
    have e : Lib.join (x :: y :: r) [32] = x ++ [32] ++ Lib.join (y :: r) [32] := by simp [Lib.join, List.intercalate]
    rw [e, h]
    simp
theorem tail_join {ps : List ByteArray} (h : ps ≠ []) : [32] ++ joinP ps = tailP ps := by
  cases ps with
  | nil => exact absurd rfl h
  | cons p r =>
    unfold joinP tailP
    rw [List.map_cons, join_cons]
    simp [List.flatMap_map]
theorem lineV_tail {v : Ndv} (h : v.parts ≠ []) : lineV v = v.name.data.toList ++ [32] ++ txtV v.cap ++ tailP v.parts ++ [10] := by
  unfold lineV
  rw [List.append_assoc (v.name.data.toList ++ [32] ++ txtV v.cap), tail_join h]
theorem tailP_step {ps : List ByteArray} {m : Nat} {p : ByteArray} (h : ps[m]? = some p) : tailP (ps.take (m + 1)) = tailP (ps.take m) ++ (32 :: p.data.toList) := by
  unfold tailP
  rw [take_step h, List.flatMap_append]
  simp
theorem tailP_len {ps : List ByteArray} (h : ∀ p, p ∈ ps → isName p = true) : (tailP ps).length ≤ ps.length * 17 := by
  induction ps with
  | nil => simp [tailP]
  | cons p ps ih =>
    have h1 := isName_le (h p (by simp))
    have h2 := ih fun q hq => h q (by simp [hq])
    have h3 : p.data.toList.length = p.size := toL_len p
    simp only [tailP, List.flatMap_cons, List.length_append, List.length_cons] at h2 ⊢
    rw [Nat.add_mul]
    omega
structure RxW (w : World) (nv : Value) (W : World) : Prop where
  low : Below w.heap.size w W
  box : W.heap[w.heap.size]? = some (.cells #[nv] 44 (0, 0))
structure RxS (W3 : World) (S : ByteArray) (sv : Value) (wx : World) : Prop where
  sv : sv = .string S
  low : Below W3.heap.size W3 wx
set_option maxRecDepth 100000 in
set_option maxHeartbeats 3200000 in
theorem rftext_any {w : World} {nv : Value} {vs : List Ndv} (hR : Flr w nv vs) (hok : FltOk vs) : Calls Tryd.prog 44 #[.agg #[nv]] w fun e w' => e = .returned (.string (ofL (textOf vs))) ∧ Below w.heap.size w w' := by
  have hln := flr_lens hR
  obtain ⟨n, hn⟩ : ∃ n, n = vs.length := ⟨_, rfl⟩
  rw [← hn] at hln
  have hn16 : n ≤ 16 := by rw [hn]; exact hok.len
  have hW0 : RxW w nv (w.alloc (.cells #[nv] 44 (0, 0))) := ⟨(Below.refl _ _).alloc (Nat.le_refl _) _, blk_new _ _⟩
  replace hR := Lib.hid hR; replace hn := Lib.hid hn; replace hW0 := Lib.hid hW0; replace hok := Lib.hid hok
  go_enter Tryd.func44, Tryd.ntmps44
  go_wp2
  go_loopw [3, 4, 5, 6] (fun sv i _ _ wr => ∃ (k : Nat) (S : ByteArray), sv = .string S ∧ i = .int .i64 k ∧ k ≤ n ∧ Hid (S = ofL (textOf (vs.take k))) ∧ Hid (RxW w nv wr)) (fun _ i _ _ _ => n - (intOf i).toNat)
  case atStart => exact ⟨0, { data := #[] }, rfl, rfl, Nat.zero_le _, rfl, hW0.out⟩
  case round =>
    obtain ⟨k, S, rfl, rfl, hk, hS, hM⟩ := hrel
    have f0 : wr.cell? ⟨w.heap.size, 0, none⟩ = some nv := blk_cell hM.out.box 0
    by_cases hc : k < n
    · have hc1 : (k : Int) < n := by omega
      have hk0 : (0 : Int) ≤ (k : Int) := by omega
      obtain ⟨v, hv⟩ : ∃ v, vs[k]? = some v := ⟨_, List.getElem?_eq_getElem (by have := hn.out; omega)⟩
      have hva := hok.out.all v (List.mem_of_getElem? hv)
      have hRr := hR.out.below hM.out.low
      obtain ⟨y, g, cap, hyv, rfl, hgl, hyok, hycell⟩ := flr_at hRr hv
      subst hyv
      rw [← hn.out] at f0
      obtain ⟨nm, ⟨ca, cb, cc, cd⟩, po, pn, pc, ps⟩ := y
      have hcell := hycell wr (Below.refl _ _)
      have hpn : ps.length = pn := hyok.parts.len
      have hone : 1 ≤ ps.length := hva.ok.one
      have hfew : ps.length ≤ 8 := hva.few
      have z0 : wr.cell? ⟨g, k * 6, none⟩ = some (.string nm) := hcell 0 (by omega)
      have z1 : wr.cell? ⟨g, k * 6 + 1, none⟩ = some (.int .i64 ca) := hcell 1 (by omega)
      have z2 : wr.cell? ⟨g, k * 6 + 2, none⟩ = some (.int .i64 cb) := hcell 2 (by omega)
      have z3 : wr.cell? ⟨g, k * 6 + 3, none⟩ = some (.int .i64 cc) := hcell 3 (by omega)
      have z4 : wr.cell? ⟨g, k * 6 + 4, none⟩ = some (.int .i64 cd) := hcell 4 (by omega)
      have z5 : wr.cell? ⟨g, k * 6 + 5, none⟩ = some (.slice po pn pc) := hcell 5 (by omega)
      obtain ⟨W3, hW3⟩ : ∃ W3, W3 = wr.alloc (.cells (⟨nm, ⟨ca, cb, cc, cd⟩, po, pn, pc, ps⟩ : Nde).cells 48 (0, 0)) := ⟨_, rfl⟩
      have hlow3 : Below wr.heap.size wr W3 := by rw [hW3]; exact (Below.refl _ _).alloc (Nat.le_refl _) _
      have hx3 : W3.heap[wr.heap.size]? = some (.cells (⟨nm, ⟨ca, cb, cc, cd⟩, po, pn, pc, ps⟩ : Nde).cells 48 (0, 0)) := by rw [hW3]; exact blk_new _ _
      have hv64 : V64 ⟨ca, cb, cc, cd⟩ := v64_cap (capOk_right hva.ok.cap)
      have hnl : nm.size ≤ 16 := isName_le hva.ok.name
      obtain ⟨A, hA⟩ : ∃ A, A = ofL (txtV ⟨ca, cb, cc, cd⟩) := ⟨_, rfl⟩
      have hAs : A.size ≤ 83 := by rw [hA, ofL_size]; exact txtV_len hv64
      have hT : (textOf (vs.take k)).length ≤ 16 * 240 := by
        refine Nat.le_trans (textOf_len fun v hv => hok.out.all v (List.mem_of_mem_take hv)) ?_
        rw [List.length_take]
        exact Nat.mul_le_mul (by have := hn.out; omega) (Nat.le_refl _)
      have hSs : S.size ≤ 3840 := by rw [hS.out, ofL_size]; exact hT
      have hc37 : ∀ W, Calls Tryd.prog 37 #[.agg #[.int .i64 ca, .int .i64 cb, .int .i64 cc, .int .i64 cd]] W fun e w' => e = .returned (.string A) ∧ Below W.heap.size W w' := fun W => by rw [hA]; exact rtext_any ⟨ca, cb, cc, cd⟩ hv64 W
      have q1 : ¬ 9223372036854775807 < nm.size + 1 := by omega
      have q2 : ¬ 9223372036854775807 < nm.size + 1 + A.size := by omega
      have q3 : ¬ 9223372036854775807 < S.size + (nm.size + 1 + A.size) := by omega
      have hSx : ∀ W' : World, Below W3.heap.size W3 W' → W'.cell? ⟨wr.heap.size, 0, none⟩ = some (.string nm) ∧ W'.cell? ⟨wr.heap.size, 1, none⟩ = some (.int .i64 ca) ∧ W'.cell? ⟨wr.heap.size, 2, none⟩ = some (.int .i64 cb) ∧ W'.cell? ⟨wr.heap.size, 3, none⟩ = some (.int .i64 cc) ∧ W'.cell? ⟨wr.heap.size, 4, none⟩ = some (.int .i64 cd) ∧ W'.cell? ⟨wr.heap.size, 5, none⟩ = some (.slice po pn pc) := fun W' hb => by
        have h := blk_below hb hx3 (blk_lt hx3)
        exact ⟨blk_cell h 0, blk_cell h 1, blk_cell h 2, blk_cell h 3, blk_cell h 4, blk_cell h 5⟩
      have hcur : Below W3.heap.size W3 W3.drew := (Below.refl _ _).drew
      obtain ⟨c0, c1, c2, c3, c4, c5⟩ := hSx W3 (Below.refl _ _)
      have hst := textOf_step hv
      replace hv := Lib.hid hv; replace hva := Lib.hid hva; replace hRr := Lib.hid hRr; replace hycell := Lib.hid hycell; replace hcell := Lib.hid hcell; replace hpn := Lib.hid hpn; replace hone := Lib.hid hone; replace hfew := Lib.hid hfew; replace hlow3 := Lib.hid hlow3; replace hx3 := Lib.hid hx3; replace hv64 := Lib.hid hv64; replace hA := Lib.hid hA; replace hT := Lib.hid hT; replace hc37 := Lib.hid hc37; replace hSx := Lib.hid hSx; replace hcur := Lib.hid hcur; replace hst := Lib.hid hst; replace hyok := Lib.hid hyok
      have hW3' := Lib.hid hW3
      clear hW3 hln
      go_upto_region 6 with fail
      rw [← hW3'.out]
      clear z0 z1 z2 z3 z4 z5 f0
      go_cut [3] (fun sv wx => RxS W3 (S ++ (nm ++ ({ data := #[32] } : ByteArray) ++ A)) sv wx)
      case first =>
        go_region_held3 (fun W' => W'.cell? ⟨wr.heap.size, 0, none⟩ = some (.string nm) ∧ W'.cell? ⟨wr.heap.size, 1, none⟩ = some (.int .i64 ca) ∧ W'.cell? ⟨wr.heap.size, 2, none⟩ = some (.int .i64 cb) ∧ W'.cell? ⟨wr.heap.size, 3, none⟩ = some (.int .i64 cc) ∧ W'.cell? ⟨wr.heap.size, 4, none⟩ = some (.int .i64 cd) ∧ W'.cell? ⟨wr.heap.size, 5, none⟩ = some (.slice po pn pc))
          (first
            | with_reducible exact hSx.out _ hcur.out)
          (first
            | (go_at_call 37
               (with_reducible refine (hc37.out _).mono ?_)
               rintro e wz ⟨rfl, hbz⟩
               replace hcur := Lib.hid (hcur.out.trans (hbz.mono hcur.out.size))
               replace hbz := Lib.hid hbz))
        all_goals
          go_wp2_with fail
          go_meet
          exact ⟨rfl, hcur.out⟩
      case rest =>
        obtain ⟨rfl, hlow5⟩ := hcut
        clear hcur c0 c1 c2 c3 c4 c5
        obtain ⟨_, _, _, _, _, c5⟩ := hSx.out wc hlow5
        have hP := ((hyok.out.low hlow3.out).low hlow5).parts
        have hP' : StrsAt wc po pn ps := hP
        obtain ⟨L, hL⟩ : ∃ L, L = textOf (vs.take k) ++ nm.data.toList ++ [32] ++ txtV ⟨ca, cb, cc, cd⟩ := ⟨_, rfl⟩
        obtain ⟨S1, hS1⟩ : ∃ S1, S1 = S ++ (nm ++ ({ data := #[32] } : ByteArray) ++ A) := ⟨_, rfl⟩
        have hS1e : S1 = ofL L := by
          rw [hS1, hL, hS.out, hA.out, show ({ data := #[32] } : ByteArray) = ofL [32] from rfl]
          conv => lhs; rw [← ofL_self nm]
          rw [ofL_app, ofL_app, ofL_app]
          simp
        have hLl : L.length ≤ 3940 := by
          have h1 : nm.data.toList.length = nm.size := toL_len nm
          have h2 := txtV_len hv64.out
          have h3 := hT.out
          rw [hL]
          simp only [List.length_append, List.length_cons, List.length_nil]
          omega
        have hst2 : textOf (vs.take (k + 1)) = L ++ tailP ps ++ [10] := by
          rw [hst.out, hL, lineV_tail (v := Nde.pl ⟨nm, ⟨ca, cb, cc, cd⟩, po, pn, pc, ps⟩) (by intro e; have h := hone.out; have e' : ps = [] := e; rw [e'] at h; simp at h)]
          show textOf (vs.take k) ++ (nm.data.toList ++ [32] ++ txtV ⟨ca, cb, cc, cd⟩ ++ tailP ps ++ [10]) = _
          simp
        have hpmx := hP'.max
        have hnames := hva.out.ok.parts
        have hlowR : Below w.heap.size w wc := hM.out.low.trans ((hlow3.out.trans (hlow5.mono hlow3.out.size)).mono hM.out.low.size)
        have hboxR := blk_below hlow5 (blk_below hlow3.out hM.out.box (blk_lt hM.out.box)) (Nat.lt_of_lt_of_le (blk_lt hM.out.box) hlow3.out.size)
        rw [← hS1]
        replace hP := Lib.hid hP; replace hP' := Lib.hid hP'; replace hL := Lib.hid hL; replace hS1 := Lib.hid hS1; replace hS1e := Lib.hid hS1e; replace hLl := Lib.hid hLl; replace hst2 := Lib.hid hst2; replace hnames := Lib.hid hnames; replace hlowR := Lib.hid hlowR; replace hboxR := Lib.hid hboxR; replace hlow5 := Lib.hid hlow5
        go_wp2
        go_loop [3, 6] (fun sv m => ∃ (j : Nat) (Z : ByteArray), sv = .string Z ∧ m = .int .i64 j ∧ j ≤ pn ∧ Hid (Z = ofL (L ++ tailP (ps.take j)))) (fun _ m => pn - (intOf m).toNat)
        case atStart => exact ⟨0, S1, rfl, rfl, Nat.zero_le _, by rw [hS1e.out, List.take_zero]; exact congrArg ofL (List.append_nil L).symm⟩
        case round =>
          obtain ⟨j, Z, rfl, rfl, hj, hZ⟩ := hrel
          have htl : ∀ m, (tailP (ps.take m)).length ≤ 136 := fun m => by
            refine Nat.le_trans (tailP_len fun p hp => hnames.out p (List.mem_of_mem_take hp)) ?_
            have : (ps.take m).length ≤ 8 := by rw [List.length_take]; have := hfew.out; omega
            exact Nat.mul_le_mul this (Nat.le_refl 17)
          have hZs : Z.size ≤ 4100 := by
            have := htl j
            have := hLl.out
            rw [hZ.out, ofL_size, List.length_append]
            omega
          have htl' := Lib.hid htl
          clear htl
          by_cases hjc : j < pn
          · have hj1 : (j : Int) < pn := by omega
            have hj0 : (0 : Int) ≤ (j : Int) := by omega
            obtain ⟨p, hp⟩ := hP'.out.get hjc
            obtain ⟨b, off, e, hbl, a0⟩ := hP'.out.cell j p hp
            subst e
            have hps : p.size ≤ 16 := isName_le (hnames.out p (List.mem_of_getElem? hp))
            have q1 : ¬ 9223372036854775807 < 1 + p.size := by omega
            have q2 : ¬ 9223372036854775807 < Z.size + (1 + p.size) := by omega
            have hZ2 : Z ++ (({ data := #[32] } : ByteArray) ++ p) = ofL (L ++ tailP (ps.take (j + 1))) := by
              rw [hZ.out, tailP_step hp, show ({ data := #[32] } : ByteArray) = ofL [32] from rfl]
              conv => lhs; rw [← ofL_self p]
              rw [ofL_app, ofL_app]
              simp
            replace hp := Lib.hid hp; replace hZ2 := Lib.hid hZ2
            go_wp2
            go_round
            case rel => exact ⟨j + 1, Z ++ (({ data := #[32] } : ByteArray) ++ p), rfl, by go_num, by omega, hZ2.out⟩
            case measure => simp [intOf]; omega
          · have hj1 : ¬ (j : Int) < pn := by omega
            have q1 : ¬ 9223372036854775807 < Z.size + 1 := by omega
            have hZ2 : Z ++ ({ data := #[10] } : ByteArray) = ofL (textOf (vs.take (k + 1))) := by
              have := hZ.out
              rw [List.take_of_length_le (by have := hpn.out; omega)] at this
              rw [this, hst2.out, show ({ data := #[10] } : ByteArray) = ofL [10] from rfl, ofL_app]
            have hR2 : RxW w (.slice (some ⟨g, 0, none⟩) vs.length cap) wc := ⟨hlowR.out, hboxR.out⟩
            replace hZ2 := Lib.hid hZ2; replace hR2 := Lib.hid hR2
            go_wp2
            go_roundw
            case rel => exact ⟨k + 1, Z ++ ({ data := #[10] } : ByteArray), rfl, by go_num, by omega, hZ2.out, hR2.out⟩
            case measure => simp [intOf]; omega
    · have hc1 : ¬ (k : Int) < n := by omega
      have hkn : vs.take k = vs := List.take_of_length_le (by have := hn.out; omega)
      replace hkn := Lib.hid hkn
      go_wp2
      go_ret
      exact ⟨by rw [← hkn.out, ← hS.out]; rfl, hM.out.low⟩
end Go.Proofs.YteoihdkaoipocaaDoor

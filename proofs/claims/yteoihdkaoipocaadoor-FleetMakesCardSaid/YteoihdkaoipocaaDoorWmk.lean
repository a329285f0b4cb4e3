/- corveelaw05.FleetMakes: nodes that are written line by line are the fleet's; one too many is refused. -/
import Derived.Test.YteoihdkaoipocaaDoorPmk
import Derived.Test.YteoihdkaoipocaaDoorOpn
import Derived.Test.YteoihdkaoipocaaDoorRrt
import Derived.Test.YteoihdkaoipocaaDoorAwf
namespace Go.Proofs.YteoihdkaoipocaaDoor
open Go.RowKit Go.Maps Go.Shelf

structure MkS (W3 : World) (S : ByteArray) (sv : Value) (wx : World) : Prop where
  sv : sv = .string S
  low : Below W3.heap.size W3 wx
structure MkC (w : World) (f m b : Nat) (vs : List Ndv) (wx : World) : Prop where
  low : Below w.heap.size w wx
  f : Flt wx f m b vs
theorem MkC.go {w wx wy : World} {f m b : Nat} {vs : List Ndv} (h : MkC w f m b vs wx) (hb : Below wx.heap.size wx wy) : MkC w f m b vs wy :=
  ⟨h.low.trans (hb.mono h.low.size), h.f.below hb⟩
structure MkG (w : World) (f m b : Nat) (vs : List Ndv) (gv : Value) (wx : World) : Prop where
  gv : gv = .bool false
  ok : MkC w f m b vs wx
set_option maxRecDepth 100000 in
set_option maxHeartbeats 6400000 in
theorem fmakes_any (ao : Option Addr) (n c : Nat) (xs : List Nde) (w : World) (hx : NdsAt w ao n xs) (hm : Mx w) : Calls Tryd.prog 9 #[.slice ao n c] w fun e w' => e = .returned (.bool true) ∧ Below w.heap.size w w' := by
  have hc1 := awake5 w hm
  have hmax := hx.max
  replace hc1 := Lib.hid hc1; replace hx := Lib.hid hx; replace hm := Lib.hid hm
  by_cases hbig : 20 < n
  · have d1 : (20 : Int) < n := by omega
    go_enter Tryd.func9, Tryd.ntmps9
    go_wp2_with fail
    refine hc1.out.mono ?_
    rintro e w1 ⟨rfl, hb1⟩
    replace hb1 := Lib.hid hb1
    go_wp2
    go_ret
    exact ⟨rfl, hb1.out⟩
  have d1 : ¬ (20 : Int) < n := by omega
  go_enter Tryd.func9, Tryd.ntmps9
  go_wp2_with fail
  refine hc1.out.mono ?_
  rintro e w1 ⟨rfl, hb1⟩
  obtain ⟨vs, hvs⟩ : ∃ vs, vs = xs.map Nde.pl := ⟨_, rfl⟩
  have hvl : vs.length = n := by rw [hvs, List.length_map]; exact hx.out.len
  replace hb1 := Lib.hid hb1; replace hvs := Lib.hid hvs; replace hvl := Lib.hid hvl
  go_wp2
  go_loopw [4, 5, 6, 7, 8, 9] (fun sv i _ _ _ _ wr => ∃ (k : Nat) (S : ByteArray), sv = .string S ∧ i = .int .i64 k ∧ k ≤ n ∧ Hid (S = ofL (textOf (vs.take k))) ∧ Hid (Mk (vs.take k)) ∧ Hid (Below w.heap.size w wr)) (fun _ i _ _ _ _ _ => n - (intOf i).toNat)
  case atStart => exact ⟨0, { data := #[] }, rfl, rfl, Nat.zero_le _, rfl, mk_nil, hb1.out⟩
  case round =>
    rename World => wo
    obtain ⟨k, S, rfl, rfl, hk, hS, hK, hlow⟩ := hrel
    have hT : (textOf (vs.take k)).length ≤ 20 * 240 := by
      refine Nat.le_trans (textOf_len hK.out.all) ?_
      rw [List.length_take]
      exact Nat.mul_le_mul (by omega) (Nat.le_refl _)
    have hSs : S.size ≤ 4800 := by rw [hS.out, ofL_size]; exact hT
    by_cases hc : k < n
    · have hc1 : (k : Int) < n := by omega
      have hk0 : (0 : Int) ≤ (k : Int) := by omega
      obtain ⟨x, hxk⟩ : ∃ x, xs[k]? = some x := ⟨_, List.getElem?_eq_getElem (by have := hx.out.len; omega)⟩
      have hvk : vs[k]? = some x.pl := by rw [hvs.out, List.getElem?_map, hxk]; rfl
      have hxr := hx.out.low hlow.out
      obtain ⟨b, off, rfl, hbl, hcell, hA⟩ := hxr.cell k x hxk
      obtain ⟨nm, ⟨ca, cb, cc, cd⟩, po, pn, pc, ps⟩ := x
      have z0 : wo.cell? ⟨b, off + k * 6, none⟩ = some (.string nm) := hcell 0 (by omega)
      have z1 : wo.cell? ⟨b, off + k * 6 + 1, none⟩ = some (.int .i64 ca) := hcell 1 (by omega)
      have z2 : wo.cell? ⟨b, off + k * 6 + 2, none⟩ = some (.int .i64 cb) := hcell 2 (by omega)
      have z3 : wo.cell? ⟨b, off + k * 6 + 3, none⟩ = some (.int .i64 cc) := hcell 3 (by omega)
      have z4 : wo.cell? ⟨b, off + k * 6 + 4, none⟩ = some (.int .i64 cd) := hcell 4 (by omega)
      have z5 : wo.cell? ⟨b, off + k * 6 + 5, none⟩ = some (.slice po pn pc) := hcell 5 (by omega)
      have hpl : ps.length = pn := hA.ok.parts.len
      have hpm : pn ≤ 9223372036854775807 := hA.ok.parts.max
      obtain ⟨W1, hW1⟩ : ∃ W1, W1 = wo.alloc (.cells (⟨nm, ⟨ca, cb, cc, cd⟩, po, pn, pc, ps⟩ : Nde).cells 48 (0, 0)) := ⟨_, rfl⟩
      have hlow1 : Below wo.heap.size wo W1 := by rw [hW1]; exact (Below.refl _ _).alloc (Nat.le_refl _) _
      have hx1 : W1.heap[wo.heap.size]? = some (.cells (⟨nm, ⟨ca, cb, cc, cd⟩, po, pn, pc, ps⟩ : Nde).cells 48 (0, 0)) := by rw [hW1]; exact blk_new _ _
      have hSx : ∀ W' : World, Below W1.heap.size W1 W' → W'.cell? ⟨wo.heap.size, 0, none⟩ = some (.string nm) ∧ W'.cell? ⟨wo.heap.size, 1, none⟩ = some (.int .i64 ca) ∧ W'.cell? ⟨wo.heap.size, 2, none⟩ = some (.int .i64 cb) ∧ W'.cell? ⟨wo.heap.size, 3, none⟩ = some (.int .i64 cc) ∧ W'.cell? ⟨wo.heap.size, 4, none⟩ = some (.int .i64 cd) ∧ W'.cell? ⟨wo.heap.size, 5, none⟩ = some (.slice po pn pc) := fun W' hb => by
        have h := blk_below hb hx1 (blk_lt hx1)
        exact ⟨blk_cell h 0, blk_cell h 1, blk_cell h 2, blk_cell h 3, blk_cell h 4, blk_cell h 5⟩
      obtain ⟨c0, c1, c2, c3, c4, c5⟩ := hSx W1 (Below.refl _ _)
      have hlow' : Below w.heap.size w W1 := hlow.out.trans (hlow1.mono hlow.out.size)
      replace hxk := Lib.hid hxk; replace hvk := Lib.hid hvk; replace hxr := Lib.hid hxr; replace hcell := Lib.hid hcell; replace hA := Lib.hid hA; replace hlow1 := Lib.hid hlow1; replace hx1 := Lib.hid hx1; replace hSx := Lib.hid hSx; replace hT := Lib.hid hT; replace hlow' := Lib.hid hlow'; replace hpl := Lib.hid hpl
      have hW1' := Lib.hid hW1
      clear hW1
      go_upto_region 11 with fail
      rw [← hW1'.out]
      clear z0 z1 z2 z3 z4 z5
      go_wp2_with fail
      refine (rname_any nm _ hA.out.name).mono ?_
      rintro e wa ⟨rfl, hba⟩
      obtain ⟨c0a, c1a, c2a, c3a, c4a, c5a⟩ := hSx.out wa hba
      clear c0 c1 c2 c3 c4 c5
      cases hnm : isName nm
      · have hl := hlow'.out.trans (hba.mono hlow'.out.size)
        replace hnm := Lib.hid hnm; replace hba := Lib.hid hba; replace hl := Lib.hid hl
        go_wp2
        go_ret
        exact ⟨rfl, hl.out⟩
      replace hnm := Lib.hid hnm; replace hba := Lib.hid hba
      go_wp2_with fail
      refine (rright_any ⟨ca, cb, cc, cd⟩ _).mono ?_
      rintro e wb ⟨rfl, hbb⟩
      replace hbb := hba.out.trans (hbb.mono hba.out.size)
      obtain ⟨c0b, c1b, c2b, c3b, c4b, c5b⟩ := hSx.out wb hbb
      clear c0a c1a c2a c3a c4a c5a
      have hlb := hlow'.out.trans (hbb.mono hlow'.out.size)
      cases hrt : V4.right ⟨ca, cb, cc, cd⟩
      · replace hrt := Lib.hid hrt; replace hbb := Lib.hid hbb; replace hlb := Lib.hid hlb
        go_wp2
        go_ret
        exact ⟨rfl, hlb.out⟩
      replace hrt := Lib.hid hrt; replace hbb := Lib.hid hbb; replace hlb := Lib.hid hlb
      by_cases hp1 : pn < 1
      · have e1 : (pn : Int) < 1 := by omega
        have e1' : decide ((pn : Int) < 1) = true := decide_eq_true e1
        go_wp2
        go_ret
        exact ⟨rfl, hlb.out⟩
      have e1 : ¬ (pn : Int) < 1 := by omega
      have e1' : decide ((pn : Int) < 1) = false := decide_eq_false e1
      by_cases hp8 : 8 < pn
      · have e2 : (8 : Int) < pn := by omega
        have e2' : decide ((8 : Int) < pn) = true := decide_eq_true e2
        go_wp2
        go_ret
        exact ⟨rfl, hlb.out⟩
      have e2 : ¬ (8 : Int) < pn := by omega
      have e2' : decide ((8 : Int) < pn) = false := decide_eq_false e2
      have hPb : StrsAt wb po pn ps := ((hA.out.ok.low hlow1.out).low hbb.out).parts
      replace hPb := Lib.hid hPb
      go_wp2_with fail
      refine (twice_any po pn pc ps wb hPb.out).mono ?_
      rintro e wd ⟨rfl, hbd⟩
      replace hbd := hbb.out.trans (hbd.mono hbb.out.size)
      obtain ⟨c0, c1, c2, c3, c4, c5⟩ := hSx.out wd hbd
      clear c0b c1b c2b c3b c4b c5b
      have hld := hlow'.out.trans (hbd.mono hlow'.out.size)
      cases htw : twiceL ps
      rotate_left
      · replace htw := Lib.hid htw; replace hbd := Lib.hid hbd; replace hld := Lib.hid hld
        go_wp2
        go_ret
        exact ⟨rfl, hld.out⟩
      replace htw := Lib.hid htw; replace hbd := Lib.hid hbd; replace hld := Lib.hid hld
      clear c0 c1 c2 c3 c4 c5
      go_wp2
      go_loopw [7] (fun j wx => ∃ m : Nat, j = .int .i64 m ∧ m ≤ k ∧ Hid (∀ i u, i < m → vs[i]? = some u → u.name ≠ nm) ∧ Hid (Below W1.heap.size W1 wx)) (fun j _ => k - (intOf j).toNat)
      case atStart => exact ⟨0, rfl, Nat.zero_le _, (fun i u h => absurd h (Nat.not_lt_zero i)), hbd.out⟩
      case round =>
        obtain ⟨m, rfl, hmk, hdf, hbm⟩ := hrel
        obtain ⟨c0, c1, c2, c3, c4, c5⟩ := hSx.out _ hbm.out
        have hlm := hlow'.out.trans (hbm.out.mono hlow'.out.size)
        by_cases hmc : m < k
        · have hmc1 : (m : Int) < k := by omega
          have hm0 : (0 : Int) ≤ (m : Int) := by omega
          have hmn : (m : Int) < n := by omega
          obtain ⟨y, hy⟩ : ∃ y, xs[m]? = some y := ⟨_, List.getElem?_eq_getElem (by have := hx.out.len; omega)⟩
          have hvy : vs[m]? = some y.pl := by rw [hvs.out, List.getElem?_map, hy]; rfl
          obtain ⟨b', off', e, hbl', hcell', _⟩ := hxr.out.cell m y hy
          simp only [Option.some.injEq, Addr.mk.injEq, and_true] at e
          obtain ⟨rfl, rfl⟩ := e
          obtain ⟨ny, cy, oy, py, qy, sy⟩ := y
          have y0 := (below_cell (hlow1.out.trans (hbm.out.mono hlow1.out.size)) hbl').trans (hcell' 0 (by omega))
          simp only [Nat.add_zero] at y0
          have y0' : World.cell? _ ⟨b, off + m * 6, none⟩ = some (.string ny) := y0
          clear y0
          by_cases q : ny = nm
          · have d := str_eq q
            replace hy := Lib.hid hy; replace hvy := Lib.hid hvy; replace hcell' := Lib.hid hcell'; replace q := Lib.hid q; replace hlm := Lib.hid hlm
            go_wp2
            go_quiet (fail)
            go_wp2
            go_ret
            exact ⟨rfl, hlm.out.trans (below_dn _ _ _)⟩
          · have d := str_ne q
            have hdf2 : ∀ i u, i < m + 1 → vs[i]? = some u → u.name ≠ nm := fun i u hi hu => by
              by_cases c : i = m
              · subst c
                rw [hvy] at hu
                rw [← Option.some.inj hu]
                exact q
              · exact hdf.out i u (by omega) hu
            replace hy := Lib.hid hy; replace hvy := Lib.hid hvy; replace hcell' := Lib.hid hcell'; replace q := Lib.hid q; replace hlm := Lib.hid hlm; replace hdf2 := Lib.hid hdf2
            go_wp2
            go_quiet (fail)
            go_wp2
            go_roundw
            case rel => exact ⟨m + 1, by go_num, by omega, hdf2.out, hbm.out.trans (below_dn _ _ _)⟩
            case measure => simp [intOf]; omega
        · have hmc1 : ¬ (m : Int) < k := by omega
          have hmk' : m = k := by omega
          have hdk : ∀ i u, i < k → vs[i]? = some u → u.name ≠ nm := by rw [← hmk']; exact hdf.out
          replace hdk := Lib.hid hdk; replace hlm := Lib.hid hlm; replace hmk' := Lib.hid hmk'
          have hv64 : V64 ⟨ca, cb, cc, cd⟩ := v64_cap (capOk_right hrt.out)
          have hnl : nm.size ≤ 16 := isName_le hnm.out
          obtain ⟨A, hAt⟩ : ∃ A, A = ofL (txtV ⟨ca, cb, cc, cd⟩) := ⟨_, rfl⟩
          have hAs : A.size ≤ 83 := by rw [hAt, ofL_size]; exact txtV_len hv64
          have hc37 : ∀ W, Calls Tryd.prog 37 #[.agg #[.int .i64 ca, .int .i64 cb, .int .i64 cc, .int .i64 cd]] W fun e w' => e = .returned (.string A) ∧ Below W.heap.size W w' := fun W => by rw [hAt]; exact rtext_any ⟨ca, cb, cc, cd⟩ hv64 W
          have q1 : ¬ 9223372036854775807 < nm.size + 1 := by omega
          have q2 : ¬ 9223372036854775807 < nm.size + 1 + A.size := by omega
          have q3 : ¬ 9223372036854775807 < S.size + (nm.size + 1 + A.size) := by omega
          have hcur := hbm.out.drew
          have hst := text_step hvk.out
          clear hbm
          replace hv64 := Lib.hid hv64; replace hAt := Lib.hid hAt; replace hc37 := Lib.hid hc37; replace hcur := Lib.hid hcur; replace hst := Lib.hid hst
          go_upto_region 18 with fail
          go_cut [4] (fun sv wx => MkS W1 (S ++ (nm ++ ({ data := #[32] } : ByteArray) ++ A)) sv wx)
          case first =>
            go_region_held3 (fun W' => W'.cell? ⟨wo.heap.size, 0, none⟩ = some (.string nm) ∧ W'.cell? ⟨wo.heap.size, 1, none⟩ = some (.int .i64 ca) ∧ W'.cell? ⟨wo.heap.size, 2, none⟩ = some (.int .i64 cb) ∧ W'.cell? ⟨wo.heap.size, 3, none⟩ = some (.int .i64 cc) ∧ W'.cell? ⟨wo.heap.size, 4, none⟩ = some (.int .i64 cd) ∧ W'.cell? ⟨wo.heap.size, 5, none⟩ = some (.slice po pn pc))
              (first
                | with_reducible exact hSx.out _ hcur.out)
              (first
                | (go_at_call 37
                   (with_reducible refine (hc37.out _).mono ?_)
                   rintro e wz ⟨rfl, hbz⟩
                   replace hcur := Lib.hid (hcur.out.trans (hbz.mono hcur.out.size))
                   replace hbz := Lib.hid hbz))
            all_goals
              go_wp2_with fail
              go_meet
              exact ⟨rfl, hcur.out⟩
          case rest =>
            obtain ⟨rfl, hlow5⟩ := hcut
            clear hcur c0 c1 c2 c3 c4 c5
            obtain ⟨c0, c1, c2, c3, c4, c5⟩ := hSx.out wc hlow5
            obtain ⟨L, hL⟩ : ∃ L, L = textOf (vs.take k) ++ nm.data.toList ++ [32] ++ txtV ⟨ca, cb, cc, cd⟩ := ⟨_, rfl⟩
            obtain ⟨S1, hS1⟩ : ∃ S1, S1 = S ++ (nm ++ ({ data := #[32] } : ByteArray) ++ A) := ⟨_, rfl⟩
            have hS1e : S1 = ofL L := by
              rw [hS1, hL, hS.out, hAt.out, show ({ data := #[32] } : ByteArray) = ofL [32] from rfl]
              conv => lhs; rw [← ofL_self nm]
              rw [ofL_app, ofL_app, ofL_app]
              simp
            have hLl : L.length ≤ 4900 := by
              have h1 : nm.data.toList.length = nm.size := toL_len nm
              have h2 := txtV_len hv64.out
              have h3 := hT.out
              rw [hL]
              simp only [List.length_append, List.length_cons, List.length_nil]
              omega
            have hpl' := hpl.out
            have hst2 : textOf (vs.take (k + 1)) = L ++ tailP ps ++ [10] := by
              rw [hst.out, hL, lineV_tail (v := Nde.pl ⟨nm, ⟨ca, cb, cc, cd⟩, po, pn, pc, ps⟩) (by intro e; have e' : ps = [] := e; rw [e'] at hpl'; simp at hpl'; omega)]
              show textOf (vs.take k) ++ (nm.data.toList ++ [32] ++ txtV ⟨ca, cb, cc, cd⟩ ++ tailP ps ++ [10]) = _
              simp
            rw [← hS1]
            clear q1 q2 q3
            clear c0 c1 c2 c3 c4 c5
            replace hL := Lib.hid hL; replace hS1 := Lib.hid hS1; replace hS1e := Lib.hid hS1e; replace hLl := Lib.hid hLl; replace hst2 := Lib.hid hst2; replace hlow5 := Lib.hid hlow5; replace hpl' := Lib.hid hpl'
            go_wp2
            go_loopw [4, 8, 9] (fun sv m _ wx => ∃ (j : Nat) (Z : ByteArray), sv = .string Z ∧ m = .int .i64 j ∧ j ≤ pn ∧ Hid (Z = ofL (L ++ tailP (ps.take j))) ∧ Hid (∀ p, p ∈ ps.take j → isName p = true) ∧ Hid (Below W1.heap.size W1 wx)) (fun _ m _ _ => pn - (intOf m).toNat)
            case atStart => exact ⟨0, S1, rfl, rfl, Nat.zero_le _, (by rw [hS1e.out, List.take_zero]; exact congrArg ofL (List.append_nil L).symm), (fun p h => by simp at h), hlow5.out⟩
            case round =>
              obtain ⟨j, Z, rfl, rfl, hj, hZ, hnms, hb6⟩ := hrel
              obtain ⟨c0, c1, c2, c3, c4, c5⟩ := hSx.out _ hb6.out
              have hZs : Z.size ≤ 5100 := by
                have h1 := tailP_len hnms.out
                have h2 := hLl.out
                have h3 : (ps.take j).length ≤ 8 := by rw [List.length_take]; omega
                have h4 : (ps.take j).length * 17 ≤ 8 * 17 := Nat.mul_le_mul h3 (Nat.le_refl 17)
                rw [hZ.out, ofL_size, List.length_append]
                omega
              have hl6 := hlow'.out.trans (hb6.out.mono hlow'.out.size)
              have hP : StrsAt _ po pn ps := ((hA.out.ok.low hlow1.out).low hb6.out).parts
              by_cases hjc : j < pn
              · have hj1 : (j : Int) < pn := by omega
                have hj0 : (0 : Int) ≤ (j : Int) := by omega
                obtain ⟨p, hp⟩ := hP.get hjc
                obtain ⟨b2, off2, e, hbl2, a0⟩ := hP.cell j p hp
                subst e
                have hpsz := hA.out.parts p (List.mem_of_getElem? hp)
                have hca := rname_any p wr hpsz
                replace hP := Lib.hid hP; replace hp := Lib.hid hp; replace hl6 := Lib.hid hl6; replace hca := Lib.hid hca
                go_wp2_with fail
                refine hca.out.mono ?_
                rintro e w7 ⟨rfl, hb7⟩
                have a1 := (below_cell hb7 hbl2).trans a0
                have hb8 := hb6.out.trans (hb7.mono hb6.out.size)
                obtain ⟨g0, g1, g2, g3, g4, g5⟩ := hSx.out w7 hb8
                clear a0 c0 c1 c2 c3 c4 c5
                cases hnp : isName p
                · have hl := hlow'.out.trans (hb8.mono hlow'.out.size)
                  replace hnp := Lib.hid hnp; replace hb7 := Lib.hid hb7; replace hb8 := Lib.hid hb8; replace hl := Lib.hid hl
                  go_wp2
                  go_ret
                  exact ⟨rfl, hl.out⟩
                have hps : p.size ≤ 16 := isName_le hnp
                have q1 : ¬ 9223372036854775807 < 1 + p.size := by omega
                have q2 : ¬ 9223372036854775807 < Z.size + (1 + p.size) := by omega
                have hZ2 : Z ++ (({ data := #[32] } : ByteArray) ++ p) = ofL (L ++ tailP (ps.take (j + 1))) := by
                  rw [hZ.out, tailP_step hp.out, show ({ data := #[32] } : ByteArray) = ofL [32] from rfl]
                  conv => lhs; rw [← ofL_self p]
                  rw [ofL_app, ofL_app]
                  simp
                have hnms2 : ∀ q, q ∈ ps.take (j + 1) → isName q = true := fun q hq => by
                  rw [List.take_add_one, hp.out] at hq
                  rcases List.mem_append.1 hq with hq | hq
                  · exact hnms.out q hq
                  · have : q = p := by simpa using hq
                    rw [this]; exact hnp
                replace hnp := Lib.hid hnp; replace hb7 := Lib.hid hb7; replace hb8 := Lib.hid hb8; replace hZ2 := Lib.hid hZ2; replace hnms2 := Lib.hid hnms2
                go_wp2
                go_roundw
                case rel => exact ⟨j + 1, Z ++ (({ data := #[32] } : ByteArray) ++ p), rfl, by go_num, by omega, hZ2.out, hnms2.out, hb8.out⟩
                case measure => simp [intOf]; omega
              · have hj1 : ¬ (j : Int) < pn := by omega
                have q1 : ¬ 9223372036854775807 < Z.size + 1 := by omega
                have htk : ps.take j = ps := List.take_of_length_le (by have := hpl'.out; omega)
                have hZ2 : Z ++ ({ data := #[10] } : ByteArray) = ofL (textOf (vs.take (k + 1))) := by
                  have := hZ.out
                  rw [htk] at this
                  rw [this, hst2.out, show ({ data := #[10] } : ByteArray) = ofL [10] from rfl, ofL_app]
                have hnm3 := hnms.out
                rw [htk] at hnm3
                have hpl2 := hpl'.out
                have hK2 : Mk (vs.take (k + 1)) := hK.out.step hvk.out ⟨⟨hnm.out, hnm3, (show 1 ≤ ps.length by omega), hrt.out⟩, (show ps.length ≤ 8 by omega), htw.out⟩ fun i u hi hu => hdk.out i u hi hu
                replace hP := Lib.hid hP; replace hZ2 := Lib.hid hZ2; replace hnm3 := Lib.hid hnm3; replace hpl2 := Lib.hid hpl2; replace hK2 := Lib.hid hK2; replace hl6 := Lib.hid hl6; replace htk := Lib.hid htk
                go_wp2
                go_roundw
                case rel => exact ⟨k + 1, Z ++ ({ data := #[10] } : ByteArray), rfl, by go_num, by omega, hZ2.out, hK2.out, hl6.out⟩
                case measure => simp [intOf]; omega
    · have hc1 : ¬ (k : Int) < n := by omega
      have hkn : vs.take k = vs := List.take_of_length_le (by have := hvl.out; omega)
      have hMk := hK.out
      have hSe := hS.out
      rw [hkn] at hMk hSe
      have hr := read_any S wo (hm.out.low hlow.out)
      obtain ⟨er, her⟩ : ∃ er, er = (readOf S).2.1 := ⟨_, rfl⟩
      obtain ⟨ei, hei⟩ : ∃ ei, ei = (readOf S).2.2 := ⟨_, rfl⟩
      unfold ReadPost at hr
      rw [← her, ← hei] at hr
      replace hkn := Lib.hid hkn; replace hMk := Lib.hid hMk; replace hSe := Lib.hid hSe; replace hr := Lib.hid hr; replace her := Lib.hid her; replace hei := Lib.hid hei; replace hT := Lib.hid hT
      go_wp2_with fail
      refine hr.out.mono ?_
      rintro e w2 ⟨p, rfl, hb2, hcase⟩
      have hl2 := hlow.out.trans (hb2.mono hlow.out.size)
      by_cases hlong : 4096 < S.size
      · have g1 : (4096 : Int) < S.size := by omega
        have hq := readOf_long (vs := vs) (by rw [← hSe.out]; exact hlong)
        rw [← hSe.out] at hq
        have e1 : er = 2 := by rw [her.out, hq]
        have e2 : ei = 0 := by rw [hei.out, hq]
        subst e1
        subst e2
        replace hq := Lib.hid hq; replace hcase := Lib.hid hcase; replace hb2 := Lib.hid hb2; replace hl2 := Lib.hid hl2
        go_wp2
        go_ret
        exact ⟨rfl, hl2.out⟩
      have g1 : ¬ (4096 : Int) < S.size := by omega
      by_cases hmany : 16 < n
      · have g2 : (16 : Int) < n := by omega
        have hq := readOf_many (vs := vs) hMk.out (by rw [← hSe.out]; exact hlong) (by rw [hvl.out]; exact hmany)
        rw [← hSe.out] at hq
        have e1 : er = 2 := by rw [her.out, hq]
        have e2 : ei = 17 := by rw [hei.out, hq]
        subst e1
        subst e2
        replace hq := Lib.hid hq; replace hcase := Lib.hid hcase; replace hb2 := Lib.hid hb2; replace hl2 := Lib.hid hl2
        go_wp2
        go_ret
        exact ⟨rfl, hl2.out⟩
      have g2 : ¬ (16 : Int) < n := by omega
      have hok : FltOk vs := hMk.out.flt (by rw [hvl.out]; omega)
      have hq := readOf_text hok
      rw [← hSe.out] at hq
      have e1 : er = 0 := by rw [her.out, hq]
      have e2 : ei = 0 := by rw [hei.out, hq]
      subst e1
      subst e2
      have hyes : p = some ⟨wo.heap.size + 4, 0, none⟩ ∧ Flt w2 (wo.heap.size + 4) (wo.heap.size + 3) (wo.heap.size + 7) vs := by
        rcases hcase with ⟨h, _⟩ | ⟨_, h1, h2⟩
        · exact absurd rfl h
        · rw [hq] at h2; exact ⟨h1, h2⟩
      obtain ⟨rfl, hF2⟩ := hyes
      obtain ⟨B, hB⟩ : ∃ B, B = wo.heap.size + 4 := ⟨_, rfl⟩
      obtain ⟨B2, hB2⟩ : ∃ B2, B2 = wo.heap.size + 3 := ⟨_, rfl⟩
      obtain ⟨B3, hB3⟩ : ∃ B3, B3 = wo.heap.size + 7 := ⟨_, rfl⟩
      rw [← hB, ← hB2, ← hB3] at hF2
      rw [← hB]
      have hnn : ((n : Int) != (n : Int)) = false := by simp
      have hC2 : MkC w B B2 B3 vs w2 := ⟨hl2, hF2⟩
      have hvl' := Lib.hid hvl.out.symm
      clear hl2
      replace hok := Lib.hid hok; replace hq := Lib.hid hq; replace hcase := Lib.hid hcase; replace hb2 := Lib.hid hb2; replace hF2 := Lib.hid hF2; replace hB := Lib.hid hB; replace hB2 := Lib.hid hB2; replace hB3 := Lib.hid hB3; replace hC2 := Lib.hid hC2
      go_wp2_with fail
      refine (flt_len hF2.out hvl'.out).mono ?_
      rintro e w3 ⟨rfl, hb3⟩
      have hC3 := hC2.out.go hb3
      replace hb3 := Lib.hid hb3; replace hC3 := Lib.hid hC3
      go_wp2
      go_loopw [13, 14, 15] (fun i _ _ wr => ∃ k : Nat, i = .int .i64 k ∧ k ≤ n ∧ Hid (MkC w B B2 B3 vs wr)) (fun i _ _ _ => n - (intOf i).toNat)
      case atStart => exact ⟨0, rfl, Nat.zero_le _, hC3.out⟩
      case round =>
        obtain ⟨i, rfl, hi, hM⟩ := hrel
        rename World => wq
        by_cases hic : i < n
        · have hi1 : (i : Int) < n := by omega
          have hi0 : (0 : Int) ≤ (i : Int) := by omega
          obtain ⟨y, hy⟩ : ∃ y, xs[i]? = some y := ⟨_, List.getElem?_eq_getElem (by have := hx.out.len; omega)⟩
          have hvy : vs[i]? = some y.pl := by rw [hvs.out, List.getElem?_map, hy]; rfl
          obtain ⟨b, off, rfl, hbl, hcell, hA⟩ := (hx.out.low hM.out.low).cell i y hy
          have hna := node_at hM.out.f hok.out (i : Int)
          replace hy := Lib.hid hy; replace hvy := Lib.hid hvy; replace hcell := Lib.hid hcell; replace hA := Lib.hid hA; replace hna := Lib.hid hna
          go_wp2_with fail
          refine hna.out.mono ?_
          rintro e w4 ⟨x, bb, rfl, hxok, hb4, hxpo, hcase2⟩
          have hb : bb = true ∧ vs[i]? = some x.pl := by
            rcases hcase2 with ⟨h1, _, h3⟩ | ⟨_, _, h3⟩
            · exact ⟨h1, by simpa using h3⟩
            · exact absurd h3 (by have := hvl.out; omega)
          obtain ⟨rfl, hvx⟩ := hb
          have hxy : x.pl = y.pl := by rw [hvy.out] at hvx; exact (Option.some.inj hvx).symm
          obtain ⟨W5, hW5⟩ : ∃ W5, W5 = w4.alloc (.cells x.cells 48 (0, 0)) := ⟨_, rfl⟩
          have hb5 : Below w4.heap.size w4 W5 := by rw [hW5]; exact (Below.refl _ _).alloc (Nat.le_refl _) _
          have hx5 : W5.heap[w4.heap.size]? = some (.cells x.cells 48 (0, 0)) := by rw [hW5]; exact blk_new _ _
          have hb45 : Below wq.heap.size wq W5 := hb4.trans (hb5.mono hb4.size)
          have hcur : Below W5.heap.size W5 W5.drew := (Below.refl _ _).drew
          have hM5 := (hM.out.go hb45).go hcur
          have hX := (hxok.low hb5).low hcur
          have hY := (hA.out.ok.low hb45).low hcur
          obtain ⟨nm, ⟨ca, cb, cc, cd⟩, po, pn, pc, ps⟩ := x
          obtain ⟨nm', ⟨ca', cb', cc', cd'⟩, po', pn', pc', ps'⟩ := y
          have hSx : ∀ W', Below W5.heap.size W5 W' →
              W'.cell? ⟨w4.heap.size, 0, none⟩ = some (.string nm) ∧ W'.cell? ⟨w4.heap.size, 1, none⟩ = some (.int .i64 ca) ∧ W'.cell? ⟨w4.heap.size, 2, none⟩ = some (.int .i64 cb) ∧ W'.cell? ⟨w4.heap.size, 3, none⟩ = some (.int .i64 cc) ∧ W'.cell? ⟨w4.heap.size, 4, none⟩ = some (.int .i64 cd) ∧ W'.cell? ⟨w4.heap.size, 5, none⟩ = some (.slice po pn pc) ∧
              W'.cell? ⟨b, off + i * 6, none⟩ = some (.string nm') ∧ W'.cell? ⟨b, off + i * 6 + 1, none⟩ = some (.int .i64 ca') ∧ W'.cell? ⟨b, off + i * 6 + 2, none⟩ = some (.int .i64 cb') ∧ W'.cell? ⟨b, off + i * 6 + 3, none⟩ = some (.int .i64 cc') ∧ W'.cell? ⟨b, off + i * 6 + 4, none⟩ = some (.int .i64 cd') ∧ W'.cell? ⟨b, off + i * 6 + 5, none⟩ = some (.slice po' pn' pc') := fun W' hb => by
            have hz := blk_below hb hx5 (blk_lt hx5)
            have hl := hb45.trans (hb.mono hb45.size)
            have hq := fun j hj => (below_cell (o := off + i * 6 + j) hl hbl).trans (hcell.out j hj)
            exact ⟨blk_cell hz 0, blk_cell hz 1, blk_cell hz 2, blk_cell hz 3, blk_cell hz 4, blk_cell hz 5, hq 0 (by omega), hq 1 (by omega), hq 2 (by omega), hq 3 (by omega), hq 4 (by omega), hq 5 (by omega)⟩
          obtain ⟨z0, z1, z2, z3, z4, z5, y0, y1, y2, y3, y4, y5⟩ := hSx W5 (Below.refl _ _)
          replace hxok := Lib.hid hxok; replace hb4 := Lib.hid hb4; replace hxpo := Lib.hid hxpo; replace hcase2 := Lib.hid hcase2; replace hvx := Lib.hid hvx; replace hxy := Lib.hid hxy; replace hb5 := Lib.hid hb5; replace hx5 := Lib.hid hx5; replace hb45 := Lib.hid hb45; replace hcur := Lib.hid hcur; replace hM5 := Lib.hid hM5; replace hX := Lib.hid hX; replace hY := Lib.hid hY; replace hSx := Lib.hid hSx
          have hW5' := Lib.hid hW5
          clear hW5
          go_upto_region 38 with fail
          rw [← hW5'.out]
          go_cut [165] (fun gv wx => MkG w B B2 B3 vs gv wx)
          case first =>
            go_region_held3 (fun W' =>
              W'.cell? ⟨w4.heap.size, 0, none⟩ = some (.string nm) ∧ W'.cell? ⟨w4.heap.size, 1, none⟩ = some (.int .i64 ca) ∧ W'.cell? ⟨w4.heap.size, 2, none⟩ = some (.int .i64 cb) ∧ W'.cell? ⟨w4.heap.size, 3, none⟩ = some (.int .i64 cc) ∧ W'.cell? ⟨w4.heap.size, 4, none⟩ = some (.int .i64 cd) ∧ W'.cell? ⟨w4.heap.size, 5, none⟩ = some (.slice po pn pc) ∧
              W'.cell? ⟨b, off + i * 6, none⟩ = some (.string nm') ∧ W'.cell? ⟨b, off + i * 6 + 1, none⟩ = some (.int .i64 ca') ∧ W'.cell? ⟨b, off + i * 6 + 2, none⟩ = some (.int .i64 cb') ∧ W'.cell? ⟨b, off + i * 6 + 3, none⟩ = some (.int .i64 cc') ∧ W'.cell? ⟨b, off + i * 6 + 4, none⟩ = some (.int .i64 cd') ∧ W'.cell? ⟨b, off + i * 6 + 5, none⟩ = some (.slice po' pn' pc'))
              (first
                | with_reducible exact hSx.out _ hcur.out)
              (first
                | (go_at_call 33
                   (with_reducible refine (nodes_same hX.out hY.out hxy.out).mono ?_)
                   rintro e wz ⟨rfl, hbz⟩
                   replace hcur := Lib.hid (hcur.out.trans (hbz.mono hcur.out.size))
                   replace hM5 := Lib.hid (hM5.out.go hbz)
                   replace hbz := Lib.hid hbz))
            all_goals
              go_wp2_with fail
              go_meet
              exact ⟨rfl, hM5.out⟩
          case rest =>
            obtain ⟨rfl, hC⟩ := hcut
            clear z0 z1 z2 z3 z4 z5 y0 y1 y2 y3 y4 y5
            have hCh := Lib.hid hC
            clear hC
            go_wp2
            go_roundw
            case rel => exact ⟨i + 1, by go_num, by omega, hCh.out⟩
            case measure => simp [intOf]; omega
        · have hi1 : ¬ (i : Int) < n := by omega
          go_wp2
          go_ret
          exact ⟨rfl, hM.out.low⟩
end Go.Proofs.YteoihdkaoipocaaDoor

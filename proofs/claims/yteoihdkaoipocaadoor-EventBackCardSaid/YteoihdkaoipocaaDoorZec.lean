/- What was put is taken, one behind the other: for every input the law returns true, and each argument reads behind the call as it read before. The listed variables are laid and tied. No further condition. -/
import Derived.Test.YteoihdkaoipocaaDoorVi
import Derived.Test.YteoihdkaoipocaaDoorVk
import Derived.Test.YteoihdkaoipocaaDoorVj
import Derived.Deep.RegionHeld3
/- corveelaw13.EventOne: an event that can be taken may be, and has just those bytes. Plain theorems: no condition. -/
namespace Go.Proofs.YteoihdkaoipocaaDoor
open Go.RowKit Go.Maps

theorem take_bad {l : List UInt8} {e : Int} (h : (takeR l e).2.2 ≠ 0) : (takeR l e).1 = Evp.zero := by
  have h1 : ¬ (lastR l e).2 = 0 := h
  unfold takeR
  rw [if_neg h1]
theorem mayE_zero : mayE Evp.zero = false := by decide
theorem evB_pos {e : Evp} (h : mayE e = true) : 0 < (evB e).length := by
  obtain ⟨fs, hf, _⟩ := mayE_parts h
  rw [evB_some hf]
  have := List.length_pos_iff.2 (uintB_ne (zz e.n.kind))
  simp only [List.length_append]
  omega
/-- an event in a box, and the bytes of an argument -/
structure EoW (w : World) (eb : Nat) (X : Evv) (wr : World) : Prop where
  low : Below w.heap.size w wr
  box : wr.heap[eb]? = some (.cells X.cells 70 (0, 0))
  ok : X.ok wr
theorem EoW.go {w wr w' : World} {eb : Nat} {X : Evv} (h : EoW w eb X wr) (hb : Below wr.heap.size wr w') : EoW w eb X w' :=
  ⟨h.low.trans (hb.mono h.low.size), blk_below hb h.box (blk_lt h.box), h.ok.low hb⟩
set_option maxRecDepth 100000 in
set_option maxHeartbeats 6400000 in
theorem eone_any (so : Option Addr) (n c : Nat) (l : List UInt8) (w : World) (hb : BytsAt w so n l) (hc : n ≤ c) (hso : so = none → n = 0 ∧ c = 0) (hm : Mx w) (ht : Tb w) : Calls Tryd.prog 13 #[.slice so n c] w fun e w' => e = .returned (.bool true) ∧ Below w.heap.size w w' := by
  have hc1 := awake13 w hm ht
  have hmax := hb.max
  by_cases hbig : 20000 < n
  · have d1 : decide ((20000 : Int) < n) = true := decide_eq_true (by omega)
    have d1' : decide (20000 < n) = true := decide_eq_true hbig
    replace hc1 := Lib.hid hc1; replace hb := Lib.hid hb; replace hm := Lib.hid hm; replace ht := Lib.hid ht; replace hso := Lib.hid hso
    go_enter Tryd.func13, Tryd.ntmps13
    go_wp2_with fail
    refine hc1.out.mono ?_
    rintro e w1 ⟨rfl, hb1⟩
    replace hb1 := Lib.hid hb1
    go_wp2
    go_ret
    exact ⟨rfl, hb1.out⟩
  have d1 : decide ((20000 : Int) < n) = false := decide_eq_false (by omega)
  have d1' : decide (20000 < n) = false := decide_eq_false hbig
  replace hc1 := Lib.hid hc1; replace hb := Lib.hid hb; replace hm := Lib.hid hm; replace ht := Lib.hid ht; replace hso := Lib.hid hso
  go_enter Tryd.func13, Tryd.ntmps13
  go_wp2_with fail
  refine hc1.out.mono ?_
  rintro e w1 ⟨rfl, hb1⟩
  have hr1 := cread_any (hb.out.low hb1) hc hso.out
  replace hb1 := Lib.hid hb1; replace hr1 := Lib.hid hr1
  go_wp2_with fail
  refine hr1.out.mono ?_
  rintro e w2 ⟨rfl, hR2, hb2⟩
  obtain ⟨rb, hrb⟩ : ∃ rb, rb = w1.heap.size := ⟨_, rfl⟩
  rw [← hrb] at hR2
  rw [← hrb]
  have hlow2 := hb1.out.trans (hb2.mono hb1.out.size)
  have hrw : w.heap.size ≤ rb := by have := hb1.out.size; omega
  have htk := etake_any hR2 (by have := hb2.size; omega) hm.out ht.out hlow2 hrw
  unfold TakePost at htk
  obtain ⟨ev, hev⟩ : ∃ ev, ev = (takeR l 0).1 := ⟨_, rfl⟩
  obtain ⟨r, hr⟩ : ∃ r, r = (takeR l 0).2.1 := ⟨_, rfl⟩
  obtain ⟨x, hx⟩ : ∃ x, x = (takeR l 0).2.2 := ⟨_, rfl⟩
  rw [← hev, ← hr, ← hx] at htk
  replace hR2 := Lib.hid hR2; replace hb2 := Lib.hid hb2; replace hlow2 := Lib.hid hlow2; replace hrw := Lib.hid hrw; replace htk := Lib.hid htk; replace hrb := Lib.hid hrb; replace hev := Lib.hid hev; replace hr := Lib.hid hr; replace hx := Lib.hid hx
  go_wp2_with fail
  refine htk.out.mono ?_
  rintro e w3 ⟨X, rfl, hXo, hXp, hR3, hK3⟩
  have hlow3 : Below w.heap.size w w3 := hK3.from hlow2.out hrw.out hR2.out.lt
  obtain ⟨⟨kk, epoch, tick, client, seq, job, attempt, node, how⟩, xo, xm, xc, xsp⟩ := X
  obtain ⟨eb, heb⟩ : ∃ eb, eb = w3.heap.size := ⟨_, rfl⟩
  obtain ⟨W4, hW4⟩ : ∃ W4, W4 = w3.alloc (.cells (⟨⟨kk, epoch, tick, client, seq, job, attempt, node, how⟩, xo, xm, xc, xsp⟩ : Evv).cells 70 (0, 0)) := ⟨_, rfl⟩
  have hb4 : Below w3.heap.size w3 W4 := by rw [hW4]; exact (Below.refl _ _).alloc (Nat.le_refl _) _
  have hO4 : EoW w eb (⟨⟨kk, epoch, tick, client, seq, job, attempt, node, how⟩, xo, xm, xc, xsp⟩ : Evv) W4 := ⟨hlow3.trans (hb4.mono hlow3.size), by rw [hW4, heb]; exact blk_new _ _, hXo.low hb4⟩
  have hR4 := hR3.low hb4
  have hErr := rerr_any hR4
  have hLf := rleft_any hR4
  have y0 : W4.cell? ⟨eb, 0, none⟩ = some (.int .i64 kk) := blk_cell hO4.box 0
  have y1 : W4.cell? ⟨eb, 1, none⟩ = some (.int .i64 epoch) := blk_cell hO4.box 1
  have y2 : W4.cell? ⟨eb, 2, none⟩ = some (.int .i64 tick) := blk_cell hO4.box 2
  have y3 : W4.cell? ⟨eb, 3, none⟩ = some (.int .i64 client) := blk_cell hO4.box 3
  have y4 : W4.cell? ⟨eb, 4, none⟩ = some (.int .i64 seq) := blk_cell hO4.box 4
  have y5 : W4.cell? ⟨eb, 5, none⟩ = some (.int .i64 job) := blk_cell hO4.box 5
  have y6 : W4.cell? ⟨eb, 6, none⟩ = some (.int .i64 attempt) := blk_cell hO4.box 6
  have y7 : W4.cell? ⟨eb, 7, none⟩ = some (.int .i64 node) := blk_cell hO4.box 7
  have y8 : W4.cell? ⟨eb, 8, none⟩ = some (.int .i64 how) := blk_cell hO4.box 8
  have y9 : W4.cell? ⟨eb, 9, none⟩ = some (.slice xo xm xc) := blk_cell hO4.box 9
  have hW4' := Lib.hid hW4
  have heb' := Lib.hid heb
  clear hW4 heb
  replace hXo := Lib.hid hXo; replace hXp := Lib.hid hXp; replace hR3 := Lib.hid hR3; replace hK3 := Lib.hid hK3; replace hlow3 := Lib.hid hlow3; replace hb4 := Lib.hid hb4; replace hO4 := Lib.hid hO4; replace hR4 := Lib.hid hR4; replace hErr := Lib.hid hErr; replace hLf := Lib.hid hLf
  go_upto_region 8 with fail
  rw [← hW4'.out, ← heb'.out]
  go_wp2_with fail
  refine hErr.out.mono ?_
  rintro e w5 ⟨rfl, rfl⟩
  have hck := echeck_any _ _ hO4.out.ok
  by_cases q : x = 0
  rotate_left
  · have d2 : (x != (0 : Int)) = true := by rw [bne_iff_ne]; exact q
    have hz : ev = Evp.zero := by rw [hev.out]; exact take_bad (by rw [← hx.out]; exact q)
    have hXz : (⟨⟨kk, epoch, tick, client, seq, job, attempt, node, how⟩, xo, xm, xc, xsp⟩ : Evv).pl = Evp.zero := by rw [← hz]; exact hXp.out
    rw [hXz, errE_no mayE_zero] at hck
    have hkz : kk = 0 := congrArg (fun e => e.n.kind) hXz
    have hsz : xsp.map Spv.pl = [] := congrArg Evp.specs hXz
    have hmz : xm = 0 := by
      have h1 : xsp.length = xm := hO4.out.ok.sps.len
      have h2 : xsp = [] := by simpa using hsz
      rw [← h1, h2]
      rfl
    subst hkz
    subst hmz
    have d3 : ((0 : Int) == (0 : Int)) = true := rfl
    replace q := Lib.hid q; replace hz := Lib.hid hz; replace hXz := Lib.hid hXz; replace hsz := Lib.hid hsz; replace hck := Lib.hid hck
    go_wp2_with fail
    refine hck.out.mono ?_
    rintro e w6 ⟨rfl, hb6⟩
    have hO6 := hO4.out.go hb6
    replace hb6 := Lib.hid hb6; replace hO6 := Lib.hid hO6
    go_wp2
    go_ret
    exact ⟨rfl, hO6.out.low⟩
  subst q
  have d2 : ((0 : Int) != (0 : Int)) = false := rfl
  obtain ⟨hmy, hlb⟩ := take_can (l := l) hx.out.symm
  rw [← hev.out] at hmy hlb
  rw [← hr.out] at hlb
  have hXpl : (⟨⟨kk, epoch, tick, client, seq, job, attempt, node, how⟩, xo, xm, xc, xsp⟩ : Evv).pl = ev := hXp.out
  rw [hXpl, errE_yes hmy] at hck
  clear hck
  obtain ⟨K, hK⟩ : ∃ K, K = (evB ev).length := ⟨_, rfl⟩
  obtain ⟨R, hRr⟩ : ∃ R, R = r.length := ⟨_, rfl⟩
  rw [← hRr] at hLf
  have hll := hb.out.len
  have hnK : n = K + R := by rw [hK, hRr, ← hll, hlb, List.length_append]
  have hKp : 0 < K := by rw [hK]; exact evB_pos hmy
  obtain ⟨x0, hx0⟩ : ∃ x0, l[0]? = some x0 := ⟨_, List.getElem?_eq_getElem (by rw [hll]; omega)⟩
  obtain ⟨bb, off, rfl, _, _⟩ := hb.out.cell 0 x0 hx0
  have hsub : (n : Int) - (R : Int) = (K : Int) := by omega
  have htake : l.take K = evB ev := by rw [hlb, hK]; simp
  have hCk : ∀ W, EoW w eb (⟨⟨kk, epoch, tick, client, seq, job, attempt, node, how⟩, xo, xm, xc, xsp⟩ : Evv) W → Calls Tryd.prog 50 #[(⟨⟨kk, epoch, tick, client, seq, job, attempt, node, how⟩, xo, xm, xc, xsp⟩ : Evv).val] W fun en w' => en = .returned (.int .i64 0) ∧ Below W.heap.size W w' := fun W h => by
    have := echeck_any _ W h.ok
    rw [hXpl, errE_yes hmy] at this
    exact this
  have hPu : ∀ W, EoW w eb (⟨⟨kk, epoch, tick, client, seq, job, attempt, node, how⟩, xo, xm, xc, xsp⟩ : Evv) W → Calls Tryd.prog 48 #[.slice none 0 0, (⟨⟨kk, epoch, tick, client, seq, job, attempt, node, how⟩, xo, xm, xc, xsp⟩ : Evv).val] W fun en w' => (∃ so c, en = .returned (.slice so K c) ∧ BytsAt w' so K (evB ev)) ∧ Below W.heap.size W w' := fun W h => by
    have h2 := eput_any _ none 0 0 [] W h.ok (byts_nil W) (fun _ => ⟨rfl, rfl⟩) (by omega) (ht.out.low h.low)
    have hp : putB ev = evB ev := if_pos hmy
    rw [hXpl, hp, List.nil_append] at h2
    refine h2.mono fun e w' hh => ?_
    obtain ⟨v, rfl, hO, hb⟩ := hh
    obtain ⟨so, c, rfl, hy⟩ := hO.form
    rw [← hK] at hy
    exact ⟨⟨so, c, by rw [← hK], hy⟩, hb⟩
  have hbt : ∀ W, EoW w eb (⟨⟨kk, epoch, tick, client, seq, job, attempt, node, how⟩, xo, xm, xc, xsp⟩ : Evv) W → (convert 67 9 (.slice (some ⟨bb, off, none⟩) K c)).run Tryd.prog W = .ok (.string (ofL (evB ev))) W := fun W h => by
    have := conv_byts (byts_take (hb.out.low h.low) K (by omega)) c
    rw [htake] at this
    exact this
  have hSx : ∀ W, EoW w eb (⟨⟨kk, epoch, tick, client, seq, job, attempt, node, how⟩, xo, xm, xc, xsp⟩ : Evv) W → W.cell? ⟨eb, 0, none⟩ = some (.int .i64 kk) ∧ W.cell? ⟨eb, 1, none⟩ = some (.int .i64 epoch) ∧ W.cell? ⟨eb, 2, none⟩ = some (.int .i64 tick) ∧ W.cell? ⟨eb, 3, none⟩ = some (.int .i64 client) ∧ W.cell? ⟨eb, 4, none⟩ = some (.int .i64 seq) ∧ W.cell? ⟨eb, 5, none⟩ = some (.int .i64 job) ∧ W.cell? ⟨eb, 6, none⟩ = some (.int .i64 attempt) ∧ W.cell? ⟨eb, 7, none⟩ = some (.int .i64 node) ∧ W.cell? ⟨eb, 8, none⟩ = some (.int .i64 how) ∧ W.cell? ⟨eb, 9, none⟩ = some (.slice xo xm xc) := fun W h => ⟨blk_cell h.box 0, blk_cell h.box 1, blk_cell h.box 2, blk_cell h.box 3, blk_cell h.box 4, blk_cell h.box 5, blk_cell h.box 6, blk_cell h.box 7, blk_cell h.box 8, blk_cell h.box 9⟩
  have hEq : ((ofL (evB ev)).toList == (ofL (evB ev)).toList) = true := str_eq rfl
  rename World => wo
  have hO5 := hO4.out.go (Below.refl _ _).drew
  obtain ⟨S, hS⟩ : ∃ S, S = ofL (evB ev) := ⟨_, rfl⟩
  rw [← hS] at hEq
  simp only [← hS] at hbt
  have hcv' : ∀ W (so : Option Addr) (c : Nat), BytsAt W so K (evB ev) → (convert 67 9 (.slice so K c)).run Tryd.prog W = .ok (.string S) W := fun W so c h => by rw [hS]; exact conv_byts h c
  replace hmy := Lib.hid hmy; replace hlb := Lib.hid hlb; replace hXpl := Lib.hid hXpl; replace hK := Lib.hid hK; replace hRr := Lib.hid hRr; replace hll := Lib.hid hll; replace hx0 := Lib.hid hx0; replace htake := Lib.hid htake; replace hCk := Lib.hid hCk; replace hPu := Lib.hid hPu; replace hbt := Lib.hid hbt; replace hSx := Lib.hid hSx; replace hO5 := Lib.hid hO5; replace hS := Lib.hid hS; replace hcv' := Lib.hid hcv'
  go_wp2_with fail
  refine hLf.out.mono ?_
  rintro e w5 ⟨rfl, rfl⟩
  go_upto_region 11 with fail
  have hKc : K ≤ c := by omega
  have hbf0 := hbt.out _ hO5.out
  obtain ⟨c0, c1, c2, c3, c4, c5, c6, c7, c8, c9⟩ := hSx.out _ hO4.out
  go_region_with
    (first
      | (go_at_call 50
         refine (hCk.out _ hO5.out).mono ?_
         rintro en wz ⟨rfl, hbz⟩
         replace hO5 := Lib.hid (hO5.out.go hbz)
         replace hbz := Lib.hid hbz
         have hbf := hbt.out _ hO5.out
         obtain ⟨c0, c1, c2, c3, c4, c5, c6, c7, c8, c9⟩ := hSx.out _ hO5.out)
      | (go_at_call 48
         refine (hPu.out _ hO5.out).mono ?_
         rintro en wz ⟨⟨so48, c48, rfl, hy48⟩, hbz⟩
         replace hO5 := Lib.hid (hO5.out.go hbz)
         replace hbz := Lib.hid hbz
         have hcv := hcv'.out _ _ c48 hy48
         replace hy48 := Lib.hid hy48
         have hbf := hbt.out _ hO5.out))
  all_goals
    go_wp2_with fail
    go_ret
    exact ⟨rfl, hO5.out.low⟩
end Go.Proofs.YteoihdkaoipocaaDoor

/- corveelaw13.EventCut: an event's bytes, cut short, are none. Plain theorems: no condition. -/
namespace Go.Proofs.YteoihdkaoipocaaDoor
open Go.RowKit Go.Maps

structure EcT (t : Int) (W : World) (tv : Value) (wx : World) : Prop where
  t : tv = .int .i64 t
  w : W = wx
set_option maxRecDepth 100000 in
set_option maxHeartbeats 6400000 in
theorem ecut_any (X : Evv) (cut : Int) (w : World) (hX : X.ok w) (hm : Mx w) (ht : Tb w) (ht0 : -9223372036854775808 ≤ cut) (ht1 : cut ≤ 9223372036854775807) : Calls Tryd.prog 14 #[X.val, .int .i64 cut] w fun e w' => e = .returned (.bool true) ∧ Below w.heap.size w w' := by
  have hB0 := BoxE.new w X
  have hc1 := awake13 _ (hm.low hB0.low) (ht.low hB0.low)
  obtain ⟨ev, hev⟩ : ∃ ev, ev = X.pl := ⟨_, rfl⟩
  have hlg : ∀ W, BoxE w X W → Calls Tryd.prog 47 #[X.val] W fun e w' => (∃ b, e = .returned (.bool b)) ∧ Below W.heap.size W w' := fun W h => elong_any X W (h.ok hX)
  have hck : ∀ W, BoxE w X W → Calls Tryd.prog 50 #[X.val] W fun e w' => e = .returned (.int .i64 (errE ev)) ∧ Below W.heap.size W w' := fun W h => by rw [hev]; exact echeck_any X W (h.ok hX)
  have hPu : ∀ W, BoxE w X W → mayE ev = true → Calls Tryd.prog 48 #[.slice none 0 0, X.val] W fun en w' => (∃ g c, en = .returned (.slice (some ⟨g, 0, none⟩) (evB ev).length c) ∧ (evB ev).length ≤ c ∧ BytsAt w' (some ⟨g, 0, none⟩) (evB ev).length (evB ev)) ∧ Below W.heap.size W w' := fun W h hmy => by
    have h2 := eput_any X none 0 0 [] W (h.ok hX) (byts_nil W) (fun _ => ⟨rfl, rfl⟩) (by omega) (ht.low h.low)
    have hp : putB ev = evB ev := if_pos hmy
    rw [← hev, hp, List.nil_append] at h2
    refine h2.mono fun e w' hh => ?_
    obtain ⟨v, rfl, hO, hb⟩ := hh
    have hpos := evB_pos hmy
    rcases hO.row.2 with ⟨hv, h0⟩ | ⟨g, cap, cur, hv, hg, hh, hnc, _⟩
    · omega
    · obtain ⟨so, c, hv2, hy⟩ := hO.form
      rw [hv] at hv2
      injection hv2 with h3 h4 h5
      rw [← h3] at hy
      exact ⟨⟨g, cap, by rw [hv], hnc, hy⟩, hb⟩
  have hrg := hX.rng
  obtain ⟨⟨kk, epoch, tick, client, seq, job, attempt, node, how⟩, xo, xm, xc, xsp⟩ := X
  obtain ⟨tn, htn⟩ : ∃ tn, tn = if cut < 0 then -(cut + 1) else cut := ⟨_, rfl⟩
  have htn0 : 0 ≤ tn := by rw [htn]; split <;> omega
  have htn1 : tn ≤ 9223372036854775807 := by rw [htn]; split <;> omega
  have htt : Hid (-9223372036854775808 ≤ cut ∧ cut ≤ 9223372036854775807) := ⟨ht0, ht1⟩
  replace hB0 := Lib.hid hB0; replace hc1 := Lib.hid hc1; replace hX := Lib.hid hX; replace hm := Lib.hid hm; replace ht := Lib.hid ht; replace hev := Lib.hid hev; replace hlg := Lib.hid hlg; replace hck := Lib.hid hck; replace hPu := Lib.hid hPu; replace htn := Lib.hid htn; replace hrg := Lib.hid hrg
  go_enter Tryd.func14, Tryd.ntmps14
  go_wp2_with fail
  refine hc1.out.mono ?_
  rintro e w1 ⟨rfl, hb1⟩
  have hB1 := hB0.out.below hb1
  have y0 : w1.cell? ⟨w.heap.size, 0, none⟩ = some (.int .i64 kk) := blk_cell hB1.box 0
  have y1 : w1.cell? ⟨w.heap.size, 1, none⟩ = some (.int .i64 epoch) := blk_cell hB1.box 1
  have y2 : w1.cell? ⟨w.heap.size, 2, none⟩ = some (.int .i64 tick) := blk_cell hB1.box 2
  have y3 : w1.cell? ⟨w.heap.size, 3, none⟩ = some (.int .i64 client) := blk_cell hB1.box 3
  have y4 : w1.cell? ⟨w.heap.size, 4, none⟩ = some (.int .i64 seq) := blk_cell hB1.box 4
  have y5 : w1.cell? ⟨w.heap.size, 5, none⟩ = some (.int .i64 job) := blk_cell hB1.box 5
  have y6 : w1.cell? ⟨w.heap.size, 6, none⟩ = some (.int .i64 attempt) := blk_cell hB1.box 6
  have y7 : w1.cell? ⟨w.heap.size, 7, none⟩ = some (.int .i64 node) := blk_cell hB1.box 7
  have y8 : w1.cell? ⟨w.heap.size, 8, none⟩ = some (.int .i64 how) := blk_cell hB1.box 8
  have y9 : w1.cell? ⟨w.heap.size, 9, none⟩ = some (.slice xo xm xc) := blk_cell hB1.box 9
  replace hb1 := Lib.hid hb1; replace hB1 := Lib.hid hB1
  go_wp2_with fail
  refine (hlg.out _ hB1.out).mono ?_
  rintro e w2 ⟨⟨big, rfl⟩, hb2⟩
  have hB2 := hB1.out.below hb2
  clear y0 y1 y2 y3 y4 y5 y6 y7 y8 y9
  cases big with
  | true =>
    replace hb2 := Lib.hid hb2; replace hB2 := Lib.hid hB2
    go_wp2
    go_ret
    exact ⟨rfl, hB2.out.low⟩
  | false =>
  have y0 : w2.cell? ⟨w.heap.size, 0, none⟩ = some (.int .i64 kk) := blk_cell hB2.box 0
  have y1 : w2.cell? ⟨w.heap.size, 1, none⟩ = some (.int .i64 epoch) := blk_cell hB2.box 1
  have y2 : w2.cell? ⟨w.heap.size, 2, none⟩ = some (.int .i64 tick) := blk_cell hB2.box 2
  have y3 : w2.cell? ⟨w.heap.size, 3, none⟩ = some (.int .i64 client) := blk_cell hB2.box 3
  have y4 : w2.cell? ⟨w.heap.size, 4, none⟩ = some (.int .i64 seq) := blk_cell hB2.box 4
  have y5 : w2.cell? ⟨w.heap.size, 5, none⟩ = some (.int .i64 job) := blk_cell hB2.box 5
  have y6 : w2.cell? ⟨w.heap.size, 6, none⟩ = some (.int .i64 attempt) := blk_cell hB2.box 6
  have y7 : w2.cell? ⟨w.heap.size, 7, none⟩ = some (.int .i64 node) := blk_cell hB2.box 7
  have y8 : w2.cell? ⟨w.heap.size, 8, none⟩ = some (.int .i64 how) := blk_cell hB2.box 8
  have y9 : w2.cell? ⟨w.heap.size, 9, none⟩ = some (.slice xo xm xc) := blk_cell hB2.box 9
  replace hb2 := Lib.hid hb2; replace hB2 := Lib.hid hB2
  go_wp2_with fail
  refine (hck.out _ hB2.out).mono ?_
  rintro e w3 ⟨rfl, hb3⟩
  have hB3 := hB2.out.below hb3
  clear y0 y1 y2 y3 y4 y5 y6 y7 y8 y9
  by_cases hmy : mayE ev = true
  rotate_left
  · rw [errE_no (by simpa using hmy)]
    have d1 : ((130 : Int) != (0 : Int)) = true := rfl
    replace hb3 := Lib.hid hb3; replace hB3 := Lib.hid hB3; replace hmy := Lib.hid hmy
    go_wp2
    go_ret
    exact ⟨rfl, hB3.out.low⟩
  rw [errE_yes hmy]
  have d1 : ((0 : Int) != (0 : Int)) = false := rfl
  obtain ⟨K, hK⟩ : ∃ K, K = (evB ev).length := ⟨_, rfl⟩
  have hKp : 0 < K := by rw [hK]; exact evB_pos hmy
  have hPv := hPu.out _ hB3 hmy
  rw [← hK] at hPv
  have y0 : w3.cell? ⟨w.heap.size, 0, none⟩ = some (.int .i64 kk) := blk_cell hB3.box 0
  have y1 : w3.cell? ⟨w.heap.size, 1, none⟩ = some (.int .i64 epoch) := blk_cell hB3.box 1
  have y2 : w3.cell? ⟨w.heap.size, 2, none⟩ = some (.int .i64 tick) := blk_cell hB3.box 2
  have y3 : w3.cell? ⟨w.heap.size, 3, none⟩ = some (.int .i64 client) := blk_cell hB3.box 3
  have y4 : w3.cell? ⟨w.heap.size, 4, none⟩ = some (.int .i64 seq) := blk_cell hB3.box 4
  have y5 : w3.cell? ⟨w.heap.size, 5, none⟩ = some (.int .i64 job) := blk_cell hB3.box 5
  have y6 : w3.cell? ⟨w.heap.size, 6, none⟩ = some (.int .i64 attempt) := blk_cell hB3.box 6
  have y7 : w3.cell? ⟨w.heap.size, 7, none⟩ = some (.int .i64 node) := blk_cell hB3.box 7
  have y8 : w3.cell? ⟨w.heap.size, 8, none⟩ = some (.int .i64 how) := blk_cell hB3.box 8
  have y9 : w3.cell? ⟨w.heap.size, 9, none⟩ = some (.slice xo xm xc) := blk_cell hB3.box 9
  replace hb3 := Lib.hid hb3; replace hB3 := Lib.hid hB3; replace hmy := Lib.hid hmy; replace hPv := Lib.hid hPv; replace hK := Lib.hid hK
  go_wp2_with fail
  refine hPv.out.mono ?_
  rintro e w4 ⟨⟨g, c, rfl, hKc, hy4⟩, hb4⟩
  have hB4 := hB3.out.below hb4
  clear y0 y1 y2 y3 y4 y5 y6 y7 y8 y9
  have dK : ((K : Int) == (0 : Int)) = false := by rw [beq_eq_false_iff_ne]; omega
  replace hb4 := Lib.hid hb4; replace hB4 := Lib.hid hB4; replace hy4 := Lib.hid hy4
  go_upto_if 27 with fail
  go_cut [1] (fun tv wx => EcT tn w4 tv wx)
  case first =>
    have htt' := htt.out
    obtain ⟨t0, t1⟩ := htt'
    by_cases q : cut < 0
    · have d : decide (cut < 0) = true := decide_eq_true q
      have e9 : -(cut + 1) = tn := by rw [htn.out, if_pos q]
      go_wp2
      go_meet
      case rel => exact ⟨by rw [← e9], rfl⟩
    · have d : decide (cut < 0) = false := decide_eq_false q
      have e9 : cut = tn := by rw [htn.out, if_neg q]
      replace e9 := Lib.hid e9
      go_wp2
      go_meet
      case rel => exact ⟨by rw [e9.out], rfl⟩
  case rest =>
  obtain ⟨rfl, rfl⟩ := hcut
  have hKi : (0 : Int) < K := by omega
  obtain ⟨j, hj⟩ : ∃ j : Nat, tn % (K : Int) = j := ⟨(tn % (K : Int)).toNat, by have := Int.emod_nonneg tn (b := (K : Int)) (by omega); omega⟩
  have hjK : j < K := by have := Int.emod_lt_of_pos tn (b := (K : Int)) (by omega); omega
  have hrd := cread_any (byts_take hy4.out j (by omega)) (c := c) (by omega) (fun h => (by cases h))
  have htk0 : takeR ((evB ev).take j) 0 = (Evp.zero, [], 10) := take_short hmy.out (by rw [hev.out]; exact hrg.out) (List.take_append_drop j (evB ev)) (fun c => by
    have h := congrArg List.length c
    rw [List.length_drop, List.length_nil] at h
    have := hK.out
    omega)
  replace hrd := Lib.hid hrd; replace htk0 := Lib.hid htk0
  go_wp2_with fail
  refine hrd.out.mono ?_
  rintro e w5 ⟨rfl, hR5, hb5⟩
  obtain ⟨rb, hrb⟩ : ∃ rb, rb = w4.heap.size := ⟨_, rfl⟩
  rw [← hrb] at hR5
  rw [← hrb]
  have hB5 := hB4.out.below hb5
  have hrw : w.heap.size ≤ rb := by have := hB4.out.low.size; omega
  have htk := etake_any hR5 (by have := hb5.size; omega) hm.out ht.out hB5.low hrw
  unfold TakePost at htk
  rw [htk0.out] at htk
  clear hj
  replace hR5 := Lib.hid hR5; replace hb5 := Lib.hid hb5; replace hB5 := Lib.hid hB5; replace hrw := Lib.hid hrw; replace htk := Lib.hid htk; replace hrb := Lib.hid hrb
  go_wp2_with fail
  refine htk.out.mono ?_
  rintro e w6 ⟨Y, rfl, hYo, hYp, hR6, hK6⟩
  have hlow6 : Below w.heap.size w w6 := hK6.from hB5.out.low hrw.out hR5.out.lt
  obtain ⟨⟨k2, p2, t2, l2, s2, j2, a2, o2, h2⟩, yo, ym, yc, ysp⟩ := Y
  obtain ⟨eb, heb⟩ : ∃ eb, eb = w6.heap.size := ⟨_, rfl⟩
  obtain ⟨W7, hW7⟩ : ∃ W7, W7 = w6.alloc (.cells (⟨⟨k2, p2, t2, l2, s2, j2, a2, o2, h2⟩, yo, ym, yc, ysp⟩ : Evv).cells 70 (0, 0)) := ⟨_, rfl⟩
  have hb7 : Below w6.heap.size w6 W7 := by rw [hW7]; exact (Below.refl _ _).alloc (Nat.le_refl _) _
  have hx7 : W7.heap[eb]? = some (.cells (⟨⟨k2, p2, t2, l2, s2, j2, a2, o2, h2⟩, yo, ym, yc, ysp⟩ : Evv).cells 70 (0, 0)) := by rw [hW7, heb]; exact blk_new _ _
  have hErr := rerr_any (hR6.low hb7)
  have hsm := esame_yes (⟨⟨k2, p2, t2, l2, s2, j2, a2, o2, h2⟩, yo, ym, yc, ysp⟩ : Evv) ⟨Evn.zero, none, 0, 0, []⟩ W7 (hYo.low hb7) ⟨sps_none W7, Nat.le_refl _, rng_kind (k := 0) (by omega)⟩ hYp
  have hsm2 : Calls Tryd.prog 52 #[(⟨⟨k2, p2, t2, l2, s2, j2, a2, o2, h2⟩, yo, ym, yc, ysp⟩ : Evv).val, .agg #[.int .i64 0, .int .i64 0, .int .i64 0, .int .i64 0, .int .i64 0, .int .i64 0, .int .i64 0, .int .i64 0, .int .i64 0, .slice none 0 0]] W7 fun e w' => e = .returned (.bool true) ∧ Below W7.heap.size W7 w' := hsm
  clear hsm
  have hlow7 := hlow6.trans (hb7.mono hlow6.size)
  have y0 : W7.cell? ⟨eb, 0, none⟩ = some (.int .i64 k2) := blk_cell hx7 0
  have y1 : W7.cell? ⟨eb, 1, none⟩ = some (.int .i64 p2) := blk_cell hx7 1
  have y2 : W7.cell? ⟨eb, 2, none⟩ = some (.int .i64 t2) := blk_cell hx7 2
  have y3 : W7.cell? ⟨eb, 3, none⟩ = some (.int .i64 l2) := blk_cell hx7 3
  have y4 : W7.cell? ⟨eb, 4, none⟩ = some (.int .i64 s2) := blk_cell hx7 4
  have y5 : W7.cell? ⟨eb, 5, none⟩ = some (.int .i64 j2) := blk_cell hx7 5
  have y6 : W7.cell? ⟨eb, 6, none⟩ = some (.int .i64 a2) := blk_cell hx7 6
  have y7 : W7.cell? ⟨eb, 7, none⟩ = some (.int .i64 o2) := blk_cell hx7 7
  have y8 : W7.cell? ⟨eb, 8, none⟩ = some (.int .i64 h2) := blk_cell hx7 8
  have y9 : W7.cell? ⟨eb, 9, none⟩ = some (.slice yo ym yc) := blk_cell hx7 9
  have hW7' := Lib.hid hW7
  have heb' := Lib.hid heb
  clear hW7 heb
  replace hYo := Lib.hid hYo; replace hYp := Lib.hid hYp; replace hR6 := Lib.hid hR6; replace hK6 := Lib.hid hK6; replace hlow6 := Lib.hid hlow6; replace hb7 := Lib.hid hb7; replace hx7 := Lib.hid hx7; replace hErr := Lib.hid hErr; replace hsm2 := Lib.hid hsm2; replace hlow7 := Lib.hid hlow7
  go_upto_region 14 with fail
  rw [← hW7'.out, ← heb'.out]
  go_wp2_with fail
  refine hErr.out.mono ?_
  rintro e w8 ⟨rfl, rfl⟩
  go_wp2_with fail
  refine hsm2.out.mono ?_
  rintro e w9 ⟨rfl, hb9⟩
  have hlow9 := hlow7.out.trans (hb9.mono hlow7.out.size)
  replace hb9 := Lib.hid hb9; replace hlow9 := Lib.hid hlow9
  go_wp2
  go_ret
  exact ⟨rfl, hlow9.out⟩
end Go.Proofs.YteoihdkaoipocaaDoor

/- corveelaw13.EventBack: what was put is taken, one behind the other. Plain theorems: no condition. -/
namespace Go.Proofs.YteoihdkaoipocaaDoor
open Go.RowKit Go.Maps

theorem putB_len {e : Evp} (hr : Rng e.n) : (putB e).length ≤ 15000 := by
  unfold putB
  split
  · next hm =>
    obtain ⟨fs, hf, _, h8, hall⟩ := mayE_parts hm
    rw [evB_some hf]
    have h1 := uintB_ten (zz_lt (hr 0).1 (hr 0).2)
    have h2 := fldsB_len (fs := fs) hr
    have h3 := (flds_ok hf).1
    have h4 := flatMap_len spB 1820 e.specs fun s hs => spB_len (hall s hs)
    have h5 : (if e.n.kind = 2 then uintB (zz e.specs.length) else []).length ≤ 10 := by
      split
      · exact uintB_ten (zz_lt (by omega) (by omega))
      · simp
    have h6 : e.specs.length * 1820 ≤ 8 * 1820 := Nat.mul_le_mul h8 (Nat.le_refl _)
    have h1' : (uintB (zz e.n.kind)).length ≤ 10 := h1
    simp only [List.length_append]
    omega
  · simp
def putsB (xs : List Evv) : List UInt8 := xs.flatMap fun x => putB x.pl
theorem putsB_step {xs : List Evv} {k : Nat} {x : Evv} (h : xs[k]? = some x) : putsB (xs.take (k + 1)) = putsB (xs.take k) ++ putB x.pl := by
  unfold putsB
  rw [take_step h, List.flatMap_append]
  simp
theorem putsB_drop {xs : List Evv} {k : Nat} {x : Evv} (h : xs[k]? = some x) : putsB (xs.drop k) = putB x.pl ++ putsB (xs.drop (k + 1)) := by
  obtain ⟨hl, e⟩ := List.getElem?_eq_some_iff.1 h
  unfold putsB
  rw [List.drop_eq_getElem_cons hl, e, List.flatMap_cons]
theorem OwnB.form2 {w : World} {B : Nat} {v : Value} {l : List UInt8} (h : OwnB w B v l) : ∃ so c, v = .slice so l.length c ∧ BytsAt w so l.length l ∧ l.length ≤ c ∧ (so = none → l.length = 0 ∧ c = 0) := by
  obtain ⟨so, c, hv, hy⟩ := h.form
  rcases h.row.2 with ⟨hv2, h0⟩ | ⟨g, cap, cur, hv2, hg, hh, hnc, _⟩
  · rw [hv] at hv2
    injection hv2 with h1 h2 h3
    exact ⟨so, c, hv, hy, by omega, fun _ => ⟨h2, h3⟩⟩
  · rw [hv] at hv2
    injection hv2 with h1 h2 h3
    exact ⟨so, c, hv, hy, by omega, fun e => by rw [e] at h1; cases h1⟩
structure EbT (ao : Option Addr) (N c : Nat) (W : World) (lv : Value) (wx : World) : Prop where
  t : lv = .slice ao N c
  w : W = wx
structure EbC (W : World) (bv : Value) (wx : World) : Prop where
  b : bv = .bool false
  low : Below W.heap.size W wx
set_option maxRecDepth 100000 in
set_option maxHeartbeats 6400000 in
theorem eback_any (ao : Option Addr) (n c : Nat) (evs : List Evv) (w : World) (hx : EvsAt w ao n evs) (hnc : n ≤ c) (hm : Mx w) (ht : Tb w) : Calls Tryd.prog 12 #[.slice ao n c] w fun e w' => e = .returned (.bool true) ∧ Below w.heap.size w w' := by
  have hc1 := awake13 w hm ht
  have hmx := hx.max
  obtain ⟨N, hN⟩ : ∃ N, N = min n 10 := ⟨_, rfl⟩
  have hN10 : N ≤ 10 := by omega
  have hNn : N ≤ n := by omega
  obtain ⟨es, hes⟩ : ∃ es, es = evs.take N := ⟨_, rfl⟩
  have hE : EvsAt w ao N es := ⟨by rw [hes, List.length_take, hx.len]; omega, by omega, fun i x hi => by
    rw [hes, List.getElem?_take] at hi
    split at hi
    · exact hx.cell i x hi
    · cases hi⟩
  have hel := hE.len
  replace hc1 := Lib.hid hc1; replace hm := Lib.hid hm; replace ht := Lib.hid ht; replace hes := Lib.hid hes; replace hE := Lib.hid hE; replace hel := Lib.hid hel
  go_enter Tryd.func12, Tryd.ntmps12
  go_wp2_with fail
  refine hc1.out.mono ?_
  rintro e w1 ⟨rfl, hb1⟩
  replace hb1 := Lib.hid hb1
  go_upto_if 15 with fail
  go_cut [0] (fun lv wx => EbT ao N c w1 lv wx)
  case first =>
    by_cases q : 10 < n
    · have d1 : decide ((10 : Int) < (n : Int)) = true := decide_eq_true (by omega)
      have d1' : decide (10 < n) = true := decide_eq_true q
      have hN' : N = 10 := by omega
      obtain ⟨x0, hx0⟩ : ∃ x0, evs[0]? = some x0 := ⟨_, List.getElem?_eq_getElem (by rw [hx.len]; omega)⟩
      obtain ⟨b, off, rfl, _⟩ := hx.cell 0 x0 hx0
      replace hx := Lib.hid hx; replace hx0 := Lib.hid hx0; replace hN' := Lib.hid hN'
      go_wp2
      go_meet
      case rel => exact ⟨by rw [hN'.out], rfl⟩
    · have d1 : decide ((10 : Int) < (n : Int)) = false := decide_eq_false (by omega)
      have d1' : decide (10 < n) = false := decide_eq_false q
      have hN' : N = n := by omega
      replace hx := Lib.hid hx; replace hN' := Lib.hid hN'
      go_wp2
      go_meet
      case rel => exact ⟨by rw [hN'.out], rfl⟩
  case rest =>
  obtain ⟨rfl, rfl⟩ := hcut
  clear hN hx hmx hnc hNn
  have hO1 : OwnB w1 w.heap.size (.slice none 0 0) [] := ⟨rfl, .inl ⟨rfl, rfl⟩⟩
  replace hO1 := Lib.hid hO1
  go_wp2
  go_loopw [4, 5, 6] (fun bv iv _ wr => ∃ k : Nat, iv = .int .i64 k ∧ k ≤ N ∧ Hid (OwnB wr w.heap.size bv (putsB (es.take k))) ∧ Hid (Below w.heap.size w wr)) (fun _ iv _ _ => N - (intOf iv).toNat)
  case atStart => exact ⟨0, rfl, Nat.zero_le _, hO1.out, hb1.out⟩
  case round =>
    obtain ⟨k, rfl, hk, hO, hlow⟩ := hrel
    obtain ⟨bs, hbs⟩ : ∃ bs, bs = putsB (es.take k) := ⟨_, rfl⟩
    have hrngs : ∀ x, x ∈ es → Rng x.n := fun x hx => by
      obtain ⟨i, hi⟩ := List.mem_iff_getElem?.1 hx
      obtain ⟨_, _, _, _, _, ho⟩ := hE.out.cell i x hi
      exact ho.rng
    have hbl : bs.length ≤ 150000 := by
      rw [hbs]
      refine Nat.le_trans (flatMap_len _ 15000 _ fun x hx => putB_len (hrngs x (List.mem_of_mem_take hx))) ?_
      have h1 : (es.take k).length ≤ 10 := by
        refine Nat.le_trans (List.length_take_le' _ _) ?_
        have h2 : es.length = N := hel.out
        omega
      exact Nat.mul_le_mul h1 (Nat.le_refl 15000)
    have hOb := hO.out
    rw [← hbs] at hOb
    obtain ⟨bo, bc, rfl, hby, hbc, hbn⟩ := hOb.form2
    obtain ⟨M, hM⟩ : ∃ M, M = bs.length := ⟨_, rfl⟩
    rw [← hM] at hby hbc hbn hbl
    rw [← hM]
    by_cases hkN : k < N
    · have hk1 : (k : Int) < N := by omega
      have hk0 : (0 : Int) ≤ (k : Int) := by omega
      obtain ⟨x, hxk⟩ : ∃ x, es[k]? = some x := ⟨_, List.getElem?_eq_getElem (by have h : es.length = N := hel.out; omega)⟩
      have hEr := hE.out.low hlow.out
      obtain ⟨b, off, rfl, hblt, hcell, hxo⟩ := hEr.cell k x hxk
      have hlg := elong_any x wr hxo
      have hPu : ∀ W, Below wr.heap.size wr W → Calls Tryd.prog 48 #[.slice bo M bc, x.val] W fun e w' => ∃ v, e = .returned v ∧ OwnB w' W.heap.size v (bs ++ putB x.pl) ∧ Below W.heap.size W w' := fun W hb => eput_any x bo M bc bs W (hxo.low hb) (hby.low hb) hbn (by omega) (ht.out.low (hlow.out.trans (hb.mono hlow.out.size)))
      have hst : bs ++ putB x.pl = putsB (es.take (k + 1)) := by rw [hbs]; exact (putsB_step hxk).symm
      obtain ⟨⟨kk, epoch, tick, client, seq, job, attempt, node, how⟩, xo, xm, xc, xsp⟩ := x
      have z0 : wr.cell? ⟨b, off + k * 10, none⟩ = some (.int .i64 kk) := hcell 0 (by omega)
      have z1 : wr.cell? ⟨b, off + k * 10 + 1, none⟩ = some (.int .i64 epoch) := hcell 1 (by omega)
      have z2 : wr.cell? ⟨b, off + k * 10 + 2, none⟩ = some (.int .i64 tick) := hcell 2 (by omega)
      have z3 : wr.cell? ⟨b, off + k * 10 + 3, none⟩ = some (.int .i64 client) := hcell 3 (by omega)
      have z4 : wr.cell? ⟨b, off + k * 10 + 4, none⟩ = some (.int .i64 seq) := hcell 4 (by omega)
      have z5 : wr.cell? ⟨b, off + k * 10 + 5, none⟩ = some (.int .i64 job) := hcell 5 (by omega)
      have z6 : wr.cell? ⟨b, off + k * 10 + 6, none⟩ = some (.int .i64 attempt) := hcell 6 (by omega)
      have z7 : wr.cell? ⟨b, off + k * 10 + 7, none⟩ = some (.int .i64 node) := hcell 7 (by omega)
      have z8 : wr.cell? ⟨b, off + k * 10 + 8, none⟩ = some (.int .i64 how) := hcell 8 (by omega)
      have z9 : wr.cell? ⟨b, off + k * 10 + 9, none⟩ = some (.slice xo xm xc) := hcell 9 (by omega)
      replace hbs := Lib.hid hbs; replace hOb := Lib.hid hOb; replace hby := Lib.hid hby; replace hbc := Lib.hid hbc; replace hbn := Lib.hid hbn; replace hM := Lib.hid hM; replace hxk := Lib.hid hxk; replace hEr := Lib.hid hEr; replace hcell := Lib.hid hcell; replace hxo := Lib.hid hxo; replace hlg := Lib.hid hlg; replace hPu := Lib.hid hPu; replace hst := Lib.hid hst; replace hrngs := Lib.hid hrngs
      go_wp2_with fail
      refine hlg.out.mono ?_
      rintro e w2 ⟨⟨big, rfl⟩, hb2⟩
      have hlow2 := hlow.out.trans (hb2.mono hlow.out.size)
      clear z0 z1 z2 z3 z4 z5 z6 z7 z8 z9
      cases big with
      | true =>
        replace hb2 := Lib.hid hb2; replace hlow2 := Lib.hid hlow2
        go_wp2
        go_ret
        exact ⟨rfl, hlow2.out⟩
      | false =>
      have hc2 : ∀ j, j < 10 → w2.cell? ⟨b, off + k * 10 + j, none⟩ = (⟨⟨kk, epoch, tick, client, seq, job, attempt, node, how⟩, xo, xm, xc, xsp⟩ : Evv).cells[j]? := fun j hj => (below_cell hb2 hblt).trans (hcell.out j hj)
      have z0 : w2.cell? ⟨b, off + k * 10, none⟩ = some (.int .i64 kk) := hc2 0 (by omega)
      have z1 : w2.cell? ⟨b, off + k * 10 + 1, none⟩ = some (.int .i64 epoch) := hc2 1 (by omega)
      have z2 : w2.cell? ⟨b, off + k * 10 + 2, none⟩ = some (.int .i64 tick) := hc2 2 (by omega)
      have z3 : w2.cell? ⟨b, off + k * 10 + 3, none⟩ = some (.int .i64 client) := hc2 3 (by omega)
      have z4 : w2.cell? ⟨b, off + k * 10 + 4, none⟩ = some (.int .i64 seq) := hc2 4 (by omega)
      have z5 : w2.cell? ⟨b, off + k * 10 + 5, none⟩ = some (.int .i64 job) := hc2 5 (by omega)
      have z6 : w2.cell? ⟨b, off + k * 10 + 6, none⟩ = some (.int .i64 attempt) := hc2 6 (by omega)
      have z7 : w2.cell? ⟨b, off + k * 10 + 7, none⟩ = some (.int .i64 node) := hc2 7 (by omega)
      have z8 : w2.cell? ⟨b, off + k * 10 + 8, none⟩ = some (.int .i64 how) := hc2 8 (by omega)
      have z9 : w2.cell? ⟨b, off + k * 10 + 9, none⟩ = some (.slice xo xm xc) := hc2 9 (by omega)
      replace hb2 := Lib.hid hb2; replace hlow2 := Lib.hid hlow2; replace hc2 := Lib.hid hc2
      go_wp2_with fail
      refine (hPu.out _ hb2.out).mono ?_
      rintro e w3 ⟨v3, rfl, hO3, hb3⟩
      have hlow3 := hlow2.out.trans (hb3.mono hlow2.out.size)
      have hO3' := hO3.base hlow2.out.size
      rw [hst.out] at hO3'
      clear z0 z1 z2 z3 z4 z5 z6 z7 z8 z9
      replace hO3 := Lib.hid hO3; replace hb3 := Lib.hid hb3; replace hlow3 := Lib.hid hlow3; replace hO3' := Lib.hid hO3'
      go_wp2
      go_roundw
      case rel => exact ⟨k + 1, by go_num, by omega, hO3'.out, hlow3.out⟩
      case measure => simp [intOf]; omega
    · have hk1 : ¬ (k : Int) < N := by omega
      have htk : es.take k = es := List.take_of_length_le (by have h : es.length = N := hel.out; omega)
      rw [htk] at hbs
      have hrd := cread_any hby hbc hbn
      replace hbs := Lib.hid hbs; replace hOb := Lib.hid hOb; replace hby := Lib.hid hby; replace hbc := Lib.hid hbc; replace hbn := Lib.hid hbn; replace hM := Lib.hid hM; replace hrd := Lib.hid hrd; replace htk := Lib.hid htk; replace hrngs := Lib.hid hrngs
      go_wp2_with fail
      refine hrd.out.mono ?_
      rintro e w2 ⟨rfl, hR2, hb2⟩
      obtain ⟨rb, hrb⟩ : ∃ rb, rb = wr.heap.size := ⟨_, rfl⟩
      rw [← hrb] at hR2
      rw [← hrb]
      have hlow2 := hlow.out.trans (hb2.mono hlow.out.size)
      have hrw : w.heap.size ≤ rb := by have := hlow.out.size; omega
      have hR2' : Rdr w2 rb rb (putsB (es.drop 0)) 0 := by rw [List.drop_zero, ← hbs.out]; exact hR2
      replace hR2 := Lib.hid hR2; replace hb2 := Lib.hid hb2; replace hlow2 := Lib.hid hlow2; replace hrw := Lib.hid hrw; replace hrb := Lib.hid hrb; replace hR2' := Lib.hid hR2'
      go_wp2
      go_loopw [8, 9] (fun iv _ wr => ∃ k : Nat, iv = .int .i64 k ∧ k ≤ N ∧ Hid (Rdr wr rb rb (putsB (es.drop k)) 0) ∧ Hid (Below w.heap.size w wr)) (fun iv _ _ => N - (intOf iv).toNat)
      case atStart => exact ⟨0, rfl, Nat.zero_le _, hR2'.out, hlow2.out⟩
      case round =>
        rename World => wo
        obtain ⟨k, rfl, hk, hR, hlo⟩ := hrel
        by_cases hkN2 : k < N
        · have hk1 : (k : Int) < N := by omega
          have hk0 : (0 : Int) ≤ (k : Int) := by omega
          obtain ⟨x, hxk⟩ : ∃ x, es[k]? = some x := ⟨_, List.getElem?_eq_getElem (by have h : es.length = N := hel.out; omega)⟩
          have hEr := hE.out.low hlo.out
          obtain ⟨b, off, rfl, hblt, hcell, hxo⟩ := hEr.cell k x hxk
          have hck := echeck_any x wo hxo
          have hdp := putsB_drop hxk
          obtain ⟨ev, hev⟩ : ∃ ev, ev = x.pl := ⟨_, rfl⟩
          have hrng : Rng ev.n := by rw [hev]; exact hxo.rng
          rw [← hev] at hck hdp
          obtain ⟨⟨kk, epoch, tick, client, seq, job, attempt, node, how⟩, xo, xm, xc, xsp⟩ := x
          have z0 : wo.cell? ⟨b, off + k * 10, none⟩ = some (.int .i64 kk) := hcell 0 (by omega)
          have z1 : wo.cell? ⟨b, off + k * 10 + 1, none⟩ = some (.int .i64 epoch) := hcell 1 (by omega)
          have z2 : wo.cell? ⟨b, off + k * 10 + 2, none⟩ = some (.int .i64 tick) := hcell 2 (by omega)
          have z3 : wo.cell? ⟨b, off + k * 10 + 3, none⟩ = some (.int .i64 client) := hcell 3 (by omega)
          have z4 : wo.cell? ⟨b, off + k * 10 + 4, none⟩ = some (.int .i64 seq) := hcell 4 (by omega)
          have z5 : wo.cell? ⟨b, off + k * 10 + 5, none⟩ = some (.int .i64 job) := hcell 5 (by omega)
          have z6 : wo.cell? ⟨b, off + k * 10 + 6, none⟩ = some (.int .i64 attempt) := hcell 6 (by omega)
          have z7 : wo.cell? ⟨b, off + k * 10 + 7, none⟩ = some (.int .i64 node) := hcell 7 (by omega)
          have z8 : wo.cell? ⟨b, off + k * 10 + 8, none⟩ = some (.int .i64 how) := hcell 8 (by omega)
          have z9 : wo.cell? ⟨b, off + k * 10 + 9, none⟩ = some (.slice xo xm xc) := hcell 9 (by omega)
          replace hxk := Lib.hid hxk; replace hEr := Lib.hid hEr; replace hcell := Lib.hid hcell; replace hxo := Lib.hid hxo; replace hck := Lib.hid hck; replace hdp := Lib.hid hdp; replace hev := Lib.hid hev; replace hrng := Lib.hid hrng
          go_wp2_with fail
          refine hck.out.mono ?_
          rintro e w3 ⟨rfl, hb3⟩
          have hlow3 := hlo.out.trans (hb3.mono hlo.out.size)
          have hR3 := hR.out.low hb3
          clear z0 z1 z2 z3 z4 z5 z6 z7 z8 z9
          by_cases hmy : mayE ev = true
          rotate_left
          · rw [errE_no (by simpa using hmy)]
            have d1 : ((130 : Int) != (0 : Int)) = true := rfl
            have hp : putB ev = [] := if_neg hmy
            have hR4 : Rdr w3 rb rb (putsB (es.drop (k + 1))) 0 := by
              rw [hdp.out, hp, List.nil_append] at hR3
              exact hR3
            replace hb3 := Lib.hid hb3; replace hlow3 := Lib.hid hlow3; replace hR3 := Lib.hid hR3; replace hmy := Lib.hid hmy; replace hp := Lib.hid hp; replace hR4 := Lib.hid hR4
            go_wp2
            go_roundw
            case rel => exact ⟨k + 1, by go_num, by omega, hR4.out, hlow3.out⟩
            case measure => simp [intOf]; omega
          rw [errE_yes hmy]
          have d1 : ((0 : Int) != (0 : Int)) = false := rfl
          have hp : putB ev = evB ev := if_pos hmy
          have htk0 : takeR (putsB (es.drop k)) 0 = (ev, putsB (es.drop (k + 1)), 0) := by
            rw [hdp.out, hp]
            exact take_enc hmy hrng.out _
          have htk := etake_any hR3 (by have := hR3.lt; omega) hm.out ht.out hlow3 hrw.out
          unfold TakePost at htk
          rw [htk0] at htk
          replace hb3 := Lib.hid hb3; replace hlow3 := Lib.hid hlow3; replace hR3 := Lib.hid hR3; replace hmy := Lib.hid hmy; replace hp := Lib.hid hp; replace htk0 := Lib.hid htk0; replace htk := Lib.hid htk
          go_wp2_with fail
          refine htk.out.mono ?_
          rintro e w4 ⟨Y, rfl, hYo, hYp, hR4, hK4⟩
          have hlow4 : Below w.heap.size w w4 := hK4.from hlow3.out hrw.out hR3.out.lt
          obtain ⟨⟨k2, p2, t2, l2, s2, j2, a2, o2, h2⟩, yo, ym, yc, ysp⟩ := Y
          obtain ⟨eb, heb⟩ : ∃ eb, eb = w4.heap.size := ⟨_, rfl⟩
          obtain ⟨W5, hW5⟩ : ∃ W5, W5 = w4.alloc (.cells (⟨⟨k2, p2, t2, l2, s2, j2, a2, o2, h2⟩, yo, ym, yc, ysp⟩ : Evv).cells 70 (0, 0)) := ⟨_, rfl⟩
          have hb5 : Below w4.heap.size w4 W5 := by rw [hW5]; exact (Below.refl _ _).alloc (Nat.le_refl _) _
          have hx5 : W5.heap[eb]? = some (.cells (⟨⟨k2, p2, t2, l2, s2, j2, a2, o2, h2⟩, yo, ym, yc, ysp⟩ : Evv).cells 70 (0, 0)) := by rw [hW5, heb]; exact blk_new _ _
          have hlow5 := hlow4.trans (hb5.mono hlow4.size)
          have hE5 := hE.out.low hlow5
          obtain ⟨b', off', e5, hblt5, hcell5, hxo5⟩ := hE5.cell k _ hxk.out
          simp only [Option.some.injEq, Addr.mk.injEq, and_true] at e5
          obtain ⟨rfl, rfl⟩ := e5
          have hYX : (⟨⟨k2, p2, t2, l2, s2, j2, a2, o2, h2⟩, yo, ym, yc, ysp⟩ : Evv).pl = (⟨⟨kk, epoch, tick, client, seq, job, attempt, node, how⟩, xo, xm, xc, xsp⟩ : Evv).pl := by rw [← hev.out]; exact hYp
          have hsm : ∀ W, Below W5.heap.size W5 W → Calls Tryd.prog 52 #[(⟨⟨k2, p2, t2, l2, s2, j2, a2, o2, h2⟩, yo, ym, yc, ysp⟩ : Evv).val, (⟨⟨kk, epoch, tick, client, seq, job, attempt, node, how⟩, xo, xm, xc, xsp⟩ : Evv).val] W fun e w' => e = .returned (.bool true) ∧ Below W.heap.size W w' := fun W hb => esame_yes _ _ W ((hYo.low hb5).low hb) (hxo5.low hb) hYX
          have hSx : ∀ W', Below W5.heap.size W5 W' → W'.cell? ⟨eb, 0, none⟩ = some (.int .i64 k2) ∧ W'.cell? ⟨eb, 1, none⟩ = some (.int .i64 p2) ∧ W'.cell? ⟨eb, 2, none⟩ = some (.int .i64 t2) ∧ W'.cell? ⟨eb, 3, none⟩ = some (.int .i64 l2) ∧ W'.cell? ⟨eb, 4, none⟩ = some (.int .i64 s2) ∧ W'.cell? ⟨eb, 5, none⟩ = some (.int .i64 j2) ∧ W'.cell? ⟨eb, 6, none⟩ = some (.int .i64 a2) ∧ W'.cell? ⟨eb, 7, none⟩ = some (.int .i64 o2) ∧ W'.cell? ⟨eb, 8, none⟩ = some (.int .i64 h2) ∧ W'.cell? ⟨eb, 9, none⟩ = some (.slice yo ym yc) ∧ W'.cell? ⟨b, off + k * 10, none⟩ = some (.int .i64 kk) ∧ W'.cell? ⟨b, off + k * 10 + 1, none⟩ = some (.int .i64 epoch) ∧ W'.cell? ⟨b, off + k * 10 + 2, none⟩ = some (.int .i64 tick) ∧ W'.cell? ⟨b, off + k * 10 + 3, none⟩ = some (.int .i64 client) ∧ W'.cell? ⟨b, off + k * 10 + 4, none⟩ = some (.int .i64 seq) ∧ W'.cell? ⟨b, off + k * 10 + 5, none⟩ = some (.int .i64 job) ∧ W'.cell? ⟨b, off + k * 10 + 6, none⟩ = some (.int .i64 attempt) ∧ W'.cell? ⟨b, off + k * 10 + 7, none⟩ = some (.int .i64 node) ∧ W'.cell? ⟨b, off + k * 10 + 8, none⟩ = some (.int .i64 how) ∧ W'.cell? ⟨b, off + k * 10 + 9, none⟩ = some (.slice xo xm xc) := fun W' hb => by
            have hz := blk_below hb hx5 (blk_lt hx5)
            have hq := fun j hj => (below_cell (o := off + k * 10 + j) hb hblt5).trans (hcell5 j hj)
            exact ⟨blk_cell hz 0, blk_cell hz 1, blk_cell hz 2, blk_cell hz 3, blk_cell hz 4, blk_cell hz 5, blk_cell hz 6, blk_cell hz 7, blk_cell hz 8, blk_cell hz 9, hq 0 (by omega), hq 1 (by omega), hq 2 (by omega), hq 3 (by omega), hq 4 (by omega), hq 5 (by omega), hq 6 (by omega), hq 7 (by omega), hq 8 (by omega), hq 9 (by omega)⟩
          have hcur : Below W5.heap.size W5 W5.drew := (Below.refl _ _).drew
          obtain ⟨u0, u1, u2, u3, u4, u5, u6, u7, u8, u9, z0, z1, z2, z3, z4, z5, z6, z7, z8, z9⟩ := hSx W5 (Below.refl _ _)
          have hR5 := hR4.low hb5
          have hW5' := Lib.hid hW5
          have heb' := Lib.hid heb
          clear hW5 heb
          replace hYo := Lib.hid hYo; replace hYp := Lib.hid hYp; replace hR4 := Lib.hid hR4; replace hK4 := Lib.hid hK4; replace hlow4 := Lib.hid hlow4; replace hb5 := Lib.hid hb5; replace hx5 := Lib.hid hx5; replace hlow5 := Lib.hid hlow5; replace hE5 := Lib.hid hE5; replace hcell5 := Lib.hid hcell5; replace hxo5 := Lib.hid hxo5; replace hYX := Lib.hid hYX; replace hsm := Lib.hid hsm; replace hSx := Lib.hid hSx; replace hcur := Lib.hid hcur; replace hR5 := Lib.hid hR5
          go_upto_region 20 with fail
          rw [← hW5'.out, ← heb'.out]
          go_cut [58] (fun bv wx => EbC W5 bv wx)
          case first =>
            go_region_held3 (fun W' => W'.cell? ⟨eb, 0, none⟩ = some (.int .i64 k2) ∧ W'.cell? ⟨eb, 1, none⟩ = some (.int .i64 p2) ∧ W'.cell? ⟨eb, 2, none⟩ = some (.int .i64 t2) ∧ W'.cell? ⟨eb, 3, none⟩ = some (.int .i64 l2) ∧ W'.cell? ⟨eb, 4, none⟩ = some (.int .i64 s2) ∧ W'.cell? ⟨eb, 5, none⟩ = some (.int .i64 j2) ∧ W'.cell? ⟨eb, 6, none⟩ = some (.int .i64 a2) ∧ W'.cell? ⟨eb, 7, none⟩ = some (.int .i64 o2) ∧ W'.cell? ⟨eb, 8, none⟩ = some (.int .i64 h2) ∧ W'.cell? ⟨eb, 9, none⟩ = some (.slice yo ym yc) ∧ W'.cell? ⟨b, off + k * 10, none⟩ = some (.int .i64 kk) ∧ W'.cell? ⟨b, off + k * 10 + 1, none⟩ = some (.int .i64 epoch) ∧ W'.cell? ⟨b, off + k * 10 + 2, none⟩ = some (.int .i64 tick) ∧ W'.cell? ⟨b, off + k * 10 + 3, none⟩ = some (.int .i64 client) ∧ W'.cell? ⟨b, off + k * 10 + 4, none⟩ = some (.int .i64 seq) ∧ W'.cell? ⟨b, off + k * 10 + 5, none⟩ = some (.int .i64 job) ∧ W'.cell? ⟨b, off + k * 10 + 6, none⟩ = some (.int .i64 attempt) ∧ W'.cell? ⟨b, off + k * 10 + 7, none⟩ = some (.int .i64 node) ∧ W'.cell? ⟨b, off + k * 10 + 8, none⟩ = some (.int .i64 how) ∧ W'.cell? ⟨b, off + k * 10 + 9, none⟩ = some (.slice xo xm xc))
              (first
                | with_reducible exact hSx.out _ hcur.out)
              (first
                | (go_at_call 52
                   (with_reducible refine (hsm.out _ hcur.out).mono ?_)
                   rintro e wz ⟨rfl, hbz⟩
                   replace hcur := Lib.hid (hcur.out.trans (hbz.mono hcur.out.size))
                   replace hbz := Lib.hid hbz))
            all_goals
              go_wp2_with fail
              go_meet
              exact ⟨rfl, hcur.out⟩
          case rest =>
            obtain ⟨rfl, hbc6⟩ := hcut
            have hR6 := hR5.out.low hbc6
            have hlow6 := hlow5.out.trans (hbc6.mono hlow5.out.size)
            clear u0 u1 u2 u3 u4 u5 u6 u7 u8 u9 z0 z1 z2 z3 z4 z5 z6 z7 z8 z9
            replace hbc6 := Lib.hid hbc6; replace hR6 := Lib.hid hR6; replace hlow6 := Lib.hid hlow6
            go_wp2
            go_roundw
            case rel => exact ⟨k + 1, by go_num, by omega, hR6.out, hlow6.out⟩
            case measure => simp [intOf]; omega
        · have hk1 : ¬ (k : Int) < N := by omega
          have hdr : putsB (es.drop k) = [] := by
            have h : es.length = N := hel.out
            rw [List.drop_of_length_le (by omega)]
            rfl
          have hRe := hR.out
          rw [hdr] at hRe
          have hLf := rleft_any hRe
          rw [List.length_nil] at hLf
          have hEn := rend_nil hRe
          replace hdr := Lib.hid hdr; replace hRe := Lib.hid hRe; replace hLf := Lib.hid hLf; replace hEn := Lib.hid hEn
          go_wp2_with fail
          refine hLf.out.mono ?_
          rintro e w3 ⟨rfl, rfl⟩
          go_wp2_with fail
          refine hEn.out.mono ?_
          rintro e w3 ⟨rfl, rfl⟩
          go_wp2
          go_ret
          exact ⟨rfl, hlo.out⟩
end Go.Proofs.YteoihdkaoipocaaDoor

namespace Go.Proofs.YteoihdkaoipocaaDoor
open Go.ChangeShapes Go.WideShapes Go.ChangeAt Go.RowKit Go.ChangeMaps

set_option maxRecDepth 100000 in
theorem eventBack_lifted (os : Os) (started : os.Started) (H : Type) (enc : TypeId × Value → H) :
    ReturnsInHanded {} Tryd.checked os 12 .any (fun w args => (Rows.eventBackSpec.pre enc Tryd.prog Tryd.f12 Rows.eventBackRow.domain false w args ∧ laidMetH Tryd.prog Rows.eventBackRow.laid w) ∧ sizedMet enc Tryd.prog Tryd.f12 (OpenSpec.ofChange Rows.eventBackSpec) false w args)
      (Rows.eventBackSpec.post enc Tryd.prog Tryd.f12 false true false false) := by
  refine returns_laid (C := Tryd.checked) (X := fun w _ => laidMetH Tryd.prog Rows.eventBackRow.laid w) (fun _ _ _ hh h => h.of_heap hh) own started (by kernel_rfl) Tryd.func12
    (ChangeSpec.witness_shaped (enc := enc) (C := Tryd.checked) (os := os) (X := fun w _ => laidMetH Tryd.prog Rows.eventBackRow.laid w) false (World.laidAll Tryd.prog os Rows.eventBackRow.laid) #[.slice none 0 0] 8 (World.laidAll_os _ _ _)
      (World.shaped_of_ZipB (by kernel_rfl) (by kernel_rfl)) (by kernel_rfl) (by kernel_rfl) (by kernel_rfl)
      (by rw [MakeChecks.laidMetH_plain _ _ _ (by kernel_rfl)]; exact laidMet_laidAll _ (by kernel_rfl) (by kernel_rfl))) ?_
  intro W base args ds gs before hval0 hW hc hL hsh
  have hval : ∀ (j : Nat) t v, Tryd.f12.params[j]? = some t → args[j]? = some v → Value.okWide Tryd.prog W .any base t v := hval0
  have hW' := hW
  obtain ⟨p, q, hA0, hV, rfl, _, _⟩ := hW
  have hA : DataW.TrodAll enc Tryd.prog W 0 (fun _ => true) true Tryd.f12.params.toList args.toList ds p := hA0
  rw [Tryd.params12] at hA hval
  obtain ⟨v0, d0, rfl, rfl, h0⟩ := trodAll_one hA
  obtain ⟨rfl, rfl⟩ := trodVars_none hV
  obtain ⟨ao0, n0, c0, xs0, rfl, hx0, hnc0⟩ := open_events (hval 0 66 v0 rfl rfl) h0
  clear hA0 hval0
  refine (eback_any ao0 n0 c0 xs0 W hx0 hnc0 (mx_shaped hsh) (tb_of_laid (fun w => MakeChecks.laidMetH_plain _ _ w (by kernel_rfl)) hL)).mono fun e W' ⟨he, hw⟩ => ?_
  subst he
  refine ⟨_, rfl, post_of_below hW' rfl (fun _ _ _ => ?_) rfl rfl hw ?_⟩
  · have hrt : Tryd.f12.resultTypes = #[4] := by kernel_rfl
    rw [hrt]
    exact trodAll_mk1 ⟨1, by simp [DataW.trod, Value.cells, Tryd.underlying4]⟩
  · rw [Tryd.params12]
    intro t ht
    have hm : t ∈ [66] := by simpa using ht
    have hall : ([66].all fun u => Tryd.prog.readableRec u && decide (u < Tryd.prog.types.size)) = true := by kernel_rfl
    have := List.all_eq_true.1 hall t hm
    rw [Bool.and_eq_true] at this
    exact ⟨this.1, of_decide_eq_true this.2⟩
theorem eventBack_row : Rows.EventBackSaid :=
  OpenClaim.holds_of_wide 12 Tryd.f12 rfl rfl rfl rfl rfl rfl rfl ⟨rfl, rfl, rfl, rfl, rfl⟩ rfl rfl rfl rfl rfl (by kernel_rfl) Tryd.func12 (by kernel_rfl)
    (of_decide_eq_true (by kernel_rfl)) (by unfold Func.isWrapper; first | (rw [if_pos (by decide +kernel)]; kernel_rfl) | (rw [if_neg (by decide +kernel)]; exact ⟨rfl, rfl⟩))
    (fun os started H enc _ => eventBack_lifted os started H enc)
theorem eventBack_holds : Rows.EventBackCardSaid :=
  Claim7.holds_tied_plain_at .later [] [.data, .data, .data, .data, .pinned] true (true, "d7ca3db8da485ca0b11e68421f68137e81c97920c528271bb1d28dc3225d4cd7") false eventBack_row (fun _ h => by cases h) (by kernel_rfl) (fun _ h => by cases h) eventBack_row_tie rfl ⟨rfl, rfl⟩ (by kernel_rfl) rfl
    (fun f fn hf hfn => by
      obtain rfl : f = 12 := Option.some.inj ((show Tryd.prog.funcNamed "corvee/corveelaw13.EventBack" = some 12 by kernel_rfl).symm.trans hf) |>.symm
      obtain rfl : fn = Tryd.f12 := (Option.some.inj (Tryd.func12.symm.trans hfn)).symm
      exact ⟨by kernel_rfl, fun j t ht => by
        rw [Tryd.params12] at ht
        have hm : t ∈ [66] := by simpa using Array.mem_of_getElem? ht
        have hall : ([66].all fun u => !Tryd.prog.wantsStandIn u) = true := by kernel_rfl
        exact (show Tryd.prog.wantsStandIn t = false by simpa using List.all_eq_true.1 hall t hm)⟩)
    (by kernel_rfl)
end Go.Proofs.YteoihdkaoipocaaDoor

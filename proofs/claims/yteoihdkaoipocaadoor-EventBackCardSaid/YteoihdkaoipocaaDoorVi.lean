/- Parts Eva in one text. Plain theorems: no condition. -/
import Derived.Test.YteoihdkaoipocaaDoorVh
import Derived.Test.YteoihdkaoipocaaDoorVf
/- corveelaw13.awake: the document's examples. Plain theorems: no condition. -/
namespace Go.Proofs.YteoihdkaoipocaaDoor
open Go.RowKit Go.Maps

set_option maxRecDepth 100000 in
theorem client2 (w : World) : Calls Tryd.prog 90 #[.int .i64 2] w fun e w' => e = .returned (.bool true) ∧ w' = w := by
  go_enter Tryd.func90, Tryd.ntmps90
  go_wp2
  go_ret
  exact ⟨rfl, rfl⟩
def awN : Evn := ⟨6, 0, 3, 0, 0, 0, 0, 0, 0⟩
theorem aw_int1 : intR [12, 6] 0 = (6, [6], 0) := by decide
theorem aw_int2 : intR [6] 0 = (3, [], 0) := by decide
theorem aw_int3 : intR [12, 5] 0 = (6, [5], 0) := by decide
theorem aw_int4 : intR [5] 0 = (-3, [], 0) := by decide
theorem aw_may : mayE ⟨awN, []⟩ = true := by decide
theorem aw_take1 : takeR [12, 6] 0 = (⟨awN, []⟩, [], 0) := by
  have h1 : afterK [12, 6] 0 = ([6], 0) := by unfold afterK; rw [aw_int1]; rfl
  have h2 : numsR [12, 6] 0 = (awN, [], 0) := by
    unfold numsR
    rw [h1, aw_int1]
    show fldsR (Evn.ofKind 6) [fldTk] [6] 0 = _
    rw [fldsR, aw_int2]
    rfl
  have h3 : spcsR [12, 6] 0 = ([], [], 0) := by unfold spcsR; rw [aw_int1, h2]; rfl
  have h4 : rawR [12, 6] 0 = ⟨awN, []⟩ := by unfold rawR; rw [h2, h3]
  have h5 : lastR [12, 6] 0 = ([], 0) := by unfold lastR; rw [h4, if_pos aw_may, h3]
  unfold takeR
  rw [h5, h4]
  rfl
theorem aw_take2 : (takeR [12, 5] 0).2 = ([], 130) := by
  have h1 : afterK [12, 5] 0 = ([5], 0) := by unfold afterK; rw [aw_int3]; rfl
  have h2 : numsR [12, 5] 0 = (⟨6, 0, -3, 0, 0, 0, 0, 0, 0⟩, [], 0) := by
    unfold numsR
    rw [h1, aw_int3]
    show fldsR (Evn.ofKind 6) [fldTk] [5] 0 = _
    rw [fldsR, aw_int4]
    rfl
  have h3 : spcsR [12, 5] 0 = ([], [], 0) := by unfold spcsR; rw [aw_int3, h2]; rfl
  have h4 : rawR [12, 5] 0 = ⟨⟨6, 0, -3, 0, 0, 0, 0, 0, 0⟩, []⟩ := by unfold rawR; rw [h2, h3]
  have h5 : lastR [12, 5] 0 = ([], 130) := by unfold lastR; rw [h4, if_neg (by decide), h3]; rfl
  exact h5
theorem aw_put : putB ⟨awN, []⟩ = [12, 6] := by
  have e : putB ⟨awN, []⟩ = evB ⟨awN, []⟩ := if_pos aw_may
  rw [e]
  have h1 : uintB 12 = [12] := uintB_lt (by decide)
  have h2 : uintB 6 = [6] := uintB_lt (by decide)
  have z1 : zz 6 = 12 := by decide
  have z2 : zz 3 = 6 := by decide
  show uintB (zz 6) ++ (uintB (zz 3) ++ []) ++ [] ++ [] = _
  rw [z1, z2, h1, h2]
  rfl
/-- within awake -/
structure AwW (w : World) (r1 r2 eb B1 B2 : Nat) (X : Evv) (wr : World) : Prop where
  low : Below w.heap.size w wr
  r1 : Rdr wr r1 B1 [] 0
  r2 : Rdr wr r2 B2 [] 130
  box : wr.heap[eb]? = some (.cells X.cells 70 (0, 0))
  ok : X.ok wr
theorem AwW.go {w wr w' : World} {r1 r2 eb B1 B2 : Nat} {X : Evv} (h : AwW w r1 r2 eb B1 B2 X wr) (hb : Below wr.heap.size wr w') : AwW w r1 r2 eb B1 B2 X w' :=
  ⟨h.low.trans (hb.mono h.low.size), h.r1.low hb, h.r2.low hb, blk_below hb h.box (blk_lt h.box), h.ok.low hb⟩
theorem sps_emp (w : World) (so : Option Addr) : SpsAt w so 0 [] := ⟨rfl, by omega, fun i x h => by simp at h⟩
theorem byts_new2 (w : World) (a b : UInt8) : BytsAt (w.alloc (.cells #[.int .u8 a.toNat, .int .u8 b.toNat] 5 (0, 0))) (some ⟨w.heap.size, 0, none⟩) 2 [a, b] :=
  ⟨rfl, by omega, fun i x hx => ⟨w.heap.size, 0, rfl, by simp, by
    rw [Nat.zero_add, blk_cell (blk_new w _)]
    match i, hx with
    | 0, hx => simp at hx; subst hx; rfl
    | 1, hx => simp at hx; subst hx; rfl⟩⟩
set_option maxRecDepth 100000 in
theorem rend_nil {w : World} {rb B : Nat} {e : Int} (h : Rdr w rb B [] e) : Calls Tryd.prog 54 #[.pointer (some ⟨rb, 0, none⟩)] w fun en w' => en = .returned (.int .i64 e) ∧ w' = w := by
  have hk := rleft_any h
  have hE := rerr_any h
  rw [List.length_nil] at hk
  replace hk := Lib.hid hk; replace h := Lib.hid h; replace hE := Lib.hid hE
  go_enter Tryd.func54, Tryd.ntmps54
  go_wp2_with fail
  refine hk.out.mono ?_
  rintro en w1 ⟨rfl, rfl⟩
  go_wp2_with fail
  refine hE.out.mono ?_
  rintro en w3 ⟨rfl, rfl⟩
  go_wp2
  go_ret
  exact ⟨rfl, rfl⟩
set_option maxRecDepth 100000 in
set_option maxHeartbeats 6400000 in
theorem awake13 (w : World) (hm : Mx w) (ht : Tb w) : Calls Tryd.prog 46 #[] w fun e w' => e = .returned (.bool true) ∧ Below w.heap.size w w' := by
  obtain ⟨W1, hW1⟩ : ∃ W1, W1 = w.alloc (.cells #[.int .u8 12, .int .u8 6] 5 (0, 0)) := ⟨_, rfl⟩
  have hb1 : Below w.heap.size w W1 := by rw [hW1]; exact (Below.refl _ _).alloc (Nat.le_refl _) _
  have hy1 : BytsAt W1 (some ⟨w.heap.size, 0, none⟩) 2 [12, 6] := by rw [hW1]; exact byts_new2 w 12 6
  have hr1 := cread_any hy1 (Nat.le_refl _) (fun h => (by cases h))
  have hW1' := Lib.hid hW1
  rw [hW1] at hr1
  clear hW1
  replace hm := Lib.hid hm; replace ht := Lib.hid ht; replace hb1 := Lib.hid hb1; replace hy1 := Lib.hid hy1; replace hr1 := Lib.hid hr1
  go_enter Tryd.func46, Tryd.ntmps46
  go_wp2_with fail
  refine hr1.out.mono ?_
  rw [← hW1'.out]
  rintro e w2 ⟨rfl, hR2, hb2⟩
  obtain ⟨r1, hr1e⟩ : ∃ r1, r1 = W1.heap.size := ⟨_, rfl⟩
  rw [← hr1e] at hR2
  rw [← hr1e]
  have hlow2 := hb1.out.trans (hb2.mono hb1.out.size)
  have hrw : w.heap.size ≤ r1 := by have := hb1.out.size; omega
  have htk := etake_any hR2 (by have := hb2.size; omega) hm.out ht.out hlow2 hrw
  unfold TakePost at htk
  rw [aw_take1] at htk
  replace hR2 := Lib.hid hR2; replace hb2 := Lib.hid hb2; replace hlow2 := Lib.hid hlow2; replace htk := Lib.hid htk; replace hr1e := Lib.hid hr1e; replace hrw := Lib.hid hrw
  go_wp2_with fail
  refine htk.out.mono ?_
  rintro e w3 ⟨X, rfl, hXo, hXp, hR3, hK3⟩
  have hlow3 : Below w.heap.size w w3 := hK3.from hlow2.out hrw.out hR2.out.lt
  obtain ⟨⟨kk, epoch, tick, client, seq, job, attempt, node, how⟩, xo, xm, xc, xsp⟩ := X
  have hXn : (⟨kk, epoch, tick, client, seq, job, attempt, node, how⟩ : Evn) = awN := congrArg Evp.n hXp
  have hXs : xsp.map Spv.pl = [] := congrArg Evp.specs hXp
  simp only [awN, Evn.mk.injEq] at hXn
  obtain ⟨rfl, rfl, rfl, rfl, rfl, rfl, rfl, rfl, rfl⟩ := hXn
  obtain ⟨eb, heb⟩ : ∃ eb, eb = w3.heap.size := ⟨_, rfl⟩
  obtain ⟨W4, hW4⟩ : ∃ W4, W4 = w3.alloc (.cells #[.int .i64 6, .int .i64 0, .int .i64 3, .int .i64 0, .int .i64 0, .int .i64 0, .int .i64 0, .int .i64 0, .int .i64 0, .slice xo xm xc] 70 (0, 0)) := ⟨_, rfl⟩
  have hb4 : Below w3.heap.size w3 W4 := by rw [hW4]; exact (Below.refl _ _).alloc (Nat.le_refl _) _
  have hx4 : W4.heap[eb]? = some (.cells #[.int .i64 6, .int .i64 0, .int .i64 3, .int .i64 0, .int .i64 0, .int .i64 0, .int .i64 0, .int .i64 0, .int .i64 0, .slice xo xm xc] 70 (0, 0)) := by rw [hW4, heb]; exact blk_new _ _
  obtain ⟨W5, hW5⟩ : ∃ W5, W5 = W4.alloc (.cells #[.int .u8 12, .int .u8 5] 5 (0, 0)) := ⟨_, rfl⟩
  have hb5 : Below W4.heap.size W4 W5 := by rw [hW5]; exact (Below.refl _ _).alloc (Nat.le_refl _) _
  have hy5 : BytsAt W5 (some ⟨W4.heap.size, 0, none⟩) 2 [12, 5] := by rw [hW5]; exact byts_new2 W4 12 5
  have hr5 := cread_any hy5 (Nat.le_refl _) (fun h => (by cases h))
  have hW4' := Lib.hid hW4
  have heb' := Lib.hid heb
  have hW5' := Lib.hid hW5
  rw [hW5] at hr5
  clear hW4 heb hW5
  replace hXo := Lib.hid hXo; replace hXp := Lib.hid hXp; replace hR3 := Lib.hid hR3; replace hK3 := Lib.hid hK3; replace hlow3 := Lib.hid hlow3; replace hXs := Lib.hid hXs; replace hb4 := Lib.hid hb4; replace hx4 := Lib.hid hx4; replace hb5 := Lib.hid hb5; replace hy5 := Lib.hid hy5; replace hr5 := Lib.hid hr5
  go_upto_region 3 with fail
  rw [← hW4'.out, ← heb'.out]
  go_wp2_with fail
  refine hr5.out.mono ?_
  rw [← hW5'.out]
  rintro e w6 ⟨rfl, hR6, hb6⟩
  obtain ⟨r2, hr2e⟩ : ∃ r2, r2 = W5.heap.size := ⟨_, rfl⟩
  rw [← hr2e] at hR6
  rw [← hr2e]
  have hb46 := hb5.out.trans (hb6.mono hb5.out.size)
  have hb36 := hb4.out.trans (hb46.mono hb4.out.size)
  have hlow6 := hlow3.out.trans (hb36.mono hlow3.out.size)
  have hrw2 : w.heap.size ≤ r2 := by have := hlow3.out.size; have := hb4.out.size; have := hb5.out.size; omega
  have htk2 := etake_any hR6 (by have := hb6.size; omega) hm.out ht.out hlow6 hrw2
  unfold TakePost at htk2
  rw [show (takeR [12, 5] 0).2.1 = [] from by rw [aw_take2], show (takeR [12, 5] 0).2.2 = 130 from by rw [aw_take2]] at htk2
  replace hR6 := Lib.hid hR6; replace hb6 := Lib.hid hb6; replace hb46 := Lib.hid hb46; replace hb36 := Lib.hid hb36; replace hlow6 := Lib.hid hlow6; replace hrw2 := Lib.hid hrw2; replace htk2 := Lib.hid htk2; replace hr2e := Lib.hid hr2e
  go_wp2_with fail
  refine htk2.out.mono ?_
  rintro e w7 ⟨Y, rfl, hYo, hYp, hR7, hK7⟩
  have hxs0 : xsp = [] := by simpa using hXs.out
  subst hxs0
  have hxm := hXo.out.sps.len
  have hxm0 : xm = 0 := hxm.symm
  subst hxm0
  obtain ⟨X, hX⟩ : ∃ X : Evv, X = ⟨⟨6, 0, 3, 0, 0, 0, 0, 0, 0⟩, xo, 0, xc, []⟩ := ⟨_, rfl⟩
  have hXpl : X.pl = ⟨awN, []⟩ := by rw [hX]; rfl
  have hr21 : r1 < r2 := by have h1 := hR3.out.lt; have h2 := hb36.out.size; have h3 := hb4.out.size; have h4 := hb5.out.size; have := hr2e.out; omega
  have hlr2 := hK7.below (Nat.le_refl r2) hR6.out.lt
  have hebr : eb ≠ r2 := by
    have h1 := blk_lt hx4.out
    have h2 := hb5.out.size
    have := hr2e.out
    omega
  have hx6 := blk_below hb46.out hx4.out (blk_lt hx4.out)
  have hA7 : AwW w r1 r2 eb r1 r2 X w7 := ⟨hK7.from hlow6.out hrw2.out hR6.out.lt, (hR3.out.low hb36.out).at hlr2 hr21 (Nat.le_of_lt hr21), hR7, by rw [hX]; exact hK7.blk hx6 hebr, by rw [hX]; exact ⟨sps_emp w7 xo, hXo.out.ple, hXo.out.rng⟩⟩
  have hEn : ∀ W, AwW w r1 r2 eb r1 r2 X W → Calls Tryd.prog 54 #[.pointer (some ⟨r1, 0, none⟩)] W fun en w' => en = .returned (.int .i64 0) ∧ w' = W := fun W h => rend_nil h.r1
  have hEr : ∀ W, AwW w r1 r2 eb r1 r2 X W → Calls Tryd.prog 55 #[.pointer (some ⟨r2, 0, none⟩)] W fun en w' => en = .returned (.int .i64 130) ∧ w' = W := fun W h => rerr_any h.r2
  have hCk : ∀ W, AwW w r1 r2 eb r1 r2 X W → Calls Tryd.prog 50 #[X.val] W fun en w' => en = .returned (.int .i64 0) ∧ Below W.heap.size W w' := fun W h => by
    have := echeck_any X W h.ok
    rw [hXpl, errE_yes aw_may] at this
    exact this
  have hPu : ∀ W, AwW w r1 r2 eb r1 r2 X W → Calls Tryd.prog 48 #[.slice none 0 0, X.val] W fun en w' => (∃ so c, en = .returned (.slice so 2 c) ∧ BytsAt w' so 2 [12, 6]) ∧ Below W.heap.size W w' := fun W h => by
    have h2 := eput_any X none 0 0 [] W h.ok (byts_nil W) (fun _ => ⟨rfl, rfl⟩) (by omega) (ht.out.low h.low)
    rw [hXpl, aw_put, List.nil_append] at h2
    refine h2.mono fun e w' hh => ?_
    obtain ⟨v, rfl, hO, hb⟩ := hh
    obtain ⟨so, c, rfl, hy⟩ := hO.form
    exact ⟨⟨so, c, rfl, hy⟩, hb⟩
  have hXv : X.val = .agg #[.int .i64 6, .int .i64 0, .int .i64 3, .int .i64 0, .int .i64 0, .int .i64 0, .int .i64 0, .int .i64 0, .int .i64 0, .slice xo 0 xc] := by rw [hX]
  rw [hXv] at hCk hPu
  have c0 : w7.cell? ⟨eb, 0, none⟩ = some (.int .i64 6) := by rw [blk_cell hA7.box 0, hX]; rfl
  have c1 : w7.cell? ⟨eb, 1, none⟩ = some (.int .i64 0) := by rw [blk_cell hA7.box 1, hX]; rfl
  have c2 : w7.cell? ⟨eb, 2, none⟩ = some (.int .i64 3) := by rw [blk_cell hA7.box 2, hX]; rfl
  have c3 : w7.cell? ⟨eb, 3, none⟩ = some (.int .i64 0) := by rw [blk_cell hA7.box 3, hX]; rfl
  have c4 : w7.cell? ⟨eb, 4, none⟩ = some (.int .i64 0) := by rw [blk_cell hA7.box 4, hX]; rfl
  have c5 : w7.cell? ⟨eb, 5, none⟩ = some (.int .i64 0) := by rw [blk_cell hA7.box 5, hX]; rfl
  have c6 : w7.cell? ⟨eb, 6, none⟩ = some (.int .i64 0) := by rw [blk_cell hA7.box 6, hX]; rfl
  have c7 : w7.cell? ⟨eb, 7, none⟩ = some (.int .i64 0) := by rw [blk_cell hA7.box 7, hX]; rfl
  have c8 : w7.cell? ⟨eb, 8, none⟩ = some (.int .i64 0) := by rw [blk_cell hA7.box 8, hX]; rfl
  have c9 : w7.cell? ⟨eb, 9, none⟩ = some (.slice xo 0 xc) := by rw [blk_cell hA7.box 9, hX]; rfl
  have hSx : ∀ W, AwW w r1 r2 eb r1 r2 X W → W.cell? ⟨eb, 0, none⟩ = some (.int .i64 6) ∧ W.cell? ⟨eb, 1, none⟩ = some (.int .i64 0) ∧ W.cell? ⟨eb, 2, none⟩ = some (.int .i64 3) ∧ W.cell? ⟨eb, 3, none⟩ = some (.int .i64 0) ∧ W.cell? ⟨eb, 4, none⟩ = some (.int .i64 0) ∧ W.cell? ⟨eb, 5, none⟩ = some (.int .i64 0) ∧ W.cell? ⟨eb, 6, none⟩ = some (.int .i64 0) ∧ W.cell? ⟨eb, 7, none⟩ = some (.int .i64 0) ∧ W.cell? ⟨eb, 8, none⟩ = some (.int .i64 0) ∧ W.cell? ⟨eb, 9, none⟩ = some (.slice xo 0 xc) := fun W h => by
    have hb := h.box
    rw [hX] at hb
    exact ⟨blk_cell hb 0, blk_cell hb 1, blk_cell hb 2, blk_cell hb 3, blk_cell hb 4, blk_cell hb 5, blk_cell hb 6, blk_cell hb 7, blk_cell hb 8, blk_cell hb 9⟩
  have hA8 := hA7.go (Below.refl _ _).drew
  have hal7 : Below w7.heap.size w7 (w7.alloc (.cells #[.int .u8 12, .int .u8 6] 5 (0, 0))) := (Below.refl _ _).alloc (Nat.le_refl _) _
  have hA8b := (hA7.go hal7).go (Below.refl _ _).drew
  have hy7 : BytsAt (w7.alloc (.cells #[.int .u8 12, .int .u8 6] 5 (0, 0))).drew (some ⟨w7.heap.size, 0, none⟩) 2 [12, 6] := (byts_new2 w7 12 6).low (Below.refl _ _).drew
  clear c0 c1 c2 c3 c4 c5 c6 c7 c8 c9
  obtain ⟨c0, c1, c2, c3, c4, c5, c6, c7, c8, c9⟩ := hSx _ hA7
  have hcd := conv_byts hy7 2
  obtain ⟨f0, f1, f2, f3, f4, f5, f6, f7, f8, f9⟩ := hSx _ hA8b
  have hcn : ∀ W : World, (convert 67 9 (.slice (some ⟨W.heap.size, 0, none⟩) 2 2)).run Tryd.prog (W.alloc (.cells #[.int .u8 12, .int .u8 6] 5 (0, 0))) = .ok (.string (ofL [12, 6])) (W.alloc (.cells #[.int .u8 12, .int .u8 6] 5 (0, 0))) := fun W => conv_byts (byts_new2 W 12 6) 2
  have hEq : ((ofL [12, 6]).toList == (ofL [12, 6]).toList) = true := str_eq rfl
  replace hYo := Lib.hid hYo; replace hYp := Lib.hid hYp; replace hR7 := Lib.hid hR7; replace hK7 := Lib.hid hK7; replace hxm := Lib.hid hxm; replace hX := Lib.hid hX; replace hXpl := Lib.hid hXpl; replace hr21 := Lib.hid hr21; replace hlr2 := Lib.hid hlr2; replace hebr := Lib.hid hebr; replace hx6 := Lib.hid hx6; replace hA7 := Lib.hid hA7; replace hEn := Lib.hid hEn; replace hEr := Lib.hid hEr; replace hCk := Lib.hid hCk; replace hPu := Lib.hid hPu; replace hSx := Lib.hid hSx; replace hA8 := Lib.hid hA8; replace hal7 := Lib.hid hal7; replace hA8b := Lib.hid hA8b; replace hy7 := Lib.hid hy7
  go_upto_region 5 with fail
  go_region_with
    (first
      | (go_at_call 54
         refine (hEn.out _ hA8.out).mono ?_
         rintro en wz ⟨rfl, rfl⟩)
      | (go_at_call 55
         refine (hEr.out _ hA8.out).mono ?_
         rintro en wz ⟨rfl, rfl⟩)
      | (go_at_call 50
         refine (hCk.out _ hA8.out).mono ?_
         rintro en wz ⟨rfl, hbz⟩
         replace hA8 := Lib.hid (hA8.out.go hbz)
         replace hbz := Lib.hid hbz
         obtain ⟨c0, c1, c2, c3, c4, c5, c6, c7, c8, c9⟩ := hSx.out _ hA8.out)
      | (go_at_call 48
         refine (hPu.out _ hA8.out).mono ?_
         rintro en wz ⟨⟨so48, c48, rfl, hy48⟩, hbz⟩
         replace hA8 := Lib.hid (hA8.out.go hbz)
         replace hbz := Lib.hid hbz
         have hcv := conv_byts hy48 c48
         have hcv2 := conv_byts (hy48.low ((Below.refl _ _).alloc (Nat.le_refl _) (.cells #[.int .u8 12, .int .u8 6] 5 (0, 0)))) c48
         replace hy48 := Lib.hid hy48
         obtain ⟨c0, c1, c2, c3, c4, c5, c6, c7, c8, c9⟩ := hSx.out _ hA8.out
         have hA9 := hA8.out.go ((Below.refl _ _).alloc (Nat.le_refl _) (.cells #[.int .u8 12, .int .u8 6] 5 (0, 0)))
         obtain ⟨e0, e1, e2, e3, e4, e5, e6, e7, e8, e9⟩ := hSx.out _ hA9
         replace hA8 := Lib.hid hA9
         replace hA9 := Lib.hid hA9)
      | (go_at_call 48
         refine (hPu.out _ hA8b.out).mono ?_
         rintro en wz ⟨⟨so48, c48, rfl, hy48⟩, hbz⟩
         replace hA8 := Lib.hid (hA8b.out.go hbz)
         have hcv := conv_byts hy48 c48
         have hcb := conv_byts (hy7.out.low hbz) 2
         replace hy48 := Lib.hid hy48
         replace hbz := Lib.hid hbz
         obtain ⟨c0, c1, c2, c3, c4, c5, c6, c7, c8, c9⟩ := hSx.out _ hA8.out)
      | (go_at_call 90
         refine (client2 _).mono ?_
         rintro en wz ⟨rfl, rfl⟩))
  all_goals
    go_wp2_with fail
    go_ret
    exact ⟨rfl, hA8.out.low⟩
end Go.Proofs.YteoihdkaoipocaaDoor

/- Parts Sst, Spm, Spa, Saw, Rst, Rrw, Rky, Rse, Rsf, Rpp, Ssm, Rne, Rex, Exr, Exw, Sxp, Rrs in one text. Plain theorems: no condition. -/
import Derived.Test.YteoihdkaoipocaaDoorVe
import Derived.Deep.DeepCutAuto
import Derived.ScopeJumps
import Derived.WalkMore
import Derived.Test.YteoihdkaoipocaaDoorVc
import Derived.Deep.RegionHeld3
import Derived.Deep.RegionWith
import Derived.Laws.MakeOwn
/- (*spec.reader).set: a field set. -/
namespace Go.Proofs.YteoihdkaoipocaaDoor
open Go.RowKit Go.Maps Go.Shelf Go.Sort

theorem gb_below {w w' : World} (hb : Below w.heap.size w w') (r : Option Nat) : w.grownBy w' r := ⟨hb.os, hb.tape, hb.output, hb.size, fun i hi _ => hb.block i hi⟩
theorem gb_refl (w : World) (r : Option Nat) : w.grownBy w r := gb_below (Below.refl _ _) r
theorem gb_trans {a b c : World} {r : Option Nat} (h1 : a.grownBy b r) (h2 : b.grownBy c r) : a.grownBy c r :=
  ⟨h2.os.trans h1.os, h2.tape.trans h1.tape, h2.output.trans h1.output, Nat.le_trans h1.size h2.size, fun i hi hn => (h2.block i (Nat.lt_of_lt_of_le hi h1.size) hn).trans (h1.block i hi hn)⟩
theorem gb_set {a w : World} {b o : Nat} (h : a.grownBy w (some b)) (v : Value) : a.grownBy (w.setCell ⟨b, o, none⟩ v) (some b) :=
  ⟨h.os, h.tape, h.output, by simpa [World.setCell] using h.size, fun i hi hn => (Below.heap_setCell w ⟨b, o, none⟩ v i (fun e => hn (by rw [e]))).trans (h.block i hi hn)⟩

/-- a reader's cells -/
abbrev rdC (x : Spv) (mb : Nat) : Array Value := #[.string x.pl.user, .string x.pl.part, .int .i64 x.pl.nodes, .int .i64 x.pl.dem.a, .int .i64 x.pl.dem.b, .int .i64 x.pl.dem.c, .int .i64 x.pl.dem.d, .int .i64 x.pl.wall, .int .i64 x.pl.prio, .int .i64 x.pl.array, .int .i64 x.pl.retries, .bool x.pl.held, .slice x.so x.n x.c, .map (some mb)]
structure RdH (W : World) (rb mb : Nat) (x : Spv) : Prop where
  head : W.heap[rb]? = some (.cells (rdC x mb) 90 (0, 0))
  ok : x.ok W
  off : ∀ b o, x.so = some ⟨b, o, none⟩ → b ≠ rb
theorem RdH.low {w w' : World} {rb mb : Nat} {x : Spv} (h : RdH w rb mb x) (hb : Below w.heap.size w w') : RdH w' rb mb x := ⟨blk_below hb h.head (blk_lt h.head), h.ok.low hb, h.off⟩
/-- what a field's setting leaves -/
def SetPost (rb mb : Nat) (k v : ByteArray) (x : Spv) (w : World) (e : Ending) (w' : World) : Prop :=
  w.grownBy w' (some rb) ∧ ((∃ x', e = .returned (.bool true) ∧ setP k v x.pl = some x'.pl ∧ RdH w' rb mb x' ∧ (x'.so = x.so ∨ ∀ b o, x'.so = some ⟨b, o, none⟩ → w.heap.size ≤ b)) ∨ (e = .returned (.bool false) ∧ setP k v x.pl = none))
theorem ints_keep {w w' : World} {so : Option Addr} {n : Nat} {xs : List Int} (h : IntsAt w so n xs) (hsz : w.heap.size ≤ w'.heap.size) (hb : ∀ b off, so = some ⟨b, off, none⟩ → b < w.heap.size → w'.heap[b]? = w.heap[b]?) : IntsAt w' so n xs :=
  ⟨h.len, h.max, fun i x hx => by
    obtain ⟨b, off, e, hlt, hc⟩ := h.cell i x hx
    exact ⟨b, off, e, by omega, (World.cell?_of_block (a := ⟨b, off + i, none⟩) (w := w) (hb b off e hlt)).trans hc⟩⟩
theorem ints_gb {w w' : World} {rb : Nat} {so : Option Addr} {n : Nat} {xs : List Int} (h : IntsAt w so n xs) (hg : w.grownBy w' (some rb)) (ho : ∀ b o, so = some ⟨b, o, none⟩ → b ≠ rb) : IntsAt w' so n xs :=
  ints_keep h hg.size fun b off e hlt => hg.block b hlt (fun c => ho b off e (by injection c with c))
theorem key_nel {k : ByteArray} {l : List UInt8} (h : k ≠ ofL l) : (k.toList == l) = false := by
  have := str_ne h
  rw [show (ofL l).toList = l from by rw [Lib.toList_data, ofL_toL]] at this
  exact this
set_option maxRecDepth 100000 in
set_option maxHeartbeats 1600000 in
theorem set_user (rb mb : Nat) (v : ByteArray) (x : Spv) (w : World) (h : RdH w rb mb x) (hv : v.size ≤ maxLen) : Calls Tryd.prog 64 #[.pointer (some ⟨rb, 0, none⟩), .string { data := #[117, 115, 101, 114] }, .string v] w (SetPost rb mb kUser v x w) := by
  obtain ⟨⟨user, part, nodes, ⟨da, db, dc, dd⟩, wall, prio, array, retries, held, after⟩, so, n, cp⟩ := x
  have c0 : w.cell? ⟨rb, 0, none⟩ = some (.string user) := blk_cell h.head 0
  have c1 : w.cell? ⟨rb, 1, none⟩ = some (.string part) := blk_cell h.head 1
  have c2 : w.cell? ⟨rb, 2, none⟩ = some (.int .i64 nodes) := blk_cell h.head 2
  have c3 : w.cell? ⟨rb, 3, none⟩ = some (.int .i64 da) := blk_cell h.head 3
  have c4 : w.cell? ⟨rb, 4, none⟩ = some (.int .i64 db) := blk_cell h.head 4
  have c5 : w.cell? ⟨rb, 5, none⟩ = some (.int .i64 dc) := blk_cell h.head 5
  have c6 : w.cell? ⟨rb, 6, none⟩ = some (.int .i64 dd) := blk_cell h.head 6
  have c11 : w.cell? ⟨rb, 11, none⟩ = some (.bool held) := blk_cell h.head 11
  have c12 : w.cell? ⟨rb, 12, none⟩ = some (.slice so n cp) := blk_cell h.head 12
  have fr := blk_free h.head
  obtain ⟨W1, hW1⟩ : ∃ W1, W1 = w.setCell ⟨rb, 0, none⟩ (.string v) := ⟨_, rfl⟩
  have hg1 : w.grownBy W1 (some rb) := by rw [hW1]; exact gb_set (gb_refl w _) _
  have h1 : RdH W1 rb mb ⟨⟨v, part, nodes, ⟨da, db, dc, dd⟩, wall, prio, array, retries, held, after⟩, so, n, cp⟩ :=
    ⟨by rw [hW1]; exact blk_set h.head 0 _, ⟨ints_gb h.ok.after hg1 h.off, h.ok.ple, hv, h.ok.part⟩, h.off⟩
  have hcn := name_any v W1 hv
  obtain ⟨b, hb⟩ : ∃ b, b = isName v := ⟨_, rfl⟩
  rw [← hb] at hcn
  have hz : setP kUser v ⟨user, part, nodes, ⟨da, db, dc, dd⟩, wall, prio, array, retries, held, after⟩ = if b = true then some ⟨v, part, nodes, ⟨da, db, dc, dd⟩, wall, prio, array, retries, held, after⟩ else none := by rw [hb]; rfl
  rw [hW1] at hcn
  have hW1' := Lib.hid hW1
  clear hW1
  replace h := Lib.hid h; replace hg1 := Lib.hid hg1; replace h1 := Lib.hid h1; replace hcn := Lib.hid hcn; replace hb := Lib.hid hb; replace hz := Lib.hid hz; replace hv := Lib.hid hv
  go_enter Tryd.func64, Tryd.ntmps64
  go_wp2_with fail
  refine hcn.out.mono ?_
  rw [← hW1'.out]
  rintro e w2 ⟨rfl, hb2⟩
  have hg2 := gb_trans hg1.out (gb_below hb2 (some rb))
  have h2 := h1.out.low hb2
  clear c0 c1 c2 c3 c4 c5 c6 c11 c12
  replace hb2 := Lib.hid hb2; replace hg2 := Lib.hid hg2; replace h2 := Lib.hid h2
  cases b with
  | false =>
    go_wp2
    go_ret
    exact ⟨hg2.out, .inr ⟨rfl, by rw [hz.out]; rfl⟩⟩
  | true =>
    go_wp2
    go_ret
    exact ⟨hg2.out, .inl ⟨_, rfl, by rw [hz.out]; rfl, h2.out, .inl rfl⟩⟩
set_option maxRecDepth 100000 in
set_option maxHeartbeats 1600000 in
theorem set_part (rb mb : Nat) (v : ByteArray) (x : Spv) (w : World) (h : RdH w rb mb x) (hv : v.size ≤ maxLen) : Calls Tryd.prog 64 #[.pointer (some ⟨rb, 0, none⟩), .string { data := #[112, 97, 114, 116] }, .string v] w (SetPost rb mb kPart v x w) := by
  obtain ⟨⟨user, part, nodes, ⟨da, db, dc, dd⟩, wall, prio, array, retries, held, after⟩, so, n, cp⟩ := x
  have c0 : w.cell? ⟨rb, 0, none⟩ = some (.string user) := blk_cell h.head 0
  have c1 : w.cell? ⟨rb, 1, none⟩ = some (.string part) := blk_cell h.head 1
  have c2 : w.cell? ⟨rb, 2, none⟩ = some (.int .i64 nodes) := blk_cell h.head 2
  have c3 : w.cell? ⟨rb, 3, none⟩ = some (.int .i64 da) := blk_cell h.head 3
  have c4 : w.cell? ⟨rb, 4, none⟩ = some (.int .i64 db) := blk_cell h.head 4
  have c5 : w.cell? ⟨rb, 5, none⟩ = some (.int .i64 dc) := blk_cell h.head 5
  have c6 : w.cell? ⟨rb, 6, none⟩ = some (.int .i64 dd) := blk_cell h.head 6
  have c11 : w.cell? ⟨rb, 11, none⟩ = some (.bool held) := blk_cell h.head 11
  have c12 : w.cell? ⟨rb, 12, none⟩ = some (.slice so n cp) := blk_cell h.head 12
  have fr := blk_free h.head
  obtain ⟨W1, hW1⟩ : ∃ W1, W1 = w.setCell ⟨rb, 1, none⟩ (.string v) := ⟨_, rfl⟩
  have hg1 : w.grownBy W1 (some rb) := by rw [hW1]; exact gb_set (gb_refl w _) _
  have h1 : RdH W1 rb mb ⟨⟨user, v, nodes, ⟨da, db, dc, dd⟩, wall, prio, array, retries, held, after⟩, so, n, cp⟩ :=
    ⟨by rw [hW1]; exact blk_set h.head 1 _, ⟨ints_gb h.ok.after hg1 h.off, h.ok.ple, h.ok.user, hv⟩, h.off⟩
  have hcn := name_any v W1 hv
  obtain ⟨b, hb⟩ : ∃ b, b = isName v := ⟨_, rfl⟩
  rw [← hb] at hcn
  have hz : setP kPart v ⟨user, part, nodes, ⟨da, db, dc, dd⟩, wall, prio, array, retries, held, after⟩ = if b = true then some ⟨user, v, nodes, ⟨da, db, dc, dd⟩, wall, prio, array, retries, held, after⟩ else none := by rw [hb]; rfl
  rw [hW1] at hcn
  have hW1' := Lib.hid hW1
  clear hW1
  replace h := Lib.hid h; replace hg1 := Lib.hid hg1; replace h1 := Lib.hid h1; replace hcn := Lib.hid hcn; replace hb := Lib.hid hb; replace hz := Lib.hid hz; replace hv := Lib.hid hv
  go_enter Tryd.func64, Tryd.ntmps64
  go_wp2_with fail
  refine hcn.out.mono ?_
  rw [← hW1'.out]
  rintro e w2 ⟨rfl, hb2⟩
  have hg2 := gb_trans hg1.out (gb_below hb2 (some rb))
  have h2 := h1.out.low hb2
  clear c0 c1 c2 c3 c4 c5 c6 c11 c12
  replace hb2 := Lib.hid hb2; replace hg2 := Lib.hid hg2; replace h2 := Lib.hid h2
  cases b with
  | false =>
    go_wp2
    go_ret
    exact ⟨hg2.out, .inr ⟨rfl, by rw [hz.out]; rfl⟩⟩
  | true =>
    go_wp2
    go_ret
    exact ⟨hg2.out, .inl ⟨_, rfl, by rw [hz.out]; rfl, h2.out, .inl rfl⟩⟩
set_option maxRecDepth 100000 in
set_option maxHeartbeats 1600000 in
theorem set_held (rb mb : Nat) (v : ByteArray) (x : Spv) (w : World) (h : RdH w rb mb x) : Calls Tryd.prog 64 #[.pointer (some ⟨rb, 0, none⟩), .string { data := #[104, 101, 108, 100] }, .string v] w (SetPost rb mb kHeld v x w) := by
  obtain ⟨⟨user, part, nodes, ⟨da, db, dc, dd⟩, wall, prio, array, retries, held, after⟩, so, n, cp⟩ := x
  have c0 : w.cell? ⟨rb, 0, none⟩ = some (.string user) := blk_cell h.head 0
  have c1 : w.cell? ⟨rb, 1, none⟩ = some (.string part) := blk_cell h.head 1
  have c2 : w.cell? ⟨rb, 2, none⟩ = some (.int .i64 nodes) := blk_cell h.head 2
  have c3 : w.cell? ⟨rb, 3, none⟩ = some (.int .i64 da) := blk_cell h.head 3
  have c4 : w.cell? ⟨rb, 4, none⟩ = some (.int .i64 db) := blk_cell h.head 4
  have c5 : w.cell? ⟨rb, 5, none⟩ = some (.int .i64 dc) := blk_cell h.head 5
  have c6 : w.cell? ⟨rb, 6, none⟩ = some (.int .i64 dd) := blk_cell h.head 6
  have c11 : w.cell? ⟨rb, 11, none⟩ = some (.bool held) := blk_cell h.head 11
  have c12 : w.cell? ⟨rb, 12, none⟩ = some (.slice so n cp) := blk_cell h.head 12
  have fr := blk_free h.head
  have hg1 : w.grownBy (w.setCell ⟨rb, 11, none⟩ (.bool true)) (some rb) := gb_set (gb_refl w _) _
  have h1 : RdH (w.setCell ⟨rb, 11, none⟩ (.bool true)) rb mb ⟨⟨user, part, nodes, ⟨da, db, dc, dd⟩, wall, prio, array, retries, true, after⟩, so, n, cp⟩ :=
    ⟨blk_set h.head 11 _, ⟨ints_gb h.ok.after hg1 h.off, h.ok.ple, h.ok.user, h.ok.part⟩, h.off⟩
  by_cases q : v = { data := #[49] }
  · have hz : setP kHeld v ⟨user, part, nodes, ⟨da, db, dc, dd⟩, wall, prio, array, retries, held, after⟩ = some ⟨user, part, nodes, ⟨da, db, dc, dd⟩, wall, prio, array, retries, true, after⟩ := if_pos q
    subst q
    replace h := Lib.hid h; replace hg1 := Lib.hid hg1; replace h1 := Lib.hid h1; replace hz := Lib.hid hz
    go_enter Tryd.func64, Tryd.ntmps64
    go_wp2
    go_ret
    exact ⟨hg1.out, .inl ⟨_, rfl, hz.out, h1.out, .inl rfl⟩⟩
  · have hz : setP kHeld v ⟨user, part, nodes, ⟨da, db, dc, dd⟩, wall, prio, array, retries, held, after⟩ = none := if_neg q
    have d : (v.toList == [49]) = false := key_nel (l := [49]) q
    replace h := Lib.hid h; replace hg1 := Lib.hid hg1; replace h1 := Lib.hid h1; replace hz := Lib.hid hz; replace q := Lib.hid q
    go_enter Tryd.func64, Tryd.ntmps64
    go_wp2
    go_ret
    exact ⟨hg1.out, .inr ⟨rfl, hz.out⟩⟩
theorem setP_dem (v : ByteArray) (s : Spp) : setP kDemand v s = if (vecOf v).2 = 0 ∧ (vecOf v).1 ≠ V4.zero then some { s with dem := (vecOf v).1 } else none := rfl
set_option maxRecDepth 100000 in
set_option maxHeartbeats 1600000 in
theorem set_demand (rb mb : Nat) (v : ByteArray) (x : Spv) (w : World) (h : RdH w rb mb x) (hm : Mx w) (hv : v.size ≤ 4294967280) : Calls Tryd.prog 64 #[.pointer (some ⟨rb, 0, none⟩), .string { data := #[100, 101, 109, 97, 110, 100] }, .string v] w (SetPost rb mb kDemand v x w) := by
  obtain ⟨⟨user, part, nodes, ⟨da, db, dc, dd⟩, wall, prio, array, retries, held, after⟩, so, n, cp⟩ := x
  have hcv := vread_any v w hm hv
  have hz := setP_dem v ⟨user, part, nodes, ⟨da, db, dc, dd⟩, wall, prio, array, retries, held, after⟩
  obtain ⟨u, hu⟩ : ∃ u, u = (vecOf v).1 := ⟨_, rfl⟩
  obtain ⟨r, hr⟩ : ∃ r, r = (vecOf v).2 := ⟨_, rfl⟩
  rw [← hu, ← hr] at hcv hz
  obtain ⟨ua, ub, uc, ud⟩ := u
  have hE := eq25 ⟨ua, ub, uc, ud⟩ ⟨0, 0, 0, 0⟩
  obtain ⟨q, hq⟩ : ∃ q, q = decide ((⟨ua, ub, uc, ud⟩ : V4) = ⟨0, 0, 0, 0⟩) := ⟨_, rfl⟩
  rw [← hq] at hE
  have hE' := Lib.hid hE
  clear hE
  replace h := Lib.hid h; replace hcv := Lib.hid hcv; replace hz := Lib.hid hz; replace hu := Lib.hid hu; replace hr := Lib.hid hr; replace hq := Lib.hid hq; replace hm := Lib.hid hm; replace hv := Lib.hid hv
  go_enter Tryd.func64, Tryd.ntmps64
  go_wp2_with fail
  refine hcv.out.mono ?_
  rintro e w1 ⟨rfl, hb1⟩
  have h1 := h.out.low hb1
  have c0 : w1.cell? ⟨rb, 0, none⟩ = some (.string user) := blk_cell h1.head 0
  have c1 : w1.cell? ⟨rb, 1, none⟩ = some (.string part) := blk_cell h1.head 1
  have c2 : w1.cell? ⟨rb, 2, none⟩ = some (.int .i64 nodes) := blk_cell h1.head 2
  have c3 : w1.cell? ⟨rb, 3, none⟩ = some (.int .i64 da) := blk_cell h1.head 3
  have c4 : w1.cell? ⟨rb, 4, none⟩ = some (.int .i64 db) := blk_cell h1.head 4
  have c5 : w1.cell? ⟨rb, 5, none⟩ = some (.int .i64 dc) := blk_cell h1.head 5
  have c6 : w1.cell? ⟨rb, 6, none⟩ = some (.int .i64 dd) := blk_cell h1.head 6
  have c11 : w1.cell? ⟨rb, 11, none⟩ = some (.bool held) := blk_cell h1.head 11
  have c12 : w1.cell? ⟨rb, 12, none⟩ = some (.slice so n cp) := blk_cell h1.head 12
  have fr := blk_free h1.head
  have hg9 : w.grownBy ((((w1.setCell ⟨rb, 3, none⟩ (.int .i64 ua)).setCell ⟨rb, 4, none⟩ (.int .i64 ub)).setCell ⟨rb, 5, none⟩ (.int .i64 uc)).setCell ⟨rb, 6, none⟩ (.int .i64 ud)) (some rb) :=
    gb_trans (gb_below hb1 (some rb)) (gb_set (gb_set (gb_set (gb_set (gb_refl w1 _) _) _) _) _)
  have h9 : RdH ((((w1.setCell ⟨rb, 3, none⟩ (.int .i64 ua)).setCell ⟨rb, 4, none⟩ (.int .i64 ub)).setCell ⟨rb, 5, none⟩ (.int .i64 uc)).setCell ⟨rb, 6, none⟩ (.int .i64 ud)) rb mb ⟨⟨user, part, nodes, ⟨ua, ub, uc, ud⟩, wall, prio, array, retries, held, after⟩, so, n, cp⟩ :=
    ⟨blk_set (blk_set (blk_set (blk_set h1.head 3 _) 4 _) 5 _) 6 _, ⟨ints_gb h1.ok.after (gb_set (gb_set (gb_set (gb_set (gb_refl w1 (some rb)) _) _) _) _) h1.off, h1.ok.ple, h1.ok.user, h1.ok.part⟩, h1.off⟩
  replace hb1 := Lib.hid hb1; replace h1 := Lib.hid h1; replace hg9 := Lib.hid hg9; replace h9 := Lib.hid h9
  by_cases r0 : r = 0
  · have d : (r == 0) = true := by simp [r0]
    have hE := hE'.out
    cases q with
    | true =>
      have hzz : setP kDemand v ⟨user, part, nodes, ⟨da, db, dc, dd⟩, wall, prio, array, retries, held, after⟩ = none := by
        rw [hz.out, if_neg]
        intro c
        exact c.2 (of_decide_eq_true hq.out.symm)
      replace hzz := Lib.hid hzz; replace r0 := Lib.hid r0
      go_wp2
      go_ret
      exact ⟨hg9.out, .inr ⟨rfl, hzz.out⟩⟩
    | false =>
      have hzz : setP kDemand v ⟨user, part, nodes, ⟨da, db, dc, dd⟩, wall, prio, array, retries, held, after⟩ = some ⟨user, part, nodes, ⟨ua, ub, uc, ud⟩, wall, prio, array, retries, held, after⟩ := by
        rw [hz.out, if_pos ⟨r0, of_decide_eq_false hq.out.symm⟩]
      replace hzz := Lib.hid hzz; replace r0 := Lib.hid r0
      go_wp2
      go_ret
      exact ⟨hg9.out, .inl ⟨_, rfl, hzz.out, h9.out, .inl rfl⟩⟩
  · have d : (r == 0) = false := by simp [r0]
    have hzz : setP kDemand v ⟨user, part, nodes, ⟨da, db, dc, dd⟩, wall, prio, array, retries, held, after⟩ = none := by
      rw [hz.out, if_neg]
      intro c
      exact r0 c.1
    replace hzz := Lib.hid hzz; replace r0 := Lib.hid r0
    go_wp2
    go_ret
    exact ⟨hg9.out, .inr ⟨rfl, hzz.out⟩⟩
theorem rowN_yes' {v : ByteArray} {l : List Int} {b : Bool} (h : manyN (cutAll 44 v.data.toList) = some l) (hb : b = waitsL l) : rowN v = if b = true then some l else none := by unfold rowN; rw [h, hb]
theorem setP_aft (v : ByteArray) (s : Spp) : setP kAfter v s = (rowN v).map fun l => { s with after := l } := rfl
set_option maxRecDepth 100000 in
set_option maxHeartbeats 1600000 in
theorem set_after (rb mb : Nat) (v : ByteArray) (x : Spv) (w : World) (h : RdH w rb mb x) (hm : Mx w) (hv : v.size ≤ 4294967200) : Calls Tryd.prog 64 #[.pointer (some ⟨rb, 0, none⟩), .string { data := #[97, 102, 116, 101, 114] }, .string v] w (SetPost rb mb kAfter v x w) := by
  obtain ⟨⟨user, part, nodes, ⟨da, db, dc, dd⟩, wall, prio, array, retries, held, after⟩, so, n, cp⟩ := x
  have hcv := nums_any v w hm hv
  have hz := setP_aft v ⟨user, part, nodes, ⟨da, db, dc, dd⟩, wall, prio, array, retries, held, after⟩
  replace h := Lib.hid h; replace hcv := Lib.hid hcv; replace hz := Lib.hid hz; replace hm := Lib.hid hm; replace hv := Lib.hid hv
  go_enter Tryd.func64, Tryd.ntmps64
  go_wp2_with fail
  refine hcv.out.mono ?_
  rintro e w1 ⟨hb1, ⟨hno, rfl⟩ | ⟨l, so2, n2, cp2, hl, rfl, hnc, hi, hn0, hfr⟩⟩
  · have h1 := h.out.low hb1
    have c0 : w1.cell? ⟨rb, 0, none⟩ = some (.string user) := blk_cell h1.head 0
    have c1 : w1.cell? ⟨rb, 1, none⟩ = some (.string part) := blk_cell h1.head 1
    have c2 : w1.cell? ⟨rb, 2, none⟩ = some (.int .i64 nodes) := blk_cell h1.head 2
    have c3 : w1.cell? ⟨rb, 3, none⟩ = some (.int .i64 da) := blk_cell h1.head 3
    have c4 : w1.cell? ⟨rb, 4, none⟩ = some (.int .i64 db) := blk_cell h1.head 4
    have c5 : w1.cell? ⟨rb, 5, none⟩ = some (.int .i64 dc) := blk_cell h1.head 5
    have c6 : w1.cell? ⟨rb, 6, none⟩ = some (.int .i64 dd) := blk_cell h1.head 6
    have c11 : w1.cell? ⟨rb, 11, none⟩ = some (.bool held) := blk_cell h1.head 11
    have c12 : w1.cell? ⟨rb, 12, none⟩ = some (.slice so n cp) := blk_cell h1.head 12
    have fr := blk_free h1.head
    have hg9 : w.grownBy (w1.setCell ⟨rb, 12, none⟩ (.slice none 0 0)) (some rb) := gb_trans (gb_below hb1 (some rb)) (gb_set (gb_refl w1 _) _)
    have hzz : setP kAfter v ⟨user, part, nodes, ⟨da, db, dc, dd⟩, wall, prio, array, retries, held, after⟩ = none := by
      rw [hz.out]; unfold rowN; rw [hno]; rfl
    replace hb1 := Lib.hid hb1; replace h1 := Lib.hid h1; replace hg9 := Lib.hid hg9; replace hno := Lib.hid hno; replace hzz := Lib.hid hzz
    go_wp2
    go_ret
    exact ⟨hg9.out, .inr ⟨rfl, hzz.out⟩⟩
  · have h1 := h.out.low hb1
    have c0 : w1.cell? ⟨rb, 0, none⟩ = some (.string user) := blk_cell h1.head 0
    have c1 : w1.cell? ⟨rb, 1, none⟩ = some (.string part) := blk_cell h1.head 1
    have c2 : w1.cell? ⟨rb, 2, none⟩ = some (.int .i64 nodes) := blk_cell h1.head 2
    have c3 : w1.cell? ⟨rb, 3, none⟩ = some (.int .i64 da) := blk_cell h1.head 3
    have c4 : w1.cell? ⟨rb, 4, none⟩ = some (.int .i64 db) := blk_cell h1.head 4
    have c5 : w1.cell? ⟨rb, 5, none⟩ = some (.int .i64 dc) := blk_cell h1.head 5
    have c6 : w1.cell? ⟨rb, 6, none⟩ = some (.int .i64 dd) := blk_cell h1.head 6
    have c11 : w1.cell? ⟨rb, 11, none⟩ = some (.bool held) := blk_cell h1.head 11
    have c12 : w1.cell? ⟨rb, 12, none⟩ = some (.slice so n cp) := blk_cell h1.head 12
    have fr := blk_free h1.head
    have hg9 : w.grownBy (w1.setCell ⟨rb, 12, none⟩ (.slice so2 n2 cp2)) (some rb) := gb_trans (gb_below hb1 (some rb)) (gb_set (gb_refl w1 _) _)
    have hlt := blk_lt h1.head
    have hoff : ∀ b o, so2 = some ⟨b, o, none⟩ → b ≠ rb := fun b o e c => by
      have := hfr b o e
      have := blk_lt h.out.head
      omega
    have hi9 := ints_gb hi (gb_set (gb_refl w1 (some rb)) (o := 12) (.slice so2 n2 cp2)) hoff
    have h9 : RdH (w1.setCell ⟨rb, 12, none⟩ (.slice so2 n2 cp2)) rb mb ⟨⟨user, part, nodes, ⟨da, db, dc, dd⟩, wall, prio, array, retries, held, l⟩, so2, n2, cp2⟩ :=
      ⟨blk_set h1.head 12 _, ⟨hi9, hnc, h1.ok.user, h1.ok.part⟩, hoff⟩
    have hcw := waits_any so2 n2 cp2 l _ hi9 hnc
    obtain ⟨b, hb⟩ : ∃ b, b = waitsL l := ⟨_, rfl⟩
    rw [← hb] at hcw
    have hzz : setP kAfter v ⟨user, part, nodes, ⟨da, db, dc, dd⟩, wall, prio, array, retries, held, after⟩ = if b = true then some ⟨user, part, nodes, ⟨da, db, dc, dd⟩, wall, prio, array, retries, held, l⟩ else none := by
      rw [hz.out, rowN_yes' hl hb]; cases b <;> rfl
    have d : decide ((0 : Int) < n2) = true := decide_eq_true (by omega)
    have d' : decide (0 < n2) = true := decide_eq_true hn0
    replace hb1 := Lib.hid hb1; replace h1 := Lib.hid h1; replace hg9 := Lib.hid hg9; replace h9 := Lib.hid h9; replace hl := Lib.hid hl; replace hnc := Lib.hid hnc; replace hi := Lib.hid hi; replace hi9 := Lib.hid hi9; replace hoff := Lib.hid hoff; replace hfr := Lib.hid hfr; replace hcw := Lib.hid hcw; replace hb := Lib.hid hb; replace hzz := Lib.hid hzz; replace hlt := Lib.hid hlt
    go_wp2_with fail
    refine hcw.out.mono ?_
    rintro e w5 ⟨rfl, rfl⟩
    cases b with
    | false =>
      go_wp2
      go_ret
      exact ⟨hg9.out, .inr ⟨rfl, by rw [hzz.out]; rfl⟩⟩
    | true =>
      go_wp2
      go_ret
      exact ⟨hg9.out, .inl ⟨_, rfl, by rw [hzz.out]; rfl, h9.out, .inr hfr.out⟩⟩
set_option maxRecDepth 100000 in
set_option maxHeartbeats 1600000 in
theorem set_nodes (rb mb : Nat) (v : ByteArray) (x : Spv) (w : World) (h : RdH w rb mb x) (hv : v.size ≤ maxLen) : Calls Tryd.prog 64 #[.pointer (some ⟨rb, 0, none⟩), .string { data := #[110, 111, 100, 101, 115] }, .string v] w (SetPost rb mb kNodes v x w) := by
  obtain ⟨⟨user, part, nodes, ⟨da, db, dc, dd⟩, wall, prio, array, retries, held, after⟩, so, n, cp⟩ := x
  have hcw := whole_any rb 2 { data := #[110, 111, 100, 101, 115] } v 1 16 w bound_nodes (field_nodes rb) hv h.head nodes rfl
  have hz : setP kNodes v ⟨user, part, nodes, ⟨da, db, dc, dd⟩, wall, prio, array, retries, held, after⟩ = (fieldN v 1 16).map fun m => ⟨user, part, m, ⟨da, db, dc, dd⟩, wall, prio, array, retries, held, after⟩ := rfl
  replace h := Lib.hid h; replace hcw := Lib.hid hcw; replace hz := Lib.hid hz; replace hv := Lib.hid hv
  go_enter Tryd.func64, Tryd.ntmps64
  go_wp2_with fail
  refine hcw.out.mono ?_
  rintro e w1 (⟨m, w2, rfl, hf, hb2, rfl⟩ | ⟨rfl, hf, hb2⟩)
  · have hg9 : w.grownBy (w2.setCell ⟨rb, 2, none⟩ (.int .i64 m)) (some rb) := gb_trans (gb_below hb2 (some rb)) (gb_set (gb_refl w2 _) _)
    have h2 := h.out.low hb2
    have h9 : RdH (w2.setCell ⟨rb, 2, none⟩ (.int .i64 m)) rb mb ⟨⟨user, part, m, ⟨da, db, dc, dd⟩, wall, prio, array, retries, held, after⟩, so, n, cp⟩ :=
      ⟨blk_set h2.head 2 _, ⟨ints_gb h2.ok.after (gb_set (gb_refl w2 (some rb)) _) h2.off, h2.ok.ple, h2.ok.user, h2.ok.part⟩, h2.off⟩
    replace hf := Lib.hid hf; replace hb2 := Lib.hid hb2; replace hg9 := Lib.hid hg9; replace h2 := Lib.hid h2; replace h9 := Lib.hid h9
    go_wp2
    go_ret
    exact ⟨hg9.out, .inl ⟨_, rfl, by rw [hz.out, hf.out]; rfl, h9.out, .inl rfl⟩⟩
  · have hg9 : w.grownBy w1 (some rb) := gb_below hb2 (some rb)
    replace hf := Lib.hid hf; replace hb2 := Lib.hid hb2; replace hg9 := Lib.hid hg9
    go_wp2
    go_ret
    exact ⟨hg9.out, .inr ⟨rfl, by rw [hz.out, hf.out]; rfl⟩⟩
set_option maxRecDepth 100000 in
set_option maxHeartbeats 1600000 in
theorem set_wall (rb mb : Nat) (v : ByteArray) (x : Spv) (w : World) (h : RdH w rb mb x) (hv : v.size ≤ maxLen) : Calls Tryd.prog 64 #[.pointer (some ⟨rb, 0, none⟩), .string { data := #[119, 97, 108, 108] }, .string v] w (SetPost rb mb kWall v x w) := by
  obtain ⟨⟨user, part, nodes, ⟨da, db, dc, dd⟩, wall, prio, array, retries, held, after⟩, so, n, cp⟩ := x
  have hcw := whole_any rb 7 { data := #[119, 97, 108, 108] } v 1 1000 w bound_wall (field_wall rb) hv h.head wall rfl
  have hz : setP kWall v ⟨user, part, nodes, ⟨da, db, dc, dd⟩, wall, prio, array, retries, held, after⟩ = (fieldN v 1 1000).map fun m => ⟨user, part, nodes, ⟨da, db, dc, dd⟩, m, prio, array, retries, held, after⟩ := rfl
  replace h := Lib.hid h; replace hcw := Lib.hid hcw; replace hz := Lib.hid hz; replace hv := Lib.hid hv
  go_enter Tryd.func64, Tryd.ntmps64
  go_wp2_with fail
  refine hcw.out.mono ?_
  rintro e w1 (⟨m, w2, rfl, hf, hb2, rfl⟩ | ⟨rfl, hf, hb2⟩)
  · have hg9 : w.grownBy (w2.setCell ⟨rb, 7, none⟩ (.int .i64 m)) (some rb) := gb_trans (gb_below hb2 (some rb)) (gb_set (gb_refl w2 _) _)
    have h2 := h.out.low hb2
    have h9 : RdH (w2.setCell ⟨rb, 7, none⟩ (.int .i64 m)) rb mb ⟨⟨user, part, nodes, ⟨da, db, dc, dd⟩, m, prio, array, retries, held, after⟩, so, n, cp⟩ :=
      ⟨blk_set h2.head 7 _, ⟨ints_gb h2.ok.after (gb_set (gb_refl w2 (some rb)) _) h2.off, h2.ok.ple, h2.ok.user, h2.ok.part⟩, h2.off⟩
    replace hf := Lib.hid hf; replace hb2 := Lib.hid hb2; replace hg9 := Lib.hid hg9; replace h2 := Lib.hid h2; replace h9 := Lib.hid h9
    go_wp2
    go_ret
    exact ⟨hg9.out, .inl ⟨_, rfl, by rw [hz.out, hf.out]; rfl, h9.out, .inl rfl⟩⟩
  · have hg9 : w.grownBy w1 (some rb) := gb_below hb2 (some rb)
    replace hf := Lib.hid hf; replace hb2 := Lib.hid hb2; replace hg9 := Lib.hid hg9
    go_wp2
    go_ret
    exact ⟨hg9.out, .inr ⟨rfl, by rw [hz.out, hf.out]; rfl⟩⟩
set_option maxRecDepth 100000 in
set_option maxHeartbeats 1600000 in
theorem set_array (rb mb : Nat) (v : ByteArray) (x : Spv) (w : World) (h : RdH w rb mb x) (hv : v.size ≤ maxLen) : Calls Tryd.prog 64 #[.pointer (some ⟨rb, 0, none⟩), .string { data := #[97, 114, 114, 97, 121] }, .string v] w (SetPost rb mb kArray v x w) := by
  obtain ⟨⟨user, part, nodes, ⟨da, db, dc, dd⟩, wall, prio, array, retries, held, after⟩, so, n, cp⟩ := x
  have hcw := whole_any rb 9 { data := #[97, 114, 114, 97, 121] } v 1 20 w bound_array (field_array rb) hv h.head array rfl
  have hz : setP kArray v ⟨user, part, nodes, ⟨da, db, dc, dd⟩, wall, prio, array, retries, held, after⟩ = (fieldN v 1 20).map fun m => ⟨user, part, nodes, ⟨da, db, dc, dd⟩, wall, prio, m, retries, held, after⟩ := rfl
  replace h := Lib.hid h; replace hcw := Lib.hid hcw; replace hz := Lib.hid hz; replace hv := Lib.hid hv
  go_enter Tryd.func64, Tryd.ntmps64
  go_wp2_with fail
  refine hcw.out.mono ?_
  rintro e w1 (⟨m, w2, rfl, hf, hb2, rfl⟩ | ⟨rfl, hf, hb2⟩)
  · have hg9 : w.grownBy (w2.setCell ⟨rb, 9, none⟩ (.int .i64 m)) (some rb) := gb_trans (gb_below hb2 (some rb)) (gb_set (gb_refl w2 _) _)
    have h2 := h.out.low hb2
    have h9 : RdH (w2.setCell ⟨rb, 9, none⟩ (.int .i64 m)) rb mb ⟨⟨user, part, nodes, ⟨da, db, dc, dd⟩, wall, prio, m, retries, held, after⟩, so, n, cp⟩ :=
      ⟨blk_set h2.head 9 _, ⟨ints_gb h2.ok.after (gb_set (gb_refl w2 (some rb)) _) h2.off, h2.ok.ple, h2.ok.user, h2.ok.part⟩, h2.off⟩
    replace hf := Lib.hid hf; replace hb2 := Lib.hid hb2; replace hg9 := Lib.hid hg9; replace h2 := Lib.hid h2; replace h9 := Lib.hid h9
    go_wp2
    go_ret
    exact ⟨hg9.out, .inl ⟨_, rfl, by rw [hz.out, hf.out]; rfl, h9.out, .inl rfl⟩⟩
  · have hg9 : w.grownBy w1 (some rb) := gb_below hb2 (some rb)
    replace hf := Lib.hid hf; replace hb2 := Lib.hid hb2; replace hg9 := Lib.hid hg9
    go_wp2
    go_ret
    exact ⟨hg9.out, .inr ⟨rfl, by rw [hz.out, hf.out]; rfl⟩⟩
set_option maxRecDepth 100000 in
set_option maxHeartbeats 1600000 in
theorem set_prio (rb mb : Nat) (v : ByteArray) (x : Spv) (w : World) (h : RdH w rb mb x) (hv : v.size ≤ maxLen) : Calls Tryd.prog 64 #[.pointer (some ⟨rb, 0, none⟩), .string { data := #[112, 114, 105, 111] }, .string v] w (SetPost rb mb kPrio v x w) := by
  obtain ⟨⟨user, part, nodes, ⟨da, db, dc, dd⟩, wall, prio, array, retries, held, after⟩, so, n, cp⟩ := x
  have hcw := whole_any rb 8 { data := #[112, 114, 105, 111] } v 0 100 w bound_prio (field_prio rb) hv h.head prio rfl
  have hz : setP kPrio v ⟨user, part, nodes, ⟨da, db, dc, dd⟩, wall, prio, array, retries, held, after⟩ = (fieldN v 0 100).map fun m => ⟨user, part, nodes, ⟨da, db, dc, dd⟩, wall, m, array, retries, held, after⟩ := rfl
  replace h := Lib.hid h; replace hcw := Lib.hid hcw; replace hz := Lib.hid hz; replace hv := Lib.hid hv
  go_enter Tryd.func64, Tryd.ntmps64
  go_wp2_with fail
  refine hcw.out.mono ?_
  rintro e w1 (⟨m, w2, rfl, hf, hb2, rfl⟩ | ⟨rfl, hf, hb2⟩)
  · have hg9 : w.grownBy (w2.setCell ⟨rb, 8, none⟩ (.int .i64 m)) (some rb) := gb_trans (gb_below hb2 (some rb)) (gb_set (gb_refl w2 _) _)
    have h2 := h.out.low hb2
    have h9 : RdH (w2.setCell ⟨rb, 8, none⟩ (.int .i64 m)) rb mb ⟨⟨user, part, nodes, ⟨da, db, dc, dd⟩, wall, m, array, retries, held, after⟩, so, n, cp⟩ :=
      ⟨blk_set h2.head 8 _, ⟨ints_gb h2.ok.after (gb_set (gb_refl w2 (some rb)) _) h2.off, h2.ok.ple, h2.ok.user, h2.ok.part⟩, h2.off⟩
    replace hf := Lib.hid hf; replace hb2 := Lib.hid hb2; replace hg9 := Lib.hid hg9; replace h2 := Lib.hid h2; replace h9 := Lib.hid h9
    go_wp2
    go_ret
    exact ⟨hg9.out, .inl ⟨_, rfl, by rw [hz.out, hf.out]; rfl, h9.out, .inl rfl⟩⟩
  · have hg9 : w.grownBy w1 (some rb) := gb_below hb2 (some rb)
    replace hf := Lib.hid hf; replace hb2 := Lib.hid hb2; replace hg9 := Lib.hid hg9
    go_wp2
    go_ret
    exact ⟨hg9.out, .inr ⟨rfl, by rw [hz.out, hf.out]; rfl⟩⟩
set_option maxRecDepth 100000 in
set_option maxHeartbeats 1600000 in
theorem set_retries (rb mb : Nat) (v : ByteArray) (x : Spv) (w : World) (h : RdH w rb mb x) (hv : v.size ≤ maxLen) : Calls Tryd.prog 64 #[.pointer (some ⟨rb, 0, none⟩), .string { data := #[114, 101, 116, 114, 105, 101, 115] }, .string v] w (SetPost rb mb kRetries v x w) := by
  obtain ⟨⟨user, part, nodes, ⟨da, db, dc, dd⟩, wall, prio, array, retries, held, after⟩, so, n, cp⟩ := x
  have hcw := whole_any rb 10 { data := #[114, 101, 116, 114, 105, 101, 115] } v 0 5 w bound_retries (field_retries rb) hv h.head retries rfl
  have hz : setP kRetries v ⟨user, part, nodes, ⟨da, db, dc, dd⟩, wall, prio, array, retries, held, after⟩ = (fieldN v 0 5).map fun m => ⟨user, part, nodes, ⟨da, db, dc, dd⟩, wall, prio, array, m, held, after⟩ := rfl
  replace h := Lib.hid h; replace hcw := Lib.hid hcw; replace hz := Lib.hid hz; replace hv := Lib.hid hv
  go_enter Tryd.func64, Tryd.ntmps64
  go_wp2_with fail
  refine hcw.out.mono ?_
  rintro e w1 (⟨m, w2, rfl, hf, hb2, rfl⟩ | ⟨rfl, hf, hb2⟩)
  · have hg9 : w.grownBy (w2.setCell ⟨rb, 10, none⟩ (.int .i64 m)) (some rb) := gb_trans (gb_below hb2 (some rb)) (gb_set (gb_refl w2 _) _)
    have h2 := h.out.low hb2
    have h9 : RdH (w2.setCell ⟨rb, 10, none⟩ (.int .i64 m)) rb mb ⟨⟨user, part, nodes, ⟨da, db, dc, dd⟩, wall, prio, array, m, held, after⟩, so, n, cp⟩ :=
      ⟨blk_set h2.head 10 _, ⟨ints_gb h2.ok.after (gb_set (gb_refl w2 (some rb)) _) h2.off, h2.ok.ple, h2.ok.user, h2.ok.part⟩, h2.off⟩
    replace hf := Lib.hid hf; replace hb2 := Lib.hid hb2; replace hg9 := Lib.hid hg9; replace h2 := Lib.hid h2; replace h9 := Lib.hid h9
    go_wp2
    go_ret
    exact ⟨hg9.out, .inl ⟨_, rfl, by rw [hz.out, hf.out]; rfl, h9.out, .inl rfl⟩⟩
  · have hg9 : w.grownBy w1 (some rb) := gb_below hb2 (some rb)
    replace hf := Lib.hid hf; replace hb2 := Lib.hid hb2; replace hg9 := Lib.hid hg9
    go_wp2
    go_ret
    exact ⟨hg9.out, .inr ⟨rfl, by rw [hz.out, hf.out]; rfl⟩⟩
set_option maxRecDepth 100000 in
set_option maxHeartbeats 1600000 in
theorem set_else (rb mb : Nat) (k v : ByteArray) (x : Spv) (w : World) (hk : k ∉ keysL) : Calls Tryd.prog 64 #[.pointer (some ⟨rb, 0, none⟩), .string k, .string v] w (SetPost rb mb k v x w) := by
  simp only [keysL, List.mem_cons, List.not_mem_nil, or_false, not_or] at hk
  obtain ⟨n1, n2, n3, n4, n5, n6, n7, n8, n9, n10⟩ := hk
  have d1 : (k.toList == [117, 115, 101, 114]) = false := key_nel n1
  have d2 : (k.toList == [112, 97, 114, 116]) = false := key_nel n2
  have d3 : (k.toList == [110, 111, 100, 101, 115]) = false := key_nel n3
  have d4 : (k.toList == [100, 101, 109, 97, 110, 100]) = false := key_nel n4
  have d5 : (k.toList == [119, 97, 108, 108]) = false := key_nel n5
  have d6 : (k.toList == [112, 114, 105, 111]) = false := key_nel n6
  have d7 : (k.toList == [97, 114, 114, 97, 121]) = false := key_nel n7
  have d8 : (k.toList == [114, 101, 116, 114, 105, 101, 115]) = false := key_nel n8
  have d9 : (k.toList == [104, 101, 108, 100]) = false := key_nel n9
  have d10 : (k.toList == [97, 102, 116, 101, 114]) = false := key_nel n10
  have hz : setP k v x.pl = none := by
    unfold setP
    rw [if_neg n1, if_neg n2, if_neg n3, if_neg n4, if_neg n5, if_neg n6, if_neg n7, if_neg n8, if_neg n9, if_neg n10]
  have hg : w.grownBy w (some rb) := gb_refl w _
  replace n1 := Lib.hid n1; replace n2 := Lib.hid n2; replace n3 := Lib.hid n3; replace n4 := Lib.hid n4; replace n5 := Lib.hid n5; replace n6 := Lib.hid n6; replace n7 := Lib.hid n7; replace n8 := Lib.hid n8; replace n9 := Lib.hid n9; replace n10 := Lib.hid n10; replace hz := Lib.hid hz; replace hg := Lib.hid hg
  go_enter Tryd.func64, Tryd.ntmps64
  go_wp2
  go_ret
  exact ⟨hg.out, .inr ⟨rfl, hz.out⟩⟩
theorem set_any (rb mb : Nat) (k v : ByteArray) (x : Spv) (w : World) (h : RdH w rb mb x) (hm : Mx w) (hv : v.size ≤ 4294967200) : Calls Tryd.prog 64 #[.pointer (some ⟨rb, 0, none⟩), .string k, .string v] w (SetPost rb mb k v x w) := by
  have hv2 : v.size ≤ maxLen := by have : maxLen = 9223372036854775807 := rfl; omega
  by_cases hk : k ∈ keysL
  · simp only [keysL, List.mem_cons, List.not_mem_nil, or_false] at hk
    rcases hk with rfl | rfl | rfl | rfl | rfl | rfl | rfl | rfl | rfl | rfl
    · exact set_user rb mb v x w h hv2
    · exact set_part rb mb v x w h hv2
    · exact set_nodes rb mb v x w h hv2
    · exact set_demand rb mb v x w h hm (by omega)
    · exact set_wall rb mb v x w h hv2
    · exact set_prio rb mb v x w h hv2
    · exact set_array rb mb v x w h hv2
    · exact set_retries rb mb v x w h hv2
    · exact set_held rb mb v x w h
    · exact set_after rb mb v x w h hm hv
  · exact set_else rb mb k v x w hk
end Go.Proofs.YteoihdkaoipocaaDoor

/- spec.Parse's parts: its map of keys met, its words cut. -/
namespace Go.Proofs.YteoihdkaoipocaaDoor
open Go.RowKit Go.Maps Go.Shelf Go.Sort

def mapK (ns : List ByteArray) : DU := (ns.zipIdx 1).foldl (fun m p => m.put (keyB p.1) (.lit (.int .i64 (p.2 : Int)))) (.map [])
theorem mapK_snoc (ns : List ByteArray) (x : ByteArray) : mapK (ns ++ [x]) = (mapK ns).put (keyB x) (.lit (.int .i64 ((ns.length : Int) + 1))) := by
  unfold mapK
  rw [List.zipIdx_append, List.foldl_append]
  simp [Int.add_comm]
theorem mapK_isMap (ns : List ByteArray) : IsMap (mapK ns) := by
  induction ns using rev_ind with
  | h0 => exact isMap_empty
  | h1 l x ih => rw [mapK_snoc]; exact ih.put _ _
/-- what a key's lookup tells -/
theorem mapK_at (ns : List ByteArray) (s : ByteArray) : ∃ c : Int, (mapK ns).atKey (keyB s) (.lit (.int .i64 0)) = .lit (.int .i64 c) ∧ (memB ns s = true → 1 ≤ c) ∧ (memB ns s = false → c = 0) := by
  induction ns using rev_ind with
  | h0 => exact ⟨0, rfl, nofun, fun _ => rfl⟩
  | h1 l x ih =>
    rw [mapK_snoc]
    by_cases e : s = x
    · subst e
      refine ⟨_, by rw [atKey_put_same (mapK_isMap l) (keyB_lit _)], fun _ => by omega, fun h => ?_⟩
      rw [Bool.eq_false_iff] at h
      exact absurd (memB_iff.2 (by simp)) h
    · obtain ⟨c, h1, h2, h3⟩ := ih
      refine ⟨c, by rw [atKey_put_other (fun c => e (keyB_inj c)), h1], fun h => h2 ?_, fun h => h3 ?_⟩
      · rw [memB_iff] at h ⊢; exact mem_snoc h (fun c => e c.symm)
      · rw [← h, snoc_not e]
abbrev OwnK (W : World) (mb : Nat) (met : List ByteArray) : Prop := W.ownsMap Tryd.prog 9 (plainElem (H := Unit) Tryd.prog 3) mb met.length (mapK met)
theorem met_look {w : World} {mb : Nat} {met : List ByteArray} (h : OwnK w mb met) (s : ByteArray) (hs : s.size ≤ maxLen) :
    ∃ c, (Instr.lookup 88 (.map (some mb)) (.string s) false).run Tryd.prog w = .ok (.int .i64 c) w ∧ (memB met s = true → 1 ≤ c) ∧ (memB met s = false → c = 0) := by
  obtain ⟨c, hrun, hat, _⟩ := World.ownsMap.lookup_int h (string_keyed Tryd.underlying9) Tryd.underlying88 Tryd.underlying3 (zero3 w) (WideMaps.keyOf_string_mk Tryd.underlying9 hs)
  obtain ⟨c', h1, h2, h3⟩ := mapK_at met s
  have e : c = c' := by
    have h := DataW.lit.inj (hat.symm.trans h1)
    exact (Lit.int.inj h).2
  exact ⟨c, hrun, by rw [e]; exact h2, by rw [e]; exact h3⟩

/-- a word's cut at its first sign -/
theorem cutk_call (s : ByteArray) (w : World) (h : Mx w) (hs : s.size < 4294967281) :
    Calls Tryd.prog 63 #[.string s, .string { data := #[61] }] w fun e w' => (∃ k v b, e = .returned (.tuple #[.string k, .string v, .bool b]) ∧ keyVal s = (if b = true then some (k, v) else none) ∧ k.size ≤ s.size ∧ v.size ≤ s.size) ∧ ∃ n, w' = w.drewN n := by
  refine (cut_call s 61 w h hs).mono fun e w' ⟨⟨a, r, b, he, hc⟩, hn⟩ => ?_
  refine ⟨⟨ofL a, ofL r, b, he, ?_⟩, hn⟩
  rcases hc with ⟨rfl, rfl, rfl, hx⟩ | ⟨rfl, hl, hx⟩
  · refine ⟨?_, by rw [ofL_size, toL_len]; exact Nat.le_refl _, Nat.zero_le _⟩
    unfold keyVal
    rw [cut_no hx]
  · have hlen : s.size = a.length + (r.length + 1) := by rw [← toL_len, hl]; simp
    refine ⟨?_, by rw [ofL_size]; omega, by rw [ofL_size]; omega⟩
    unfold keyVal
    rw [hl, cut_hit hx]

/-- what stands while a text is parsed -/
structure ParW (w : World) (rb mb wb : Nat) (ws met : List ByteArray) (x : Spv) (W : World) : Prop where
  low : Below w.heap.size w W
  res : W.heap[w.heap.size]? = some (.cells Spv.zero.cells 28 (0, 0))
  rd : RdH W rb mb x
  map : OwnK W mb met
  row : StrsAt W (some ⟨wb, 0, none⟩) ws.length ws
  mx : Mx W
  rlt : w.heap.size < rb
  mlt : w.heap.size < mb
  wlt : w.heap.size < wb
  rm : rb ≠ mb
  rw : rb ≠ wb
  mw : mb ≠ wb
  xo : ∀ b o, x.so = some ⟨b, o, none⟩ → b ≠ mb ∧ w.heap.size < b
theorem strs_gb {w w' : World} {r b off n : Nat} {xs : List ByteArray} (h : StrsAt w (some ⟨b, off, none⟩) n xs) (hg : w.grownBy w' (some r)) (ho : b ≠ r) : StrsAt w' (some ⟨b, off, none⟩) n xs :=
  strs_keep h hg.size fun b' off' e hlt => by
    cases e
    exact hg.block b hlt (fun c => ho (by injection c with c))
theorem mx_gb {w w' : World} {r : Nat} (h : Mx w) (hg : w.grownBy w' (some r)) (ho : 0 < r) : Mx w' := by
  obtain ⟨m, hm⟩ := h
  exact ⟨m, (World.cell?_of_block (a := ⟨0, 0, none⟩) (w := w) (hg.block 0 (Mx.pos ⟨m, hm⟩) (fun c => by injection c with c; omega))).trans hm⟩
theorem below_gb {a w w' : World} {B r : Nat} (h : Below B a w) (hg : w.grownBy w' (some r)) (hB : B ≤ w.heap.size) (hr : B ≤ r) : Below B a w' :=
  h.grown hg hB (fun k e => by injection e with e; omega)
theorem ParW.below {w : World} {rb mb wb : Nat} {ws met : List ByteArray} {x : Spv} {W W' : World} (h : ParW w rb mb wb ws met x W) (hb : Below W.heap.size W W') : ParW w rb mb wb ws met x W' :=
  ⟨h.low.trans (hb.mono h.low.size), blk_below hb h.res (blk_lt h.res), h.rd.low hb, h.map.kept (row := none) ⟨hb.os, hb.tape, hb.output, hb.size, fun k hk _ => hb.block k hk⟩ (by simp), h.row.low hb, h.mx.low hb, h.rlt, h.mlt, h.wlt, h.rm, h.rw, h.mw, h.xo⟩
/-- behind a field's setting -/
theorem ParW.set {w : World} {rb mb wb : Nat} {ws met : List ByteArray} {x x' : Spv} {W W' : World} (h : ParW w rb mb wb ws met x W) (hg : W.grownBy W' (some rb)) (hr : RdH W' rb mb x') (ho : ∀ b o, x'.so = some ⟨b, o, none⟩ → b ≠ mb ∧ w.heap.size < b) : ParW w rb mb wb ws met x' W' :=
  ⟨below_gb h.low hg h.low.size (Nat.le_of_lt h.rlt), (hg.block _ (blk_lt h.res) (fun c => by injection c with c; have := h.rlt; omega)).trans h.res, hr, h.map.kept (row := some rb) hg (fun c => h.rm (by injection c with c; exact c.symm)), strs_gb h.row hg (fun c => h.rw c.symm), mx_gb h.mx hg (by have := h.rlt; omega), h.rlt, h.mlt, h.wlt, h.rm, h.rw, h.mw, ho⟩
/-- behind a key's laying down -/
theorem ParW.key {w : World} {rb mb wb : Nat} {ws met : List ByteArray} {x : Spv} {W W' : World} {k : ByteArray} (h : ParW w rb mb wb ws met x W) (hg : W.grownBy W' (some mb)) (hm : W'.ownsMap Tryd.prog 9 (plainElem (H := Unit) Tryd.prog 3) mb (met.length + 1) ((mapK met).put (keyB k) (.lit (.int .i64 ((met.length : Int) + 1))))) : ParW w rb mb wb ws (met ++ [k]) x W' :=
  ⟨below_gb h.low hg h.low.size (Nat.le_of_lt h.mlt), (hg.block _ (blk_lt h.res) (fun c => by injection c with c; have := h.mlt; omega)).trans h.res,
    ⟨(hg.block _ (blk_lt h.rd.head) (fun c => h.rm (by injection c with c))).trans h.rd.head, ⟨ints_gb h.rd.ok.after hg (fun b o e => (h.xo b o e).1), h.rd.ok.ple, h.rd.ok.user, h.rd.ok.part⟩, h.rd.off⟩,
    by show W'.ownsMap _ _ _ _ (met ++ [k]).length (mapK (met ++ [k])); rw [mapK_snoc, List.length_append]; exact hm, strs_gb h.row hg (fun c => h.mw c.symm), mx_gb h.mx hg (by have := h.mlt; omega), h.rlt, h.mlt, h.wlt, h.rm, h.rw, h.mw, h.xo⟩
end Go.Proofs.YteoihdkaoipocaaDoor

/- spec.Parse: what a text asks for. -/
namespace Go.Proofs.YteoihdkaoipocaaDoor
open Go.RowKit Go.Maps Go.Shelf Go.Sort

/-- a scope that is left by a jump ahead to one label: what stands behind the label is walked at the jump -/
theorem wp_scope_ahead {P : Program} {a : Act} {w : World} {Q : Exit → Act → World → Prop} {c rest : Code} (l : Nat) (hf : findLabel c l = some rest)
    (first : c.wp P (Exit.jump l (fun a w => rest.wp P (Exit.noGoto Q) a w) Q) a w) : (Code.scope c).wp P Q a w := by
  refine wp_scope_jumps l (fun a w => rest.wp P (Exit.noGoto Q) a w) (fun _ _ => 0) hf first ?_
  intro a' w' h b k cs
  obtain ⟨e, a₁, w₁, hq, harr⟩ := h b k cs
  refine ⟨e, a₁, w₁, ?_, harr⟩
  cases e with
  | goto l => exact hq.elim
  | _ => exact hq
def Spv.one : Spv := ⟨Spp.one, none, 0, 0⟩
theorem Spv.one_ok (w : World) : Spv.one.ok w := ⟨ints_none w, Nat.le_refl _, Nat.zero_le _, Nat.zero_le _⟩
def ParsePost (t : ByteArray) (w : World) (e : Ending) (w' : World) : Prop :=
  ∃ x : Spv, e = .returned (.tuple #[x.val, .int .i64 (parseOf t).2.1, .int .i64 (parseOf t).2.2]) ∧ x.ok w' ∧ x.pl = (parseOf t).1 ∧ Below w.heap.size w w' ∧ ∀ b o, x.so = some ⟨b, o, none⟩ → w.heap.size ≤ b
theorem low13 {w W : World} (h : Below w.heap.size w W) (v0 v1 v2 v3 v4 v5 v6 v7 v8 v9 v10 v11 v12 : Value) : Below w.heap.size w (((((((((((((W.setCell ⟨w.heap.size, 0, none⟩ v0).setCell ⟨w.heap.size, 1, none⟩ v1).setCell ⟨w.heap.size, 2, none⟩ v2).setCell ⟨w.heap.size, 3, none⟩ v3).setCell ⟨w.heap.size, 4, none⟩ v4).setCell ⟨w.heap.size, 5, none⟩ v5).setCell ⟨w.heap.size, 6, none⟩ v6).setCell ⟨w.heap.size, 7, none⟩ v7).setCell ⟨w.heap.size, 8, none⟩ v8).setCell ⟨w.heap.size, 9, none⟩ v9).setCell ⟨w.heap.size, 10, none⟩ v10).setCell ⟨w.heap.size, 11, none⟩ v11).setCell ⟨w.heap.size, 12, none⟩ v12) :=
  ((((((((((((h.setCell (Nat.le_refl _) _).setCell (Nat.le_refl _) _).setCell (Nat.le_refl _) _).setCell (Nat.le_refl _) _).setCell (Nat.le_refl _) _).setCell (Nat.le_refl _) _).setCell (Nat.le_refl _) _).setCell (Nat.le_refl _) _).setCell (Nat.le_refl _) _).setCell (Nat.le_refl _) _).setCell (Nat.le_refl _) _).setCell (Nat.le_refl _) _).setCell (Nat.le_refl _) _
theorem gb13 (w W : World) (v0 v1 v2 v3 v4 v5 v6 v7 v8 v9 v10 v11 v12 : Value) : W.grownBy (((((((((((((W.setCell ⟨w.heap.size, 0, none⟩ v0).setCell ⟨w.heap.size, 1, none⟩ v1).setCell ⟨w.heap.size, 2, none⟩ v2).setCell ⟨w.heap.size, 3, none⟩ v3).setCell ⟨w.heap.size, 4, none⟩ v4).setCell ⟨w.heap.size, 5, none⟩ v5).setCell ⟨w.heap.size, 6, none⟩ v6).setCell ⟨w.heap.size, 7, none⟩ v7).setCell ⟨w.heap.size, 8, none⟩ v8).setCell ⟨w.heap.size, 9, none⟩ v9).setCell ⟨w.heap.size, 10, none⟩ v10).setCell ⟨w.heap.size, 11, none⟩ v11).setCell ⟨w.heap.size, 12, none⟩ v12) (some w.heap.size) :=
  gb_set (gb_set (gb_set (gb_set (gb_set (gb_set (gb_set (gb_set (gb_set (gb_set (gb_set (gb_set (gb_set (gb_refl W _) _) _) _) _) _) _) _) _) _) _) _) _) _
/-- the result's cell as it was made -/
structure ResW (w W : World) : Prop where
  low : Below w.heap.size w W
  res : W.heap[w.heap.size]? = some (.cells Spv.zero.cells 28 (0, 0))
theorem parse_long (t : ByteArray) (w : World) (hlong : 4096 < t.size) : Calls Tryd.prog 22 #[.string t] w (ParsePost t w) := by
  have hz : parseOf t = (Spp.zero, 2, 0) := if_pos hlong
  have d : decide ((4096 : Int) < t.size) = true := decide_eq_true (by omega)
  have d' : decide (4096 < t.size) = true := decide_eq_true hlong
  replace hz := Lib.hid hz; replace hlong := Lib.hid hlong
  go_enter Tryd.func22, Tryd.ntmps22
  go_wp2
  apply wp_scope_straight
  go_wp2
  rw [Exit.noGoto_ret]
  refine bodyPost_ret (v := .tuple #[Spv.zero.val, .int .i64 2, .int .i64 0]) (by simp [results, Tryd.results22, go_sem, Spv.zero, Spp.zero, V4.zero]; rfl) rfl ⟨Spv.zero, by rw [hz.out], Spv.zero_ok _, by rw [hz.out]; rfl, ?_, fun b o e => by cases e⟩
  exact (Below.refl _ _).alloc (Nat.le_refl _) _
set_option maxRecDepth 100000 in
set_option maxHeartbeats 3200000 in
theorem parse_short (t : ByteArray) (w : World) (hm : Mx w) (hshort : ¬ 4096 < t.size) : Calls Tryd.prog 22 #[.string t] w (ParsePost t w) := by
  have hpo : parseOf t = endP (words t).length (parseW (words t) [] Spp.one) := if_neg hshort
  have d : decide ((4096 : Int) < t.size) = false := decide_eq_false (by omega)
  have d' : decide (4096 < t.size) = false := decide_eq_false hshort
  have hmm := @run_makeMap Tryd.prog
  obtain ⟨W3, hW3⟩ : ∃ W3, W3 = ((w.alloc (.cells Spv.zero.cells 28 (0, 0))).alloc (.map #[] 0)).alloc (.cells (rdC Spv.one (w.heap.size + 1)) 90 (0, 0)) := ⟨_, rfl⟩
  have hb3 : Below w.heap.size w W3 := by rw [hW3]; exact (((Below.refl _ _).alloc (Nat.le_refl _) _).alloc (by simp) _).alloc (by simp; omega) _
  have hz3 : W3.heap.size = w.heap.size + 3 := by rw [hW3]; simp
  have hsp := split_call t 32 W3 (hm.low hb3) (by omega)
  obtain ⟨L, hL⟩ : ∃ L, L = (words t).length := ⟨_, rfl⟩
  have hL' : (cutAll 32 t.data.toList).length = L := by rw [hL]; unfold words; rw [List.length_map]
  rw [hL'] at hsp
  have hLm := words_many t
  rw [← hL] at hLm hpo
  rw [hW3] at hsp
  have hW3' := Lib.hid hW3
  clear hW3
  replace hm := Lib.hid hm; replace hpo := Lib.hid hpo; replace hb3 := Lib.hid hb3; replace hz3 := Lib.hid hz3; replace hsp := Lib.hid hsp; replace hL := Lib.hid hL; replace hL' := Lib.hid hL'
  go_enter Tryd.func22, Tryd.ntmps22
  go_wp2_with fail
  refine wp_scope_ahead 0 rfl ?_
  go_wp2_with fail
  refine hsp.out.mono ?_
  rw [← hW3'.out]
  rintro e w1 ⟨rfl, hw1⟩
  have hP0 : ParW w (w.heap.size + 2) (w.heap.size + 1) (w.heap.size + 3) (words t) [] Spv.one w1 := by
    have hb1 : Below W3.heap.size W3 w1 := by rw [hw1]; exact (Below.refl _ _).alloc (Nat.le_refl _) _
    refine ⟨hb3.out.trans (hb1.mono hb3.out.size), ?_, ⟨?_, Spv.one_ok _, nofun⟩, ?_, ?_, (hm.out.low hb3.out).low hb1, by omega, by omega, by omega, by omega, by omega, by omega, nofun⟩
    · rw [hw1, hW3'.out]; exact blk_old _ (blk_old _ (blk_old _ (blk_new _ _)))
    · rw [hw1, hW3'.out]; exact blk_old _ (blk_at _ _ (by simp))
    · have h0 := World.ownsMap_made (w.alloc (.cells Spv.zero.cells 28 (0, 0))) Tryd.prog 9 (plainElem (H := Unit) Tryd.prog 3)
      have h1 := (h0.alloc (.cells (rdC Spv.one (w.heap.size + 1)) 90 (0, 0))).alloc (.cells (((cutAll 32 t.data.toList).map ofL).map Value.string).toArray 9 (0, 0))
      rw [hw1, hW3'.out]
      simp only [World.size_alloc] at h1
      exact h1
    · have := strs_of_blk (w := w1) (b := w.heap.size + 3) (xs := words t) (by rw [hw1]; exact blk_at _ _ hz3.out.symm) (by rw [← hL.out]; omega)
      exact this
  obtain ⟨R, hR⟩ : ∃ R, R = parseW (words t) [] Spp.one := ⟨_, rfl⟩
  have hpo2 := hpo.out
  rw [← hR] at hpo2
  rw [hz3.out]
  replace hw1 := Lib.hid hw1; replace hP0 := Lib.hid hP0; replace hR := Lib.hid hR; replace hpo2 := Lib.hid hpo2
  go_wp2
  go_loopw [6, 8, 9, 10, 11, 23] (fun av _ _ _ _ iv wr => ∃ (k : Nat) (met : List ByteArray) (x : Spv), av = .int .i64 k ∧ iv = .int .i64 k ∧ k ≤ L ∧ Hid (met.length = k) ∧ Hid (parseW ((words t).drop k) met x.pl = R) ∧ Hid (ParW w (w.heap.size + 2) (w.heap.size + 1) (w.heap.size + 3) (words t) met x wr)) (fun _ _ _ _ _ i _ => L - (intOf i).toNat)
  case atStart => exact ⟨0, [], Spv.one, rfl, rfl, Nat.zero_le _, rfl, hR.out.symm, hP0.out⟩
  case round =>
    obtain ⟨k, met, x, rfl, rfl, hk, hml, hpw, hP⟩ := hrel
    by_cases hc : k < L
    · have hc1 : (k : Int) < L := by omega
      have hk0 : (0 : Int) ≤ (k : Int) := by omega
      have hkl : k < (words t).length := by rw [← hL.out]; exact hc
      obtain ⟨s, hs⟩ : ∃ s, (words t)[k]? = some s := ⟨_, List.getElem?_eq_getElem hkl⟩
      have hdr : (words t).drop k = s :: (words t).drop (k + 1) := by
        rw [List.drop_eq_getElem_cons hkl]
        rw [List.getElem?_eq_getElem hkl] at hs
        rw [Option.some.inj hs]
      have hsl := words_le (List.mem_of_getElem? hs)
      have hpw2 := hpw.out
      rw [hdr] at hpw2
      obtain ⟨b', off', e', _, c0⟩ := hP.out.row.cell k s hs
      cases e'
      simp only [Nat.zero_add] at c0
      have hck := cutk_call s wr hP.out.mx (by omega)
      replace hs := Lib.hid hs; replace hdr := Lib.hid hdr; replace hsl := Lib.hid hsl; replace hpw2 := Lib.hid hpw2; replace hck := Lib.hid hck; replace hkl := Lib.hid hkl
      go_wp2_with fail
      refine hck.out.mono ?_
      rintro e w2 ⟨⟨key, v, b, rfl, hkv, hkz, hvz⟩, nd, hw2⟩
      have hb2 : Below wr.heap.size wr w2 := by rw [hw2]; exact below_dn _ _ _
      have hP2 := hP.out.below hb2
      clear c0
      replace hw2 := Lib.hid hw2; replace hb2 := Lib.hid hb2; replace hP2 := Lib.hid hP2; replace hkz := Lib.hid hkz; replace hvz := Lib.hid hvz
      cases b with
      | false =>
        have hno : stepP met x.pl s = none := by unfold stepP; rw [hkv]; rfl
        have hz : parseOf t = (Spp.zero, 80, (k : Int) + 1) := by
          rw [hpo2.out, ← hpw2.out, parseW, hno]
          show (Spp.zero, (80 : Int), ((met.length + 1 : Nat) : Int)) = _
          rw [hml.out]; rfl
        replace hkv := Lib.hid hkv; replace hno := Lib.hid hno; replace hz := Lib.hid hz
        go_wp2
        go_step3
        refine ⟨rfl, ?_⟩
        have cx := blk_cell (hP2).out.res
        have fx := blk_free (hP2).out.res
        have hlow := (hP2).out.low
        replace hlow := Lib.hid hlow
        go_wp2
        rw [Exit.noGoto_ret]
        refine bodyPost_ret (v := .tuple #[Spv.zero.val, .int .i64 80, .int .i64 ((k : Int) + 1)]) (by simp [results, Tryd.results22, go_sem, cx, Spv.zero, Spp.zero, V4.zero]; rfl) rfl ⟨Spv.zero, by rw [hz.out], Spv.zero_ok _, by rw [hz.out]; rfl, ?_, fun b o e => by cases e⟩
        exact low13 hlow.out _ _ _ _ _ _ _ _ _ _ _ _ _
      | true =>
        have hkm : key.size ≤ maxLen := by have : maxLen = 9223372036854775807 := rfl; have := hkz.out; have := hsl.out; omega
        obtain ⟨c, hlk, hc1', hc0'⟩ := met_look hP2.out.map key hkm
        have e13 : w2.cell? ⟨w.heap.size + 2, 13, none⟩ = some (.map (some (w.heap.size + 1))) := blk_cell hP2.out.rd.head 13
        obtain ⟨mb', hmb⟩ : ∃ mb', mb' = memB met key := ⟨_, rfl⟩
        rw [← hmb] at hc1' hc0'
        cases mb' with
        | true =>
          have d1 : decide (0 < c) = true := decide_eq_true (by have := hc1' rfl; omega)
          have hno : stepP met x.pl s = none := by unfold stepP; rw [hkv]; simp [← hmb]
          have hz : parseOf t = (Spp.zero, 80, (k : Int) + 1) := by
            rw [hpo2.out, ← hpw2.out, parseW, hno]
            show (Spp.zero, (80 : Int), ((met.length + 1 : Nat) : Int)) = _
            rw [hml.out]; rfl
          replace hkv := Lib.hid hkv; replace hno := Lib.hid hno; replace hz := Lib.hid hz; replace hkm := Lib.hid hkm; replace hc1' := Lib.hid hc1'; replace hc0' := Lib.hid hc0'; replace hmb := Lib.hid hmb
          go_wp2
          go_step3
          refine ⟨rfl, ?_⟩
          have cx := blk_cell (hP2).out.res
          have fx := blk_free (hP2).out.res
          have hlow := (hP2).out.low
          replace hlow := Lib.hid hlow
          go_wp2
          rw [Exit.noGoto_ret]
          refine bodyPost_ret (v := .tuple #[Spv.zero.val, .int .i64 80, .int .i64 ((k : Int) + 1)]) (by simp [results, Tryd.results22, go_sem, cx, Spv.zero, Spp.zero, V4.zero]; rfl) rfl ⟨Spv.zero, by rw [hz.out], Spv.zero_ok _, by rw [hz.out]; rfl, ?_, fun b o e => by cases e⟩
          exact low13 hlow.out _ _ _ _ _ _ _ _ _ _ _ _ _
        | false =>
          have hc00 : c = 0 := hc0' rfl
          subst hc00
          have hset := set_any (w.heap.size + 2) (w.heap.size + 1) key v x w2 hP2.out.rd hP2.out.mx (by have := hvz.out; have := hsl.out; omega)
          have hst : stepP met x.pl s = (setP key v x.pl).map fun t => (key, t) := by unfold stepP; rw [hkv]; simp [← hmb]
          replace hkv := Lib.hid hkv; replace hkm := Lib.hid hkm; replace hc1' := Lib.hid hc1'; replace hc0' := Lib.hid hc0'; replace hmb := Lib.hid hmb; replace hset := Lib.hid hset; replace hst := Lib.hid hst
          go_wp2_with fail
          refine hset.out.mono ?_
          rintro e w4 ⟨hg4, ⟨x', rfl, hsp4, hrd4, hso4⟩ | ⟨rfl, hsp4⟩⟩
          · have hP4 : ParW w (w.heap.size + 2) (w.heap.size + 1) (w.heap.size + 3) (words t) met x' w4 := hP2.out.set hg4 hrd4 fun b o e => by
              rcases hso4 with h | h
              · rw [h] at e; exact hP2.out.xo b o e
              · have h1 := h b o e
                have h2 := hP2.out.low.size
                have h3 := blk_lt hP2.out.rd.head
                exact ⟨by omega, by omega⟩
            have hpw4 : parseW ((words t).drop (k + 1)) (met ++ [key]) x'.pl = R := by
              rw [← hpw2.out, parseW, hst.out, hsp4]; rfl
            have e13' : w4.cell? ⟨w.heap.size + 2, 13, none⟩ = some (.map (some (w.heap.size + 1))) := blk_cell hP4.rd.head 13
            have hown := hP4.map
            have hwf : (Lit.int .i64 ((k : Int) + 1)).wf = true := WalkArith.wf_i64 (by omega)
            have hnlt : met.length < maxLen := by have : maxLen = 9223372036854775807 := rfl; have := hml.out; omega
            have hkey : keyOf Tryd.prog 9 (.string key) = some (keyB key) := WideMaps.keyOf_string_mk Tryd.underlying9 hkm.out
            clear e13 hlk
            replace hg4 := Lib.hid hg4; replace hsp4 := Lib.hid hsp4; replace hrd4 := Lib.hid hrd4; replace hso4 := Lib.hid hso4; replace hP4 := Lib.hid hP4; replace hpw4 := Lib.hid hpw4; replace hown := Lib.hid hown; replace hwf := Lib.hid hwf; replace hnlt := Lib.hid hnlt; replace hkey := Lib.hid hkey
            go_wp2_with (at_mapUpdate; refine wpList_mapUpdate_own _ rfl _ _ _ 88 rfl 9 3 (string_keyed Tryd.underlying9) Tryd.underlying88 _ (w.heap.size + 1) met.length _ rfl hown.out hnlt.out _ _ (keyB key) rfl rfl hkey.out _ [] (plainElem_int Tryd.underlying3 hwf.out) ?_; intro w5 hown5 hgrow5; replace hown5 := Lib.hid hown5; replace hgrow5 := Lib.hid hgrow5)
            have hP5 : ParW w (w.heap.size + 2) (w.heap.size + 1) (w.heap.size + 3) (words t) (met ++ [key]) x' w5 := hP4.out.key hgrow5.out (by rw [hml.out]; have := hown5.out; rw [hml.out] at this; exact this)
            have hml5 : (met ++ [key]).length = k + 1 := by rw [List.length_append, hml.out]; rfl
            replace hP5 := Lib.hid hP5; replace hml5 := Lib.hid hml5
            go_wp2
            go_roundw
            case rel => exact ⟨k + 1, met ++ [key], x', by go_num, by go_num, by omega, hml5.out, hpw4.out, hP5.out⟩
            case measure => simp [intOf]; omega
          · have hno : stepP met x.pl s = none := by rw [hst.out, hsp4]; rfl
            have hz : parseOf t = (Spp.zero, 80, (k : Int) + 1) := by
              rw [hpo2.out, ← hpw2.out, parseW, hno]
              show (Spp.zero, (80 : Int), ((met.length + 1 : Nat) : Int)) = _
              rw [hml.out]; rfl
            have hres4 : w4.heap[w.heap.size]? = some (.cells Spv.zero.cells 28 (0, 0)) := (hg4.block _ (blk_lt hP2.out.res) (fun c => by injection c with c; omega)).trans hP2.out.res
            have hlow4 : Below w.heap.size w w4 := below_gb hP2.out.low hg4 hP2.out.low.size (by omega)
            have hX : ResW w w4 := ⟨hlow4, hres4⟩
            clear e13 hlk
            replace hg4 := Lib.hid hg4; replace hsp4 := Lib.hid hsp4; replace hno := Lib.hid hno; replace hz := Lib.hid hz; replace hres4 := Lib.hid hres4; replace hlow4 := Lib.hid hlow4; replace hX := Lib.hid hX
            go_wp2
            go_step3
            refine ⟨rfl, ?_⟩
            have cx := blk_cell (hX).out.res
            have fx := blk_free (hX).out.res
            have hlow := (hX).out.low
            replace hlow := Lib.hid hlow
            go_wp2
            rw [Exit.noGoto_ret]
            refine bodyPost_ret (v := .tuple #[Spv.zero.val, .int .i64 80, .int .i64 ((k : Int) + 1)]) (by simp [results, Tryd.results22, go_sem, cx, Spv.zero, Spp.zero, V4.zero]; rfl) rfl ⟨Spv.zero, by rw [hz.out], Spv.zero_ok _, by rw [hz.out]; rfl, ?_, fun b o e => by cases e⟩
            exact low13 hlow.out _ _ _ _ _ _ _ _ _ _ _ _ _
    · have hc1 : ¬ (k : Int) < L := by omega
      have hkL : k = L := by omega
      subst hkL
      have hpw2 := hpw.out
      rw [List.drop_of_length_le (by rw [← hL.out]; omega)] at hpw2
      have hend : R = .inl (met, x.pl) := hpw2.symm
      have hz5 : parseOf t = if five met = true then (x.pl, 0, 0) else (Spp.zero, 80, ((k + 1 : Nat) : Int)) := by rw [hpo2.out, hend]; rfl
      have e13 : wr.cell? ⟨w.heap.size + 2, 13, none⟩ = some (.map (some (w.heap.size + 1))) := blk_cell hP.out.rd.head 13
      have hX : ResW w wr := ⟨hP.out.low, hP.out.res⟩
      replace hX := Lib.hid hX
      obtain ⟨c1, hl1, ht1, hf1⟩ := met_look hP.out.map kUser (by decide)
      have hl1' : (Instr.lookup 88 (.map (some (w.heap.size + 1))) (.string { data := #[117, 115, 101, 114] }) false).run Tryd.prog wr = .ok (.int .i64 c1) wr := hl1
      clear hl1
      obtain ⟨m1, hm1⟩ : ∃ m, m = memB met kUser := ⟨_, rfl⟩
      rw [← hm1] at ht1 hf1
      have hd1 : decide (0 < c1) = m1 := by
        cases m1 with
        | true => exact decide_eq_true (by have := ht1 rfl; omega)
        | false => exact decide_eq_false (by have := hf1 rfl; omega)
      clear ht1 hf1
      obtain ⟨c2, hl2, ht2, hf2⟩ := met_look hP.out.map kPart (by decide)
      have hl2' : (Instr.lookup 88 (.map (some (w.heap.size + 1))) (.string { data := #[112, 97, 114, 116] }) false).run Tryd.prog wr = .ok (.int .i64 c2) wr := hl2
      clear hl2
      obtain ⟨m2, hm2⟩ : ∃ m, m = memB met kPart := ⟨_, rfl⟩
      rw [← hm2] at ht2 hf2
      have hd2 : decide (0 < c2) = m2 := by
        cases m2 with
        | true => exact decide_eq_true (by have := ht2 rfl; omega)
        | false => exact decide_eq_false (by have := hf2 rfl; omega)
      clear ht2 hf2
      obtain ⟨c3, hl3, ht3, hf3⟩ := met_look hP.out.map kNodes (by decide)
      have hl3' : (Instr.lookup 88 (.map (some (w.heap.size + 1))) (.string { data := #[110, 111, 100, 101, 115] }) false).run Tryd.prog wr = .ok (.int .i64 c3) wr := hl3
      clear hl3
      obtain ⟨m3, hm3⟩ : ∃ m, m = memB met kNodes := ⟨_, rfl⟩
      rw [← hm3] at ht3 hf3
      have hd3 : decide (0 < c3) = m3 := by
        cases m3 with
        | true => exact decide_eq_true (by have := ht3 rfl; omega)
        | false => exact decide_eq_false (by have := hf3 rfl; omega)
      clear ht3 hf3
      obtain ⟨c4, hl4, ht4, hf4⟩ := met_look hP.out.map kDemand (by decide)
      have hl4' : (Instr.lookup 88 (.map (some (w.heap.size + 1))) (.string { data := #[100, 101, 109, 97, 110, 100] }) false).run Tryd.prog wr = .ok (.int .i64 c4) wr := hl4
      clear hl4
      obtain ⟨m4, hm4⟩ : ∃ m, m = memB met kDemand := ⟨_, rfl⟩
      rw [← hm4] at ht4 hf4
      have hd4 : decide (0 < c4) = m4 := by
        cases m4 with
        | true => exact decide_eq_true (by have := ht4 rfl; omega)
        | false => exact decide_eq_false (by have := hf4 rfl; omega)
      clear ht4 hf4
      obtain ⟨c5, hl5, ht5, hf5⟩ := met_look hP.out.map kWall (by decide)
      have hl5' : (Instr.lookup 88 (.map (some (w.heap.size + 1))) (.string { data := #[119, 97, 108, 108] }) false).run Tryd.prog wr = .ok (.int .i64 c5) wr := hl5
      clear hl5
      obtain ⟨m5, hm5⟩ : ∃ m, m = memB met kWall := ⟨_, rfl⟩
      rw [← hm5] at ht5 hf5
      have hd5 : decide (0 < c5) = m5 := by
        cases m5 with
        | true => exact decide_eq_true (by have := ht5 rfl; omega)
        | false => exact decide_eq_false (by have := hf5 rfl; omega)
      clear ht5 hf5
      have hfv : five met = (m1 && m2 && m3 && m4 && m5) := by rw [hm1, hm2, hm3, hm4, hm5]; rfl
      replace hpw2 := Lib.hid hpw2; replace hend := Lib.hid hend; replace hfv := Lib.hid hfv; replace hm1 := Lib.hid hm1; replace hm2 := Lib.hid hm2; replace hm3 := Lib.hid hm3; replace hm4 := Lib.hid hm4; replace hm5 := Lib.hid hm5; replace hz5 := Lib.hid hz5
      cases m1 with
      | false =>
        have hz : parseOf t = (Spp.zero, 80, (k : Int) + 1) := by rw [hz5.out, hfv.out]; rfl
        replace hz := Lib.hid hz
        go_wp2
        go_step3
        have cx := blk_cell (hX).out.res
        have fx := blk_free (hX).out.res
        have hlow := (hX).out.low
        replace hlow := Lib.hid hlow
        go_wp2
        simp only [Exit.jump]
        refine bodyPost_ret (v := .tuple #[Spv.zero.val, .int .i64 80, .int .i64 ((k : Int) + 1)]) (by simp [results, Tryd.results22, go_sem, cx, Spv.zero, Spp.zero, V4.zero]; rfl) rfl ⟨Spv.zero, by rw [hz.out], Spv.zero_ok _, by rw [hz.out]; rfl, ?_, fun b o e => by cases e⟩
        exact low13 hlow.out _ _ _ _ _ _ _ _ _ _ _ _ _
      | true =>
      cases m2 with
      | false =>
        have hz : parseOf t = (Spp.zero, 80, (k : Int) + 1) := by rw [hz5.out, hfv.out]; rfl
        replace hz := Lib.hid hz
        go_wp2
        go_step3
        have cx := blk_cell (hX).out.res
        have fx := blk_free (hX).out.res
        have hlow := (hX).out.low
        replace hlow := Lib.hid hlow
        go_wp2
        simp only [Exit.jump]
        refine bodyPost_ret (v := .tuple #[Spv.zero.val, .int .i64 80, .int .i64 ((k : Int) + 1)]) (by simp [results, Tryd.results22, go_sem, cx, Spv.zero, Spp.zero, V4.zero]; rfl) rfl ⟨Spv.zero, by rw [hz.out], Spv.zero_ok _, by rw [hz.out]; rfl, ?_, fun b o e => by cases e⟩
        exact low13 hlow.out _ _ _ _ _ _ _ _ _ _ _ _ _
      | true =>
      cases m3 with
      | false =>
        have hz : parseOf t = (Spp.zero, 80, (k : Int) + 1) := by rw [hz5.out, hfv.out]; rfl
        replace hz := Lib.hid hz
        go_wp2
        go_step3
        have cx := blk_cell (hX).out.res
        have fx := blk_free (hX).out.res
        have hlow := (hX).out.low
        replace hlow := Lib.hid hlow
        go_wp2
        simp only [Exit.jump]
        refine bodyPost_ret (v := .tuple #[Spv.zero.val, .int .i64 80, .int .i64 ((k : Int) + 1)]) (by simp [results, Tryd.results22, go_sem, cx, Spv.zero, Spp.zero, V4.zero]; rfl) rfl ⟨Spv.zero, by rw [hz.out], Spv.zero_ok _, by rw [hz.out]; rfl, ?_, fun b o e => by cases e⟩
        exact low13 hlow.out _ _ _ _ _ _ _ _ _ _ _ _ _
      | true =>
      cases m4 with
      | false =>
        have hz : parseOf t = (Spp.zero, 80, (k : Int) + 1) := by rw [hz5.out, hfv.out]; rfl
        replace hz := Lib.hid hz
        go_wp2
        go_step3
        have cx := blk_cell (hX).out.res
        have fx := blk_free (hX).out.res
        have hlow := (hX).out.low
        replace hlow := Lib.hid hlow
        go_wp2
        simp only [Exit.jump]
        refine bodyPost_ret (v := .tuple #[Spv.zero.val, .int .i64 80, .int .i64 ((k : Int) + 1)]) (by simp [results, Tryd.results22, go_sem, cx, Spv.zero, Spp.zero, V4.zero]; rfl) rfl ⟨Spv.zero, by rw [hz.out], Spv.zero_ok _, by rw [hz.out]; rfl, ?_, fun b o e => by cases e⟩
        exact low13 hlow.out _ _ _ _ _ _ _ _ _ _ _ _ _
      | true =>
      cases m5 with
      | false =>
        have hz : parseOf t = (Spp.zero, 80, (k : Int) + 1) := by rw [hz5.out, hfv.out]; rfl
        replace hz := Lib.hid hz
        go_wp2
        go_step3
        have cx := blk_cell (hX).out.res
        have fx := blk_free (hX).out.res
        have hlow := (hX).out.low
        replace hlow := Lib.hid hlow
        go_wp2
        simp only [Exit.jump]
        refine bodyPost_ret (v := .tuple #[Spv.zero.val, .int .i64 80, .int .i64 ((k : Int) + 1)]) (by simp [results, Tryd.results22, go_sem, cx, Spv.zero, Spp.zero, V4.zero]; rfl) rfl ⟨Spv.zero, by rw [hz.out], Spv.zero_ok _, by rw [hz.out]; rfl, ?_, fun b o e => by cases e⟩
        exact low13 hlow.out _ _ _ _ _ _ _ _ _ _ _ _ _
      | true =>
      have hz : parseOf t = (x.pl, 0, 0) := by rw [hz5.out, hfv.out]; rfl
      have hok := hP.out.rd.ok
      have hxo := hP.out.xo
      have hlow := hX.out.low
      have cr := blk_cell hP.out.rd.head
      have cx := blk_cell hX.out.res
      have fx := blk_free hX.out.res
      obtain ⟨⟨user, part, nodes, ⟨da, db, dc, dd⟩, wall, prio, array, retries, held, after⟩, so, n, cp⟩ := x
      have y0 : wr.cell? ⟨w.heap.size + 2, 0, none⟩ = some (.string user) := cr 0
      have y1 : wr.cell? ⟨w.heap.size + 2, 1, none⟩ = some (.string part) := cr 1
      have y2 : wr.cell? ⟨w.heap.size + 2, 2, none⟩ = some (.int .i64 nodes) := cr 2
      have y3 : wr.cell? ⟨w.heap.size + 2, 3, none⟩ = some (.int .i64 da) := cr 3
      have y4 : wr.cell? ⟨w.heap.size + 2, 4, none⟩ = some (.int .i64 db) := cr 4
      have y5 : wr.cell? ⟨w.heap.size + 2, 5, none⟩ = some (.int .i64 dc) := cr 5
      have y6 : wr.cell? ⟨w.heap.size + 2, 6, none⟩ = some (.int .i64 dd) := cr 6
      have y7 : wr.cell? ⟨w.heap.size + 2, 7, none⟩ = some (.int .i64 wall) := cr 7
      have y8 : wr.cell? ⟨w.heap.size + 2, 8, none⟩ = some (.int .i64 prio) := cr 8
      have y9 : wr.cell? ⟨w.heap.size + 2, 9, none⟩ = some (.int .i64 array) := cr 9
      have y10 : wr.cell? ⟨w.heap.size + 2, 10, none⟩ = some (.int .i64 retries) := cr 10
      have y11 : wr.cell? ⟨w.heap.size + 2, 11, none⟩ = some (.bool held) := cr 11
      have y12 : wr.cell? ⟨w.heap.size + 2, 12, none⟩ = some (.slice so n cp) := cr 12
      have x0 : wr.cell? ⟨w.heap.size, 0, none⟩ = some (.string ByteArray.empty) := cx 0
      have x1 : wr.cell? ⟨w.heap.size, 1, none⟩ = some (.string ByteArray.empty) := cx 1
      have x2 : wr.cell? ⟨w.heap.size, 2, none⟩ = some (.int .i64 0) := cx 2
      have x3 : wr.cell? ⟨w.heap.size, 3, none⟩ = some (.int .i64 0) := cx 3
      have x4 : wr.cell? ⟨w.heap.size, 4, none⟩ = some (.int .i64 0) := cx 4
      have x5 : wr.cell? ⟨w.heap.size, 5, none⟩ = some (.int .i64 0) := cx 5
      have x6 : wr.cell? ⟨w.heap.size, 6, none⟩ = some (.int .i64 0) := cx 6
      have x7 : wr.cell? ⟨w.heap.size, 7, none⟩ = some (.int .i64 0) := cx 7
      have x8 : wr.cell? ⟨w.heap.size, 8, none⟩ = some (.int .i64 0) := cx 8
      have x9 : wr.cell? ⟨w.heap.size, 9, none⟩ = some (.int .i64 0) := cx 9
      have x10 : wr.cell? ⟨w.heap.size, 10, none⟩ = some (.int .i64 0) := cx 10
      have x11 : wr.cell? ⟨w.heap.size, 11, none⟩ = some (.bool false) := cx 11
      have x12 : wr.cell? ⟨w.heap.size, 12, none⟩ = some (.slice none 0 0) := cx 12
      clear cr cx
      replace hz := Lib.hid hz; replace hok := Lib.hid hok; replace hxo := Lib.hid hxo; replace hlow := Lib.hid hlow
      go_wp2
      simp only [Exit.jump]
      refine bodyPost_ret (v := .tuple #[(⟨⟨user, part, nodes, ⟨da, db, dc, dd⟩, wall, prio, array, retries, held, after⟩, so, n, cp⟩ : Spv).val, .int .i64 0, .int .i64 0]) (by simp [results, Tryd.results22, go_sem, x0, x1, x2, x3, x4, x5, x6, x7, x8, x9, x10, x11, x12]) rfl ⟨⟨⟨user, part, nodes, ⟨da, db, dc, dd⟩, wall, prio, array, retries, held, after⟩, so, n, cp⟩, by rw [hz.out], ⟨ints_gb hok.out.after (gb13 w wr _ _ _ _ _ _ _ _ _ _ _ _ _) (fun b o e => by have := (hxo.out b o e).2; omega), hok.out.ple, hok.out.user, hok.out.part⟩, by rw [hz.out], low13 hlow.out _ _ _ _ _ _ _ _ _ _ _ _ _, fun b o e => Nat.le_of_lt (hxo.out b o e).2⟩
theorem parse_any (t : ByteArray) (w : World) (hm : Mx w) : Calls Tryd.prog 22 #[.string t] w (ParsePost t w) := by
  by_cases h : 4096 < t.size
  · exact parse_long t w h
  · exact parse_short t w hm h
end Go.Proofs.YteoihdkaoipocaaDoor

/- spec.Need; corveelaw08.awake: the document's examples of specs. -/
namespace Go.Proofs.YteoihdkaoipocaaDoor
open Go.RowKit Go.Maps Go.Shelf Go.Sort

def needS (s : Spp) : V4 := if mayS s = true then ⟨s.dem.a * s.nodes, s.dem.b * s.nodes, s.dem.c * s.nodes, s.dem.d * s.nodes⟩ else V4.zero
def aP1 : ByteArray := { data := #[117, 115, 101, 114, 61, 97, 110, 97, 32, 112, 97, 114, 116, 61, 109, 97, 105, 110, 32, 110, 111, 100, 101, 115, 61, 50, 32, 100, 101, 109, 97, 110, 100, 61, 49, 44, 48, 44, 48, 44, 48, 32, 119, 97, 108, 108, 61, 49, 48] }
def aP2 : ByteArray := { data := #[117, 115, 101, 114, 61, 97, 110, 97, 32, 112, 97, 114, 116, 61, 109, 97, 105, 110, 32, 110, 111, 100, 101, 115, 61, 48, 32, 100, 101, 109, 97, 110, 100, 61, 49, 44, 48, 44, 48, 44, 48, 32, 119, 97, 108, 108, 61, 49, 48] }
def aS1 : Spp := ⟨{ data := #[97, 110, 97] }, { data := #[109, 97, 105, 110] }, 2, ⟨1, 0, 0, 0⟩, 10, 0, 1, 0, false, []⟩
/-- what stands while a need is reckoned -/
structure NdW8 (w : World) (x : Spv) (v : V4) (W : World) : Prop where
  low : Below w.heap.size w W
  box : W.heap[w.heap.size]? = some (.cells x.cells 28 (0, 0))
  res : W.heap[w.heap.size + 1]? = some (.cells V4.zero.cells 25 (0, 0))
  vec : W.heap[w.heap.size + 2]? = some (.cells v.cells 25 (0, 0))
theorem NdW8.set {w W : World} {x : Spv} {v v' : V4} (h : NdW8 w x v W) (o : Nat) (z : Value) (e : v.cells.setIfInBounds o z = v'.cells) : NdW8 w x v' (W.setCell ⟨w.heap.size + 2, o, none⟩ z) :=
  ⟨h.low.setCell (show w.heap.size ≤ w.heap.size + 2 by omega) _, blk_set_other (by omega) _ h.box, blk_set_other (by omega) _ h.res, by rw [← e]; exact blk_set h.vec o z⟩
end Go.Proofs.YteoihdkaoipocaaDoor

/- corveeref08.Text: the document's text of a spec. -/
namespace Go.Proofs.YteoihdkaoipocaaDoor
open Go.RowKit Go.Maps Go.Shelf Go.Sort

/-- a text's pieces so far -/
def five5 (s : Spp) : List UInt8 := [117, 115, 101, 114, 61] ++ s.user.data.toList ++ [32, 112, 97, 114, 116, 61] ++ s.part.data.toList ++ [32, 110, 111, 100, 101, 115, 61] ++ Lib.itoa s.nodes ++ [32, 100, 101, 109, 97, 110, 100, 61] ++ txtV s.dem ++ [32, 119, 97, 108, 108, 61] ++ Lib.itoa s.wall
def six6 (s : Spp) : List UInt8 := five5 s ++ (if s.prio = 0 then [] else [32, 112, 114, 105, 111, 61] ++ Lib.itoa s.prio)
def seven7 (s : Spp) : List UInt8 := six6 s ++ (if s.array = 1 then [] else [32, 97, 114, 114, 97, 121, 61] ++ Lib.itoa s.array)
def eight8 (s : Spp) : List UInt8 := seven7 s ++ (if s.retries = 0 then [] else [32, 114, 101, 116, 114, 105, 101, 115, 61] ++ Lib.itoa s.retries)
def nine9 (s : Spp) : List UInt8 := eight8 s ++ (if s.held = true then [32, 104, 101, 108, 100, 61, 49] else [])
def ten10 (s : Spp) (k : Nat) : List UInt8 := nine9 s ++ (if k = 0 then [] else [32, 97, 102, 116, 101, 114, 61] ++ listT (s.after.take k))
/-- the text so far, and the spec's box -/
structure RtA (w : World) (x : Spv) (T : ByteArray) (tv : Value) (wx : World) : Prop where
  t : tv = .string T
  low : Below w.heap.size w wx
  box : wx.heap[w.heap.size]? = some (.cells x.cells 28 (0, 0))
structure Tst (T : ByteArray) (W : World) (tv : Value) (wx : World) : Prop where
  t : tv = .string T
  w : W = wx

end Go.Proofs.YteoihdkaoipocaaDoor

/- corveeref08.row: the numbers of a text, as the document tells them. -/
namespace Go.Proofs.YteoihdkaoipocaaDoor
open Go.RowKit Go.Maps Go.Shelf Go.Sort

def RowPost (v : ByteArray) (w : World) (e : Ending) (w' : World) : Prop :=
  Below w.heap.size w w' ∧ ∃ so n c l b, e = .returned (.tuple #[.slice so n c, .bool b]) ∧ n ≤ c ∧ IntsAt w' so n l ∧ (∀ b o, so = some ⟨b, o, none⟩ → w.heap.size ≤ b ∧ b < w'.heap.size) ∧ rowN v = if b = true then some l else none
end Go.Proofs.YteoihdkaoipocaaDoor

/- corveeref08.keys, key: a word's key. -/
namespace Go.Proofs.YteoihdkaoipocaaDoor
open Go.RowKit Go.Maps Go.Shelf Go.Sort

/-- a word's key by its number, and its value -/
def KeyPost (s : ByteArray) (w : World) (e : Ending) (w' : World) : Prop :=
  Below w.heap.size w w' ∧ ((e = .returned (.tuple #[.int .i64 (-1), .string { data := #[] }]) ∧ (keyVal s = none ∨ ∃ k v, keyVal s = some (k, v) ∧ k ∉ keysL)) ∨
    ∃ (j : Nat) (k v : ByteArray), e = .returned (.tuple #[.int .i64 j, .string v]) ∧ keysL[j]? = some k ∧ keyVal s = some (k, v) ∧ v.size ≤ s.size)
end Go.Proofs.YteoihdkaoipocaaDoor

/- corveeref08.set: a field set, as the document tells it. -/
namespace Go.Proofs.YteoihdkaoipocaaDoor
open Go.RowKit Go.Maps Go.Shelf Go.Sort

def RsetPost (x : Spv) (k v : ByteArray) (w : World) (e : Ending) (w' : World) : Prop :=
  ∃ (x' : Spv) (b : Bool), e = .returned (.tuple #[x'.val, .bool b]) ∧ Below w.heap.size w w' ∧ setP k v x.pl = (if b = true then some x'.pl else none) ∧ (b = true → x'.ok w') ∧ (x'.so = x.so ∨ ∀ b o, x'.so = some ⟨b, o, none⟩ → w.heap.size ≤ b ∧ b < w'.heap.size)
def BW (w : World) (x : Spv) : World := (w.alloc (.cells x.cells 28 (0, 0))).alloc (.cells Spv.zero.cells 28 (0, 0))
structure RsW (w : World) (x : Spv) (W : World) : Prop where
  low : Below w.heap.size w W
  box : W.heap[w.heap.size]? = some (.cells x.cells 28 (0, 0))
  res : W.heap[w.heap.size + 1]? = some (.cells Spv.zero.cells 28 (0, 0))
theorem RsW.new (w : World) (x : Spv) : RsW w x (BW w x) := ⟨((Below.refl _ _).alloc (Nat.le_refl _) _).alloc (by simp) _, blk_old _ (blk_new _ _), blk_at _ _ (by simp)⟩
theorem RsW.on {w W W' : World} {x : Spv} (h : RsW w x W) (hb : Below W.heap.size W W') : RsW w x W' := ⟨h.low.trans (hb.mono h.low.size), blk_below hb h.box (blk_lt h.box), blk_below hb h.res (blk_lt h.res)⟩
theorem RsW.set {w W : World} {x x' : Spv} (h : RsW w x W) (o : Nat) (v : Value) (e : x.cells.setIfInBounds o v = x'.cells) : RsW w x' (W.setCell ⟨w.heap.size, o, none⟩ v) :=
  ⟨h.low.setCell (Nat.le_refl _) _, by rw [← e]; exact blk_set h.box o v, blk_set_other (by omega) _ h.res⟩
end Go.Proofs.YteoihdkaoipocaaDoor

/- corveeref08.set: the amount, the numbers, and all of it. -/
namespace Go.Proofs.YteoihdkaoipocaaDoor
open Go.RowKit Go.Maps Go.Shelf Go.Sort

end Go.Proofs.YteoihdkaoipocaaDoor

/- corveeref08.Parse: what a text asks for, as the document tells it. -/
namespace Go.Proofs.YteoihdkaoipocaaDoor
open Go.RowKit Go.Maps Go.Shelf Go.Sort

def keyAt (i : Int) : ByteArray := keysL.getD i.toNat ByteArray.empty
/-- the numbers of the keys met -/
structure MetI (met : List ByteArray) (zs : List Int) : Prop where
  eq : met = zs.map keyAt
  bd : ∀ z, z ∈ zs → 0 ≤ z ∧ z < 10
/-- what stands while the document parses -/
structure RqW (w w1 : World) (x : Spv) (zs : List Int) (ov : Value) (W : World) : Prop where
  low : w1.grownBy W (some (w.heap.size + 1))
  lo0 : Below w.heap.size w w1
  res : W.heap[w.heap.size]? = some (.cells Spv.zero.cells 28 (0, 0))
  box : W.heap[w.heap.size + 1]? = some (.cells x.cells 28 (0, 0))
  ok : x.ok W
  own : OwnI W w1.heap.size ov zs
  off : ∀ b o, x.so = some ⟨b, o, none⟩ → w1.heap.size ≤ b ∧ b < W.heap.size ∧ some b ≠ ov.ownBlock
  lt : w.heap.size + 1 < w1.heap.size
/-- a spec stored into a variable -/
abbrev set13 (W : World) (b : Nat) (x : Spv) : World := (((((((((((((W.setCell ⟨b, 0, none⟩ (.string x.pl.user)).setCell ⟨b, 1, none⟩ (.string x.pl.part)).setCell ⟨b, 2, none⟩ (.int .i64 x.pl.nodes)).setCell ⟨b, 3, none⟩ (.int .i64 x.pl.dem.a)).setCell ⟨b, 4, none⟩ (.int .i64 x.pl.dem.b)).setCell ⟨b, 5, none⟩ (.int .i64 x.pl.dem.c)).setCell ⟨b, 6, none⟩ (.int .i64 x.pl.dem.d)).setCell ⟨b, 7, none⟩ (.int .i64 x.pl.wall)).setCell ⟨b, 8, none⟩ (.int .i64 x.pl.prio)).setCell ⟨b, 9, none⟩ (.int .i64 x.pl.array)).setCell ⟨b, 10, none⟩ (.int .i64 x.pl.retries)).setCell ⟨b, 11, none⟩ (.bool x.pl.held)).setCell ⟨b, 12, none⟩ (.slice x.so x.n x.c))
theorem RqW.on {w w1 : World} {x : Spv} {zs : List Int} {ov : Value} {W W' : World} (h : RqW w w1 x zs ov W) (hb : Below W.heap.size W W') : RqW w w1 x zs ov W' :=
  ⟨gb_trans h.low (gb_below hb _), h.lo0, blk_below hb h.res (blk_lt h.res), blk_below hb h.box (blk_lt h.box), h.ok.low hb, ownI_low h.own hb, fun b o e => ⟨(h.off b o e).1, Nat.lt_of_lt_of_le (h.off b o e).2.1 hb.size, (h.off b o e).2.2⟩, h.lt⟩
theorem RqW.lo {w w1 : World} {x : Spv} {zs : List Int} {ov : Value} {W : World} (h : RqW w w1 x zs ov W) : Below w.heap.size w W := below_gb h.lo0 h.low h.lo0.size (Nat.le_succ _)
end Go.Proofs.YteoihdkaoipocaaDoor

/- corveeref08.Same; spec.Need; corveelaw08.awake. -/
namespace Go.Proofs.YteoihdkaoipocaaDoor
open Go.RowKit Go.Maps Go.Shelf Go.Sort

theorem str_dec (p q : ByteArray) : (p.toList == q.toList) = decide (p = q) := by
  by_cases h : p = q
  · rw [str_eq h, decide_eq_true h]
  · rw [str_ne h, decide_eq_false h]
theorem int_dec (a b : Int) : (a == b) = decide (a = b) := by
  by_cases h : a = b <;> simp [h]
theorem bool_dec (a b : Bool) : (a == b) = decide (a = b) := by cases a <;> cases b <;> rfl
theorem spp_dec (a b : Spp) : decide (a = b) = (decide (a.after = b.after) && decide (a.user = b.user) && decide (a.part = b.part) && decide (a.nodes = b.nodes) && decide (a.dem = b.dem) && decide (a.wall = b.wall) && decide (a.prio = b.prio) && decide (a.array = b.array) && decide (a.retries = b.retries) && decide (a.held = b.held)) := by
  obtain ⟨a1, a2, a3, a4, a5, a6, a7, a8, a9, a10⟩ := a
  obtain ⟨b1, b2, b3, b4, b5, b6, b7, b8, b9, b10⟩ := b
  rw [Bool.eq_iff_iff]
  simp only [Bool.and_eq_true, decide_eq_true_eq, Spp.mk.injEq]
  constructor
  · rintro ⟨h1, h2, h3, h4, h5, h6, h7, h8, h9, h10⟩
    exact ⟨⟨⟨⟨⟨⟨⟨⟨⟨h10, h1⟩, h2⟩, h3⟩, h4⟩, h5⟩, h6⟩, h7⟩, h8⟩, h9⟩
  · rintro ⟨⟨⟨⟨⟨⟨⟨⟨⟨h10, h1⟩, h2⟩, h3⟩, h4⟩, h5⟩, h6⟩, h7⟩, h8⟩, h9⟩
    exact ⟨h1, h2, h3, h4, h5, h6, h7, h8, h9, h10⟩
def SamePost (x y : Spv) (w : World) (e : Ending) (w' : World) : Prop := e = .returned (.bool (decide (x.pl = y.pl))) ∧ Below w.heap.size w w'
set_option maxRecDepth 100000 in
set_option maxHeartbeats 3200000 in
theorem same_any8 (x y : Spv) (w : World) (hx : x.ok w) (hy : y.ok w) : Calls Tryd.prog 24 #[x.val, y.val] w (SamePost x y w) := by
  obtain ⟨W0, hW0⟩ : ∃ W0, W0 = (w.alloc (.cells x.cells 28 (0, 0))).alloc (.cells y.cells 28 (0, 0)) := ⟨_, rfl⟩
  have hb0 : Below w.heap.size w W0 := by rw [hW0]; exact ((Below.refl _ _).alloc (Nat.le_refl _) _).alloc (by simp) _
  have hx0 : W0.heap[w.heap.size]? = some (.cells x.cells 28 (0, 0)) := by rw [hW0]; exact blk_old _ (blk_new _ _)
  have hy0 : W0.heap[w.heap.size + 1]? = some (.cells y.cells 28 (0, 0)) := by rw [hW0]; exact blk_at _ _ (by simp)
  have hct := samei_any x.so y.so x.n y.n x.c y.c x.pl.after y.pl.after W0 (hx.low hb0).after (hy.low hb0).after
  have hzz := spp_dec x.pl y.pl
  obtain ⟨⟨user, part, nodes, ⟨da, db, dc, dd⟩, wall, prio, array, retries, held, after⟩, so, n, cp⟩ := x
  obtain ⟨⟨user', part', nodes', ⟨da', db', dc', dd'⟩, wall', prio', array', retries', held', after'⟩, so', n', cp'⟩ := y
  have e1 := str_dec user user'
  have e2 := str_dec part part'
  have e3 := int_dec nodes nodes'
  have e4 := eq25 ⟨da, db, dc, dd⟩ ⟨da', db', dc', dd'⟩
  have e5 := int_dec wall wall'
  have e6 := int_dec prio prio'
  have e7 := int_dec array array'
  have e8 := int_dec retries retries'
  have e9 := bool_dec held held'
  obtain ⟨q0, h0⟩ : ∃ q, q = decide (after = after') := ⟨_, rfl⟩
  obtain ⟨q1, h1⟩ : ∃ q, q = decide (user = user') := ⟨_, rfl⟩
  obtain ⟨q2, h2⟩ : ∃ q, q = decide (part = part') := ⟨_, rfl⟩
  obtain ⟨q3, h3⟩ : ∃ q, q = decide (nodes = nodes') := ⟨_, rfl⟩
  obtain ⟨q4, h4⟩ : ∃ q, q = decide ((⟨da, db, dc, dd⟩ : V4) = ⟨da', db', dc', dd'⟩) := ⟨_, rfl⟩
  obtain ⟨q5, h5⟩ : ∃ q, q = decide (wall = wall') := ⟨_, rfl⟩
  obtain ⟨q6, h6⟩ : ∃ q, q = decide (prio = prio') := ⟨_, rfl⟩
  obtain ⟨q7, h7⟩ : ∃ q, q = decide (array = array') := ⟨_, rfl⟩
  obtain ⟨q8, h8⟩ : ∃ q, q = decide (retries = retries') := ⟨_, rfl⟩
  obtain ⟨q9, h9⟩ : ∃ q, q = decide (held = held') := ⟨_, rfl⟩
  unfold SameiPost at hct
  rw [← h0] at hct
  rw [← h1] at e1
  rw [← h2] at e2
  rw [← h3] at e3
  rw [← h4] at e4
  rw [← h5] at e5
  rw [← h6] at e6
  rw [← h7] at e7
  rw [← h8] at e8
  rw [← h9] at e9
  have hz : decide ((⟨user, part, nodes, ⟨da, db, dc, dd⟩, wall, prio, array, retries, held, after⟩ : Spp) = ⟨user', part', nodes', ⟨da', db', dc', dd'⟩, wall', prio', array', retries', held', after'⟩) = (q0 && q1 && q2 && q3 && q4 && q5 && q6 && q7 && q8 && q9) := by
    rw [hzz]
    show (decide (after = after') && decide (user = user') && decide (part = part') && decide (nodes = nodes') && decide ((⟨da, db, dc, dd⟩ : V4) = ⟨da', db', dc', dd'⟩) && decide (wall = wall') && decide (prio = prio') && decide (array = array') && decide (retries = retries') && decide (held = held')) = _
    rw [← h0, ← h1, ← h2, ← h3, ← h4, ← h5, ← h6, ← h7, ← h8, ← h9]
  unfold SamePost
  show Calls _ _ _ _ fun e w' => e = .returned (.bool (decide ((⟨user, part, nodes, ⟨da, db, dc, dd⟩, wall, prio, array, retries, held, after⟩ : Spp) = ⟨user', part', nodes', ⟨da', db', dc', dd'⟩, wall', prio', array', retries', held', after'⟩))) ∧ Below w.heap.size w w'
  rw [hz]
  clear hzz h0 h1 h2 h3 h4 h5 h6 h7 h8 h9 hz
  have hz : True := trivial
  rw [hW0] at hct
  have hW0' := Lib.hid hW0
  clear hW0
  have e4' := Lib.hid e4
  clear e4
  replace hb0 := Lib.hid hb0; replace hx0 := Lib.hid hx0; replace hy0 := Lib.hid hy0; replace hct := Lib.hid hct; replace hx := Lib.hid hx; replace hy := Lib.hid hy; replace e1 := Lib.hid e1; replace e2 := Lib.hid e2; replace e3 := Lib.hid e3; replace e5 := Lib.hid e5; replace e6 := Lib.hid e6; replace e7 := Lib.hid e7; replace e8 := Lib.hid e8; replace e9 := Lib.hid e9
  go_enter Tryd.func24, Tryd.ntmps24
  go_wp2_with fail
  refine hct.out.mono ?_
  rintro e w1 ⟨rfl, hb1⟩
  rw [← hW0'.out] at hb1
  have hx1 := blk_below hb1 hx0.out (blk_lt hx0.out)
  have hy1 := blk_below hb1 hy0.out (blk_lt hy0.out)
  have hlow : Below w.heap.size w w1 := hb0.out.trans (hb1.mono hb0.out.size)
  have y0 : w1.cell? ⟨w.heap.size, 0, none⟩ = some (.string user) := blk_cell hx1 0
  have y1 : w1.cell? ⟨w.heap.size, 1, none⟩ = some (.string part) := blk_cell hx1 1
  have y2 : w1.cell? ⟨w.heap.size, 2, none⟩ = some (.int .i64 nodes) := blk_cell hx1 2
  have y3 : w1.cell? ⟨w.heap.size, 3, none⟩ = some (.int .i64 da) := blk_cell hx1 3
  have y4 : w1.cell? ⟨w.heap.size, 4, none⟩ = some (.int .i64 db) := blk_cell hx1 4
  have y5 : w1.cell? ⟨w.heap.size, 5, none⟩ = some (.int .i64 dc) := blk_cell hx1 5
  have y6 : w1.cell? ⟨w.heap.size, 6, none⟩ = some (.int .i64 dd) := blk_cell hx1 6
  have y7 : w1.cell? ⟨w.heap.size, 7, none⟩ = some (.int .i64 wall) := blk_cell hx1 7
  have y8 : w1.cell? ⟨w.heap.size, 8, none⟩ = some (.int .i64 prio) := blk_cell hx1 8
  have y9 : w1.cell? ⟨w.heap.size, 9, none⟩ = some (.int .i64 array) := blk_cell hx1 9
  have y10 : w1.cell? ⟨w.heap.size, 10, none⟩ = some (.int .i64 retries) := blk_cell hx1 10
  have y11 : w1.cell? ⟨w.heap.size, 11, none⟩ = some (.bool held) := blk_cell hx1 11
  have y12 : w1.cell? ⟨w.heap.size, 12, none⟩ = some (.slice so n cp) := blk_cell hx1 12
  have z0 : w1.cell? ⟨w.heap.size + 1, 0, none⟩ = some (.string user') := blk_cell hy1 0
  have z1 : w1.cell? ⟨w.heap.size + 1, 1, none⟩ = some (.string part') := blk_cell hy1 1
  have z2 : w1.cell? ⟨w.heap.size + 1, 2, none⟩ = some (.int .i64 nodes') := blk_cell hy1 2
  have z3 : w1.cell? ⟨w.heap.size + 1, 3, none⟩ = some (.int .i64 da') := blk_cell hy1 3
  have z4 : w1.cell? ⟨w.heap.size + 1, 4, none⟩ = some (.int .i64 db') := blk_cell hy1 4
  have z5 : w1.cell? ⟨w.heap.size + 1, 5, none⟩ = some (.int .i64 dc') := blk_cell hy1 5
  have z6 : w1.cell? ⟨w.heap.size + 1, 6, none⟩ = some (.int .i64 dd') := blk_cell hy1 6
  have z7 : w1.cell? ⟨w.heap.size + 1, 7, none⟩ = some (.int .i64 wall') := blk_cell hy1 7
  have z8 : w1.cell? ⟨w.heap.size + 1, 8, none⟩ = some (.int .i64 prio') := blk_cell hy1 8
  have z9 : w1.cell? ⟨w.heap.size + 1, 9, none⟩ = some (.int .i64 array') := blk_cell hy1 9
  have z10 : w1.cell? ⟨w.heap.size + 1, 10, none⟩ = some (.int .i64 retries') := blk_cell hy1 10
  have z11 : w1.cell? ⟨w.heap.size + 1, 11, none⟩ = some (.bool held') := blk_cell hy1 11
  have z12 : w1.cell? ⟨w.heap.size + 1, 12, none⟩ = some (.slice so' n' cp') := blk_cell hy1 12
  replace hx1 := Lib.hid hx1; replace hy1 := Lib.hid hy1; replace hlow := Lib.hid hlow; replace hb1 := Lib.hid hb1
  cases q0 with
  | false =>
    go_wp2
    go_ret
    exact ⟨rfl, hlow.out⟩
  | true =>
  have f1 := e1.out
  cases q1 with
  | false =>
    go_wp2
    go_ret
    exact ⟨rfl, hlow.out⟩
  | true =>
  have f2 := e2.out
  cases q2 with
  | false =>
    go_wp2
    go_ret
    exact ⟨rfl, hlow.out⟩
  | true =>
  have f3 := e3.out
  cases q3 with
  | false =>
    go_wp2
    go_ret
    exact ⟨rfl, hlow.out⟩
  | true =>
  have f4 := e4'.out
  cases q4 with
  | false =>
    go_wp2
    go_ret
    exact ⟨rfl, hlow.out⟩
  | true =>
  have f5 := e5.out
  cases q5 with
  | false =>
    go_wp2
    go_ret
    exact ⟨rfl, hlow.out⟩
  | true =>
  have f6 := e6.out
  cases q6 with
  | false =>
    go_wp2
    go_ret
    exact ⟨rfl, hlow.out⟩
  | true =>
  have f7 := e7.out
  cases q7 with
  | false =>
    go_wp2
    go_ret
    exact ⟨rfl, hlow.out⟩
  | true =>
  have f8 := e8.out
  cases q8 with
  | false =>
    go_wp2
    go_ret
    exact ⟨rfl, hlow.out⟩
  | true =>
  have f9 := e9.out
  cases q9 with
  | false =>
    go_wp2
    go_ret
    exact ⟨rfl, hlow.out⟩
  | true =>
  go_wp2
  go_ret
  exact ⟨rfl, hlow.out⟩
end Go.Proofs.YteoihdkaoipocaaDoor

/- corveeref08.Need, Rows. -/
namespace Go.Proofs.YteoihdkaoipocaaDoor
open Go.RowKit Go.Maps Go.Shelf Go.Sort

def nx4 (d : V4) (n : Int) (k : Nat) : V4 := ⟨if 0 < k then d.a * n else d.a, if 1 < k then d.b * n else d.b, if 2 < k then d.c * n else d.c, if 3 < k then d.d * n else d.d⟩
structure NrW (w : World) (x : Spv) (vb : Nat) (v : V4) (W : World) : Prop where
  low : Below w.heap.size w W
  box : W.heap[w.heap.size]? = some (.cells x.cells 28 (0, 0))
  res : W.heap[w.heap.size + 1]? = some (.cells V4.zero.cells 25 (0, 0))
  vec : W.heap[vb]? = some (.cells v.cells 25 (0, 0))
  lt : w.heap.size + 1 < vb
theorem NrW.set {w W : World} {x : Spv} {vb : Nat} {v v' : V4} (h : NrW w x vb v W) (o : Nat) (z : Value) (e : v.cells.setIfInBounds o z = v'.cells) : NrW w x vb v' (W.setCell ⟨vb, o, none⟩ z) :=
  ⟨h.low.setCell (show w.heap.size ≤ vb by have := h.lt; omega) _, blk_set_other (by have := h.lt; omega) _ h.box, blk_set_other (by have := h.lt; omega) _ h.res, by rw [← e]; exact blk_set h.vec o z, h.lt⟩
theorem NrW.drew {w W : World} {x : Spv} {vb : Nat} {v : V4} (h : NrW w x vb v W) : NrW w x vb v W.drew := ⟨h.low.drew, h.box, h.res, h.vec, h.lt⟩
end Go.Proofs.YteoihdkaoipocaaDoor

/- corveeref08.Expand. -/
namespace Go.Proofs.YteoihdkaoipocaaDoor
open Go.RowKit Go.Maps Go.Shelf Go.Sort

theorem info28 : (Tryd.prog.info? 28).map (fun i => (i.zero, i.size, i.bytes)) = some (some Spv.zero.val, 13, 136) := by kernel_rfl
theorem spv_new (w : World) (x : Spv) : ∀ j u, x.cells.toList[j]? = some u → (w.alloc (.cells x.cells 28 (0, 0))).cell? ((⟨w.heap.size, 0, none⟩ : Addr).add j) = some u := by
  intro j u hu
  rw [Addr.add_lit, Nat.zero_add, blk_cell (blk_new w _)]
  simpa using hu
theorem spv_one (x : Spv) : ∀ u ∈ x.cells.toList, u.oneCell' = true := by simp [Value.oneCell']
/-- a row of specs of one's own -/
structure OwnS (w : World) (B : Nat) (v : Value) (xs : List Spv) : Prop where
  row : w.ownsRow B 28 13 v xs.length (flatv Spv.cells xs)
theorem ownS_low {w w' : World} {B : Nat} {v : Value} {xs : List Spv} (h : OwnS w B v xs) (hb : Below w.heap.size w w') : OwnS w' B v xs := by
  refine ⟨h.row.1, ?_⟩
  rcases h.row.2 with ⟨hv, h0⟩ | ⟨g, cap, cur, hv, hg, hh, hr⟩
  · exact .inl ⟨hv, h0⟩
  · exact .inr ⟨g, cap, cur, hv, hg, blk_below hb hh (blk_lt hh), hr⟩
def Spv.single (x : Spv) : Spv := ⟨{ x.pl with array := 1 }, x.so, x.n, x.c⟩
def expN (s : Spp) : Nat := if mayS s = true then s.array.toNat else 0
def RexPost (x : Spv) (w : World) (e : Ending) (w' : World) : Prop := ∃ v, e = .returned v ∧ OwnS w' w.heap.size v (List.replicate (expN x.pl) x.single) ∧ Below w.heap.size w w'
end Go.Proofs.YteoihdkaoipocaaDoor

/- Rows of specs that are written in place. Plain theorems: no condition. -/
namespace Go.Proofs.YteoihdkaoipocaaDoor
open Go.RowKit Go.Maps Go.Shelf Go.Sort

/-- cells stored one behind the other -/
def setsA (c : Array Value) (base : Nat) : List Value → Array Value
  | [] => c
  | v :: vs => setsA (c.setIfInBounds base v) (base + 1) vs
def setRow (W : World) (g base : Nat) : List Value → World
  | [] => W
  | v :: vs => setRow (W.setCell ⟨g, base, none⟩ v) g (base + 1) vs
theorem setsA_size : ∀ (vs : List Value) (c : Array Value) (base : Nat), (setsA c base vs).size = c.size
  | [], _, _ => rfl
  | v :: vs, c, base => by rw [setsA, setsA_size vs]; simp
theorem setsA_low : ∀ (vs : List Value) (c : Array Value) (base i : Nat), i < base → (setsA c base vs)[i]? = c[i]?
  | [], _, _, _, _ => rfl
  | v :: vs, c, base, i, h => by
    rw [setsA, setsA_low vs _ _ _ (by omega), Array.getElem?_setIfInBounds, if_neg (by omega)]
theorem setsA_high : ∀ (vs : List Value) (c : Array Value) (base i : Nat), base + vs.length ≤ i → (setsA c base vs)[i]? = c[i]?
  | [], _, _, _, _ => rfl
  | v :: vs, c, base, i, h => by
    simp only [List.length_cons] at h
    rw [setsA, setsA_high vs _ _ _ (by omega), Array.getElem?_setIfInBounds, if_neg (by omega)]
theorem setsA_at : ∀ (vs : List Value) (c : Array Value) (base o : Nat), o < vs.length → base + vs.length ≤ c.size → (setsA c base vs)[base + o]? = vs[o]?
  | [], _, _, _, h, _ => by simp at h
  | v :: vs, c, base, 0, h, hs => by
    simp only [List.length_cons] at hs
    rw [setsA, setsA_low vs _ _ _ (by omega), Nat.add_zero, Array.getElem?_setIfInBounds, if_pos rfl, if_pos (by omega)]
    rfl
  | v :: vs, c, base, o + 1, h, hs => by
    simp only [List.length_cons] at h hs
    rw [setsA, show base + (o + 1) = base + 1 + o by omega, setsA_at vs _ _ _ (by omega) (by simp; omega)]
    rfl
theorem setRow_row : ∀ (vs : List Value) {W : World} {g base : Nat} {c : Array Value} {T : TypeId} {fr : Nat × Nat}, W.heap[g]? = some (.cells c T fr) → (setRow W g base vs).heap[g]? = some (.cells (setsA c base vs) T fr)
  | [], _, _, _, _, _, _, h => h
  | v :: vs, _, _, base, _, _, _, h => setRow_row vs (blk_set h base v)
theorem setRow_gb : ∀ (vs : List Value) (W : World) (g base : Nat), W.grownBy (setRow W g base vs) (some g)
  | [], W, _, _ => gb_refl W _
  | v :: vs, W, g, base => gb_trans (gb_set (gb_refl W _) v) (setRow_gb vs _ g (base + 1))
/-- a row of so many specs, of which some are written -/
structure SpRow (c : Array Value) (N : Nat) (xs : List Spv) : Prop where
  size : c.size = N * 13
  done : ∀ j y, xs[j]? = some y → ∀ o, o < 13 → c[j * 13 + o]? = y.cells[o]?
  rest : ∀ j, xs.length ≤ j → j < N → ∀ o, o < 13 → c[j * 13 + o]? = Spv.zero.cells[o]?
theorem SpRow.next {c c' : Array Value} {N : Nat} {xs : List Spv} {y : Spv} (h : SpRow c N xs) (hs : c'.size = c.size) (hk : ∀ o, o < 13 → c'[xs.length * 13 + o]? = y.cells[o]?) (ho : ∀ i, i < xs.length * 13 ∨ xs.length * 13 + 13 ≤ i → c'[i]? = c[i]?) : SpRow c' N (xs ++ [y]) := by
  refine ⟨by rw [hs, h.size], fun j z hj o h13 => ?_, fun j hj hjN o h13 => ?_⟩
  · by_cases e : j < xs.length
    · rw [List.getElem?_append_left e] at hj
      rw [ho _ (.inl (by omega))]
      exact h.done j z hj o h13
    · rw [List.getElem?_append_right (by omega)] at hj
      have hj0 : j - xs.length = 0 := by
        have := (List.getElem?_eq_some_iff.1 hj).1
        simp at this
        omega
      rw [hj0] at hj
      have : z = y := by simpa using hj.symm
      subst this
      rw [show j = xs.length by omega]
      exact hk o h13
  · simp only [List.length_append, List.length_cons, List.length_nil] at hj
    rw [ho _ (.inr (by omega))]
    exact h.rest j (by omega) hjN o h13
end Go.Proofs.YteoihdkaoipocaaDoor

/- spec.Expand: the jobs of an array. -/
namespace Go.Proofs.YteoihdkaoipocaaDoor
open Go.RowKit Go.Maps Go.Shelf Go.Sort

/-- what a copy of numbers is -/
def CloPost (n : Nat) (l : List Int) (W : World) (e : Ending) (w' : World) : Prop :=
  ∃ so' c', e = .returned (.slice so' n c') ∧ n ≤ c' ∧ IntsAt w' so' n l ∧ (∀ b o, so' = some ⟨b, o, none⟩ → o = 0 ∧ W.heap.size ≤ b ∧ b < w'.heap.size ∧ ∃ cc, w'.heap[b]? = some (.cells cc 3 (0, 0))) ∧ Below W.heap.size W w'
/-- what an array's jobs are, so far -/
structure ExpG (w : World) (x : Spv) (g N : Nat) (xs : List Spv) (W : World) : Prop where
  low : Below w.heap.size w W
  glt : w.heap.size < g
  row : ∃ c, W.heap[g]? = some (.cells c 28 (0, 0)) ∧ SpRow c N xs
  one : ∀ (j : Nat) (y : Spv), xs[j]? = some y → y.pl = x.single.pl ∧ y.n = x.n ∧ y.n ≤ y.c ∧ IntsAt W y.so y.n x.pl.after ∧ ∀ b o, y.so = some ⟨b, o, none⟩ → o = 0 ∧ g < b ∧ b < W.heap.size ∧ ∃ cc, W.heap[b]? = some (.cells cc 3 (0, 0))
  apart : ∀ (i j : Nat) (y z : Spv) (b o o' : Nat), xs[i]? = some y → xs[j]? = some z → i < j → y.so = some ⟨b, o, none⟩ → z.so ≠ some ⟨b, o', none⟩
structure ExpW (w : World) (x : Spv) (g N : Nat) (xs : List Spv) (W : World) : Prop extends ExpG w x g N xs W where
  box : W.heap[w.heap.size]? = some (.cells x.cells 28 (0, 0))
def ExpPost (x : Spv) (w : World) (e : Ending) (w' : World) : Prop :=
  (mayS x.pl = false ∧ e = .returned (.slice none 0 0) ∧ Below w.heap.size w w') ∨ (mayS x.pl = true ∧ ∃ g xs, e = .returned (.slice (some ⟨g, 0, none⟩) (expN x.pl) (expN x.pl)) ∧ xs.length = expN x.pl ∧ ExpG w x g (expN x.pl) xs w')
/-- one job more -/
theorem ExpW.next {w : World} {x : Spv} {g N : Nat} {xs : List Spv} {W W5 : World} (h : ExpW w x g N xs W) (hN : xs.length < N) (so' : Option Addr) (c' : Nat) (hnc : x.n ≤ c')
    (hi : IntsAt W5 so' x.n x.pl.after) (hfr : ∀ b o, so' = some ⟨b, o, none⟩ → o = 0 ∧ W.heap.size ≤ b ∧ b < W5.heap.size ∧ ∃ cc, W5.heap[b]? = some (.cells cc 3 (0, 0)))
    (hb : Below ((setRow W g (xs.length * 13) x.cells.toList).setCell ⟨g, xs.length * 13 + 9, none⟩ (.int .i64 1)).heap.size ((setRow W g (xs.length * 13) x.cells.toList).setCell ⟨g, xs.length * 13 + 9, none⟩ (.int .i64 1)) W5) :
    ExpW w x g N (xs ++ [⟨x.single.pl, so', x.n, c'⟩]) (W5.setCell ⟨g, xs.length * 13 + 12, none⟩ (.slice so' x.n c')) := by
  obtain ⟨c, hrow, hsp⟩ := h.row
  have hglt := blk_lt hrow
  have g1 := setRow_gb x.cells.toList W g (xs.length * 13)
  have g2 := gb_set (o := xs.length * 13 + 9) g1 (.int .i64 1)
  have g3 := gb_trans g2 (gb_below hb (some g))
  have g4 := gb_set (o := xs.length * 13 + 12) g3 (.slice so' x.n c')
  have r1 := setRow_row x.cells.toList (base := xs.length * 13) hrow
  have r2 := blk_set r1 (xs.length * 13 + 9) (.int .i64 1)
  have r3 := blk_below hb r2 (blk_lt r2)
  have r4 := blk_set r3 (xs.length * 13 + 12) (.slice so' x.n c')
  have hsz : xs.length * 13 + 13 ≤ c.size := by rw [hsp.size]; omega
  have hkeep : ∀ b, b ≠ g → b < W.heap.size → (W5.setCell ⟨g, xs.length * 13 + 12, none⟩ (.slice so' x.n c')).heap[b]? = W.heap[b]? := fun b hne hlt => g4.block b hlt (fun e => hne (by injection e with e))
  have hsz5 : W.heap.size ≤ W5.heap.size := g3.size
  have hss : (W5.setCell ⟨g, xs.length * 13 + 12, none⟩ (.slice so' x.n c')).heap.size = W5.heap.size := by simp [World.setCell]
  refine ⟨⟨below_gb h.low g4 h.low.size (Nat.le_of_lt h.glt), h.glt, ⟨_, r4, hsp.next (y := ⟨x.single.pl, so', x.n, c'⟩) ?_ ?_ ?_⟩, fun j y hj => ?_, fun i j y z b o o' hi' hj' hij hy hz => ?_⟩, (hkeep _ (by have := h.glt; omega) (blk_lt h.box)).trans h.box⟩
  · simp [setsA_size]
  · intro o ho
    have hlen : x.cells.toList.length = 13 := rfl
    rw [Array.getElem?_setIfInBounds]
    by_cases e12 : o = 12
    · subst e12
      rw [if_pos rfl, if_pos (by simp [setsA_size]; omega)]
      rfl
    · rw [if_neg (by omega), Array.getElem?_setIfInBounds]
      by_cases e9 : o = 9
      · subst e9
        rw [if_pos rfl, if_pos (by rw [setsA_size]; omega)]
        rfl
      · rw [if_neg (by omega), setsA_at _ _ _ _ (by rw [hlen]; omega) (by rw [hlen]; omega)]
        rcases (show o = 0 ∨ o = 1 ∨ o = 2 ∨ o = 3 ∨ o = 4 ∨ o = 5 ∨ o = 6 ∨ o = 7 ∨ o = 8 ∨ o = 10 ∨ o = 11 by omega) with rfl | rfl | rfl | rfl | rfl | rfl | rfl | rfl | rfl | rfl | rfl <;> rfl
  · intro i hi'
    have hlen : x.cells.toList.length = 13 := rfl
    rw [Array.getElem?_setIfInBounds, if_neg (by omega), Array.getElem?_setIfInBounds, if_neg (by omega)]
    rcases hi' with h1 | h1
    · exact setsA_low _ _ _ _ h1
    · exact setsA_high _ _ _ _ (by rw [hlen]; omega)
  · by_cases e : j < xs.length
    · rw [List.getElem?_append_left e] at hj
      obtain ⟨a1, a2, a3, a4, a5⟩ := h.one j y hj
      refine ⟨a1, a2, a3, ints_gb a4 g4 fun b o e => by have := (a5 b o e).2.1; omega, fun b o e => ?_⟩
      obtain ⟨b1, b2, b3, cc, b4⟩ := a5 b o e
      exact ⟨b1, b2, by rw [hss]; omega, cc, (hkeep b (by omega) b3).trans b4⟩
    · rw [List.getElem?_append_right (by omega)] at hj
      have hj0 : j - xs.length = 0 := by
        have := (List.getElem?_eq_some_iff.1 hj).1
        simp at this
        omega
      rw [hj0] at hj
      have hy : y = ⟨x.single.pl, so', x.n, c'⟩ := by simpa using hj.symm
      subst hy
      have hne : ∀ b o, so' = some ⟨b, o, none⟩ → b ≠ g := fun b o e => by have := (hfr b o e).2.1; omega
      refine ⟨rfl, rfl, hnc, ints_gb hi (gb_set (gb_refl W5 (some g)) _) hne, fun b o e => ?_⟩
      obtain ⟨b1, b2, b3, cc, b4⟩ := hfr b o e
      exact ⟨b1, by omega, by rw [hss]; exact b3, cc, blk_set_other (hne b o e) _ b4⟩
  · by_cases e : j < xs.length
    · rw [List.getElem?_append_left e] at hj'
      rw [List.getElem?_append_left (by omega)] at hi'
      exact h.apart i j y z b o o' hi' hj' hij hy hz
    · rw [List.getElem?_append_right (by omega)] at hj'
      have hj0 : j - xs.length = 0 := by
        have := (List.getElem?_eq_some_iff.1 hj').1
        simp at this
        omega
      rw [hj0] at hj'
      have hzz : z = ⟨x.single.pl, so', x.n, c'⟩ := by simpa using hj'.symm
      subst hzz
      have hi2 : i < xs.length := by
        have := (List.getElem?_eq_some_iff.1 hj').1
        omega
      rw [List.getElem?_append_left hi2] at hi'
      have q1 := ((h.one i y hi').2.2.2.2 b o hy).2.2.1
      have q2 := (hfr b o' hz).2.1
      omega
end Go.Proofs.YteoihdkaoipocaaDoor

/- spec.Expand, its walk. -/
namespace Go.Proofs.YteoihdkaoipocaaDoor
open Go.RowKit Go.Maps Go.Shelf Go.Sort

end Go.Proofs.YteoihdkaoipocaaDoor

/- corveeref08.Rows: are two rows of specs the same? -/
namespace Go.Proofs.YteoihdkaoipocaaDoor
open Go.RowKit Go.Maps Go.Shelf Go.Sort

/-- a row of specs in memory -/
structure SpsAt (w : World) (so : Option Addr) (n : Nat) (xs : List Spv) : Prop where
  len : xs.length = n
  max : n ≤ 9223372036854775807
  cell : ∀ (i : Nat) (x : Spv), xs[i]? = some x → ∃ b off, so = some ⟨b, off, none⟩ ∧ b < w.heap.size ∧ (∀ j, j < 13 → w.cell? ⟨b, off + i * 13 + j, none⟩ = x.cells[j]?) ∧ x.ok w
theorem SpsAt.low {w w' : World} {so : Option Addr} {n : Nat} {xs : List Spv} (h : SpsAt w so n xs) (hb : Below w.heap.size w w') : SpsAt w' so n xs :=
  ⟨h.len, h.max, fun i x hx => by
    obtain ⟨b, off, e, hlt, hc, ho⟩ := h.cell i x hx
    exact ⟨b, off, e, Nat.lt_of_lt_of_le hlt hb.size, fun j hj => (below_cell hb hlt).trans (hc j hj), ho.low hb⟩⟩
def RowsPost (xs ys : List Spv) (w : World) (e : Ending) (w' : World) : Prop := e = .returned (.bool (decide (xs.map Spv.pl = ys.map Spv.pl))) ∧ Below w.heap.size w w'
structure RwC (w : World) (q : Bool) (bv : Value) (wx : World) : Prop where
  b : bv = .bool q
  low : Below w.heap.size w wx
set_option maxRecDepth 100000 in
set_option maxHeartbeats 3200000 in
theorem rows_any (ao bo : Option Addr) (n m c c' : Nat) (xs ys : List Spv) (w : World) (hx : SpsAt w ao n xs) (hy : SpsAt w bo m ys) : Calls Tryd.prog 40 #[.slice ao n c, .slice bo m c'] w (RowsPost xs ys w) := by
  have hlx := hx.len
  have hly := hy.len
  have hmx := hx.max
  by_cases q : n = m
  rotate_left
  · have d : ((n : Int) != (m : Int)) = true := by rw [bne_iff_ne]; omega
    have hne : decide (xs.map Spv.pl = ys.map Spv.pl) = false := decide_eq_false fun h => q (by have := congrArg List.length h; simp at this; omega)
    replace hx := Lib.hid hx; replace hy := Lib.hid hy; replace hlx := Lib.hid hlx; replace hly := Lib.hid hly; replace q := Lib.hid q; replace hne := Lib.hid hne
    go_enter Tryd.func40, Tryd.ntmps40
    go_wp2
    go_ret
    exact ⟨by rw [hne.out]; rfl, Below.refl _ _⟩
  subst q
  have d : ((n : Int) != (n : Int)) = false := by simp
  replace hx := Lib.hid hx; replace hy := Lib.hid hy; replace hlx := Lib.hid hlx; replace hly := Lib.hid hly
  go_enter Tryd.func40, Tryd.ntmps40
  go_wp2
  go_loopw [5, 6] (fun i _ wr => ∃ k : Nat, i = .int .i64 k ∧ k ≤ n ∧ Hid (∀ j, j < k → (xs.map Spv.pl)[j]? = (ys.map Spv.pl)[j]?) ∧ Hid (Below w.heap.size w wr)) (fun i _ _ => n - (intOf i).toNat)
  case atStart => exact ⟨0, rfl, Nat.zero_le _, (fun j h => by omega), Below.refl _ _⟩
  case round =>
    obtain ⟨k, rfl, hk, hall, hB⟩ := hrel
    by_cases hc : k < n
    · have hc1 : (k : Int) < n := by omega
      have hk0 : (0 : Int) ≤ (k : Int) := by omega
      obtain ⟨x, hx1⟩ : ∃ x, xs[k]? = some x := ⟨_, List.getElem?_eq_getElem (by have := hlx.out; omega)⟩
      obtain ⟨y, hy1⟩ : ∃ y, ys[k]? = some y := ⟨_, List.getElem?_eq_getElem (by have := hly.out; omega)⟩
      obtain ⟨b, off, rfl, hb, hcx, hox⟩ := (hx.out.low hB.out).cell k x hx1
      obtain ⟨b', off', rfl, hb', hcy, hoy⟩ := (hy.out.low hB.out).cell k y hy1
      have hsm := fun W (h : Below wr.heap.size wr W) => same_any8 x y W (hox.low h) (hoy.low h)
      unfold SamePost at hsm
      obtain ⟨q, hq⟩ : ∃ q, q = decide (x.pl = y.pl) := ⟨_, rfl⟩
      simp only [← hq] at hsm
      have hstep : q = true → ∀ j, j < k + 1 → (xs.map Spv.pl)[j]? = (ys.map Spv.pl)[j]? := fun hqt j hj => by
        by_cases e : j = k
        · subst e
          rw [List.getElem?_map, List.getElem?_map, hx1, hy1]
          rw [hqt] at hq
          exact congrArg some (of_decide_eq_true hq.symm)
        · exact hall.out j (by omega)
      have hbad : q = false → decide (xs.map Spv.pl = ys.map Spv.pl) = false := fun hqf => decide_eq_false fun h => by
        have h2 := congrArg (fun l => l[k]?) h
        simp only [List.getElem?_map, hx1, hy1, Option.map_some] at h2
        rw [hqf] at hq
        exact of_decide_eq_false hq.symm (Option.some.inj h2)
      obtain ⟨⟨user, part, nodes, ⟨da, db, dc, dd⟩, wall, prio, array, retries, held, after⟩, so, n1, cp⟩ := x
      obtain ⟨⟨user', part', nodes', ⟨da', db', dc', dd'⟩, wall', prio', array', retries', held', after'⟩, so', n1', cp'⟩ := y
      replace hcx := Lib.hid hcx; replace hcy := Lib.hid hcy
      have hS : ∀ W' : World, Below wr.heap.size wr W' → W'.cell? ⟨b, off + k * 13, none⟩ = some (.string user) ∧ W'.cell? ⟨b, off + k * 13 + 1, none⟩ = some (.string part) ∧ W'.cell? ⟨b, off + k * 13 + 2, none⟩ = some (.int .i64 nodes) ∧ W'.cell? ⟨b, off + k * 13 + 3, none⟩ = some (.int .i64 da) ∧ W'.cell? ⟨b, off + k * 13 + 4, none⟩ = some (.int .i64 db) ∧ W'.cell? ⟨b, off + k * 13 + 5, none⟩ = some (.int .i64 dc) ∧ W'.cell? ⟨b, off + k * 13 + 6, none⟩ = some (.int .i64 dd) ∧ W'.cell? ⟨b, off + k * 13 + 7, none⟩ = some (.int .i64 wall) ∧ W'.cell? ⟨b, off + k * 13 + 8, none⟩ = some (.int .i64 prio) ∧ W'.cell? ⟨b, off + k * 13 + 9, none⟩ = some (.int .i64 array) ∧ W'.cell? ⟨b, off + k * 13 + 10, none⟩ = some (.int .i64 retries) ∧ W'.cell? ⟨b, off + k * 13 + 11, none⟩ = some (.bool held) ∧ W'.cell? ⟨b, off + k * 13 + 12, none⟩ = some (.slice so n1 cp) ∧ W'.cell? ⟨b', off' + k * 13, none⟩ = some (.string user') ∧ W'.cell? ⟨b', off' + k * 13 + 1, none⟩ = some (.string part') ∧ W'.cell? ⟨b', off' + k * 13 + 2, none⟩ = some (.int .i64 nodes') ∧ W'.cell? ⟨b', off' + k * 13 + 3, none⟩ = some (.int .i64 da') ∧ W'.cell? ⟨b', off' + k * 13 + 4, none⟩ = some (.int .i64 db') ∧ W'.cell? ⟨b', off' + k * 13 + 5, none⟩ = some (.int .i64 dc') ∧ W'.cell? ⟨b', off' + k * 13 + 6, none⟩ = some (.int .i64 dd') ∧ W'.cell? ⟨b', off' + k * 13 + 7, none⟩ = some (.int .i64 wall') ∧ W'.cell? ⟨b', off' + k * 13 + 8, none⟩ = some (.int .i64 prio') ∧ W'.cell? ⟨b', off' + k * 13 + 9, none⟩ = some (.int .i64 array') ∧ W'.cell? ⟨b', off' + k * 13 + 10, none⟩ = some (.int .i64 retries') ∧ W'.cell? ⟨b', off' + k * 13 + 11, none⟩ = some (.bool held') ∧ W'.cell? ⟨b', off' + k * 13 + 12, none⟩ = some (.slice so' n1' cp') := fun W' h =>
        ⟨(below_cell h hb).trans (hcx.out 0 (by omega)), (below_cell h hb).trans (hcx.out 1 (by omega)), (below_cell h hb).trans (hcx.out 2 (by omega)), (below_cell h hb).trans (hcx.out 3 (by omega)), (below_cell h hb).trans (hcx.out 4 (by omega)), (below_cell h hb).trans (hcx.out 5 (by omega)), (below_cell h hb).trans (hcx.out 6 (by omega)), (below_cell h hb).trans (hcx.out 7 (by omega)), (below_cell h hb).trans (hcx.out 8 (by omega)), (below_cell h hb).trans (hcx.out 9 (by omega)), (below_cell h hb).trans (hcx.out 10 (by omega)), (below_cell h hb).trans (hcx.out 11 (by omega)), (below_cell h hb).trans (hcx.out 12 (by omega)), (below_cell h hb').trans (hcy.out 0 (by omega)), (below_cell h hb').trans (hcy.out 1 (by omega)), (below_cell h hb').trans (hcy.out 2 (by omega)), (below_cell h hb').trans (hcy.out 3 (by omega)), (below_cell h hb').trans (hcy.out 4 (by omega)), (below_cell h hb').trans (hcy.out 5 (by omega)), (below_cell h hb').trans (hcy.out 6 (by omega)), (below_cell h hb').trans (hcy.out 7 (by omega)), (below_cell h hb').trans (hcy.out 8 (by omega)), (below_cell h hb').trans (hcy.out 9 (by omega)), (below_cell h hb').trans (hcy.out 10 (by omega)), (below_cell h hb').trans (hcy.out 11 (by omega)), (below_cell h hb').trans (hcy.out 12 (by omega))⟩
      have hcur : Below wr.heap.size wr wr.drew := (Below.refl _ _).drew
      replace hx1 := Lib.hid hx1; replace hy1 := Lib.hid hy1; replace hox := Lib.hid hox; replace hoy := Lib.hid hoy; replace hsm := Lib.hid hsm; replace hq := Lib.hid hq; replace hstep := Lib.hid hstep; replace hbad := Lib.hid hbad; replace hS := Lib.hid hS; replace hcur := Lib.hid hcur
      go_upto_region 6 with fail
      go_cut [6] (fun bv wx => RwC wr q bv wx)
      case first =>
        go_region_held3 (fun W' => W'.cell? ⟨b, off + k * 13, none⟩ = some (.string user) ∧ W'.cell? ⟨b, off + k * 13 + 1, none⟩ = some (.string part) ∧ W'.cell? ⟨b, off + k * 13 + 2, none⟩ = some (.int .i64 nodes) ∧ W'.cell? ⟨b, off + k * 13 + 3, none⟩ = some (.int .i64 da) ∧ W'.cell? ⟨b, off + k * 13 + 4, none⟩ = some (.int .i64 db) ∧ W'.cell? ⟨b, off + k * 13 + 5, none⟩ = some (.int .i64 dc) ∧ W'.cell? ⟨b, off + k * 13 + 6, none⟩ = some (.int .i64 dd) ∧ W'.cell? ⟨b, off + k * 13 + 7, none⟩ = some (.int .i64 wall) ∧ W'.cell? ⟨b, off + k * 13 + 8, none⟩ = some (.int .i64 prio) ∧ W'.cell? ⟨b, off + k * 13 + 9, none⟩ = some (.int .i64 array) ∧ W'.cell? ⟨b, off + k * 13 + 10, none⟩ = some (.int .i64 retries) ∧ W'.cell? ⟨b, off + k * 13 + 11, none⟩ = some (.bool held) ∧ W'.cell? ⟨b, off + k * 13 + 12, none⟩ = some (.slice so n1 cp) ∧ W'.cell? ⟨b', off' + k * 13, none⟩ = some (.string user') ∧ W'.cell? ⟨b', off' + k * 13 + 1, none⟩ = some (.string part') ∧ W'.cell? ⟨b', off' + k * 13 + 2, none⟩ = some (.int .i64 nodes') ∧ W'.cell? ⟨b', off' + k * 13 + 3, none⟩ = some (.int .i64 da') ∧ W'.cell? ⟨b', off' + k * 13 + 4, none⟩ = some (.int .i64 db') ∧ W'.cell? ⟨b', off' + k * 13 + 5, none⟩ = some (.int .i64 dc') ∧ W'.cell? ⟨b', off' + k * 13 + 6, none⟩ = some (.int .i64 dd') ∧ W'.cell? ⟨b', off' + k * 13 + 7, none⟩ = some (.int .i64 wall') ∧ W'.cell? ⟨b', off' + k * 13 + 8, none⟩ = some (.int .i64 prio') ∧ W'.cell? ⟨b', off' + k * 13 + 9, none⟩ = some (.int .i64 array') ∧ W'.cell? ⟨b', off' + k * 13 + 10, none⟩ = some (.int .i64 retries') ∧ W'.cell? ⟨b', off' + k * 13 + 11, none⟩ = some (.bool held') ∧ W'.cell? ⟨b', off' + k * 13 + 12, none⟩ = some (.slice so' n1' cp'))
          (first
            | with_reducible exact hS.out _ hcur.out)
          (first
            | (go_at_call 24
               (with_reducible refine (hsm.out _ hcur.out).mono ?_)
               rintro e wz ⟨rfl, hbz⟩
               replace hcur := Lib.hid (hcur.out.trans (hbz.mono hcur.out.size))
               clear hbz))
        all_goals
          go_wp2_with fail
          go_meet
          case rel => exact ⟨rfl, hcur.out⟩
      case rest =>
      obtain ⟨rfl, hl9⟩ := hcut
      have hlow9 := hB.out.trans (hl9.mono hB.out.size)
      replace hl9 := Lib.hid hl9; replace hlow9 := Lib.hid hlow9
      cases q with
      | true =>
        have hall2 := hstep.out rfl
        replace hall2 := Lib.hid hall2
        go_wp2
        go_roundw
        case rel => exact ⟨k + 1, by go_num, by omega, hall2.out, hlow9.out⟩
        case measure => simp [intOf]; omega
      | false =>
        have hz := hbad.out rfl
        replace hz := Lib.hid hz
        go_wp2
        go_ret
        exact ⟨by rw [hz.out]; rfl, hlow9.out⟩
    · have hc1 : ¬ (k : Int) < n := by omega
      have hkn : k = n := by omega
      have hz : decide (xs.map Spv.pl = ys.map Spv.pl) = true := decide_eq_true (List.ext_getElem? fun j => by
        by_cases e : j < n
        · exact hall.out j (by omega)
        · rw [List.getElem?_eq_none (by rw [List.length_map]; have := hlx.out; omega), List.getElem?_eq_none (by rw [List.length_map]; have := hly.out; omega)])
      replace hz := Lib.hid hz
      go_wp2
      go_ret
      exact ⟨by rw [hz.out]; rfl, hB.out⟩
end Go.Proofs.YteoihdkaoipocaaDoor

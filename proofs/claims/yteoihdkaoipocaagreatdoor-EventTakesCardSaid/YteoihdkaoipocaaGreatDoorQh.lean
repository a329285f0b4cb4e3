/- Parts Evs, Evt, Eva, Evq in one text. Plain theorems: no condition. -/
import Derived.Test.YteoihdkaoipocaaGreatDoorQf
import Derived.Test.YteoihdkaoipocaaGreatDoorQc
import Derived.Test.YteoihdkaoipocaaGreatDoorQb
import Derived.Maps.AppendAt
import Derived.Deep.RegionWith
/- event.specs 97: the specs of a request, off a reader. Plain theorems: no condition. -/
namespace Go.Proofs.YteoihdkaoipocaaGreatDoor
open Go.RowKit Go.Maps

/-- is a text no spec's text? -/
def badT (t : List UInt8) : Bool := decide ((parseOf (ofL t)).2.1 ≠ 0) || decide (ofL (textS (parseOf (ofL t)).1) ≠ ofL t)
/-- what is left of a reader behind a text -/
def aftT (l : List UInt8) (e : Int) : List UInt8 × Int := if badT (textR l e 4096).1 = true then (failL (textR l e 4096).2.1 (textR l e 4096).2.2 130, failE (textR l e 4096).2.2 130) else (textR l e 4096).2
/-- so many specs off a reader -/
def spsR : Nat → List UInt8 → Int → List Spp × List UInt8 × Int
  | 0, l, e => ([], l, e)
  | k + 1, l, e => if e ≠ 0 then ([], l, e) else ((parseOf (ofL (textR l e 4096).1)).1 :: (spsR k (aftT l e).1 (aftT l e).2).1, (spsR k (aftT l e).1 (aftT l e).2).2)
def specsR (l : List UInt8) (e : Int) : List Spp × List UInt8 × Int :=
  if (intR l e).1 < 1 ∨ 8 < (intR l e).1 then ([], failL (intR l e).2.1 (intR l e).2.2 130, failE (intR l e).2.2 130) else spsR (intR l e).1.toNat (intR l e).2.1 (intR l e).2.2
theorem spsR_err {k : Nat} {l : List UInt8} {e : Int} (h : e ≠ 0) : spsR k l e = ([], l, e) := by
  cases k with
  | zero => rfl
  | succ k => rw [spsR, if_pos h]
theorem IntsAt.keep {w w' : World} {so : Option Addr} {n : Nat} {l : List Int} (h : IntsAt w so n l) (hs : w.heap.size ≤ w'.heap.size) (hk : ∀ b off, so = some ⟨b, off, none⟩ → l ≠ [] → b < w.heap.size → w'.heap[b]? = w.heap[b]?) : IntsAt w' so n l :=
  ⟨h.len, h.max, fun i x hx => by
    obtain ⟨b, off, e, hlt, hc⟩ := h.cell i x hx
    refine ⟨b, off, e, Nat.lt_of_lt_of_le hlt hs, ?_⟩
    rw [← hc]
    simp only [World.cell?, hk b off e (fun c => by rw [c] at hx; simp at hx) hlt]⟩
/-- specs of a row of one's own: they may be, and their rows lie elsewhere -/
structure SpT (B : Nat) (v : Value) (W : World) (xs : List Spv) : Prop where
  ok : ∀ x, x ∈ xs → x.ok W
  fr : ∀ x, x ∈ xs → x.pl.after ≠ [] → ∀ b o, x.so = some ⟨b, o, none⟩ → B ≤ b ∧ b < W.heap.size ∧ v.ownBlock ≠ some b
theorem SpT.low {B : Nat} {v : Value} {W W' : World} {xs : List Spv} (h : SpT B v W xs) (hb : Below W.heap.size W W') : SpT B v W' xs :=
  ⟨fun x hx => (h.ok x hx).low hb, fun x hx ha b o e => by obtain ⟨h1, h2, h3⟩ := h.fr x hx ha b o e; exact ⟨h1, Nat.lt_of_lt_of_le h2 hb.size, h3⟩⟩
theorem SpT.kept {B rb : Nat} {v : Value} {W W' : World} {xs : List Spv} (h : SpT B v W xs) (hk : Kept rb W W') (hr : rb < B) : SpT B v W' xs := by
  refine ⟨fun x hx => ?_, fun x hx ha b o e => ?_⟩
  · have hx2 := h.ok x hx
    refine ⟨hx2.after.keep hk.size fun b off e ha hlt => hk.block b hlt ?_, hx2.ple, hx2.user, hx2.part⟩
    have := (h.fr x hx ha b off e).1
    omega
  · obtain ⟨h1, h2, h3⟩ := h.fr x hx ha b o e
    exact ⟨h1, Nat.lt_of_lt_of_le h2 hk.size, h3⟩
theorem SpT.grown {B : Nat} {v v' : Value} {W W' : World} {xs : List Spv} (h : SpT B v W xs) (hg : W.grownBy W' v.ownBlock) (ho : v'.ownBlock = v.ownBlock ∨ v'.ownBlock = some W.heap.size) : SpT B v' W' xs := by
  refine ⟨fun x hx => ?_, fun x hx ha b o e => ?_⟩
  · have hx2 := h.ok x hx
    refine ⟨hx2.after.keep hg.size fun b off e ha hlt => hg.block b hlt ?_, hx2.ple, hx2.user, hx2.part⟩
    exact fun c => (h.fr x hx ha b off e).2.2 c.symm
  · obtain ⟨h1, h2, h3⟩ := h.fr x hx ha b o e
    refine ⟨h1, Nat.lt_of_lt_of_le h2 hg.size, ?_⟩
    rcases ho with ho | ho
    · rw [ho]; exact h3
    · rw [ho]
      intro c
      injection c with c
      omega
theorem SpT.add {B : Nat} {v : Value} {W : World} {xs : List Spv} {x : Spv} (h : SpT B v W xs) (hx : x.ok W) (hf : ∀ b o, x.so = some ⟨b, o, none⟩ → B ≤ b ∧ v.ownBlock ≠ some b) : SpT B v W (xs ++ [x]) := by
  refine ⟨fun y hy => ?_, fun y hy ha b o e => ?_⟩
  · rcases List.mem_append.1 hy with hy | hy
    · exact h.ok y hy
    · rw [List.mem_singleton.1 hy]; exact hx
  · rcases List.mem_append.1 hy with hy | hy
    · exact h.fr y hy ha b o e
    · have := List.mem_singleton.1 hy
      subst this
      obtain ⟨h1, h2⟩ := hf b o e
      refine ⟨h1, ?_, h2⟩
      cases hz : y.pl.after with
      | nil => exact absurd hz ha
      | cons z zs =>
        obtain ⟨b', o', e', hlt, _⟩ := hx.after.cell 0 z (by rw [hz]; rfl)
        rw [e] at e'
        simp only [Option.some.injEq, Addr.mk.injEq, and_true] at e'
        rw [e'.1]
        exact hlt
theorem ownS_kept {w w' : World} {B rb : Nat} {v : Value} {xs : List Spv} (h : OwnS w B v xs) (hk : Kept rb w w') (hr : rb < B) : OwnS w' B v xs := by
  refine ⟨h.row.1, ?_⟩
  rcases h.row.2 with ⟨hv, h0⟩ | ⟨g, cap, cur, hv, hg, hh, hrr⟩
  · exact .inl ⟨hv, h0⟩
  · exact .inr ⟨g, cap, cur, hv, hg, hk.blk hh (by omega), hrr⟩
theorem ownS_lt {w : World} {B : Nat} {v : Value} {xs : List Spv} (h : OwnS w B v xs) : ∀ k, v.ownBlock = some k → B ≤ k ∧ k < w.heap.size := fun k hk => h.row.lt k hk
theorem ownS_sps {w : World} {B : Nat} {v : Value} {xs : List Spv} (h : OwnS w B v xs) (hok : ∀ x, x ∈ xs → x.ok w) : ∃ so c, v = .slice so xs.length c ∧ xs.length ≤ c ∧ SpsAt w so xs.length xs := by
  rcases h.row.2 with ⟨hv, h0⟩ | ⟨g, cap, cur, hv, hg, hh, hnc, hmx, hsz, hr⟩
  · have e : xs = [] := List.eq_nil_of_length_eq_zero h0
    subst e
    exact ⟨none, 0, hv, Nat.le_refl _, rfl, by simp, fun i x h => by simp at h⟩
  · refine ⟨some ⟨g, 0, none⟩, cap, hv, hnc, rfl, ?_, fun i x hx => ⟨g, 0, rfl, blk_lt hh, fun j hj => ?_, hok x (List.mem_of_getElem? hx)⟩⟩
    · have : maxLen = 9223372036854775807 := by kernel_rfl
      omega
    · have hi := (List.getElem?_eq_some_iff.1 hx).1
      rw [Nat.zero_add, blk_cell hh]
      have h2 := flatv_get (cells := Spv.cells) (sz := 13) (fun _ => rfl) xs hx hj
      rw [← hr, List.getElem?_take_of_lt (by omega)] at h2
      simpa using h2
theorem Kept.then {rb B : Nat} {w wr w' : World} (h : Kept rb w wr) (hb : Below B wr w') (hB : w.heap.size ≤ B) : Kept rb w w' :=
  ⟨hb.os.trans h.os, hb.tape.trans h.tape, hb.output.trans h.output, Nat.le_trans h.size hb.size, fun k hk hn => (hb.block k (by omega)).trans (h.block k hk hn)⟩
/-- within the loop -/
structure SpL (w : World) (rb B : Nat) (l : List UInt8) (e : Int) (v : Value) (xs : List Spv) (wr : World) : Prop where
  rd : Rdr wr rb B l e
  own : OwnS wr w.heap.size v xs
  sp : SpT w.heap.size v wr xs
  kp : Kept rb w wr
theorem SpL.low {w : World} {rb B : Nat} {l : List UInt8} {e : Int} {v : Value} {xs : List Spv} {wr w' : World} (h : SpL w rb B l e v xs wr) (hb : Below wr.heap.size wr w') : SpL w rb B l e v xs w' :=
  ⟨h.rd.low hb, ownS_low h.own hb, h.sp.low hb, h.kp.then hb h.kp.size⟩
theorem SpL.kept {w : World} {rb B : Nat} {l l' : List UInt8} {e e' : Int} {v : Value} {xs : List Spv} {wr w' : World} (h : SpL w rb B l e v xs wr) (hk : Kept rb wr w') (hr : rb < w.heap.size) (hR : Rdr w' rb B l' e') : SpL w rb B l' e' v xs w' :=
  ⟨hR, ownS_kept h.own hk hr, h.sp.kept hk hr, h.kp.trans hk⟩
def SpsPost (rb B : Nat) (l : List UInt8) (e : Int) (w : World) (en : Ending) (w' : World) : Prop :=
  ∃ so m c xs, en = .returned (.slice so m c) ∧ m ≤ c ∧ SpsAt w' so m xs ∧ xs.map Spv.pl = (specsR l e).1 ∧ (∀ b o, so = some ⟨b, o, none⟩ → w.heap.size ≤ b) ∧ (∀ x, x ∈ xs → x.pl.after ≠ [] → ∀ b o, x.so = some ⟨b, o, none⟩ → w.heap.size ≤ b) ∧ Rdr w' rb B (specsR l e).2.1 (specsR l e).2.2 ∧ Kept rb w w'
theorem Kept.from {rb : Nat} {w0 w w' : World} (h0 : Below w0.heap.size w0 w) (hr : w0.heap.size ≤ rb) (hl : rb < w.heap.size) (h : Kept rb w w') : Below w0.heap.size w0 w' := h0.trans (h.below hr hl)
def sliceN : Value → Nat
  | .slice _ n _ => n
  | _ => 0
set_option maxRecDepth 100000 in
set_option maxHeartbeats 6400000 in
theorem especs_any {w0 w : World} {rb B : Nat} {l : List UInt8} {e : Int} (h : Rdr w rb B l e) (hB : B ≤ w.heap.size) (hm : Mx w0) (ht : Tb w0) (h0 : Below w0.heap.size w0 w) (hr0 : w0.heap.size ≤ rb) : Calls Tryz.prog 53 #[.pointer (some ⟨rb, 0, none⟩)] w (SpsPost rb B l e w) := by
  obtain ⟨i28, hi28, hz28, hz281, hz282⟩ := info_parts info28
  have hrbw := h.lt
  have hki := rint_any h
  obtain ⟨N, hN⟩ : ∃ N, N = (intR l e).1 := ⟨_, rfl⟩
  obtain ⟨l1, hl1⟩ : ∃ l1, l1 = (intR l e).2.1 := ⟨_, rfl⟩
  obtain ⟨e1, he1⟩ : ∃ e1, e1 = (intR l e).2.2 := ⟨_, rfl⟩
  have hS0 : specsR l e = if N < 1 ∨ 8 < N then ([], failL l1 e1 130, failE e1 130) else spsR N.toNat l1 e1 := by unfold specsR; rw [← hN, ← hl1, ← he1]
  rw [← hN, ← hl1, ← he1] at hki
  unfold SpsPost
  by_cases hbad : N < 1 ∨ 8 < N
  · rw [if_pos hbad] at hS0
    have hd : (decide (N < 1) = true) ∨ (decide (N < 1) = false ∧ decide (8 < N) = true) := by
      by_cases c : N < 1
      · exact .inl (decide_eq_true c)
      · exact .inr ⟨decide_eq_false c, decide_eq_true (by omega)⟩
    replace h := Lib.hid h; replace hB := Lib.hid hB; replace hm := Lib.hid hm; replace ht := Lib.hid ht; replace h0 := Lib.hid h0; replace hki := Lib.hid hki; replace hN := Lib.hid hN; replace hl1 := Lib.hid hl1; replace he1 := Lib.hid he1; replace hS0 := Lib.hid hS0; replace hbad := Lib.hid hbad; replace hrbw := Lib.hid hrbw
    go_enter Tryz.func53, Tryz.ntmps53
    go_wp2_with fail
    refine hki.out.mono ?_
    rintro en w1 ⟨rfl, hR1, hK1⟩
    have hF := rfail_any hR1 130
    replace hR1 := Lib.hid hR1; replace hK1 := Lib.hid hK1; replace hF := Lib.hid hF
    rcases hd with d1 | ⟨d1, d2⟩
    · go_wp2_with fail
      refine hF.out.mono ?_
      rintro en w2 ⟨rfl, hR2, hK2⟩
      have hKK := hK1.out.trans hK2
      replace hR2 := Lib.hid hR2; replace hK2 := Lib.hid hK2; replace hKK := Lib.hid hKK
      go_wp2
      go_ret
      exact ⟨none, 0, 0, [], rfl, Nat.le_refl _, ⟨rfl, by omega, fun i x h => by simp at h⟩, by rw [hS0.out]; rfl, fun b o e => (by cases e), fun x hx => (by cases hx), by rw [hS0.out]; exact hR2.out, hKK.out⟩
    · go_wp2_with fail
      refine hF.out.mono ?_
      rintro en w2 ⟨rfl, hR2, hK2⟩
      have hKK := hK1.out.trans hK2
      replace hR2 := Lib.hid hR2; replace hK2 := Lib.hid hK2; replace hKK := Lib.hid hKK
      go_wp2
      go_ret
      exact ⟨none, 0, 0, [], rfl, Nat.le_refl _, ⟨rfl, by omega, fun i x h => by simp at h⟩, by rw [hS0.out]; rfl, fun b o e => (by cases e), fun x hx => (by cases hx), by rw [hS0.out]; exact hR2.out, hKK.out⟩
  rw [if_neg hbad] at hS0
  obtain ⟨nn, hnn⟩ : ∃ nn : Nat, N = nn := ⟨N.toNat, by omega⟩
  subst hnn
  have hn8 : nn ≤ 8 := by omega
  have d1 : decide ((nn : Int) < 1) = false := decide_eq_false (by omega)
  have d2 : decide ((8 : Int) < (nn : Int)) = false := decide_eq_false (by omega)
  have d1' : decide (nn < 1) = false := decide_eq_false (by omega)
  have d2' : decide (8 < nn) = false := decide_eq_false (by omega)
  rw [Int.toNat_natCast] at hS0
  replace h := Lib.hid h; replace hB := Lib.hid hB; replace hm := Lib.hid hm; replace ht := Lib.hid ht; replace h0 := Lib.hid h0; replace hki := Lib.hid hki; replace hN := Lib.hid hN; replace hl1 := Lib.hid hl1; replace he1 := Lib.hid he1; replace hS0 := Lib.hid hS0; replace hbad := Lib.hid hbad; replace hrbw := Lib.hid hrbw; replace hi28 := Lib.hid hi28; replace hz28 := Lib.hid hz28; replace hz281 := Lib.hid hz281; replace hz282 := Lib.hid hz282
  go_enter Tryz.func53, Tryz.ntmps53
  go_wp2_with fail
  refine hki.out.mono ?_
  rintro en w1 ⟨rfl, hR1, hK1⟩
  have hL1 : SpL w rb B l1 e1 (.slice none 0 0) [] w1 := ⟨hR1, ⟨rfl, .inl ⟨rfl, rfl⟩⟩, ⟨fun x hx => (by cases hx), fun x hx => (by cases hx)⟩, hK1⟩
  replace hR1 := Lib.hid hR1; replace hK1 := Lib.hid hK1; replace hL1 := Lib.hid hL1
  go_wp2
  go_loopw [4, 5, 6, 7, 8] (fun ov _ _ _ _ wr => ∃ (k : Nat) (xs : List Spv) (l' : List UInt8) (e' : Int) (so : Option Addr) (c : Nat), ov = .slice so k c ∧ k ≤ nn ∧ Hid (xs.length = k) ∧ Hid (specsR l e = (xs.map Spv.pl ++ (spsR (nn - k) l' e').1, (spsR (nn - k) l' e').2)) ∧ Hid (SpL w rb B l' e' (.slice so k c) xs wr)) (fun ov _ _ _ _ _ => nn - sliceN ov)
  case atStart => exact ⟨0, [], l1, e1, none, 0, rfl, Nat.zero_le _, rfl, by rw [hS0.out]; rfl, hL1.out⟩
  case round =>
    obtain ⟨k, xs, l', e', so, c, rfl, hk, hxl, hS, hL⟩ := hrel
    rename World => wo
    by_cases hkn : k < nn
    rotate_left
    · have g1 : decide ((k : Int) < (nn : Int)) = false := decide_eq_false (by omega)
      have g1' : decide (k < nn) = false := decide_eq_false hkn
      have hS2 : specsR l e = (xs.map Spv.pl, l', e') := by rw [hS.out, show nn - k = 0 by omega]; simp [spsR]
      obtain ⟨so2, c2, hv2, hnc2, hsps⟩ := ownS_sps hL.out.own hL.out.sp.ok
      injection hv2 with hv3 hv4 hv5
      replace hS2 := Lib.hid hS2; replace hnc2 := Lib.hid hnc2; replace hsps := Lib.hid hsps; replace hkn := Lib.hid hkn; replace hv3 := Lib.hid hv3; replace hv4 := Lib.hid hv4; replace hv5 := Lib.hid hv5
      go_wp2
      go_ret
      refine ⟨so, k, c, xs, rfl, by rw [hv5.out, ← hxl.out]; exact hnc2.out, by rw [hv3.out, ← hxl.out]; exact hsps.out, by rw [hS2.out], fun b o e => ?_, fun x hx ha b o e => (hL.out.sp.fr x hx ha b o e).1, by rw [hS2.out]; exact hL.out.rd, hL.out.kp⟩
      exact (ownS_lt hL.out.own b (by rw [e]; rfl)).1
    have g1 : decide ((k : Int) < (nn : Int)) = true := decide_eq_true (by omega)
    have g1' : decide (k < nn) = true := decide_eq_true hkn
    have hE := rerr_any hL.out.rd
    by_cases q : e' = 0
    rotate_left
    · have g2 : (e' == (0 : Int)) = false := beq_eq_false_iff_ne.2 q
      have hS2 : specsR l e = (xs.map Spv.pl, l', e') := by rw [hS.out, spsR_err q]; simp
      obtain ⟨so2, c2, hv2, hnc2, hsps⟩ := ownS_sps hL.out.own hL.out.sp.ok
      injection hv2 with hv3 hv4 hv5
      replace hS2 := Lib.hid hS2; replace hnc2 := Lib.hid hnc2; replace hsps := Lib.hid hsps; replace hv3 := Lib.hid hv3; replace hv4 := Lib.hid hv4; replace hv5 := Lib.hid hv5; replace hE := Lib.hid hE; replace q := Lib.hid q; replace hkn := Lib.hid hkn
      go_wp2_with fail
      refine hE.out.mono ?_
      rintro en w2 ⟨rfl, rfl⟩
      go_wp2
      go_ret
      refine ⟨so, k, c, xs, rfl, by rw [hv5.out, ← hxl.out]; exact hnc2.out, by rw [hv3.out, ← hxl.out]; exact hsps.out, by rw [hS2.out], fun b o e => ?_, fun x hx ha b o e => (hL.out.sp.fr x hx ha b o e).1, by rw [hS2.out]; exact hL.out.rd, hL.out.kp⟩
      exact (ownS_lt hL.out.own b (by rw [e]; rfl)).1
    subst q
    have g2 : ((0 : Int) == (0 : Int)) = true := rfl
    have hTx := rtxt_any hL.out.rd 4096 (by decide)
    obtain ⟨t, htt⟩ : ∃ t, t = (textR l' 0 4096).1 := ⟨_, rfl⟩
    obtain ⟨l2, hl2⟩ : ∃ l2, l2 = (textR l' 0 4096).2.1 := ⟨_, rfl⟩
    obtain ⟨e2, he2⟩ : ∃ e2, e2 = (textR l' 0 4096).2.2 := ⟨_, rfl⟩
    rw [← htt, ← hl2, ← he2] at hTx
    obtain ⟨T, hT'⟩ : ∃ T, T = ofL t := ⟨_, rfl⟩
    rw [← hT'] at hTx
    have hT : ofL (textR l' 0 4096).1 = T := by rw [hT', htt]
    obtain ⟨P, hP'⟩ : ∃ P, P = parseOf T := ⟨_, rfl⟩
    have hP : parseOf T = P := hP'.symm
    obtain ⟨bad, hbd⟩ : ∃ bad, bad = badT t := ⟨_, rfl⟩
    have haf : aftT l' 0 = if bad = true then (failL l2 e2 130, failE e2 130) else (l2, e2) := by
      have hpr : (textR l' 0 4096).2 = (l2, e2) := by rw [hl2, he2]
      unfold aftT
      rw [← htt, ← hbd, hpr]
    have hbd2 : bad = (decide (P.2.1 ≠ 0) || decide (ofL (textS P.1) ≠ T)) := by rw [hbd, ← hP, hT']; rfl
    have hpa : ∀ W, Kept rb w W → Calls Tryz.prog 25 #[.string T] W (ParsePost T W) := fun W hk => parse_any T W (hm.out.low (hk.from h0.out hr0 hrbw.out))
    unfold ParsePost at hpa
    rw [hP] at hpa
    replace hE := Lib.hid hE; replace hTx := Lib.hid hTx; replace htt := Lib.hid htt; replace hl2 := Lib.hid hl2; replace he2 := Lib.hid he2; replace hT' := Lib.hid hT'; replace hT := Lib.hid hT; replace hP' := Lib.hid hP'; replace hP := Lib.hid hP; replace hbd := Lib.hid hbd; replace haf := Lib.hid haf; replace hbd2 := Lib.hid hbd2; replace hpa := Lib.hid hpa; replace hkn := Lib.hid hkn
    go_wp2_with fail
    refine hE.out.mono ?_
    rintro en w2 ⟨rfl, rfl⟩
    go_wp2_with fail
    refine hTx.out.mono ?_
    rintro en w3 ⟨rfl, hR3, hK3⟩
    have hL3 := hL.out.kept hK3 hrbw.out hR3
    replace hR3 := Lib.hid hR3; replace hK3 := Lib.hid hK3; replace hL3 := Lib.hid hL3
    go_wp2_with fail
    refine (hpa.out _ hL3.out.kp).mono ?_
    rintro en w4 ⟨x, rfl, hx4, hxp4, hb4, hfr4⟩
    have hL4 := hL3.out.low hb4
    obtain ⟨⟨user, part, nodes, ⟨da, db, dc, dd⟩, wall, prio, array, retries, held, after⟩, sso, sn, scp⟩ := x
    obtain ⟨sb, hsb⟩ : ∃ sb, sb = w4.heap.size := ⟨_, rfl⟩
    obtain ⟨W5, hW5⟩ : ∃ W5, W5 = w4.alloc (.cells (⟨⟨user, part, nodes, ⟨da, db, dc, dd⟩, wall, prio, array, retries, held, after⟩, sso, sn, scp⟩ : Spv).cells 26 (0, 0)) := ⟨_, rfl⟩
    have hb5 : Below w4.heap.size w4 W5 := by rw [hW5]; exact (Below.refl _ _).alloc (Nat.le_refl _) _
    have hL5 := hL4.low hb5
    have hx5 := hx4.low hb5
    have hXd5 : W5.heap[sb]? = some (.cells (⟨⟨user, part, nodes, ⟨da, db, dc, dd⟩, wall, prio, array, retries, held, after⟩, sso, sn, scp⟩ : Spv).cells 26 (0, 0)) := by rw [hW5, hsb]; exact blk_new _ _
    have hLt : ∀ b, (Value.slice so k c).ownBlock = some b → b < w3.heap.size := fun b hb => (ownS_lt hL3.out.own b hb).2
    have hXf : ∀ b o, sso = some ⟨b, o, none⟩ → w.heap.size ≤ b ∧ w3.heap.size ≤ b := fun b o e => by
      have h1 := hfr4 b o e
      have h2 := hL3.out.kp.size
      exact ⟨by omega, h1⟩
    have hXe : (⟨user, part, nodes, ⟨da, db, dc, dd⟩, wall, prio, array, retries, held, after⟩ : Spp) = P.1 := hxp4
    have htx : Calls Tryz.prog 26 #[(⟨⟨user, part, nodes, ⟨da, db, dc, dd⟩, wall, prio, array, retries, held, after⟩, sso, sn, scp⟩ : Spv).val] W5 fun e w' => e = .returned (.string (ofL (textS P.1))) ∧ Below W5.heap.size W5 w' := by
      rw [← hXe]
      exact stext_any (⟨⟨user, part, nodes, ⟨da, db, dc, dd⟩, wall, prio, array, retries, held, after⟩, sso, sn, scp⟩ : Spv) W5 hx5 (ht.out.low (hL5.kp.from h0.out hr0 hrbw.out))
    obtain ⟨pe, hpe⟩ : ∃ pe, pe = P.2.1 := ⟨_, rfl⟩
    obtain ⟨TS, hTS⟩ : ∃ TS, TS = ofL (textS P.1) := ⟨_, rfl⟩
    rw [← hTS] at htx
    rw [← hpe]
    have hbd3 : bad = (decide (pe ≠ 0) || decide (TS ≠ T)) := by rw [hbd2.out, ← hpe, ← hTS]
    have x0 : W5.cell? ⟨sb, 0, none⟩ = some (.string user) := blk_cell hXd5 0
    have x1 : W5.cell? ⟨sb, 1, none⟩ = some (.string part) := blk_cell hXd5 1
    have x2 : W5.cell? ⟨sb, 2, none⟩ = some (.int .i64 nodes) := blk_cell hXd5 2
    have x3 : W5.cell? ⟨sb, 3, none⟩ = some (.int .i64 da) := blk_cell hXd5 3
    have x4 : W5.cell? ⟨sb, 4, none⟩ = some (.int .i64 db) := blk_cell hXd5 4
    have x5 : W5.cell? ⟨sb, 5, none⟩ = some (.int .i64 dc) := blk_cell hXd5 5
    have x6 : W5.cell? ⟨sb, 6, none⟩ = some (.int .i64 dd) := blk_cell hXd5 6
    have x7 : W5.cell? ⟨sb, 7, none⟩ = some (.int .i64 wall) := blk_cell hXd5 7
    have x8 : W5.cell? ⟨sb, 8, none⟩ = some (.int .i64 prio) := blk_cell hXd5 8
    have x9 : W5.cell? ⟨sb, 9, none⟩ = some (.int .i64 array) := blk_cell hXd5 9
    have x10 : W5.cell? ⟨sb, 10, none⟩ = some (.int .i64 retries) := blk_cell hXd5 10
    have x11 : W5.cell? ⟨sb, 11, none⟩ = some (.bool held) := blk_cell hXd5 11
    have x12 : W5.cell? ⟨sb, 12, none⟩ = some (.slice sso sn scp) := blk_cell hXd5 12
    have hW5' := Lib.hid hW5
    have hsb' := Lib.hid hsb
    clear hW5 hsb
    replace hx4 := Lib.hid hx4; replace hxp4 := Lib.hid hxp4; replace hb4 := Lib.hid hb4; replace hfr4 := Lib.hid hfr4; replace hL4 := Lib.hid hL4; replace hb5 := Lib.hid hb5; replace hL5 := Lib.hid hL5; replace hx5 := Lib.hid hx5; replace hXd5 := Lib.hid hXd5; replace hLt := Lib.hid hLt; replace hXf := Lib.hid hXf; replace hXe := Lib.hid hXe; replace htx := Lib.hid htx; replace hpe := Lib.hid hpe; replace hTS := Lib.hid hTS; replace hbd3 := Lib.hid hbd3
    go_upto_region 9 with fail
    rw [← hW5'.out, ← hsb'.out]
    go_cut [43] from 36 to 44 (fun bv wx => RwC W5 bad bv wx)
    case first =>
      by_cases q1 : pe = 0
      · have g3 : (pe != (0 : Int)) = false := by rw [q1]; rfl
        replace q1 := Lib.hid q1
        go_wp2_with fail
        refine htx.out.mono ?_
        rintro en w6 ⟨rfl, hb6⟩
        by_cases q2 : TS = T
        · have d := str_eq q2
          have hbf : bad = false := by rw [hbd3.out, decide_eq_false (by simpa using q1.out), decide_eq_false (by simpa using q2)]; rfl
          replace hb6 := Lib.hid hb6; replace q2 := Lib.hid q2; replace hbf := Lib.hid hbf
          go_wp2
          go_meet
          exact ⟨by rw [hbf.out], hb6.out⟩
        · have d := str_ne q2
          have hbf : bad = true := by rw [hbd3.out, decide_eq_true q2, Bool.or_true]
          replace hb6 := Lib.hid hb6; replace q2 := Lib.hid q2; replace hbf := Lib.hid hbf
          go_wp2
          go_meet
          exact ⟨by rw [hbf.out], hb6.out⟩
      · have g3 : (pe != (0 : Int)) = true := by rw [bne_iff_ne]; exact q1
        have hbf : bad = true := by rw [hbd3.out, decide_eq_true q1, Bool.true_or]
        replace q1 := Lib.hid q1; replace hbf := Lib.hid hbf
        go_wp2
        go_meet
        exact ⟨by rw [hbf.out], Below.refl _ _⟩
    case rest =>
    obtain ⟨rfl, hbc⟩ := hcut
    have hLc := hL5.out.low hbc
    have hXc := blk_below hbc hXd5.out (blk_lt hXd5.out)
    have hXo := hx5.out.low hbc
    clear x0 x1 x2 x3 x4 x5 x6 x7 x8 x9 x10 x11 x12
    cases bad with
    | true =>
      have hF := rfail_any hLc.rd 130
      replace hbc := Lib.hid hbc; replace hLc := Lib.hid hLc; replace hXc := Lib.hid hXc; replace hXo := Lib.hid hXo; replace hF := Lib.hid hF
      go_wp2_with fail
      refine hF.out.mono ?_
      rintro en wz ⟨rfl, hRz, hKz⟩
      obtain ⟨lz, hlz⟩ : ∃ lz, lz = failL l2 e2 130 := ⟨_, rfl⟩
      obtain ⟨ez, hez⟩ : ∃ ez, ez = failE e2 130 := ⟨_, rfl⟩
      rw [← hlz, ← hez] at hRz
      have hLz := hLc.out.kept hKz hrbw.out hRz
      have haft : aftT l' 0 = (lz, ez) := haf.out.trans (by rw [hlz, hez]; rfl)
      have hsbn : sb ≠ rb := by
        have h1 := hL4.out.kp.size
        have h2 := hsb'.out
        have h3 := hrbw.out
        omega
      have hXd := hKz.blk hXc.out hsbn
      have hXok : (⟨⟨user, part, nodes, ⟨da, db, dc, dd⟩, wall, prio, array, retries, held, after⟩, sso, sn, scp⟩ : Spv).ok wz := by
        refine ⟨hXo.out.after.keep hKz.size fun b off e _ hlt => hKz.block b hlt ?_, hXo.out.ple, hXo.out.user, hXo.out.part⟩
        have h1 := (hXf.out b off e).1
        have h3 := hrbw.out
        omega
      replace hRz := Lib.hid hRz; replace hKz := Lib.hid hKz; replace hLz := Lib.hid hLz; replace haft := Lib.hid haft; replace hXd := Lib.hid hXd; replace hXok := Lib.hid hXok; replace hsbn := Lib.hid hsbn; replace hlz := Lib.hid hlz; replace hez := Lib.hid hez
      obtain ⟨X, hX⟩ : ∃ X : Spv, X = (⟨⟨user, part, nodes, ⟨da, db, dc, dd⟩, wall, prio, array, retries, held, after⟩, sso, sn, scp⟩ : Spv) := ⟨_, rfl⟩
      have hsp13 := hXd.out
      have s0 : wz.cell? ⟨sb, 0, none⟩ = some (.string user) := blk_cell hsp13 0
      have s1 : wz.cell? ⟨sb, 1, none⟩ = some (.string part) := blk_cell hsp13 1
      have s2 : wz.cell? ⟨sb, 2, none⟩ = some (.int .i64 nodes) := blk_cell hsp13 2
      have s3 : wz.cell? ⟨sb, 3, none⟩ = some (.int .i64 da) := blk_cell hsp13 3
      have s4 : wz.cell? ⟨sb, 4, none⟩ = some (.int .i64 db) := blk_cell hsp13 4
      have s5 : wz.cell? ⟨sb, 5, none⟩ = some (.int .i64 dc) := blk_cell hsp13 5
      have s6 : wz.cell? ⟨sb, 6, none⟩ = some (.int .i64 dd) := blk_cell hsp13 6
      have s7 : wz.cell? ⟨sb, 7, none⟩ = some (.int .i64 wall) := blk_cell hsp13 7
      have s8 : wz.cell? ⟨sb, 8, none⟩ = some (.int .i64 prio) := blk_cell hsp13 8
      have s9 : wz.cell? ⟨sb, 9, none⟩ = some (.int .i64 array) := blk_cell hsp13 9
      have s10 : wz.cell? ⟨sb, 10, none⟩ = some (.int .i64 retries) := blk_cell hsp13 10
      have s11 : wz.cell? ⟨sb, 11, none⟩ = some (.bool held) := blk_cell hsp13 11
      have s12 : wz.cell? ⟨sb, 12, none⟩ = some (.slice sso sn scp) := blk_cell hsp13 12
      obtain ⟨W8, hW8⟩ : ∃ W8, W8 = wz.alloc (.cells (⟨⟨user, part, nodes, ⟨da, db, dc, dd⟩, wall, prio, array, retries, held, after⟩, sso, sn, scp⟩ : Spv).cells 26 (0, 0)) := ⟨_, rfl⟩
      have hb8 : Below wz.heap.size wz W8 := by rw [hW8]; exact (Below.refl _ _).alloc (Nat.le_refl _) _
      have hL8 := hLz.out.low hb8
      have hX8 := hXok.out.low hb8
      have hownA : W8.ownsRow w.heap.size 26 13 (.slice so k c) k (flatv Spv.cells xs) := by have := hL8.own.row; rwa [hxl.out] at this
      have hnews : ∀ j u, (⟨⟨user, part, nodes, ⟨da, db, dc, dd⟩, wall, prio, array, retries, held, after⟩, sso, sn, scp⟩ : Spv).cells.toList[j]? = some u → W8.cell? ((⟨wz.heap.size, 0, none⟩ : Addr).add j) = some u := by rw [hW8]; exact spv_new wz _
      have hone := spv_one (⟨⟨user, part, nodes, ⟨da, db, dc, dd⟩, wall, prio, array, retries, held, after⟩, sso, sn, scp⟩ : Spv)
      have h63 := maxLen_ge (n := k) (by omega)
      have hby : (k + 1) * 136 ≤ 140737488355328 := by omega
      have hbas : w.heap.size ≤ W8.heap.size := by have h1 := hL8.kp.size; omega
      rw [hW8] at hownA hnews hbas
      have hW8' := Lib.hid hW8
      clear hW8
      replace hb8 := Lib.hid hb8; replace hL8 := Lib.hid hL8; replace hX8 := Lib.hid hX8; replace hownA := Lib.hid hownA; replace hnews := Lib.hid hnews; replace hone := Lib.hid hone; replace h63 := Lib.hid h63; replace hby := Lib.hid hby; replace hbas := Lib.hid hbas; replace hX := Lib.hid hX; replace hsp13 := Lib.hid hsp13
      go_wp2_with (at_builtin; refine wpList_append_own_at _ rfl _ _ 41 rfl w.heap.size 26 i28 _ 13 136 Tryz.underlying41 hi28.out hz28.out hz281.out hz282.out rfl (by decide) _ k _ rfl hownA.out ⟨wz.heap.size, 0, none⟩ 1 1 (⟨⟨user, part, nodes, ⟨da, db, dc, dd⟩, wall, prio, array, retries, held, after⟩, sso, sn, scp⟩ : Spv).cells.toList rfl rfl hnews.out hone.out h63.out hby.out hbas.out ?_; intro v1 w9 hown9 hgrow _ hat9; obtain ⟨g9, cap1, rfl⟩ := Joins.ownsRow_form hown9 (by omega); replace hown9 := Lib.hid hown9; replace hgrow := Lib.hid hgrow; replace hat9 := Lib.hid hat9)
      have hg9 := hgrow.out
      have hat := hat9.out
      rw [← hW8'.out] at hg9 hat
      have hg9' : W8.grownBy w9 (Value.slice so k c).ownBlock := hg9
      have hat' : (Value.slice (some ⟨g9, 0, none⟩) (k + 1) cap1).ownBlock = (Value.slice so k c).ownBlock ∨ (Value.slice (some ⟨g9, 0, none⟩) (k + 1) cap1).ownBlock = some W8.heap.size := hat
      have hlow9 : Below w.heap.size W8 w9 := (Below.refl _ _).grown hg9' hL8.out.kp.size (fun q hq => (ownS_lt hL8.out.own q hq).1)
      have hL9 : SpL w rb B lz ez (.slice (some ⟨g9, 0, none⟩) (k + 1) cap1) (xs ++ [X]) w9 := by
        refine ⟨hL8.out.rd.at hlow9 hrbw.out hB.out, ⟨?_⟩, ?_, hL8.out.kp.then hlow9 (Nat.le_refl _)⟩
        · have h := hown9.out
          rw [← flatv_one Spv.cells, ← flatv_append, ← hX.out] at h
          rw [List.length_append, hxl.out]
          exact h
        · refine ((hL8.out.sp.add (x := X) (by rw [hX.out]; exact hX8.out) fun b o e => ?_).grown hg9' hat')
          rw [hX.out] at e
          have h1 := hXf.out b o e
          refine ⟨by omega, fun c => ?_⟩
          have h2 := hLt.out b c
          omega
      have hxl9 : (xs ++ [X]).length = k + 1 := by rw [List.length_append, hxl.out]; rfl
      have hXp : X.pl = P.1 := by rw [hX.out]; exact hXe.out
      have hS9 : specsR l e = (((xs ++ [X]).map Spv.pl) ++ (spsR (nn - (k + 1)) lz ez).1, (spsR (nn - (k + 1)) lz ez).2) := by
        have hk1 := hkn.out
        rw [hS.out, show nn - k = (nn - (k + 1)) + 1 by omega, spsR, if_neg (by simp), haft.out, hT.out, hP.out, List.map_append, List.map_cons, List.map_nil, hXp]
        simp
      replace hg9 := Lib.hid hg9; replace hg9' := Lib.hid hg9'; replace hat := Lib.hid hat; replace hat' := Lib.hid hat'; replace hlow9 := Lib.hid hlow9; replace hL9 := Lib.hid hL9; replace hxl9 := Lib.hid hxl9; replace hS9 := Lib.hid hS9; replace hXp := Lib.hid hXp
      clear s0 s1 s2 s3 s4 s5 s6 s7 s8 s9 s10 s11 s12
      go_wp2
      go_roundw
      case rel => exact ⟨k + 1, xs ++ [X], lz, ez, _, _, rfl, (by have := hkn.out; omega), hxl9.out, hS9.out, hL9.out⟩
      case measure => have := hkn.out; simp [sliceN]; omega
    | false =>
      rename World => wz
      obtain ⟨lz, hlz⟩ : ∃ lz, lz = l2 := ⟨_, rfl⟩
      obtain ⟨ez, hez⟩ : ∃ ez, ez = e2 := ⟨_, rfl⟩
      rw [← hlz, ← hez] at hLc
      have haft : aftT l' 0 = (lz, ez) := haf.out.trans (by rw [hlz, hez]; rfl)
      have hLz := hLc
      have hXd := hXc
      have hXok := hXo
      replace hbc := Lib.hid hbc; replace hLc := Lib.hid hLc; replace hXc := Lib.hid hXc; replace hXo := Lib.hid hXo; replace hLz := Lib.hid hLz; replace haft := Lib.hid haft; replace hXd := Lib.hid hXd; replace hXok := Lib.hid hXok; replace hlz := Lib.hid hlz; replace hez := Lib.hid hez
      obtain ⟨X, hX⟩ : ∃ X : Spv, X = (⟨⟨user, part, nodes, ⟨da, db, dc, dd⟩, wall, prio, array, retries, held, after⟩, sso, sn, scp⟩ : Spv) := ⟨_, rfl⟩
      have hsp13 := hXd.out
      have s0 : wz.cell? ⟨sb, 0, none⟩ = some (.string user) := blk_cell hsp13 0
      have s1 : wz.cell? ⟨sb, 1, none⟩ = some (.string part) := blk_cell hsp13 1
      have s2 : wz.cell? ⟨sb, 2, none⟩ = some (.int .i64 nodes) := blk_cell hsp13 2
      have s3 : wz.cell? ⟨sb, 3, none⟩ = some (.int .i64 da) := blk_cell hsp13 3
      have s4 : wz.cell? ⟨sb, 4, none⟩ = some (.int .i64 db) := blk_cell hsp13 4
      have s5 : wz.cell? ⟨sb, 5, none⟩ = some (.int .i64 dc) := blk_cell hsp13 5
      have s6 : wz.cell? ⟨sb, 6, none⟩ = some (.int .i64 dd) := blk_cell hsp13 6
      have s7 : wz.cell? ⟨sb, 7, none⟩ = some (.int .i64 wall) := blk_cell hsp13 7
      have s8 : wz.cell? ⟨sb, 8, none⟩ = some (.int .i64 prio) := blk_cell hsp13 8
      have s9 : wz.cell? ⟨sb, 9, none⟩ = some (.int .i64 array) := blk_cell hsp13 9
      have s10 : wz.cell? ⟨sb, 10, none⟩ = some (.int .i64 retries) := blk_cell hsp13 10
      have s11 : wz.cell? ⟨sb, 11, none⟩ = some (.bool held) := blk_cell hsp13 11
      have s12 : wz.cell? ⟨sb, 12, none⟩ = some (.slice sso sn scp) := blk_cell hsp13 12
      obtain ⟨W8, hW8⟩ : ∃ W8, W8 = wz.alloc (.cells (⟨⟨user, part, nodes, ⟨da, db, dc, dd⟩, wall, prio, array, retries, held, after⟩, sso, sn, scp⟩ : Spv).cells 26 (0, 0)) := ⟨_, rfl⟩
      have hb8 : Below wz.heap.size wz W8 := by rw [hW8]; exact (Below.refl _ _).alloc (Nat.le_refl _) _
      have hL8 := hLz.out.low hb8
      have hX8 := hXok.out.low hb8
      have hownA : W8.ownsRow w.heap.size 26 13 (.slice so k c) k (flatv Spv.cells xs) := by have := hL8.own.row; rwa [hxl.out] at this
      have hnews : ∀ j u, (⟨⟨user, part, nodes, ⟨da, db, dc, dd⟩, wall, prio, array, retries, held, after⟩, sso, sn, scp⟩ : Spv).cells.toList[j]? = some u → W8.cell? ((⟨wz.heap.size, 0, none⟩ : Addr).add j) = some u := by rw [hW8]; exact spv_new wz _
      have hone := spv_one (⟨⟨user, part, nodes, ⟨da, db, dc, dd⟩, wall, prio, array, retries, held, after⟩, sso, sn, scp⟩ : Spv)
      have h63 := maxLen_ge (n := k) (by omega)
      have hby : (k + 1) * 136 ≤ 140737488355328 := by omega
      have hbas : w.heap.size ≤ W8.heap.size := by have h1 := hL8.kp.size; omega
      rw [hW8] at hownA hnews hbas
      have hW8' := Lib.hid hW8
      clear hW8
      replace hb8 := Lib.hid hb8; replace hL8 := Lib.hid hL8; replace hX8 := Lib.hid hX8; replace hownA := Lib.hid hownA; replace hnews := Lib.hid hnews; replace hone := Lib.hid hone; replace h63 := Lib.hid h63; replace hby := Lib.hid hby; replace hbas := Lib.hid hbas; replace hX := Lib.hid hX; replace hsp13 := Lib.hid hsp13
      go_wp2_with (at_builtin; refine wpList_append_own_at _ rfl _ _ 41 rfl w.heap.size 26 i28 _ 13 136 Tryz.underlying41 hi28.out hz28.out hz281.out hz282.out rfl (by decide) _ k _ rfl hownA.out ⟨wz.heap.size, 0, none⟩ 1 1 (⟨⟨user, part, nodes, ⟨da, db, dc, dd⟩, wall, prio, array, retries, held, after⟩, sso, sn, scp⟩ : Spv).cells.toList rfl rfl hnews.out hone.out h63.out hby.out hbas.out ?_; intro v1 w9 hown9 hgrow _ hat9; obtain ⟨g9, cap1, rfl⟩ := Joins.ownsRow_form hown9 (by omega); replace hown9 := Lib.hid hown9; replace hgrow := Lib.hid hgrow; replace hat9 := Lib.hid hat9)
      have hg9 := hgrow.out
      have hat := hat9.out
      rw [← hW8'.out] at hg9 hat
      have hg9' : W8.grownBy w9 (Value.slice so k c).ownBlock := hg9
      have hat' : (Value.slice (some ⟨g9, 0, none⟩) (k + 1) cap1).ownBlock = (Value.slice so k c).ownBlock ∨ (Value.slice (some ⟨g9, 0, none⟩) (k + 1) cap1).ownBlock = some W8.heap.size := hat
      have hlow9 : Below w.heap.size W8 w9 := (Below.refl _ _).grown hg9' hL8.out.kp.size (fun q hq => (ownS_lt hL8.out.own q hq).1)
      have hL9 : SpL w rb B lz ez (.slice (some ⟨g9, 0, none⟩) (k + 1) cap1) (xs ++ [X]) w9 := by
        refine ⟨hL8.out.rd.at hlow9 hrbw.out hB.out, ⟨?_⟩, ?_, hL8.out.kp.then hlow9 (Nat.le_refl _)⟩
        · have h := hown9.out
          rw [← flatv_one Spv.cells, ← flatv_append, ← hX.out] at h
          rw [List.length_append, hxl.out]
          exact h
        · refine ((hL8.out.sp.add (x := X) (by rw [hX.out]; exact hX8.out) fun b o e => ?_).grown hg9' hat')
          rw [hX.out] at e
          have h1 := hXf.out b o e
          refine ⟨by omega, fun c => ?_⟩
          have h2 := hLt.out b c
          omega
      have hxl9 : (xs ++ [X]).length = k + 1 := by rw [List.length_append, hxl.out]; rfl
      have hXp : X.pl = P.1 := by rw [hX.out]; exact hXe.out
      have hS9 : specsR l e = (((xs ++ [X]).map Spv.pl) ++ (spsR (nn - (k + 1)) lz ez).1, (spsR (nn - (k + 1)) lz ez).2) := by
        have hk1 := hkn.out
        rw [hS.out, show nn - k = (nn - (k + 1)) + 1 by omega, spsR, if_neg (by simp), haft.out, hT.out, hP.out, List.map_append, List.map_cons, List.map_nil, hXp]
        simp
      replace hg9 := Lib.hid hg9; replace hg9' := Lib.hid hg9'; replace hat := Lib.hid hat; replace hat' := Lib.hid hat'; replace hlow9 := Lib.hid hlow9; replace hL9 := Lib.hid hL9; replace hxl9 := Lib.hid hxl9; replace hS9 := Lib.hid hS9; replace hXp := Lib.hid hXp
      clear s0 s1 s2 s3 s4 s5 s6 s7 s8 s9 s10 s11 s12
      go_wp2
      go_roundw
      case rel => exact ⟨k + 1, xs ++ [X], lz, ez, _, _, rfl, (by have := hkn.out; omega), hxl9.out, hS9.out, hL9.out⟩
      case measure => have := hkn.out; simp [sliceN]; omega
end Go.Proofs.YteoihdkaoipocaaGreatDoor

/- event.Take 51: an event off a reader. Plain theorems: no condition. -/
namespace Go.Proofs.YteoihdkaoipocaaGreatDoor
open Go.RowKit Go.Maps

/-- numbers for fields, off a reader -/
def fldsR : Evn → List Fld → List UInt8 → Int → Evn × List UInt8 × Int
  | n, [], l, e => (n, l, e)
  | n, f :: fs, l, e => fldsR (n.set (intR l e).1 f.1) fs (intR l e).2.1 (intR l e).2.2
def Evn.ofKind (k : Int) : Evn := ⟨k, 0, 0, 0, 0, 0, 0, 0, 0⟩
def Evn.zero : Evn := ⟨0, 0, 0, 0, 0, 0, 0, 0, 0⟩
def Evp.zero : Evp := ⟨Evn.zero, []⟩
/-- the reader behind the kind -/
def afterK (l : List UInt8) (e : Int) : List UInt8 × Int := match fldsOf (intR l e).1 with
  | none => (failL (intR l e).2.1 (intR l e).2.2 130, failE (intR l e).2.2 130)
  | some _ => (intR l e).2
def numsR (l : List UInt8) (e : Int) : Evn × List UInt8 × Int := fldsR (Evn.ofKind (intR l e).1) ((fldsOf (intR l e).1).getD []) (afterK l e).1 (afterK l e).2
def spcsR (l : List UInt8) (e : Int) : List Spp × List UInt8 × Int := if (intR l e).1 = 2 then specsR (numsR l e).2.1 (numsR l e).2.2 else ([], (numsR l e).2)
def rawR (l : List UInt8) (e : Int) : Evp := ⟨(numsR l e).1, (spcsR l e).1⟩
def lastR (l : List UInt8) (e : Int) : List UInt8 × Int := if mayE (rawR l e) = true then (spcsR l e).2 else (failL (spcsR l e).2.1 (spcsR l e).2.2 130, failE (spcsR l e).2.2 130)
/-- an event off a reader -/
def takeR (l : List UInt8) (e : Int) : Evp × List UInt8 × Int := (if (lastR l e).2 = 0 then rawR l e else Evp.zero, lastR l e)
theorem intR_bd (l : List UInt8) (e : Int) : -9223372036854775808 ≤ (intR l e).1 ∧ (intR l e).1 ≤ 9223372036854775807 := unzz_bd (uintR_lt l e)
def Rng (n : Evn) : Prop := ∀ i, -9223372036854775808 ≤ n.get i ∧ n.get i ≤ 9223372036854775807
theorem rng_set {n : Evn} (h : Rng n) {v : Int} (hv : -9223372036854775808 ≤ v ∧ v ≤ 9223372036854775807) (i : Nat) : Rng (n.set v i) := by
  intro j
  have hj := h j
  have e : (n.set v i).get j = n.get j ∨ (n.set v i).get j = v := by
    unfold Evn.set
    split <;> (unfold Evn.get; split) <;> first | exact .inl rfl | exact .inr rfl
  rcases e with e | e <;> rw [e]
  · exact hj
  · exact hv
theorem rng_kind {k : Int} (hk : -9223372036854775808 ≤ k ∧ k ≤ 9223372036854775807) : Rng (Evn.ofKind k) := by
  intro j
  have e : (Evn.ofKind k).get j = k ∨ (Evn.ofKind k).get j = 0 := by
    unfold Evn.ofKind Evn.get
    split <;> first | exact .inl rfl | exact .inr rfl
  rcases e with e | e <;> rw [e]
  · exact hk
  · omega
abbrev set10 (W : World) (b : Nat) (v0 v1 v2 v3 v4 v5 v6 v7 v8 v9 : Value) : World := ((((((((((W.setCell ⟨b, 0, none⟩ v0).setCell ⟨b, 1, none⟩ v1).setCell ⟨b, 2, none⟩ v2).setCell ⟨b, 3, none⟩ v3).setCell ⟨b, 4, none⟩ v4).setCell ⟨b, 5, none⟩ v5).setCell ⟨b, 6, none⟩ v6).setCell ⟨b, 7, none⟩ v7).setCell ⟨b, 8, none⟩ v8).setCell ⟨b, 9, none⟩ v9)
theorem set10_box {W : World} {b : Nat} {T : TypeId} {fr : Nat × Nat} {u0 u1 u2 u3 u4 u5 u6 u7 u8 u9 v0 v1 v2 v3 v4 v5 v6 v7 v8 v9 : Value} (h : W.heap[b]? = some (.cells #[u0, u1, u2, u3, u4, u5, u6, u7, u8, u9] T fr)) : (set10 W b v0 v1 v2 v3 v4 v5 v6 v7 v8 v9).heap[b]? = some (.cells #[v0, v1, v2, v3, v4, v5, v6, v7, v8, v9] T fr) := by
  have h0 : (W.setCell ⟨b, 0, none⟩ v0).heap[b]? = some (.cells #[v0, u1, u2, u3, u4, u5, u6, u7, u8, u9] T fr) := blk_set h 0 _
  have h1 : ((W.setCell ⟨b, 0, none⟩ v0).setCell ⟨b, 1, none⟩ v1).heap[b]? = some (.cells #[v0, v1, u2, u3, u4, u5, u6, u7, u8, u9] T fr) := blk_set h0 1 _
  have h2 : (((W.setCell ⟨b, 0, none⟩ v0).setCell ⟨b, 1, none⟩ v1).setCell ⟨b, 2, none⟩ v2).heap[b]? = some (.cells #[v0, v1, v2, u3, u4, u5, u6, u7, u8, u9] T fr) := blk_set h1 2 _
  have h3 : ((((W.setCell ⟨b, 0, none⟩ v0).setCell ⟨b, 1, none⟩ v1).setCell ⟨b, 2, none⟩ v2).setCell ⟨b, 3, none⟩ v3).heap[b]? = some (.cells #[v0, v1, v2, v3, u4, u5, u6, u7, u8, u9] T fr) := blk_set h2 3 _
  have h4 : (((((W.setCell ⟨b, 0, none⟩ v0).setCell ⟨b, 1, none⟩ v1).setCell ⟨b, 2, none⟩ v2).setCell ⟨b, 3, none⟩ v3).setCell ⟨b, 4, none⟩ v4).heap[b]? = some (.cells #[v0, v1, v2, v3, v4, u5, u6, u7, u8, u9] T fr) := blk_set h3 4 _
  have h5 : ((((((W.setCell ⟨b, 0, none⟩ v0).setCell ⟨b, 1, none⟩ v1).setCell ⟨b, 2, none⟩ v2).setCell ⟨b, 3, none⟩ v3).setCell ⟨b, 4, none⟩ v4).setCell ⟨b, 5, none⟩ v5).heap[b]? = some (.cells #[v0, v1, v2, v3, v4, v5, u6, u7, u8, u9] T fr) := blk_set h4 5 _
  have h6 : (((((((W.setCell ⟨b, 0, none⟩ v0).setCell ⟨b, 1, none⟩ v1).setCell ⟨b, 2, none⟩ v2).setCell ⟨b, 3, none⟩ v3).setCell ⟨b, 4, none⟩ v4).setCell ⟨b, 5, none⟩ v5).setCell ⟨b, 6, none⟩ v6).heap[b]? = some (.cells #[v0, v1, v2, v3, v4, v5, v6, u7, u8, u9] T fr) := blk_set h5 6 _
  have h7 : ((((((((W.setCell ⟨b, 0, none⟩ v0).setCell ⟨b, 1, none⟩ v1).setCell ⟨b, 2, none⟩ v2).setCell ⟨b, 3, none⟩ v3).setCell ⟨b, 4, none⟩ v4).setCell ⟨b, 5, none⟩ v5).setCell ⟨b, 6, none⟩ v6).setCell ⟨b, 7, none⟩ v7).heap[b]? = some (.cells #[v0, v1, v2, v3, v4, v5, v6, v7, u8, u9] T fr) := blk_set h6 7 _
  have h8 : (((((((((W.setCell ⟨b, 0, none⟩ v0).setCell ⟨b, 1, none⟩ v1).setCell ⟨b, 2, none⟩ v2).setCell ⟨b, 3, none⟩ v3).setCell ⟨b, 4, none⟩ v4).setCell ⟨b, 5, none⟩ v5).setCell ⟨b, 6, none⟩ v6).setCell ⟨b, 7, none⟩ v7).setCell ⟨b, 8, none⟩ v8).heap[b]? = some (.cells #[v0, v1, v2, v3, v4, v5, v6, v7, v8, u9] T fr) := blk_set h7 8 _
  have h9 : ((((((((((W.setCell ⟨b, 0, none⟩ v0).setCell ⟨b, 1, none⟩ v1).setCell ⟨b, 2, none⟩ v2).setCell ⟨b, 3, none⟩ v3).setCell ⟨b, 4, none⟩ v4).setCell ⟨b, 5, none⟩ v5).setCell ⟨b, 6, none⟩ v6).setCell ⟨b, 7, none⟩ v7).setCell ⟨b, 8, none⟩ v8).setCell ⟨b, 9, none⟩ v9).heap[b]? = some (.cells #[v0, v1, v2, v3, v4, v5, v6, v7, v8, v9] T fr) := blk_set h8 9 _
  exact h9
theorem set10_kept (W : World) (b : Nat) (v0 v1 v2 v3 v4 v5 v6 v7 v8 v9 : Value) : Kept b W (set10 W b v0 v1 v2 v3 v4 v5 v6 v7 v8 v9) := (((((((((Kept.set b 0 W v0).trans (Kept.set b 1 _ v1)).trans (Kept.set b 2 _ v2)).trans (Kept.set b 3 _ v3)).trans (Kept.set b 4 _ v4)).trans (Kept.set b 5 _ v5)).trans (Kept.set b 6 _ v6)).trans (Kept.set b 7 _ v7)).trans (Kept.set b 8 _ v8)).trans (Kept.set b 9 _ v9)
/-- within Take -/
structure EtW (w : World) (rb B eb : Nat) (l : List UInt8) (e : Int) (n : Evn) (wr : World) : Prop where
  rd : Rdr wr rb B l e
  box : wr.heap[eb]? = some (.cells (⟨n, none, 0, 0, []⟩ : Evv).cells 43 (0, 0))
  res : wr.heap[w.heap.size]? = some (.cells (⟨Evn.zero, none, 0, 0, []⟩ : Evv).cells 43 (0, 0))
  kp : Kept rb w wr
theorem EtW.low {w : World} {rb B eb : Nat} {l : List UInt8} {e : Int} {n : Evn} {wr w' : World} (h : EtW w rb B eb l e n wr) (hb : Below wr.heap.size wr w') : EtW w rb B eb l e n w' :=
  ⟨h.rd.low hb, blk_below hb h.box (blk_lt h.box), blk_below hb h.res (blk_lt h.res), h.kp.then hb h.kp.size⟩
theorem EtW.kept {w : World} {rb B eb : Nat} {l l' : List UInt8} {e e' : Int} {n : Evn} {wr w' : World} (h : EtW w rb B eb l e n wr) (hk : Kept rb wr w') (hr : rb < w.heap.size) (he : w.heap.size < eb) (hR : Rdr w' rb B l' e') : EtW w rb B eb l' e' n w' :=
  ⟨hR, hk.blk h.box (by omega), hk.blk h.res (by omega), h.kp.trans hk⟩
theorem EtW.set {w : World} {rb B eb : Nat} {l : List UInt8} {e : Int} {n : Evn} {wr : World} (h : EtW w rb B eb l e n wr) (hr : rb < w.heap.size) (he : w.heap.size < eb) (hB : B ≤ w.heap.size) {i : Nat} (h1 : 1 ≤ i) (h8 : i ≤ 8) (v : Int) : EtW w rb B eb l e (n.set v i) (wr.setCell ⟨eb, i, none⟩ (.int .i64 v)) := by
  have hb : Below w.heap.size wr (wr.setCell ⟨eb, i, none⟩ (.int .i64 v)) := Below.setCell (Below.refl _ _) (show w.heap.size ≤ eb by omega) _
  have hne : w.heap.size ≠ eb := by omega
  refine ⟨h.rd.at hb hr hB, ?_, blk_set_other hne _ h.res, h.kp.then hb (Nat.le_refl _)⟩
  have := evv_set (⟨n, none, 0, 0, []⟩ : Evv) h1 h8 v
  rw [← this]
  exact blk_set h.box i _
theorem sps_none (w : World) : SpsAt w none 0 [] := ⟨rfl, by omega, fun i x h => by simp at h⟩
theorem SpsAt.keep {w w' : World} {so : Option Addr} {n : Nat} {xs : List Spv} (h : SpsAt w so n xs) (hs : w.heap.size ≤ w'.heap.size) (h1 : ∀ b o, so = some ⟨b, o, none⟩ → b < w.heap.size → w'.heap[b]? = w.heap[b]?)
    (h2 : ∀ x, x ∈ xs → x.pl.after ≠ [] → ∀ b o, x.so = some ⟨b, o, none⟩ → b < w.heap.size → w'.heap[b]? = w.heap[b]?) : SpsAt w' so n xs :=
  ⟨h.len, h.max, fun i x hx => by
    obtain ⟨b, off, e, hlt, hc, ho⟩ := h.cell i x hx
    refine ⟨b, off, e, Nat.lt_of_lt_of_le hlt hs, fun j hj => ?_, ⟨ho.after.keep hs fun b o e ha hl => h2 x (List.mem_of_getElem? hx) ha b o e hl, ho.ple, ho.user, ho.part⟩⟩
    rw [← hc j hj]
    simp only [World.cell?, h1 b off e hlt]⟩
/-- an event whose rows lie behind a block -/
structure EvF (q : Nat) (X : Evv) : Prop where
  so : ∀ b o, X.so = some ⟨b, o, none⟩ → q < b
  af : ∀ x, x ∈ X.sps → x.pl.after ≠ [] → ∀ b o, x.so = some ⟨b, o, none⟩ → q < b
theorem Evv.ok.kept {w w' : World} {X : Evv} {q r : Nat} (h : X.ok w) (hf : EvF q X) (hk : Kept r w w') (hr : r ≤ q) : X.ok w' :=
  ⟨h.sps.keep hk.size (fun b o e hl => hk.block b hl (by have := hf.so b o e; omega)) (fun x hx ha b o e hl => hk.block b hl (by have := hf.af x hx ha b o e; omega)), h.ple, h.rng⟩
/-- within Take, behind the specs -/
structure EtV (w : World) (rb B eb : Nat) (l : List UInt8) (e : Int) (X : Evv) (wr : World) : Prop where
  rd : Rdr wr rb B l e
  box : wr.heap[eb]? = some (.cells X.cells 43 (0, 0))
  res : wr.heap[w.heap.size]? = some (.cells (⟨Evn.zero, none, 0, 0, []⟩ : Evv).cells 43 (0, 0))
  kp : Kept rb w wr
  ok : X.ok wr
  fr : EvF w.heap.size X
theorem EtV.low {w : World} {rb B eb : Nat} {l : List UInt8} {e : Int} {X : Evv} {wr w' : World} (h : EtV w rb B eb l e X wr) (hb : Below wr.heap.size wr w') : EtV w rb B eb l e X w' :=
  ⟨h.rd.low hb, blk_below hb h.box (blk_lt h.box), blk_below hb h.res (blk_lt h.res), h.kp.then hb h.kp.size, h.ok.low hb, h.fr⟩
theorem EtV.kept {w : World} {rb B eb : Nat} {l l' : List UInt8} {e e' : Int} {X : Evv} {wr w' : World} (h : EtV w rb B eb l e X wr) (hk : Kept rb wr w') (hr : rb < w.heap.size) (he : w.heap.size < eb) (hR : Rdr w' rb B l' e') : EtV w rb B eb l' e' X w' :=
  ⟨hR, hk.blk h.box (by omega), hk.blk h.res (by omega), h.kp.trans hk, h.ok.kept h.fr hk (by omega), h.fr⟩
structure EtC (w : World) (rb B eb : Nat) (l : List UInt8) (e : Int) (n : Evn) (sp : List Spp) (wr : World) : Prop where
  ex : ∃ X : Evv, EtV w rb B eb l e X wr ∧ X.n = n ∧ X.sps.map Spv.pl = sp
def TakePost (rb B : Nat) (l : List UInt8) (e : Int) (w : World) (en : Ending) (w' : World) : Prop :=
  ∃ X : Evv, en = .returned X.val ∧ X.ok w' ∧ X.pl = (takeR l e).1 ∧ Rdr w' rb B (takeR l e).2.1 (takeR l e).2.2 ∧ Kept rb w w' ∧ EvF w.heap.size X
structure EtN (w : World) (rb B eb : Nat) (l : List UInt8) (e : Int) (n : Evn) (g : Nat) (row : Array Value) (wr : World) : Prop where
  t : EtW w rb B eb l e n wr
  r : wr.heap[g]? = some (.cells row 93 (0, 0))
set_option maxRecDepth 100000 in
set_option maxHeartbeats 6400000 in
theorem etake_any {w0 w : World} {rb B : Nat} {l : List UInt8} {e : Int} (h : Rdr w rb B l e) (hB : B ≤ w.heap.size) (hm : Mx w0) (ht : Tb w0) (h0 : Below w0.heap.size w0 w) (hr0 : w0.heap.size ≤ rb) : Calls Tryz.prog 20 #[.pointer (some ⟨rb, 0, none⟩)] w (TakePost rb B l e w) := by
  have hrbw := h.lt
  obtain ⟨W1, hW1⟩ : ∃ W1, W1 = w.alloc (.cells (⟨Evn.zero, none, 0, 0, []⟩ : Evv).cells 43 (0, 0)) := ⟨_, rfl⟩
  have hb1 : Below w.heap.size w W1 := by rw [hW1]; exact (Below.refl _ _).alloc (Nat.le_refl _) _
  have hres : W1.heap[w.heap.size]? = some (.cells (⟨Evn.zero, none, 0, 0, []⟩ : Evv).cells 43 (0, 0)) := by rw [hW1]; exact blk_new _ _
  have hki := rint_any (h.low hb1)
  obtain ⟨k, hk⟩ : ∃ k, k = (intR l e).1 := ⟨_, rfl⟩
  obtain ⟨l1, hl1⟩ : ∃ l1, l1 = (intR l e).2.1 := ⟨_, rfl⟩
  obtain ⟨e1, he1⟩ : ∃ e1, e1 = (intR l e).2.2 := ⟨_, rfl⟩
  rw [← hk, ← hl1, ← he1] at hki
  rw [hW1] at hki
  have hW1' := Lib.hid hW1
  clear hW1
  replace h := Lib.hid h; replace hB := Lib.hid hB; replace hm := Lib.hid hm; replace ht := Lib.hid ht; replace h0 := Lib.hid h0; replace hki := Lib.hid hki; replace hk := Lib.hid hk; replace hl1 := Lib.hid hl1; replace he1 := Lib.hid he1; replace hb1 := Lib.hid hb1; replace hres := Lib.hid hres; replace hrbw := Lib.hid hrbw
  go_enter Tryz.func20, Tryz.ntmps20
  go_wp2_with fail
  refine hki.out.mono ?_
  rintro en w2 ⟨rfl, hR2, hK2⟩
  rw [← hW1'.out] at hK2
  have hkp2 : Kept rb w w2 := (Kept.of_below hb1.out).trans hK2
  have hres2 := hK2.blk hres.out (by have := hrbw.out; omega)
  have hsz1 : W1.heap.size = w.heap.size + 1 := by rw [hW1'.out]; simp
  obtain ⟨eb, heb⟩ : ∃ eb, eb = w2.heap.size := ⟨_, rfl⟩
  have hebw : w.heap.size < eb := by have := hK2.size; omega
  obtain ⟨W3, hW3⟩ : ∃ W3, W3 = w2.alloc (.cells #[.int .i64 k, .int .i64 0, .int .i64 0, .int .i64 0, .int .i64 0, .int .i64 0, .int .i64 0, .int .i64 0, .int .i64 0, .slice none 0 0] 43 (0, 0)) := ⟨_, rfl⟩
  have hb3 : Below w2.heap.size w2 W3 := by rw [hW3]; exact (Below.refl _ _).alloc (Nat.le_refl _) _
  have hT3 : EtW w rb B eb l1 e1 (Evn.ofKind k) W3 := ⟨hR2.low hb3, by rw [hW3, heb]; exact blk_new _ _, blk_below hb3 hres2 (blk_lt hres2), hkp2.then hb3 hkp2.size⟩
  have hfl : Calls Tryz.prog 44 #[.pointer (some ⟨eb, 0, none⟩)] W3 (FldP k eb W3) := fields_all (k := k) (blk_cell hT3.box 0)
  have hW3' := Lib.hid hW3
  have heb' := Lib.hid heb
  clear hW3 heb
  replace hR2 := Lib.hid hR2; replace hK2 := Lib.hid hK2; replace hkp2 := Lib.hid hkp2; replace hres2 := Lib.hid hres2; replace hsz1 := Lib.hid hsz1; replace hebw := Lib.hid hebw; replace hb3 := Lib.hid hb3; replace hT3 := Lib.hid hT3; replace hfl := Lib.hid hfl
  cases hf : fldsOf k with
  | none =>
    have hk2 : k ≠ 2 := fun c => by rw [c] at hf; cases hf
    have dk : (k == (2 : Int)) = false := beq_eq_false_iff_ne.2 hk2
    unfold FldP at hfl
    rw [hf] at hfl
    obtain ⟨la, hla⟩ : ∃ la, la = failL l1 e1 130 := ⟨_, rfl⟩
    obtain ⟨ea, hea⟩ : ∃ ea, ea = failE e1 130 := ⟨_, rfl⟩
    have hNR : numsR l e = (Evn.ofKind k, la, ea) := by
      unfold numsR afterK
      rw [← hk.out, hf, ← hl1.out, ← he1.out, hla, hea]
      rfl
    have hSC : spcsR l e = ([], la, ea) := by unfold spcsR; rw [← hk.out, if_neg hk2, hNR]
    have hraw : rawR l e = ⟨Evn.ofKind k, []⟩ := by unfold rawR; rw [hNR, hSC]
    have hmy : mayE ⟨Evn.ofKind k, []⟩ = false := mayE_none hf
    have hE0 : errE ⟨Evn.ofKind k, []⟩ = 130 := errE_no hmy
    have hlst2 : lastR l e = (failL la ea 130, failE ea 130) := by unfold lastR; rw [hraw, hSC, if_neg (by rw [hmy]; simp)]
    have hRk : Rng (Evn.ofKind k) := rng_kind (by rw [hk.out]; exact intR_bd _ _)
    replace hfl := Lib.hid hfl; replace hf := Lib.hid hf; replace hk2 := Lib.hid hk2; replace hla := Lib.hid hla; replace hea := Lib.hid hea; replace hNR := Lib.hid hNR; replace hSC := Lib.hid hSC; replace hraw := Lib.hid hraw; replace hmy := Lib.hid hmy; replace hE0 := Lib.hid hE0; replace hlst2 := Lib.hid hlst2; replace hRk := Lib.hid hRk
    go_upto_region 3 with fail
    rw [← hW3'.out, ← heb'.out]
    go_wp2_with fail
    refine hfl.out.mono ?_
    rintro en w4 ⟨rfl, hb4⟩
    have hT4 := hT3.out.low hb4
    have hFa := rfail_any hT4.rd 130
    replace hb4 := Lib.hid hb4; replace hT4 := Lib.hid hT4; replace hFa := Lib.hid hFa
    go_wp2_with fail
    refine hFa.out.mono ?_
    rintro en w5 ⟨rfl, hR5, hK5⟩
    rw [← hla.out, ← hea.out] at hR5
    have hT5 := hT4.out.kept hK5 hrbw.out hebw.out hR5
    have hV5 : EtV w rb B eb la ea ⟨Evn.ofKind k, none, 0, 0, []⟩ w5 := ⟨hT5.rd, hT5.box, hT5.res, hT5.kp, ⟨sps_none w5, Nat.le_refl _, hRk.out⟩, ⟨fun b o e => (by cases e), fun x hx => (by cases hx)⟩⟩
    replace hR5 := Lib.hid hR5; replace hK5 := Lib.hid hK5; replace hT5 := Lib.hid hT5; replace hV5 := Lib.hid hV5
    go_wp2
    go_loopw [8, 24] (fun _ iv wr => iv = .int .i64 0 ∧ Hid (wr = w5)) (fun _ _ _ => 0)
    case atStart => exact ⟨rfl, rfl⟩
    case round =>
      obtain ⟨rfl, hw5⟩ := hrel
      have hw6 := hw5.out
      subst hw6
      rename World => wo
      have hck := echeck_any ⟨Evn.ofKind k, none, 0, 0, []⟩ wo hV5.out.ok
      have hck2 : Calls Tryz.prog 14 #[.agg #[.int .i64 k, .int .i64 0, .int .i64 0, .int .i64 0, .int .i64 0, .int .i64 0, .int .i64 0, .int .i64 0, .int .i64 0, .slice none 0 0]] wo fun e w' => e = .returned (.int .i64 130) ∧ Below wo.heap.size wo w' := by rw [← hE0.out]; exact hck
      clear hck
      have y0 : wo.cell? ⟨eb, 0, none⟩ = some (.int .i64 k) := blk_cell hV5.out.box 0
      have y1 : wo.cell? ⟨eb, 1, none⟩ = some (.int .i64 0) := blk_cell hV5.out.box 1
      have y2 : wo.cell? ⟨eb, 2, none⟩ = some (.int .i64 0) := blk_cell hV5.out.box 2
      have y3 : wo.cell? ⟨eb, 3, none⟩ = some (.int .i64 0) := blk_cell hV5.out.box 3
      have y4 : wo.cell? ⟨eb, 4, none⟩ = some (.int .i64 0) := blk_cell hV5.out.box 4
      have y5 : wo.cell? ⟨eb, 5, none⟩ = some (.int .i64 0) := blk_cell hV5.out.box 5
      have y6 : wo.cell? ⟨eb, 6, none⟩ = some (.int .i64 0) := blk_cell hV5.out.box 6
      have y7 : wo.cell? ⟨eb, 7, none⟩ = some (.int .i64 0) := blk_cell hV5.out.box 7
      have y8 : wo.cell? ⟨eb, 8, none⟩ = some (.int .i64 0) := blk_cell hV5.out.box 8
      have y9 : wo.cell? ⟨eb, 9, none⟩ = some (.slice none 0 0) := blk_cell hV5.out.box 9
      replace hck2 := Lib.hid hck2
      go_wp2_with fail
      refine hck2.out.mono ?_
      rintro en w7 ⟨rfl, hb7⟩
      have hV6 := hV5.out.low hb7
      clear y0 y1 y2 y3 y4 y5 y6 y7 y8 y9
      have d1 : ((130 : Int) != (0 : Int)) = true := rfl
      have hFl := rfail_any hV6.rd 130
      replace hb7 := Lib.hid hb7; replace hV6 := Lib.hid hV6; replace hFl := Lib.hid hFl
      go_wp2_with fail
      refine hFl.out.mono ?_
      rintro en wz ⟨rfl, hRz, hKz⟩
      obtain ⟨lz, hlz⟩ : ∃ lz, lz = failL la ea 130 := ⟨_, rfl⟩
      obtain ⟨ez, hez⟩ : ∃ ez, ez = failE ea 130 := ⟨_, rfl⟩
      rw [← hlz, ← hez] at hRz
      have hV7 := hV6.out.kept hKz hrbw.out hebw.out hRz
      have q5 : ez ≠ 0 := by
        rw [hez]
        unfold failE
        split
        · decide
        · next c => intro c2; exact c ⟨c2, by decide⟩
      have d2 : (ez != (0 : Int)) = true := by rw [bne_iff_ne]; exact q5
      have htk : takeR l e = (Evp.zero, lz, ez) := by unfold takeR; rw [hlst2.out, ← hlz, ← hez, if_neg q5]
      have hErr := rerr_any hV7.rd
      replace hRz := Lib.hid hRz; replace hKz := Lib.hid hKz; replace q5 := Lib.hid q5; replace htk := Lib.hid htk; replace hErr := Lib.hid hErr; replace hlz := Lib.hid hlz; replace hez := Lib.hid hez
      go_wp2_with fail
      refine hErr.out.mono ?_
      rintro en w8 ⟨rfl, rfl⟩
      have r0 : w8.cell? ⟨w.heap.size, 0, none⟩ = some (.int .i64 0) := blk_cell hV7.res 0
      have r1 : w8.cell? ⟨w.heap.size, 1, none⟩ = some (.int .i64 0) := blk_cell hV7.res 1
      have r2 : w8.cell? ⟨w.heap.size, 2, none⟩ = some (.int .i64 0) := blk_cell hV7.res 2
      have r3 : w8.cell? ⟨w.heap.size, 3, none⟩ = some (.int .i64 0) := blk_cell hV7.res 3
      have r4 : w8.cell? ⟨w.heap.size, 4, none⟩ = some (.int .i64 0) := blk_cell hV7.res 4
      have r5 : w8.cell? ⟨w.heap.size, 5, none⟩ = some (.int .i64 0) := blk_cell hV7.res 5
      have r6 : w8.cell? ⟨w.heap.size, 6, none⟩ = some (.int .i64 0) := blk_cell hV7.res 6
      have r7 : w8.cell? ⟨w.heap.size, 7, none⟩ = some (.int .i64 0) := blk_cell hV7.res 7
      have r8 : w8.cell? ⟨w.heap.size, 8, none⟩ = some (.int .i64 0) := blk_cell hV7.res 8
      have r9 : w8.cell? ⟨w.heap.size, 9, none⟩ = some (.slice none 0 0) := blk_cell hV7.res 9
      have g0 : w8.frozen? ⟨w.heap.size, 0, none⟩ = false := blk_free hV7.res 0
      have g1 : w8.frozen? ⟨w.heap.size, 1, none⟩ = false := blk_free hV7.res 1
      have g2 : w8.frozen? ⟨w.heap.size, 2, none⟩ = false := blk_free hV7.res 2
      have g3 : w8.frozen? ⟨w.heap.size, 3, none⟩ = false := blk_free hV7.res 3
      have g4 : w8.frozen? ⟨w.heap.size, 4, none⟩ = false := blk_free hV7.res 4
      have g5 : w8.frozen? ⟨w.heap.size, 5, none⟩ = false := blk_free hV7.res 5
      have g6 : w8.frozen? ⟨w.heap.size, 6, none⟩ = false := blk_free hV7.res 6
      have g7 : w8.frozen? ⟨w.heap.size, 7, none⟩ = false := blk_free hV7.res 7
      have g8 : w8.frozen? ⟨w.heap.size, 8, none⟩ = false := blk_free hV7.res 8
      have g9 : w8.frozen? ⟨w.heap.size, 9, none⟩ = false := blk_free hV7.res 9
      obtain ⟨W9, hW9⟩ : ∃ W9, W9 = ((((((((((w8.setCell ⟨w.heap.size, 0, none⟩ (.int .i64 0)).setCell ⟨w.heap.size, 1, none⟩ (.int .i64 0)).setCell ⟨w.heap.size, 2, none⟩ (.int .i64 0)).setCell ⟨w.heap.size, 3, none⟩ (.int .i64 0)).setCell ⟨w.heap.size, 4, none⟩ (.int .i64 0)).setCell ⟨w.heap.size, 5, none⟩ (.int .i64 0)).setCell ⟨w.heap.size, 6, none⟩ (.int .i64 0)).setCell ⟨w.heap.size, 7, none⟩ (.int .i64 0)).setCell ⟨w.heap.size, 8, none⟩ (.int .i64 0)).setCell ⟨w.heap.size, 9, none⟩ (.slice none 0 0)) := ⟨_, rfl⟩
      have hb9 : W9.heap[w.heap.size]? = some (.cells (⟨Evn.zero, none, 0, 0, []⟩ : Evv).cells 43 (0, 0)) := by rw [hW9]; exact set10_box hV7.res
      have hk9 : Kept w.heap.size w8 W9 := by rw [hW9]; exact set10_kept ..
      have s0 : W9.cell? ⟨w.heap.size, 0, none⟩ = some (.int .i64 0) := blk_cell hb9 0
      have s1 : W9.cell? ⟨w.heap.size, 1, none⟩ = some (.int .i64 0) := blk_cell hb9 1
      have s2 : W9.cell? ⟨w.heap.size, 2, none⟩ = some (.int .i64 0) := blk_cell hb9 2
      have s3 : W9.cell? ⟨w.heap.size, 3, none⟩ = some (.int .i64 0) := blk_cell hb9 3
      have s4 : W9.cell? ⟨w.heap.size, 4, none⟩ = some (.int .i64 0) := blk_cell hb9 4
      have s5 : W9.cell? ⟨w.heap.size, 5, none⟩ = some (.int .i64 0) := blk_cell hb9 5
      have s6 : W9.cell? ⟨w.heap.size, 6, none⟩ = some (.int .i64 0) := blk_cell hb9 6
      have s7 : W9.cell? ⟨w.heap.size, 7, none⟩ = some (.int .i64 0) := blk_cell hb9 7
      have s8 : W9.cell? ⟨w.heap.size, 8, none⟩ = some (.int .i64 0) := blk_cell hb9 8
      have s9 : W9.cell? ⟨w.heap.size, 9, none⟩ = some (.slice none 0 0) := blk_cell hb9 9
      have hl9 : Below w.heap.size w8 W9 := hk9.below (Nat.le_refl _) (blk_lt hV7.res)
      have hR9 := hV7.rd.at hl9 hrbw.out hB.out
      have hKp9 := hV7.kp.then hl9 (Nat.le_refl _)
      have hW9' := Lib.hid hW9
      clear hW9
      replace hV7 := Lib.hid hV7; replace hb9 := Lib.hid hb9; replace hk9 := Lib.hid hk9; replace hl9 := Lib.hid hl9; replace hR9 := Lib.hid hR9; replace hKp9 := Lib.hid hKp9
      go_wp2
      rw [← hW9'.out]
      refine bodyPost_ret (v := (⟨Evn.zero, none, 0, 0, []⟩ : Evv).val) (by simp [results, Tryz.results20, go_sem, s0, s1, s2, s3, s4, s5, s6, s7, s8, s9, Evn.zero]) rfl ?_
      exact ⟨(⟨Evn.zero, none, 0, 0, []⟩ : Evv), rfl, ⟨sps_none _, Nat.le_refl _, rng_kind (k := 0) (by omega)⟩, by rw [htk.out]; rfl, by rw [htk.out]; exact hR9.out, hKp9.out, ⟨fun b o e => (by cases e), fun x hx => (by cases hx)⟩⟩
  | some fs =>
    obtain ⟨hf4, hfo⟩ := flds_ok hf
    obtain ⟨row, hrowe⟩ : ∃ row, row = (fs.flatMap (fldV eb)).toArray := ⟨_, rfl⟩
    obtain ⟨F, hF⟩ : ∃ F, F = fs.length := ⟨_, rfl⟩
    unfold FldP at hfl
    rw [hf] at hfl
    unfold FldPost at hfl
    simp only [← hrowe, ← hF] at hfl
    obtain ⟨la, hla⟩ : ∃ la, la = l1 := ⟨_, rfl⟩
    obtain ⟨ea, hea⟩ : ∃ ea, ea = e1 := ⟨_, rfl⟩
    have hNR : numsR l e = fldsR (Evn.ofKind k) (fs.drop 0) la ea := by
      unfold numsR afterK
      rw [← hk.out, hf, hla, hea, hl1.out, he1.out]
      rfl
    have hRk : Rng (Evn.ofKind k) := rng_kind (by rw [hk.out]; exact intR_bd _ _)
    have hFl : F ≤ 4 := by rw [hF]; exact hf4
    replace hfl := Lib.hid hfl; replace hf := Lib.hid hf; replace hf4 := Lib.hid hf4; replace hfo := Lib.hid hfo; replace hrowe := Lib.hid hrowe; replace hF := Lib.hid hF; replace hla := Lib.hid hla; replace hea := Lib.hid hea; replace hNR := Lib.hid hNR; replace hRk := Lib.hid hRk
    go_upto_region 3 with fail
    rw [← hW3'.out, ← heb'.out]
    go_wp2_with fail
    refine hfl.out.mono ?_
    rintro en w4 ⟨g, rfl, hgg, hgr, hb4⟩
    have hTc : EtW w rb B eb la ea (Evn.ofKind k) w4 := by rw [hla.out, hea.out]; exact hT3.out.low hb4
    have hgb : eb < g := by have h1 := hb3.out.size; have h2 := blk_lt hT3.out.box; omega
    obtain ⟨gp, hgp⟩ : ∃ gp : Option Addr, gp = some ⟨g, 0, none⟩ := ⟨_, rfl⟩
    have hrow : F = 0 ∨ ∃ g, gp = some ⟨g, 0, none⟩ ∧ w4.heap[g]? = some (.cells row 93 (0, 0)) ∧ rb < g ∧ w.heap.size < g ∧ g ≠ eb := .inr ⟨g, hgp, hgr, by have := hrbw.out; have := hebw.out; omega, by have := hebw.out; omega, by omega⟩
    rw [← hgp]
    replace hgg := Lib.hid hgg; replace hgr := Lib.hid hgr; replace hb4 := Lib.hid hb4; replace hTc := Lib.hid hTc; replace hgb := Lib.hid hgb; replace hrow := Lib.hid hrow; replace hgp := Lib.hid hgp
    go_wp2
    go_loopw [8, 24] (fun _ iv wr => ∃ (j : Nat) (n : Evn) (l' : List UInt8) (e' : Int), iv = .int .i64 j ∧ j ≤ F ∧ Hid (numsR l e = fldsR n (fs.drop j) l' e') ∧ Hid (Rng n) ∧ Hid (n.kind = k) ∧ Hid (EtW w rb B eb l' e' n wr) ∧ Hid (F = 0 ∨ ∃ g, gp = some ⟨g, 0, none⟩ ∧ wr.heap[g]? = some (.cells row 93 (0, 0)) ∧ rb < g ∧ w.heap.size < g ∧ g ≠ eb)) (fun _ iv _ => F - (intOf iv).toNat)
    case atStart => exact ⟨0, Evn.ofKind k, la, ea, rfl, Nat.zero_le _, hNR.out, hRk.out, rfl, hTc.out, hrow.out⟩
    case round =>
      obtain ⟨j, n, l', e', rfl, hj, hnr, hrg, hkd, hT, hrw⟩ := hrel
      by_cases hjF : j < F
      · have hjF1 : (j : Int) < F := by omega
        have hj0 : (0 : Int) ≤ (j : Int) := by omega
        obtain ⟨f, hf1⟩ : ∃ f, fs[j]? = some f := ⟨_, List.getElem?_eq_getElem (by have := hF.out; omega)⟩
        obtain ⟨q1, q8, _⟩ := hfo.out f (List.mem_of_getElem? hf1)
        obtain ⟨g, rfl, hgr, hgrb, hgw, hge⟩ : ∃ g, gp = some ⟨g, 0, none⟩ ∧ wr.heap[g]? = some (.cells row 93 (0, 0)) ∧ rb < g ∧ w.heap.size < g ∧ g ≠ eb := by
          rcases hrw.out with h | h
          · omega
          · exact h
        obtain ⟨i, lo, hi⟩ := f
        have hgr2 := hgr
        rw [hrowe.out] at hgr2
        obtain ⟨z0, z1, z2⟩ := fld_cell hgr2 hf1
        simp only at z0 z1 z2 q1 q8
        have hdr : fs.drop j = (i, lo, hi) :: fs.drop (j + 1) := by
          obtain ⟨hl, e1⟩ := List.getElem?_eq_some_iff.1 hf1
          rw [List.drop_eq_getElem_cons hl, e1]
        obtain ⟨v, hv⟩ : ∃ v, v = (intR l' e').1 := ⟨_, rfl⟩
        obtain ⟨l2, hl2⟩ : ∃ l2, l2 = (intR l' e').2.1 := ⟨_, rfl⟩
        obtain ⟨e2, he2⟩ : ∃ e2, e2 = (intR l' e').2.2 := ⟨_, rfl⟩
        have hnr2 : numsR l e = fldsR (n.set v i) (fs.drop (j + 1)) l2 e2 := by rw [hnr.out, hdr, fldsR, hv, hl2, he2]
        have hrg2 : Rng (n.set v i) := rng_set hrg.out (by rw [hv]; exact intR_bd _ _) i
        have hkd2 : (n.set v i).kind = k := by rw [set_kind, hkd.out]
        obtain ⟨bx, hbx⟩ : ∃ bx, bx = wr.heap.size := ⟨_, rfl⟩
        obtain ⟨W6, hW6⟩ : ∃ W6, W6 = wr.alloc (.cells #[.pointer (some ⟨eb, i, none⟩), .int .i64 lo, .int .i64 hi] 93 (0, 0)) := ⟨_, rfl⟩
        have hb6 : Below wr.heap.size wr W6 := by rw [hW6]; exact (Below.refl _ _).alloc (Nat.le_refl _) _
        have hn6 : W6.heap[bx]? = some (.cells #[.pointer (some ⟨eb, i, none⟩), .int .i64 lo, .int .i64 hi] 93 (0, 0)) := by rw [hW6, hbx]; exact blk_new _ _
        have hT6 := hT.out.low hb6
        have hg6 := blk_below hb6 hgr (blk_lt hgr)
        have hbr : bx ≠ rb := by have := hT.out.rd.lt; omega
        have hgn : g ≠ rb := by omega
        have c0 : W6.cell? ⟨bx, 0, none⟩ = some (.pointer (some ⟨eb, i, none⟩)) := blk_cell hn6 0
        have hnx : ∀ W, EtW w rb B eb l' e' n W → Calls Tryz.prog 51 #[.pointer (some ⟨rb, 0, none⟩)] W fun en w' => en = .returned (.int .i64 v) ∧ Rdr w' rb B l2 e2 ∧ Kept rb W w' := fun W hE => by rw [hv, hl2, he2]; exact rint_any hE.rd
        have hcd : Below W6.heap.size W6 W6.drew := (Below.refl _ _).drew
        have hT6d := hT6.low hcd
        have hn6d := blk_below hcd hn6 (blk_lt hn6)
        have hg6d := blk_below hcd hg6 (blk_lt hg6)
        have hW6' := Lib.hid hW6
        have hbx' := Lib.hid hbx
        clear hW6 hbx
        replace hf1 := Lib.hid hf1; replace hgr := Lib.hid hgr; replace hgr2 := Lib.hid hgr2; replace hgrb := Lib.hid hgrb; replace hgw := Lib.hid hgw; replace hge := Lib.hid hge; replace hdr := Lib.hid hdr; replace hv := Lib.hid hv; replace hl2 := Lib.hid hl2; replace he2 := Lib.hid he2; replace hnr2 := Lib.hid hnr2; replace hrg2 := Lib.hid hrg2; replace hkd2 := Lib.hid hkd2; replace hb6 := Lib.hid hb6; replace hn6 := Lib.hid hn6; replace hT6 := Lib.hid hT6; replace hg6 := Lib.hid hg6; replace hbr := Lib.hid hbr; replace hgn := Lib.hid hgn; replace hnx := Lib.hid hnx; replace hcd := Lib.hid hcd; replace hT6d := Lib.hid hT6d; replace hn6d := Lib.hid hn6d; replace hg6d := Lib.hid hg6d
        go_upto_region 9 with fail
        rw [← hW6'.out, ← hbx'.out]
        clear z0 z1 z2
        go_region_with
          (go_at_call 51
           refine (hnx.out _ hT6d.out).mono ?_
           rintro en w7 ⟨rfl, hR7, hK7⟩
           have hT7 := hT6d.out.kept hK7 hrbw.out hebw.out hR7
           have hn7 := hK7.blk hn6d.out hbr.out
           have hg7 := hK7.blk hg6d.out hgn.out
           have c7 : w7.cell? ⟨bx, 0, none⟩ = some (.pointer (some ⟨eb, i, none⟩)) := blk_cell hn7 0
           have f7 := blk_free hT7.box i
           have v7 := blk_cell hT7.box i
           rw [evv_get _ q8] at v7
           have hT8 := hT7.set hrbw.out hebw.out hB.out q1 q8 v
           have hg8 := blk_set_other (o := i) hge.out (Value.int .i64 v) hg7
           replace hR7 := Lib.hid hR7
           replace hK7 := Lib.hid hK7
           replace hT7 := Lib.hid hT7
           replace hn7 := Lib.hid hn7
           replace hg7 := Lib.hid hg7
           replace hT8 := Lib.hid hT8
           replace hg8 := Lib.hid hg8)
        all_goals
          go_wp2_with fail
          go_roundw
          case rel => exact ⟨j + 1, n.set v i, l2, e2, by go_num, by omega, hnr2.out, hrg2.out, hkd2.out, hT8.out, .inr ⟨g, rfl, hg8.out, hgrb.out, hgw.out, hge.out⟩⟩
          case measure => simp [intOf]; omega
      · have hjF1 : ¬ (j : Int) < F := by omega
        have hdr : fs.drop j = [] := List.drop_of_length_le (by have := hF.out; omega)
        have hnr2 : numsR l e = (n, l', e') := by rw [hnr.out, hdr]; rfl
        have y0 : wr.cell? ⟨eb, 0, none⟩ = some (.int .i64 k) := by
          have h := blk_cell hT.out.box 0
          rw [← hkd.out]
          exact h
        have y9 : wr.cell? ⟨eb, 9, none⟩ = some (.slice none 0 0) := blk_cell hT.out.box 9
        obtain ⟨sp, hsp⟩ : ∃ sp, sp = (spcsR l e).1 := ⟨_, rfl⟩
        obtain ⟨l5, hl5⟩ : ∃ l5, l5 = (spcsR l e).2.1 := ⟨_, rfl⟩
        obtain ⟨e5, he5⟩ : ∃ e5, e5 = (spcsR l e).2.2 := ⟨_, rfl⟩
        have hSC : spcsR l e = if k = 2 then specsR l' e' else ([], l', e') := by unfold spcsR; rw [← hk.out, hnr2]
        have hraw : rawR l e = ⟨n, sp⟩ := by unfold rawR; rw [hnr2, hsp]
        have hlst : lastR l e = if mayE ⟨n, sp⟩ = true then (l5, e5) else (failL l5 e5 130, failE e5 130) := by unfold lastR; rw [hraw, hl5, he5]
        have hspe : spcsR l e = (sp, l5, e5) := by rw [hsp, hl5, he5]
        have hesp := especs_any hT.out.rd (by have h1 := hT.out.kp.size; have := hB.out; omega) hm.out ht.out (hT.out.kp.from h0.out hr0 hrbw.out) hr0
        replace hdr := Lib.hid hdr; replace hnr2 := Lib.hid hnr2; replace hsp := Lib.hid hsp; replace hl5 := Lib.hid hl5; replace he5 := Lib.hid he5; replace hSC := Lib.hid hSC; replace hraw := Lib.hid hraw; replace hlst := Lib.hid hlst; replace hspe := Lib.hid hspe; replace hesp := Lib.hid hesp
        go_upto_if 36 with fail
        go_cut [38] (fun _ wx => EtC w rb B eb l5 e5 n sp wx)
        case first =>
          by_cases k2 : k = 2
          · have d1 : (k == (2 : Int)) = true := by rw [k2]; rfl
            have hss : specsR l' e' = (sp, l5, e5) := by rw [← hspe.out, hSC.out, if_pos k2]
            replace k2 := Lib.hid k2; replace hss := Lib.hid hss
            go_wp2_with fail
            refine hesp.out.mono ?_
            rintro en w5 ⟨so, m, c, xs, rfl, hmc, hsps, hxp, hfs, hfx, hR5, hK5⟩
            rw [hss.out] at hxp hR5
            have hT5 := hT.out.kept hK5 hrbw.out hebw.out hR5
            have v9 : w5.cell? ⟨eb, 9, none⟩ = some (.slice none 0 0) := blk_cell hT5.box 9
            have f9 := blk_free hT5.box 9
            have hne : w.heap.size ≠ eb := by have := hebw.out; omega
            have hlb : Below w.heap.size w5 (w5.setCell ⟨eb, 9, none⟩ (.slice so m c)) := Below.setCell (Below.refl _ _) (show w.heap.size ≤ eb by have := hebw.out; omega) _
            have hebl := blk_lt hT.out.box
            have hXo : (⟨n, so, m, c, xs⟩ : Evv).ok w5 := ⟨hsps, hmc, hrg.out⟩
            have hXf : EvF eb (⟨n, so, m, c, xs⟩ : Evv) := ⟨fun b o e => Nat.lt_of_lt_of_le hebl (hfs b o e), fun x hx ha b o e => Nat.lt_of_lt_of_le hebl (hfx x hx ha b o e)⟩
            have hC : EtC w rb B eb l5 e5 n sp (w5.setCell ⟨eb, 9, none⟩ (.slice so m c)) := ⟨⟨n, so, m, c, xs⟩, ⟨hT5.rd.at hlb hrbw.out hB.out, by simpa using blk_set hT5.box 9 (.slice so m c), blk_set_other hne _ hT5.res, hT5.kp.then hlb (Nat.le_refl _), hXo.kept hXf (Kept.set eb 9 w5 _) (Nat.le_refl _), ⟨fun b o e => by have h1 := hXf.so b o e; have := hebw.out; omega, fun x hx ha b o e => by have h1 := hXf.af x hx ha b o e; have := hebw.out; omega⟩⟩, rfl, hxp⟩
            replace hmc := Lib.hid hmc; replace hsps := Lib.hid hsps; replace hxp := Lib.hid hxp; replace hfs := Lib.hid hfs; replace hfx := Lib.hid hfx; replace hR5 := Lib.hid hR5; replace hK5 := Lib.hid hK5; replace hT5 := Lib.hid hT5; replace hlb := Lib.hid hlb; replace hXo := Lib.hid hXo; replace hXf := Lib.hid hXf; replace hC := Lib.hid hC
            go_wp2
            go_meet
            case rel => exact hC.out
          · have d1 : (k == (2 : Int)) = false := beq_eq_false_iff_ne.2 k2
            have hss : ([], l', e') = (sp, l5, e5) := by rw [← hspe.out, hSC.out, if_neg k2]
            simp only [Prod.mk.injEq] at hss
            obtain ⟨hs1, hs2, hs3⟩ := hss
            have hC : EtC w rb B eb l5 e5 n sp wr := ⟨⟨n, none, 0, 0, []⟩, ⟨by rw [← hs2, ← hs3]; exact hT.out.rd, hT.out.box, hT.out.res, hT.out.kp, ⟨sps_none wr, Nat.le_refl _, hrg.out⟩, ⟨fun b o e => (by cases e), fun x hx => (by cases hx)⟩⟩, rfl, hs1⟩
            replace k2 := Lib.hid k2; replace hs1 := Lib.hid hs1; replace hs2 := Lib.hid hs2; replace hs3 := Lib.hid hs3; replace hC := Lib.hid hC
            go_wp2
            go_meet
            case rel => exact hC.out
        case rest =>
        obtain ⟨X, hV, hXn, hXs⟩ := hcut.ex
        clear y0 y9
        have hXp : X.pl = ⟨n, sp⟩ := by unfold Evv.pl; rw [hXn, hXs]
        have hck := echeck_any X wc hV.ok
        rw [hXp] at hck
        obtain ⟨⟨kk, epoch, tick, client, seq, job, attempt, node, how⟩, xo, xm, xc, xsp⟩ := X
        have y0 : wc.cell? ⟨eb, 0, none⟩ = some (.int .i64 kk) := blk_cell hV.box 0
        have y1 : wc.cell? ⟨eb, 1, none⟩ = some (.int .i64 epoch) := blk_cell hV.box 1
        have y2 : wc.cell? ⟨eb, 2, none⟩ = some (.int .i64 tick) := blk_cell hV.box 2
        have y3 : wc.cell? ⟨eb, 3, none⟩ = some (.int .i64 client) := blk_cell hV.box 3
        have y4 : wc.cell? ⟨eb, 4, none⟩ = some (.int .i64 seq) := blk_cell hV.box 4
        have y5 : wc.cell? ⟨eb, 5, none⟩ = some (.int .i64 job) := blk_cell hV.box 5
        have y6 : wc.cell? ⟨eb, 6, none⟩ = some (.int .i64 attempt) := blk_cell hV.box 6
        have y7 : wc.cell? ⟨eb, 7, none⟩ = some (.int .i64 node) := blk_cell hV.box 7
        have y8 : wc.cell? ⟨eb, 8, none⟩ = some (.int .i64 how) := blk_cell hV.box 8
        have y9 : wc.cell? ⟨eb, 9, none⟩ = some (.slice xo xm xc) := blk_cell hV.box 9
        have hcut' := Lib.hid hcut
        clear hcut
        replace hV := Lib.hid hV; replace hXn := Lib.hid hXn; replace hXs := Lib.hid hXs; replace hXp := Lib.hid hXp; replace hck := Lib.hid hck
        go_wp2_with fail
        refine hck.out.mono ?_
        rintro en w7 ⟨rfl, hb7⟩
        have hV7 := hV.out.low hb7
        clear y0 y1 y2 y3 y4 y5 y6 y7 y8 y9
        by_cases hmy : mayE ⟨n, sp⟩ = true
        · have hE0 : errE ⟨n, sp⟩ = 0 := errE_yes hmy
          have hlst2 : lastR l e = (l5, e5) := by rw [hlst.out, if_pos hmy]
          rw [hE0]
          have d1 : ((0 : Int) != (0 : Int)) = false := rfl
          have hErr := rerr_any hV7.rd
          by_cases q5 : e5 = 0
          · have d2 : (e5 != (0 : Int)) = false := by rw [q5]; rfl
            have htk : takeR l e = (⟨n, sp⟩, l5, e5) := by unfold takeR; rw [hlst2, hraw.out, if_pos q5]
            have y0 : w7.cell? ⟨eb, 0, none⟩ = some (.int .i64 kk) := blk_cell hV7.box 0
            have y1 : w7.cell? ⟨eb, 1, none⟩ = some (.int .i64 epoch) := blk_cell hV7.box 1
            have y2 : w7.cell? ⟨eb, 2, none⟩ = some (.int .i64 tick) := blk_cell hV7.box 2
            have y3 : w7.cell? ⟨eb, 3, none⟩ = some (.int .i64 client) := blk_cell hV7.box 3
            have y4 : w7.cell? ⟨eb, 4, none⟩ = some (.int .i64 seq) := blk_cell hV7.box 4
            have y5 : w7.cell? ⟨eb, 5, none⟩ = some (.int .i64 job) := blk_cell hV7.box 5
            have y6 : w7.cell? ⟨eb, 6, none⟩ = some (.int .i64 attempt) := blk_cell hV7.box 6
            have y7 : w7.cell? ⟨eb, 7, none⟩ = some (.int .i64 node) := blk_cell hV7.box 7
            have y8 : w7.cell? ⟨eb, 8, none⟩ = some (.int .i64 how) := blk_cell hV7.box 8
            have y9 : w7.cell? ⟨eb, 9, none⟩ = some (.slice xo xm xc) := blk_cell hV7.box 9
            have r0 : w7.cell? ⟨w.heap.size, 0, none⟩ = some (.int .i64 0) := blk_cell hV7.res 0
            have r1 : w7.cell? ⟨w.heap.size, 1, none⟩ = some (.int .i64 0) := blk_cell hV7.res 1
            have r2 : w7.cell? ⟨w.heap.size, 2, none⟩ = some (.int .i64 0) := blk_cell hV7.res 2
            have r3 : w7.cell? ⟨w.heap.size, 3, none⟩ = some (.int .i64 0) := blk_cell hV7.res 3
            have r4 : w7.cell? ⟨w.heap.size, 4, none⟩ = some (.int .i64 0) := blk_cell hV7.res 4
            have r5 : w7.cell? ⟨w.heap.size, 5, none⟩ = some (.int .i64 0) := blk_cell hV7.res 5
            have r6 : w7.cell? ⟨w.heap.size, 6, none⟩ = some (.int .i64 0) := blk_cell hV7.res 6
            have r7 : w7.cell? ⟨w.heap.size, 7, none⟩ = some (.int .i64 0) := blk_cell hV7.res 7
            have r8 : w7.cell? ⟨w.heap.size, 8, none⟩ = some (.int .i64 0) := blk_cell hV7.res 8
            have r9 : w7.cell? ⟨w.heap.size, 9, none⟩ = some (.slice none 0 0) := blk_cell hV7.res 9
            have g0 : w7.frozen? ⟨w.heap.size, 0, none⟩ = false := blk_free hV7.res 0
            have g1 : w7.frozen? ⟨w.heap.size, 1, none⟩ = false := blk_free hV7.res 1
            have g2 : w7.frozen? ⟨w.heap.size, 2, none⟩ = false := blk_free hV7.res 2
            have g3 : w7.frozen? ⟨w.heap.size, 3, none⟩ = false := blk_free hV7.res 3
            have g4 : w7.frozen? ⟨w.heap.size, 4, none⟩ = false := blk_free hV7.res 4
            have g5 : w7.frozen? ⟨w.heap.size, 5, none⟩ = false := blk_free hV7.res 5
            have g6 : w7.frozen? ⟨w.heap.size, 6, none⟩ = false := blk_free hV7.res 6
            have g7 : w7.frozen? ⟨w.heap.size, 7, none⟩ = false := blk_free hV7.res 7
            have g8 : w7.frozen? ⟨w.heap.size, 8, none⟩ = false := blk_free hV7.res 8
            have g9 : w7.frozen? ⟨w.heap.size, 9, none⟩ = false := blk_free hV7.res 9
            obtain ⟨W9, hW9⟩ : ∃ W9, W9 = ((((((((((w7.setCell ⟨w.heap.size, 0, none⟩ (.int .i64 kk)).setCell ⟨w.heap.size, 1, none⟩ (.int .i64 epoch)).setCell ⟨w.heap.size, 2, none⟩ (.int .i64 tick)).setCell ⟨w.heap.size, 3, none⟩ (.int .i64 client)).setCell ⟨w.heap.size, 4, none⟩ (.int .i64 seq)).setCell ⟨w.heap.size, 5, none⟩ (.int .i64 job)).setCell ⟨w.heap.size, 6, none⟩ (.int .i64 attempt)).setCell ⟨w.heap.size, 7, none⟩ (.int .i64 node)).setCell ⟨w.heap.size, 8, none⟩ (.int .i64 how)).setCell ⟨w.heap.size, 9, none⟩ (.slice xo xm xc)) := ⟨_, rfl⟩
            have hb9 : W9.heap[w.heap.size]? = some (.cells (⟨⟨kk, epoch, tick, client, seq, job, attempt, node, how⟩, xo, xm, xc, xsp⟩ : Evv).cells 43 (0, 0)) := by rw [hW9]; exact set10_box hV7.res
            have hk9 : Kept w.heap.size w7 W9 := by rw [hW9]; exact set10_kept ..
            have s0 : W9.cell? ⟨w.heap.size, 0, none⟩ = some (.int .i64 kk) := blk_cell hb9 0
            have s1 : W9.cell? ⟨w.heap.size, 1, none⟩ = some (.int .i64 epoch) := blk_cell hb9 1
            have s2 : W9.cell? ⟨w.heap.size, 2, none⟩ = some (.int .i64 tick) := blk_cell hb9 2
            have s3 : W9.cell? ⟨w.heap.size, 3, none⟩ = some (.int .i64 client) := blk_cell hb9 3
            have s4 : W9.cell? ⟨w.heap.size, 4, none⟩ = some (.int .i64 seq) := blk_cell hb9 4
            have s5 : W9.cell? ⟨w.heap.size, 5, none⟩ = some (.int .i64 job) := blk_cell hb9 5
            have s6 : W9.cell? ⟨w.heap.size, 6, none⟩ = some (.int .i64 attempt) := blk_cell hb9 6
            have s7 : W9.cell? ⟨w.heap.size, 7, none⟩ = some (.int .i64 node) := blk_cell hb9 7
            have s8 : W9.cell? ⟨w.heap.size, 8, none⟩ = some (.int .i64 how) := blk_cell hb9 8
            have s9 : W9.cell? ⟨w.heap.size, 9, none⟩ = some (.slice xo xm xc) := blk_cell hb9 9
            have hl9 : Below w.heap.size w7 W9 := hk9.below (Nat.le_refl _) (blk_lt hV7.res)
            have hR9 := hV7.rd.at hl9 hrbw.out hB.out
            have hO9 := hV7.ok.kept hV7.fr hk9 (Nat.le_refl _)
            have hKp9 := hV7.kp.then hl9 (Nat.le_refl _)
            have hW9' := Lib.hid hW9
            clear hW9
            replace hb7 := Lib.hid hb7; replace hV7 := Lib.hid hV7; replace hmy := Lib.hid hmy; replace hE0 := Lib.hid hE0; replace hlst2 := Lib.hid hlst2; replace hErr := Lib.hid hErr; replace q5 := Lib.hid q5; replace htk := Lib.hid htk; replace hb9 := Lib.hid hb9; replace hk9 := Lib.hid hk9; replace hl9 := Lib.hid hl9; replace hR9 := Lib.hid hR9; replace hO9 := Lib.hid hO9; replace hKp9 := Lib.hid hKp9
            go_wp2_with fail
            refine hErr.out.mono ?_
            rintro en w8 ⟨rfl, rfl⟩
            go_wp2
            rw [← hW9'.out]
            refine bodyPost_ret (v := (⟨⟨kk, epoch, tick, client, seq, job, attempt, node, how⟩, xo, xm, xc, xsp⟩ : Evv).val) (by simp [results, Tryz.results20, go_sem, s0, s1, s2, s3, s4, s5, s6, s7, s8, s9]) rfl ?_
            exact ⟨(⟨⟨kk, epoch, tick, client, seq, job, attempt, node, how⟩, xo, xm, xc, xsp⟩ : Evv), rfl, hO9.out, by rw [htk.out]; exact hXp.out, by rw [htk.out]; exact hR9.out, hKp9.out, hV7.out.fr⟩
          · have d2 : (e5 != (0 : Int)) = true := by rw [bne_iff_ne]; exact q5
            obtain ⟨lz, hlz⟩ : ∃ lz, lz = l5 := ⟨_, rfl⟩
            obtain ⟨ez, hez⟩ : ∃ ez, ez = e5 := ⟨_, rfl⟩
            have htk : takeR l e = (Evp.zero, lz, ez) := by unfold takeR; rw [hlst2, if_neg q5, hlz, hez]
            rw [← hlz, ← hez] at hV7
            replace hmy := Lib.hid hmy; replace hE0 := Lib.hid hE0; replace hlst2 := Lib.hid hlst2; replace q5 := Lib.hid q5; replace htk := Lib.hid htk; replace hErr := Lib.hid hErr; replace hlz := Lib.hid hlz; replace hez := Lib.hid hez
            go_wp2_with fail
            refine hErr.out.mono ?_
            rintro en w8 ⟨rfl, rfl⟩
            have r0 : w8.cell? ⟨w.heap.size, 0, none⟩ = some (.int .i64 0) := blk_cell hV7.res 0
            have r1 : w8.cell? ⟨w.heap.size, 1, none⟩ = some (.int .i64 0) := blk_cell hV7.res 1
            have r2 : w8.cell? ⟨w.heap.size, 2, none⟩ = some (.int .i64 0) := blk_cell hV7.res 2
            have r3 : w8.cell? ⟨w.heap.size, 3, none⟩ = some (.int .i64 0) := blk_cell hV7.res 3
            have r4 : w8.cell? ⟨w.heap.size, 4, none⟩ = some (.int .i64 0) := blk_cell hV7.res 4
            have r5 : w8.cell? ⟨w.heap.size, 5, none⟩ = some (.int .i64 0) := blk_cell hV7.res 5
            have r6 : w8.cell? ⟨w.heap.size, 6, none⟩ = some (.int .i64 0) := blk_cell hV7.res 6
            have r7 : w8.cell? ⟨w.heap.size, 7, none⟩ = some (.int .i64 0) := blk_cell hV7.res 7
            have r8 : w8.cell? ⟨w.heap.size, 8, none⟩ = some (.int .i64 0) := blk_cell hV7.res 8
            have r9 : w8.cell? ⟨w.heap.size, 9, none⟩ = some (.slice none 0 0) := blk_cell hV7.res 9
            have g0 : w8.frozen? ⟨w.heap.size, 0, none⟩ = false := blk_free hV7.res 0
            have g1 : w8.frozen? ⟨w.heap.size, 1, none⟩ = false := blk_free hV7.res 1
            have g2 : w8.frozen? ⟨w.heap.size, 2, none⟩ = false := blk_free hV7.res 2
            have g3 : w8.frozen? ⟨w.heap.size, 3, none⟩ = false := blk_free hV7.res 3
            have g4 : w8.frozen? ⟨w.heap.size, 4, none⟩ = false := blk_free hV7.res 4
            have g5 : w8.frozen? ⟨w.heap.size, 5, none⟩ = false := blk_free hV7.res 5
            have g6 : w8.frozen? ⟨w.heap.size, 6, none⟩ = false := blk_free hV7.res 6
            have g7 : w8.frozen? ⟨w.heap.size, 7, none⟩ = false := blk_free hV7.res 7
            have g8 : w8.frozen? ⟨w.heap.size, 8, none⟩ = false := blk_free hV7.res 8
            have g9 : w8.frozen? ⟨w.heap.size, 9, none⟩ = false := blk_free hV7.res 9
            obtain ⟨W9, hW9⟩ : ∃ W9, W9 = ((((((((((w8.setCell ⟨w.heap.size, 0, none⟩ (.int .i64 0)).setCell ⟨w.heap.size, 1, none⟩ (.int .i64 0)).setCell ⟨w.heap.size, 2, none⟩ (.int .i64 0)).setCell ⟨w.heap.size, 3, none⟩ (.int .i64 0)).setCell ⟨w.heap.size, 4, none⟩ (.int .i64 0)).setCell ⟨w.heap.size, 5, none⟩ (.int .i64 0)).setCell ⟨w.heap.size, 6, none⟩ (.int .i64 0)).setCell ⟨w.heap.size, 7, none⟩ (.int .i64 0)).setCell ⟨w.heap.size, 8, none⟩ (.int .i64 0)).setCell ⟨w.heap.size, 9, none⟩ (.slice none 0 0)) := ⟨_, rfl⟩
            have hb9 : W9.heap[w.heap.size]? = some (.cells (⟨Evn.zero, none, 0, 0, []⟩ : Evv).cells 43 (0, 0)) := by rw [hW9]; exact set10_box hV7.res
            have hk9 : Kept w.heap.size w8 W9 := by rw [hW9]; exact set10_kept ..
            have s0 : W9.cell? ⟨w.heap.size, 0, none⟩ = some (.int .i64 0) := blk_cell hb9 0
            have s1 : W9.cell? ⟨w.heap.size, 1, none⟩ = some (.int .i64 0) := blk_cell hb9 1
            have s2 : W9.cell? ⟨w.heap.size, 2, none⟩ = some (.int .i64 0) := blk_cell hb9 2
            have s3 : W9.cell? ⟨w.heap.size, 3, none⟩ = some (.int .i64 0) := blk_cell hb9 3
            have s4 : W9.cell? ⟨w.heap.size, 4, none⟩ = some (.int .i64 0) := blk_cell hb9 4
            have s5 : W9.cell? ⟨w.heap.size, 5, none⟩ = some (.int .i64 0) := blk_cell hb9 5
            have s6 : W9.cell? ⟨w.heap.size, 6, none⟩ = some (.int .i64 0) := blk_cell hb9 6
            have s7 : W9.cell? ⟨w.heap.size, 7, none⟩ = some (.int .i64 0) := blk_cell hb9 7
            have s8 : W9.cell? ⟨w.heap.size, 8, none⟩ = some (.int .i64 0) := blk_cell hb9 8
            have s9 : W9.cell? ⟨w.heap.size, 9, none⟩ = some (.slice none 0 0) := blk_cell hb9 9
            have hl9 : Below w.heap.size w8 W9 := hk9.below (Nat.le_refl _) (blk_lt hV7.res)
            have hR9 := hV7.rd.at hl9 hrbw.out hB.out
            have hKp9 := hV7.kp.then hl9 (Nat.le_refl _)
            have hW9' := Lib.hid hW9
            clear hW9
            replace hV7 := Lib.hid hV7; replace hb9 := Lib.hid hb9; replace hk9 := Lib.hid hk9; replace hl9 := Lib.hid hl9; replace hR9 := Lib.hid hR9; replace hKp9 := Lib.hid hKp9
            go_wp2
            rw [← hW9'.out]
            refine bodyPost_ret (v := (⟨Evn.zero, none, 0, 0, []⟩ : Evv).val) (by simp [results, Tryz.results20, go_sem, s0, s1, s2, s3, s4, s5, s6, s7, s8, s9, Evn.zero]) rfl ?_
            exact ⟨(⟨Evn.zero, none, 0, 0, []⟩ : Evv), rfl, ⟨sps_none _, Nat.le_refl _, rng_kind (k := 0) (by omega)⟩, by rw [htk.out]; rfl, by rw [htk.out]; exact hR9.out, hKp9.out, ⟨fun b o e => (by cases e), fun x hx => (by cases hx)⟩⟩
        · have hE0 : errE ⟨n, sp⟩ = 130 := errE_no (by simpa using hmy)
          have hlst2 : lastR l e = (failL l5 e5 130, failE e5 130) := by rw [hlst.out, if_neg hmy]
          rw [hE0]
          have d1 : ((130 : Int) != (0 : Int)) = true := rfl
          have hFl := rfail_any hV7.rd 130
          replace hb7 := Lib.hid hb7; replace hV7 := Lib.hid hV7; replace hmy := Lib.hid hmy; replace hE0 := Lib.hid hE0; replace hlst2 := Lib.hid hlst2; replace hFl := Lib.hid hFl
          go_wp2_with fail
          refine hFl.out.mono ?_
          rintro en wz ⟨rfl, hRz, hKz⟩
          obtain ⟨lz, hlz⟩ : ∃ lz, lz = failL l5 e5 130 := ⟨_, rfl⟩
          obtain ⟨ez, hez⟩ : ∃ ez, ez = failE e5 130 := ⟨_, rfl⟩
          rw [← hlz, ← hez] at hRz
          have hV7 := hV7.out.kept hKz hrbw.out hebw.out hRz
          have q5 : ez ≠ 0 := by
            rw [hez]
            unfold failE
            split
            · decide
            · next c => intro c2; exact c ⟨c2, by decide⟩
          have d2 : (ez != (0 : Int)) = true := by rw [bne_iff_ne]; exact q5
          have htk : takeR l e = (Evp.zero, lz, ez) := by unfold takeR; rw [hlst2.out, ← hlz, ← hez, if_neg q5]
          have hErr := rerr_any hV7.rd
          replace hRz := Lib.hid hRz; replace hKz := Lib.hid hKz; replace q5 := Lib.hid q5; replace htk := Lib.hid htk; replace hErr := Lib.hid hErr; replace hlz := Lib.hid hlz; replace hez := Lib.hid hez
          go_wp2_with fail
          refine hErr.out.mono ?_
          rintro en w8 ⟨rfl, rfl⟩
          have r0 : w8.cell? ⟨w.heap.size, 0, none⟩ = some (.int .i64 0) := blk_cell hV7.res 0
          have r1 : w8.cell? ⟨w.heap.size, 1, none⟩ = some (.int .i64 0) := blk_cell hV7.res 1
          have r2 : w8.cell? ⟨w.heap.size, 2, none⟩ = some (.int .i64 0) := blk_cell hV7.res 2
          have r3 : w8.cell? ⟨w.heap.size, 3, none⟩ = some (.int .i64 0) := blk_cell hV7.res 3
          have r4 : w8.cell? ⟨w.heap.size, 4, none⟩ = some (.int .i64 0) := blk_cell hV7.res 4
          have r5 : w8.cell? ⟨w.heap.size, 5, none⟩ = some (.int .i64 0) := blk_cell hV7.res 5
          have r6 : w8.cell? ⟨w.heap.size, 6, none⟩ = some (.int .i64 0) := blk_cell hV7.res 6
          have r7 : w8.cell? ⟨w.heap.size, 7, none⟩ = some (.int .i64 0) := blk_cell hV7.res 7
          have r8 : w8.cell? ⟨w.heap.size, 8, none⟩ = some (.int .i64 0) := blk_cell hV7.res 8
          have r9 : w8.cell? ⟨w.heap.size, 9, none⟩ = some (.slice none 0 0) := blk_cell hV7.res 9
          have g0 : w8.frozen? ⟨w.heap.size, 0, none⟩ = false := blk_free hV7.res 0
          have g1 : w8.frozen? ⟨w.heap.size, 1, none⟩ = false := blk_free hV7.res 1
          have g2 : w8.frozen? ⟨w.heap.size, 2, none⟩ = false := blk_free hV7.res 2
          have g3 : w8.frozen? ⟨w.heap.size, 3, none⟩ = false := blk_free hV7.res 3
          have g4 : w8.frozen? ⟨w.heap.size, 4, none⟩ = false := blk_free hV7.res 4
          have g5 : w8.frozen? ⟨w.heap.size, 5, none⟩ = false := blk_free hV7.res 5
          have g6 : w8.frozen? ⟨w.heap.size, 6, none⟩ = false := blk_free hV7.res 6
          have g7 : w8.frozen? ⟨w.heap.size, 7, none⟩ = false := blk_free hV7.res 7
          have g8 : w8.frozen? ⟨w.heap.size, 8, none⟩ = false := blk_free hV7.res 8
          have g9 : w8.frozen? ⟨w.heap.size, 9, none⟩ = false := blk_free hV7.res 9
          obtain ⟨W9, hW9⟩ : ∃ W9, W9 = ((((((((((w8.setCell ⟨w.heap.size, 0, none⟩ (.int .i64 0)).setCell ⟨w.heap.size, 1, none⟩ (.int .i64 0)).setCell ⟨w.heap.size, 2, none⟩ (.int .i64 0)).setCell ⟨w.heap.size, 3, none⟩ (.int .i64 0)).setCell ⟨w.heap.size, 4, none⟩ (.int .i64 0)).setCell ⟨w.heap.size, 5, none⟩ (.int .i64 0)).setCell ⟨w.heap.size, 6, none⟩ (.int .i64 0)).setCell ⟨w.heap.size, 7, none⟩ (.int .i64 0)).setCell ⟨w.heap.size, 8, none⟩ (.int .i64 0)).setCell ⟨w.heap.size, 9, none⟩ (.slice none 0 0)) := ⟨_, rfl⟩
          have hb9 : W9.heap[w.heap.size]? = some (.cells (⟨Evn.zero, none, 0, 0, []⟩ : Evv).cells 43 (0, 0)) := by rw [hW9]; exact set10_box hV7.res
          have hk9 : Kept w.heap.size w8 W9 := by rw [hW9]; exact set10_kept ..
          have s0 : W9.cell? ⟨w.heap.size, 0, none⟩ = some (.int .i64 0) := blk_cell hb9 0
          have s1 : W9.cell? ⟨w.heap.size, 1, none⟩ = some (.int .i64 0) := blk_cell hb9 1
          have s2 : W9.cell? ⟨w.heap.size, 2, none⟩ = some (.int .i64 0) := blk_cell hb9 2
          have s3 : W9.cell? ⟨w.heap.size, 3, none⟩ = some (.int .i64 0) := blk_cell hb9 3
          have s4 : W9.cell? ⟨w.heap.size, 4, none⟩ = some (.int .i64 0) := blk_cell hb9 4
          have s5 : W9.cell? ⟨w.heap.size, 5, none⟩ = some (.int .i64 0) := blk_cell hb9 5
          have s6 : W9.cell? ⟨w.heap.size, 6, none⟩ = some (.int .i64 0) := blk_cell hb9 6
          have s7 : W9.cell? ⟨w.heap.size, 7, none⟩ = some (.int .i64 0) := blk_cell hb9 7
          have s8 : W9.cell? ⟨w.heap.size, 8, none⟩ = some (.int .i64 0) := blk_cell hb9 8
          have s9 : W9.cell? ⟨w.heap.size, 9, none⟩ = some (.slice none 0 0) := blk_cell hb9 9
          have hl9 : Below w.heap.size w8 W9 := hk9.below (Nat.le_refl _) (blk_lt hV7.res)
          have hR9 := hV7.rd.at hl9 hrbw.out hB.out
          have hKp9 := hV7.kp.then hl9 (Nat.le_refl _)
          have hW9' := Lib.hid hW9
          clear hW9
          replace hV7 := Lib.hid hV7; replace hb9 := Lib.hid hb9; replace hk9 := Lib.hid hk9; replace hl9 := Lib.hid hl9; replace hR9 := Lib.hid hR9; replace hKp9 := Lib.hid hKp9
          go_wp2
          rw [← hW9'.out]
          refine bodyPost_ret (v := (⟨Evn.zero, none, 0, 0, []⟩ : Evv).val) (by simp [results, Tryz.results20, go_sem, s0, s1, s2, s3, s4, s5, s6, s7, s8, s9, Evn.zero]) rfl ?_
          exact ⟨(⟨Evn.zero, none, 0, 0, []⟩ : Evv), rfl, ⟨sps_none _, Nat.le_refl _, rng_kind (k := 0) (by omega)⟩, by rw [htk.out]; rfl, by rw [htk.out]; exact hR9.out, hKp9.out, ⟨fun b o e => (by cases e), fun x hx => (by cases hx)⟩⟩
end Go.Proofs.YteoihdkaoipocaaGreatDoor

/- corveelaw13.awake: the document's examples. Plain theorems: no condition. -/
namespace Go.Proofs.YteoihdkaoipocaaGreatDoor
open Go.RowKit Go.Maps

set_option maxRecDepth 100000 in
theorem client2 (w : World) : Calls Tryz.prog 17 #[.int .i64 2] w fun e w' => e = .returned (.bool true) ∧ w' = w := by
  go_enter Tryz.func17, Tryz.ntmps17
  go_wp2
  go_ret
  exact ⟨rfl, rfl⟩
def awN : Evn := ⟨6, 0, 3, 0, 0, 0, 0, 0, 0⟩
theorem aw_int1 : intR [12, 6] 0 = (6, [6], 0) := by decide
theorem aw_int2 : intR [6] 0 = (3, [], 0) := by decide
theorem aw_int3 : intR [12, 5] 0 = (6, [5], 0) := by decide
theorem aw_int4 : intR [5] 0 = (-3, [], 0) := by decide
theorem aw_may : mayE ⟨awN, []⟩ = true := by decide
theorem aw_take1 : takeR [12, 6] 0 = (⟨awN, []⟩, [], 0) := by
  have h1 : afterK [12, 6] 0 = ([6], 0) := by unfold afterK; rw [aw_int1]; rfl
  have h2 : numsR [12, 6] 0 = (awN, [], 0) := by
    unfold numsR
    rw [h1, aw_int1]
    show fldsR (Evn.ofKind 6) [fldTk] [6] 0 = _
    rw [fldsR, aw_int2]
    rfl
  have h3 : spcsR [12, 6] 0 = ([], [], 0) := by unfold spcsR; rw [aw_int1, h2]; rfl
  have h4 : rawR [12, 6] 0 = ⟨awN, []⟩ := by unfold rawR; rw [h2, h3]
  have h5 : lastR [12, 6] 0 = ([], 0) := by unfold lastR; rw [h4, if_pos aw_may, h3]
  unfold takeR
  rw [h5, h4]
  rfl
theorem aw_take2 : (takeR [12, 5] 0).2 = ([], 130) := by
  have h1 : afterK [12, 5] 0 = ([5], 0) := by unfold afterK; rw [aw_int3]; rfl
  have h2 : numsR [12, 5] 0 = (⟨6, 0, -3, 0, 0, 0, 0, 0, 0⟩, [], 0) := by
    unfold numsR
    rw [h1, aw_int3]
    show fldsR (Evn.ofKind 6) [fldTk] [5] 0 = _
    rw [fldsR, aw_int4]
    rfl
  have h3 : spcsR [12, 5] 0 = ([], [], 0) := by unfold spcsR; rw [aw_int3, h2]; rfl
  have h4 : rawR [12, 5] 0 = ⟨⟨6, 0, -3, 0, 0, 0, 0, 0, 0⟩, []⟩ := by unfold rawR; rw [h2, h3]
  have h5 : lastR [12, 5] 0 = ([], 130) := by unfold lastR; rw [h4, if_neg (by decide), h3]; rfl
  exact h5
theorem aw_put : putB ⟨awN, []⟩ = [12, 6] := by
  have e : putB ⟨awN, []⟩ = evB ⟨awN, []⟩ := if_pos aw_may
  rw [e]
  have h1 : uintB 12 = [12] := uintB_lt (by decide)
  have h2 : uintB 6 = [6] := uintB_lt (by decide)
  have z1 : zz 6 = 12 := by decide
  have z2 : zz 3 = 6 := by decide
  show uintB (zz 6) ++ (uintB (zz 3) ++ []) ++ [] ++ [] = _
  rw [z1, z2, h1, h2]
  rfl
/-- within awake -/
structure AwW (w : World) (r1 r2 eb B1 B2 : Nat) (X : Evv) (wr : World) : Prop where
  low : Below w.heap.size w wr
  r1 : Rdr wr r1 B1 [] 0
  r2 : Rdr wr r2 B2 [] 130
  box : wr.heap[eb]? = some (.cells X.cells 43 (0, 0))
  ok : X.ok wr
theorem AwW.go {w wr w' : World} {r1 r2 eb B1 B2 : Nat} {X : Evv} (h : AwW w r1 r2 eb B1 B2 X wr) (hb : Below wr.heap.size wr w') : AwW w r1 r2 eb B1 B2 X w' :=
  ⟨h.low.trans (hb.mono h.low.size), h.r1.low hb, h.r2.low hb, blk_below hb h.box (blk_lt h.box), h.ok.low hb⟩
theorem sps_emp (w : World) (so : Option Addr) : SpsAt w so 0 [] := ⟨rfl, by omega, fun i x h => by simp at h⟩
theorem byts_new2 (w : World) (a b : UInt8) : BytsAt (w.alloc (.cells #[.int .u8 a.toNat, .int .u8 b.toNat] 5 (0, 0))) (some ⟨w.heap.size, 0, none⟩) 2 [a, b] :=
  ⟨rfl, by omega, fun i x hx => ⟨w.heap.size, 0, rfl, by simp, by
    rw [Nat.zero_add, blk_cell (blk_new w _)]
    match i, hx with
    | 0, hx => simp at hx; subst hx; rfl
    | 1, hx => simp at hx; subst hx; rfl⟩⟩
set_option maxRecDepth 100000 in
theorem rend_nil {w : World} {rb B : Nat} {e : Int} (h : Rdr w rb B [] e) : Calls Tryz.prog 42 #[.pointer (some ⟨rb, 0, none⟩)] w fun en w' => en = .returned (.int .i64 e) ∧ w' = w := by
  have hk := rleft_any h
  have hE := rerr_any h
  rw [List.length_nil] at hk
  replace hk := Lib.hid hk; replace h := Lib.hid h; replace hE := Lib.hid hE
  go_enter Tryz.func42, Tryz.ntmps42
  go_wp2_with fail
  refine hk.out.mono ?_
  rintro en w1 ⟨rfl, rfl⟩
  go_wp2_with fail
  refine hE.out.mono ?_
  rintro en w3 ⟨rfl, rfl⟩
  go_wp2
  go_ret
  exact ⟨rfl, rfl⟩
set_option maxRecDepth 100000 in
set_option maxHeartbeats 6400000 in
theorem awake13 (w : World) (hm : Mx w) (ht : Tb w) : Calls Tryz.prog 11 #[] w fun e w' => e = .returned (.bool true) ∧ Below w.heap.size w w' := by
  obtain ⟨W1, hW1⟩ : ∃ W1, W1 = w.alloc (.cells #[.int .u8 12, .int .u8 6] 5 (0, 0)) := ⟨_, rfl⟩
  have hb1 : Below w.heap.size w W1 := by rw [hW1]; exact (Below.refl _ _).alloc (Nat.le_refl _) _
  have hy1 : BytsAt W1 (some ⟨w.heap.size, 0, none⟩) 2 [12, 6] := by rw [hW1]; exact byts_new2 w 12 6
  have hr1 := cread_any hy1 (Nat.le_refl _) (fun h => (by cases h))
  have hW1' := Lib.hid hW1
  rw [hW1] at hr1
  clear hW1
  replace hm := Lib.hid hm; replace ht := Lib.hid ht; replace hb1 := Lib.hid hb1; replace hy1 := Lib.hid hy1; replace hr1 := Lib.hid hr1
  go_enter Tryz.func11, Tryz.ntmps11
  go_wp2_with fail
  refine hr1.out.mono ?_
  rw [← hW1'.out]
  rintro e w2 ⟨rfl, hR2, hb2⟩
  obtain ⟨r1, hr1e⟩ : ∃ r1, r1 = W1.heap.size := ⟨_, rfl⟩
  rw [← hr1e] at hR2
  rw [← hr1e]
  have hlow2 := hb1.out.trans (hb2.mono hb1.out.size)
  have hrw : w.heap.size ≤ r1 := by have := hb1.out.size; omega
  have htk := etake_any hR2 (by have := hb2.size; omega) hm.out ht.out hlow2 hrw
  unfold TakePost at htk
  rw [aw_take1] at htk
  replace hR2 := Lib.hid hR2; replace hb2 := Lib.hid hb2; replace hlow2 := Lib.hid hlow2; replace htk := Lib.hid htk; replace hr1e := Lib.hid hr1e; replace hrw := Lib.hid hrw
  go_wp2_with fail
  refine htk.out.mono ?_
  rintro e w3 ⟨X, rfl, hXo, hXp, hR3, hK3, _⟩
  have hlow3 : Below w.heap.size w w3 := hK3.from hlow2.out hrw.out hR2.out.lt
  obtain ⟨⟨kk, epoch, tick, client, seq, job, attempt, node, how⟩, xo, xm, xc, xsp⟩ := X
  have hXn : (⟨kk, epoch, tick, client, seq, job, attempt, node, how⟩ : Evn) = awN := congrArg Evp.n hXp
  have hXs : xsp.map Spv.pl = [] := congrArg Evp.specs hXp
  simp only [awN, Evn.mk.injEq] at hXn
  obtain ⟨rfl, rfl, rfl, rfl, rfl, rfl, rfl, rfl, rfl⟩ := hXn
  obtain ⟨eb, heb⟩ : ∃ eb, eb = w3.heap.size := ⟨_, rfl⟩
  obtain ⟨W4, hW4⟩ : ∃ W4, W4 = w3.alloc (.cells #[.int .i64 6, .int .i64 0, .int .i64 3, .int .i64 0, .int .i64 0, .int .i64 0, .int .i64 0, .int .i64 0, .int .i64 0, .slice xo xm xc] 43 (0, 0)) := ⟨_, rfl⟩
  have hb4 : Below w3.heap.size w3 W4 := by rw [hW4]; exact (Below.refl _ _).alloc (Nat.le_refl _) _
  have hx4 : W4.heap[eb]? = some (.cells #[.int .i64 6, .int .i64 0, .int .i64 3, .int .i64 0, .int .i64 0, .int .i64 0, .int .i64 0, .int .i64 0, .int .i64 0, .slice xo xm xc] 43 (0, 0)) := by rw [hW4, heb]; exact blk_new _ _
  obtain ⟨W5, hW5⟩ : ∃ W5, W5 = W4.alloc (.cells #[.int .u8 12, .int .u8 5] 5 (0, 0)) := ⟨_, rfl⟩
  have hb5 : Below W4.heap.size W4 W5 := by rw [hW5]; exact (Below.refl _ _).alloc (Nat.le_refl _) _
  have hy5 : BytsAt W5 (some ⟨W4.heap.size, 0, none⟩) 2 [12, 5] := by rw [hW5]; exact byts_new2 W4 12 5
  have hr5 := cread_any hy5 (Nat.le_refl _) (fun h => (by cases h))
  have hW4' := Lib.hid hW4
  have heb' := Lib.hid heb
  have hW5' := Lib.hid hW5
  rw [hW5] at hr5
  clear hW4 heb hW5
  replace hXo := Lib.hid hXo; replace hXp := Lib.hid hXp; replace hR3 := Lib.hid hR3; replace hK3 := Lib.hid hK3; replace hlow3 := Lib.hid hlow3; replace hXs := Lib.hid hXs; replace hb4 := Lib.hid hb4; replace hx4 := Lib.hid hx4; replace hb5 := Lib.hid hb5; replace hy5 := Lib.hid hy5; replace hr5 := Lib.hid hr5
  go_upto_region 3 with fail
  rw [← hW4'.out, ← heb'.out]
  go_wp2_with fail
  refine hr5.out.mono ?_
  rw [← hW5'.out]
  rintro e w6 ⟨rfl, hR6, hb6⟩
  obtain ⟨r2, hr2e⟩ : ∃ r2, r2 = W5.heap.size := ⟨_, rfl⟩
  rw [← hr2e] at hR6
  rw [← hr2e]
  have hb46 := hb5.out.trans (hb6.mono hb5.out.size)
  have hb36 := hb4.out.trans (hb46.mono hb4.out.size)
  have hlow6 := hlow3.out.trans (hb36.mono hlow3.out.size)
  have hrw2 : w.heap.size ≤ r2 := by have := hlow3.out.size; have := hb4.out.size; have := hb5.out.size; omega
  have htk2 := etake_any hR6 (by have := hb6.size; omega) hm.out ht.out hlow6 hrw2
  unfold TakePost at htk2
  rw [show (takeR [12, 5] 0).2.1 = [] from by rw [aw_take2], show (takeR [12, 5] 0).2.2 = 130 from by rw [aw_take2]] at htk2
  replace hR6 := Lib.hid hR6; replace hb6 := Lib.hid hb6; replace hb46 := Lib.hid hb46; replace hb36 := Lib.hid hb36; replace hlow6 := Lib.hid hlow6; replace hrw2 := Lib.hid hrw2; replace htk2 := Lib.hid htk2; replace hr2e := Lib.hid hr2e
  go_wp2_with fail
  refine htk2.out.mono ?_
  rintro e w7 ⟨Y, rfl, hYo, hYp, hR7, hK7, _⟩
  have hxs0 : xsp = [] := by simpa using hXs.out
  subst hxs0
  have hxm := hXo.out.sps.len
  have hxm0 : xm = 0 := hxm.symm
  subst hxm0
  obtain ⟨X, hX⟩ : ∃ X : Evv, X = ⟨⟨6, 0, 3, 0, 0, 0, 0, 0, 0⟩, xo, 0, xc, []⟩ := ⟨_, rfl⟩
  have hXpl : X.pl = ⟨awN, []⟩ := by rw [hX]; rfl
  have hr21 : r1 < r2 := by have h1 := hR3.out.lt; have h2 := hb36.out.size; have h3 := hb4.out.size; have h4 := hb5.out.size; have := hr2e.out; omega
  have hlr2 := hK7.below (Nat.le_refl r2) hR6.out.lt
  have hebr : eb ≠ r2 := by
    have h1 := blk_lt hx4.out
    have h2 := hb5.out.size
    have := hr2e.out
    omega
  have hx6 := blk_below hb46.out hx4.out (blk_lt hx4.out)
  have hA7 : AwW w r1 r2 eb r1 r2 X w7 := ⟨hK7.from hlow6.out hrw2.out hR6.out.lt, (hR3.out.low hb36.out).at hlr2 hr21 (Nat.le_of_lt hr21), hR7, by rw [hX]; exact hK7.blk hx6 hebr, by rw [hX]; exact ⟨sps_emp w7 xo, hXo.out.ple, hXo.out.rng⟩⟩
  have hEn : ∀ W, AwW w r1 r2 eb r1 r2 X W → Calls Tryz.prog 42 #[.pointer (some ⟨r1, 0, none⟩)] W fun en w' => en = .returned (.int .i64 0) ∧ w' = W := fun W h => rend_nil h.r1
  have hEr : ∀ W, AwW w r1 r2 eb r1 r2 X W → Calls Tryz.prog 23 #[.pointer (some ⟨r2, 0, none⟩)] W fun en w' => en = .returned (.int .i64 130) ∧ w' = W := fun W h => rerr_any h.r2
  have hCk : ∀ W, AwW w r1 r2 eb r1 r2 X W → Calls Tryz.prog 14 #[X.val] W fun en w' => en = .returned (.int .i64 0) ∧ Below W.heap.size W w' := fun W h => by
    have := echeck_any X W h.ok
    rw [hXpl, errE_yes aw_may] at this
    exact this
  have hPu : ∀ W, AwW w r1 r2 eb r1 r2 X W → Calls Tryz.prog 15 #[.slice none 0 0, X.val] W fun en w' => (∃ so c, en = .returned (.slice so 2 c) ∧ BytsAt w' so 2 [12, 6]) ∧ Below W.heap.size W w' := fun W h => by
    have h2 := eput_any X none 0 0 [] W h.ok (byts_nil W) (fun _ => ⟨rfl, rfl⟩) (by omega) (ht.out.low h.low)
    rw [hXpl, aw_put, List.nil_append] at h2
    refine h2.mono fun e w' hh => ?_
    obtain ⟨v, rfl, hO, hb⟩ := hh
    obtain ⟨so, c, rfl, hy⟩ := hO.form
    exact ⟨⟨so, c, rfl, hy⟩, hb⟩
  have hXv : X.val = .agg #[.int .i64 6, .int .i64 0, .int .i64 3, .int .i64 0, .int .i64 0, .int .i64 0, .int .i64 0, .int .i64 0, .int .i64 0, .slice xo 0 xc] := by rw [hX]
  rw [hXv] at hCk hPu
  have c0 : w7.cell? ⟨eb, 0, none⟩ = some (.int .i64 6) := by rw [blk_cell hA7.box 0, hX]; rfl
  have c1 : w7.cell? ⟨eb, 1, none⟩ = some (.int .i64 0) := by rw [blk_cell hA7.box 1, hX]; rfl
  have c2 : w7.cell? ⟨eb, 2, none⟩ = some (.int .i64 3) := by rw [blk_cell hA7.box 2, hX]; rfl
  have c3 : w7.cell? ⟨eb, 3, none⟩ = some (.int .i64 0) := by rw [blk_cell hA7.box 3, hX]; rfl
  have c4 : w7.cell? ⟨eb, 4, none⟩ = some (.int .i64 0) := by rw [blk_cell hA7.box 4, hX]; rfl
  have c5 : w7.cell? ⟨eb, 5, none⟩ = some (.int .i64 0) := by rw [blk_cell hA7.box 5, hX]; rfl
  have c6 : w7.cell? ⟨eb, 6, none⟩ = some (.int .i64 0) := by rw [blk_cell hA7.box 6, hX]; rfl
  have c7 : w7.cell? ⟨eb, 7, none⟩ = some (.int .i64 0) := by rw [blk_cell hA7.box 7, hX]; rfl
  have c8 : w7.cell? ⟨eb, 8, none⟩ = some (.int .i64 0) := by rw [blk_cell hA7.box 8, hX]; rfl
  have c9 : w7.cell? ⟨eb, 9, none⟩ = some (.slice xo 0 xc) := by rw [blk_cell hA7.box 9, hX]; rfl
  have hSx : ∀ W, AwW w r1 r2 eb r1 r2 X W → W.cell? ⟨eb, 0, none⟩ = some (.int .i64 6) ∧ W.cell? ⟨eb, 1, none⟩ = some (.int .i64 0) ∧ W.cell? ⟨eb, 2, none⟩ = some (.int .i64 3) ∧ W.cell? ⟨eb, 3, none⟩ = some (.int .i64 0) ∧ W.cell? ⟨eb, 4, none⟩ = some (.int .i64 0) ∧ W.cell? ⟨eb, 5, none⟩ = some (.int .i64 0) ∧ W.cell? ⟨eb, 6, none⟩ = some (.int .i64 0) ∧ W.cell? ⟨eb, 7, none⟩ = some (.int .i64 0) ∧ W.cell? ⟨eb, 8, none⟩ = some (.int .i64 0) ∧ W.cell? ⟨eb, 9, none⟩ = some (.slice xo 0 xc) := fun W h => by
    have hb := h.box
    rw [hX] at hb
    exact ⟨blk_cell hb 0, blk_cell hb 1, blk_cell hb 2, blk_cell hb 3, blk_cell hb 4, blk_cell hb 5, blk_cell hb 6, blk_cell hb 7, blk_cell hb 8, blk_cell hb 9⟩
  have hA8 := hA7.go (Below.refl _ _).drew
  have hal7 : Below w7.heap.size w7 (w7.alloc (.cells #[.int .u8 12, .int .u8 6] 5 (0, 0))) := (Below.refl _ _).alloc (Nat.le_refl _) _
  have hA8b := (hA7.go hal7).go (Below.refl _ _).drew
  have hy7 : BytsAt (w7.alloc (.cells #[.int .u8 12, .int .u8 6] 5 (0, 0))).drew (some ⟨w7.heap.size, 0, none⟩) 2 [12, 6] := (byts_new2 w7 12 6).low (Below.refl _ _).drew
  clear c0 c1 c2 c3 c4 c5 c6 c7 c8 c9
  obtain ⟨c0, c1, c2, c3, c4, c5, c6, c7, c8, c9⟩ := hSx _ hA7
  have hcd := conv_byts hy7 2
  obtain ⟨f0, f1, f2, f3, f4, f5, f6, f7, f8, f9⟩ := hSx _ hA8b
  have hcn : ∀ W : World, (convert 40 9 (.slice (some ⟨W.heap.size, 0, none⟩) 2 2)).run Tryz.prog (W.alloc (.cells #[.int .u8 12, .int .u8 6] 5 (0, 0))) = .ok (.string (ofL [12, 6])) (W.alloc (.cells #[.int .u8 12, .int .u8 6] 5 (0, 0))) := fun W => conv_byts (byts_new2 W 12 6) 2
  have hEq : ((ofL [12, 6]).toList == (ofL [12, 6]).toList) = true := str_eq rfl
  replace hYo := Lib.hid hYo; replace hYp := Lib.hid hYp; replace hR7 := Lib.hid hR7; replace hK7 := Lib.hid hK7; replace hxm := Lib.hid hxm; replace hX := Lib.hid hX; replace hXpl := Lib.hid hXpl; replace hr21 := Lib.hid hr21; replace hlr2 := Lib.hid hlr2; replace hebr := Lib.hid hebr; replace hx6 := Lib.hid hx6; replace hA7 := Lib.hid hA7; replace hEn := Lib.hid hEn; replace hEr := Lib.hid hEr; replace hCk := Lib.hid hCk; replace hPu := Lib.hid hPu; replace hSx := Lib.hid hSx; replace hA8 := Lib.hid hA8; replace hal7 := Lib.hid hal7; replace hA8b := Lib.hid hA8b; replace hy7 := Lib.hid hy7
  go_upto_region 5 with fail
  go_region_with
    (first
      | (go_at_call 42
         refine (hEn.out _ hA8.out).mono ?_
         rintro en wz ⟨rfl, rfl⟩)
      | (go_at_call 23
         refine (hEr.out _ hA8.out).mono ?_
         rintro en wz ⟨rfl, rfl⟩)
      | (go_at_call 14
         refine (hCk.out _ hA8.out).mono ?_
         rintro en wz ⟨rfl, hbz⟩
         replace hA8 := Lib.hid (hA8.out.go hbz)
         replace hbz := Lib.hid hbz
         obtain ⟨c0, c1, c2, c3, c4, c5, c6, c7, c8, c9⟩ := hSx.out _ hA8.out)
      | (go_at_call 15
         refine (hPu.out _ hA8.out).mono ?_
         rintro en wz ⟨⟨so48, c48, rfl, hy48⟩, hbz⟩
         replace hA8 := Lib.hid (hA8.out.go hbz)
         replace hbz := Lib.hid hbz
         have hcv := conv_byts hy48 c48
         have hcv2 := conv_byts (hy48.low ((Below.refl _ _).alloc (Nat.le_refl _) (.cells #[.int .u8 12, .int .u8 6] 5 (0, 0)))) c48
         replace hy48 := Lib.hid hy48
         obtain ⟨c0, c1, c2, c3, c4, c5, c6, c7, c8, c9⟩ := hSx.out _ hA8.out
         have hA9 := hA8.out.go ((Below.refl _ _).alloc (Nat.le_refl _) (.cells #[.int .u8 12, .int .u8 6] 5 (0, 0)))
         obtain ⟨e0, e1, e2, e3, e4, e5, e6, e7, e8, e9⟩ := hSx.out _ hA9
         replace hA8 := Lib.hid hA9
         replace hA9 := Lib.hid hA9)
      | (go_at_call 15
         refine (hPu.out _ hA8b.out).mono ?_
         rintro en wz ⟨⟨so48, c48, rfl, hy48⟩, hbz⟩
         replace hA8 := Lib.hid (hA8b.out.go hbz)
         have hcv := conv_byts hy48 c48
         have hcb := conv_byts (hy7.out.low hbz) 2
         replace hy48 := Lib.hid hy48
         replace hbz := Lib.hid hbz
         obtain ⟨c0, c1, c2, c3, c4, c5, c6, c7, c8, c9⟩ := hSx.out _ hA8.out)
      | (go_at_call 17
         refine (client2 _).mono ?_
         rintro en wz ⟨rfl, rfl⟩))
  all_goals
    go_wp2_with fail
    go_ret
    exact ⟨rfl, hA8.out.low⟩
end Go.Proofs.YteoihdkaoipocaaGreatDoor

/- corveeref13.Same of equal events. Plain theorems: no condition. -/
namespace Go.Proofs.YteoihdkaoipocaaGreatDoor
open Go.RowKit Go.Maps

set_option maxRecDepth 100000 in
set_option maxHeartbeats 6400000 in
theorem esame_yes (X Y : Evv) (w : World) (hX : X.ok w) (hY : Y.ok w) (he : X.pl = Y.pl) : Calls Tryz.prog 22 #[X.val, Y.val] w fun e w' => e = .returned (.bool true) ∧ Below w.heap.size w w' := by
  obtain ⟨⟨kk, epoch, tick, client, seq, job, attempt, node, how⟩, xo, xm, xc, xsp⟩ := X
  obtain ⟨⟨k2, ep2, ti2, cl2, se2, jo2, at2, no2, ho2⟩, yo, ym, yc, ysp⟩ := Y
  have hn : (⟨kk, epoch, tick, client, seq, job, attempt, node, how⟩ : Evn) = ⟨k2, ep2, ti2, cl2, se2, jo2, at2, no2, ho2⟩ := congrArg Evp.n he
  have hs : xsp.map Spv.pl = ysp.map Spv.pl := congrArg Evp.specs he
  simp only [Evn.mk.injEq] at hn
  obtain ⟨rfl, rfl, rfl, rfl, rfl, rfl, rfl, rfl, rfl⟩ := hn
  obtain ⟨W1, hW1⟩ : ∃ W1, W1 = w.alloc (.cells (⟨⟨kk, epoch, tick, client, seq, job, attempt, node, how⟩, xo, xm, xc, xsp⟩ : Evv).cells 43 (0, 0)) := ⟨_, rfl⟩
  have hb1 : Below w.heap.size w W1 := by rw [hW1]; exact (Below.refl _ _).alloc (Nat.le_refl _) _
  have hx1 : W1.heap[w.heap.size]? = some (.cells (⟨⟨kk, epoch, tick, client, seq, job, attempt, node, how⟩, xo, xm, xc, xsp⟩ : Evv).cells 43 (0, 0)) := by rw [hW1]; exact blk_new _ _
  obtain ⟨W2, hW2⟩ : ∃ W2, W2 = W1.alloc (.cells (⟨⟨kk, epoch, tick, client, seq, job, attempt, node, how⟩, yo, ym, yc, ysp⟩ : Evv).cells 43 (0, 0)) := ⟨_, rfl⟩
  have hb2 : Below W1.heap.size W1 W2 := by rw [hW2]; exact (Below.refl _ _).alloc (Nat.le_refl _) _
  have hy2 : W2.heap[W1.heap.size]? = some (.cells (⟨⟨kk, epoch, tick, client, seq, job, attempt, node, how⟩, yo, ym, yc, ysp⟩ : Evv).cells 43 (0, 0)) := by rw [hW2]; exact blk_new _ _
  have hx2 := blk_below hb2 hx1 (blk_lt hx1)
  have hlow : Below w.heap.size w W2 := hb1.trans (hb2.mono hb1.size)
  have hrows := rows_any xo yo xm ym xc yc xsp ysp W2 (hX.sps.low hlow) (hY.sps.low hlow)
  unfold RowsPost at hrows
  rw [hs, decide_eq_true rfl] at hrows
  obtain ⟨yb, hyb⟩ : ∃ yb, yb = w.heap.size + 1 := ⟨_, rfl⟩
  have hsz : W1.heap.size = yb := by rw [hyb, hW1]; simp
  rw [hsz] at hy2
  have x0 : W2.cell? ⟨w.heap.size, 0, none⟩ = some (.int .i64 kk) := blk_cell hx2 0
  have x1 : W2.cell? ⟨w.heap.size, 1, none⟩ = some (.int .i64 epoch) := blk_cell hx2 1
  have x2 : W2.cell? ⟨w.heap.size, 2, none⟩ = some (.int .i64 tick) := blk_cell hx2 2
  have x3 : W2.cell? ⟨w.heap.size, 3, none⟩ = some (.int .i64 client) := blk_cell hx2 3
  have x4 : W2.cell? ⟨w.heap.size, 4, none⟩ = some (.int .i64 seq) := blk_cell hx2 4
  have x5 : W2.cell? ⟨w.heap.size, 5, none⟩ = some (.int .i64 job) := blk_cell hx2 5
  have x6 : W2.cell? ⟨w.heap.size, 6, none⟩ = some (.int .i64 attempt) := blk_cell hx2 6
  have x7 : W2.cell? ⟨w.heap.size, 7, none⟩ = some (.int .i64 node) := blk_cell hx2 7
  have x8 : W2.cell? ⟨w.heap.size, 8, none⟩ = some (.int .i64 how) := blk_cell hx2 8
  have x9 : W2.cell? ⟨w.heap.size, 9, none⟩ = some (.slice xo xm xc) := blk_cell hx2 9
  have y0 : W2.cell? ⟨yb, 0, none⟩ = some (.int .i64 kk) := blk_cell hy2 0
  have y1 : W2.cell? ⟨yb, 1, none⟩ = some (.int .i64 epoch) := blk_cell hy2 1
  have y2 : W2.cell? ⟨yb, 2, none⟩ = some (.int .i64 tick) := blk_cell hy2 2
  have y3 : W2.cell? ⟨yb, 3, none⟩ = some (.int .i64 client) := blk_cell hy2 3
  have y4 : W2.cell? ⟨yb, 4, none⟩ = some (.int .i64 seq) := blk_cell hy2 4
  have y5 : W2.cell? ⟨yb, 5, none⟩ = some (.int .i64 job) := blk_cell hy2 5
  have y6 : W2.cell? ⟨yb, 6, none⟩ = some (.int .i64 attempt) := blk_cell hy2 6
  have y7 : W2.cell? ⟨yb, 7, none⟩ = some (.int .i64 node) := blk_cell hy2 7
  have y8 : W2.cell? ⟨yb, 8, none⟩ = some (.int .i64 how) := blk_cell hy2 8
  have y9 : W2.cell? ⟨yb, 9, none⟩ = some (.slice yo ym yc) := blk_cell hy2 9
  have hW1' := Lib.hid hW1
  have hW2' := Lib.hid hW2
  have hyb' := Lib.hid hyb
  clear hW1 hW2 hyb
  replace hX := Lib.hid hX; replace hY := Lib.hid hY; replace he := Lib.hid he; replace hs := Lib.hid hs; replace hb1 := Lib.hid hb1; replace hx1 := Lib.hid hx1; replace hb2 := Lib.hid hb2; replace hy2 := Lib.hid hy2; replace hx2 := Lib.hid hx2; replace hlow := Lib.hid hlow; replace hrows := Lib.hid hrows
  go_enter Tryz.func22, Tryz.ntmps22
  go_upto_region 1 with fail
  rw [← hW1'.out, ← hW2'.out, ← hyb'.out]
  go_wp2_with fail
  refine hrows.out.mono ?_
  rintro e w3 ⟨rfl, hb3⟩
  have hx3 := blk_below hb3 hx2.out (blk_lt hx2.out)
  have hy3 := blk_below hb3 hy2.out (blk_lt hy2.out)
  have hlow3 := hlow.out.trans (hb3.mono hlow.out.size)
  clear x0 x1 x2 x3 x4 x5 x6 x7 x8 x9 y0 y1 y2 y3 y4 y5 y6 y7 y8 y9
  have x0 : w3.cell? ⟨w.heap.size, 0, none⟩ = some (.int .i64 kk) := blk_cell hx3 0
  have x1 : w3.cell? ⟨w.heap.size, 1, none⟩ = some (.int .i64 epoch) := blk_cell hx3 1
  have x2 : w3.cell? ⟨w.heap.size, 2, none⟩ = some (.int .i64 tick) := blk_cell hx3 2
  have x3 : w3.cell? ⟨w.heap.size, 3, none⟩ = some (.int .i64 client) := blk_cell hx3 3
  have x4 : w3.cell? ⟨w.heap.size, 4, none⟩ = some (.int .i64 seq) := blk_cell hx3 4
  have x5 : w3.cell? ⟨w.heap.size, 5, none⟩ = some (.int .i64 job) := blk_cell hx3 5
  have x6 : w3.cell? ⟨w.heap.size, 6, none⟩ = some (.int .i64 attempt) := blk_cell hx3 6
  have x7 : w3.cell? ⟨w.heap.size, 7, none⟩ = some (.int .i64 node) := blk_cell hx3 7
  have x8 : w3.cell? ⟨w.heap.size, 8, none⟩ = some (.int .i64 how) := blk_cell hx3 8
  have x9 : w3.cell? ⟨w.heap.size, 9, none⟩ = some (.slice xo xm xc) := blk_cell hx3 9
  have y0 : w3.cell? ⟨yb, 0, none⟩ = some (.int .i64 kk) := blk_cell hy3 0
  have y1 : w3.cell? ⟨yb, 1, none⟩ = some (.int .i64 epoch) := blk_cell hy3 1
  have y2 : w3.cell? ⟨yb, 2, none⟩ = some (.int .i64 tick) := blk_cell hy3 2
  have y3 : w3.cell? ⟨yb, 3, none⟩ = some (.int .i64 client) := blk_cell hy3 3
  have y4 : w3.cell? ⟨yb, 4, none⟩ = some (.int .i64 seq) := blk_cell hy3 4
  have y5 : w3.cell? ⟨yb, 5, none⟩ = some (.int .i64 job) := blk_cell hy3 5
  have y6 : w3.cell? ⟨yb, 6, none⟩ = some (.int .i64 attempt) := blk_cell hy3 6
  have y7 : w3.cell? ⟨yb, 7, none⟩ = some (.int .i64 node) := blk_cell hy3 7
  have y8 : w3.cell? ⟨yb, 8, none⟩ = some (.int .i64 how) := blk_cell hy3 8
  have y9 : w3.cell? ⟨yb, 9, none⟩ = some (.slice yo ym yc) := blk_cell hy3 9
  replace hb3 := Lib.hid hb3; replace hx3 := Lib.hid hx3; replace hy3 := Lib.hid hy3; replace hlow3 := Lib.hid hlow3
  go_wp2
  go_ret
  refine ⟨?_, hlow3.out⟩
  simp
end Go.Proofs.YteoihdkaoipocaaGreatDoor

/- gang.each: something is done at the nodes of a gang; at the first error what was done is undone. -/
import Derived.Test.YtpjajiambbobhaaPool
namespace Go.Proofs.Ytpjajiambbobhaa
open Go.RowKit

theorem slice_upto_g {P : Program} {t e : TypeId} {i : TypeInfo} (hU : P.underlying t = some (.slice e)) (hi : P.info? e = some i) (ad : Addr) (len cap n : Nat) (x : Int) (hx : x = n) (hn : n ≤ cap) (w : World) :
    (Instr.slice t (.slice (some ad) len cap) none (some (.int .i64 x)) none).run P w = .ok (.slice (some ad) n cap) w := by
  subst hx
  have h1 : ∀ (y : Nat) (_ : n ≤ y) c, (Instr.sliceBound (.int .i64 (n : Int)) y c).run P w = .ok n w := fun y h c => by
    simp [Instr.sliceBound, asIntOf, h]
  simp [Instr.slice, Instr.sliceBounds, run_underlying hU, h1 cap hn, sizeOf, typeInfo, hi, Addr.add]

/-- what a call does to a profile, the amount and the span in blocks that it caught -/
def Does (R : V4 → List St → Int → List St → Prop) (F : FuncId) (f1 f2 f3 : Nat) (C : World → Prop) : Prop :=
  ∀ pb sb cap whole l w1, Prof w1 pb sb cap whole l → Inv whole l → C w1 →
    Calls Try.prog F #[.pointer (some ⟨pb, 0, none⟩), .pointer (some ⟨f1, 0, none⟩), .pointer (some ⟨f2, 0, none⟩), .pointer (some ⟨f3, 0, none⟩)] w1 (Became pb sb whole (fun r l' => R whole l r l' ∧ Inv whole l') w1)

/-- the same nodes, their profiles turned -/
structure Kin (w : World) (ps q : List Nd) : Prop where
  len : q.length = ps.length
  pb : ∀ i, i < ps.length → (nd q i).pb = (nd ps i).pb
  whole : ∀ i, i < ps.length → (nd q i).whole = (nd ps i).whole
  sb : ∀ i, i < ps.length → (nd q i).sb = (nd ps i).sb ∨ w.heap.size ≤ (nd q i).sb
theorem Kin.refl (w : World) (ps : List Nd) : Kin w ps ps := ⟨rfl, fun _ _ => rfl, fun _ _ => rfl, fun _ _ => .inl rfl⟩
theorem Kin.mine {w : World} {ps q : List Nd} (h : Kin w ps q) {b : Nat} (hb : Mine q b) : Mine ps b ∨ w.heap.size ≤ b := by
  obtain ⟨i, hi, e⟩ := hb
  rw [h.len] at hi
  rcases e with e | e
  · exact .inl ⟨i, hi, .inl (e.trans (h.pb i hi))⟩
  · rcases h.sb i hi with h1 | h1
    · exact .inl ⟨i, hi, .inr (e.trans h1)⟩
    · exact .inr (by omega)

theorem each_step {w wr w2 : World} {gb gs cap : Nat} {po : Option Addr} {ps q : List Nd} {i sb' cap' : Nat} {l' : List St} (hk : Kin w ps q) (hP : Pool wr gb gs po cap q) (hM : Mod (Mine ps) w wr) (hi : i < ps.length)
    (hp : Prof w2 (nd q i).pb sb' cap' (nd q i).whole l') (hl : Inv (nd q i).whole l') (hs : sb' = (nd q i).sb ∨ wr.heap.size ≤ sb') (hm : Mod (fun b => b = (nd q i).pb ∨ b = (nd q i).sb) wr w2) :
    ∃ q', Pool w2 gb gs po cap q' ∧ Kin w ps q' ∧ Mod (Mine ps) w w2 ∧ (nd q' i).l = l' ∧ ∀ j, j ≠ i → (nd q' j).l = (nd q j).l := by
  have hi' : i < q.length := by rw [hk.len]; exact hi
  refine ⟨q.set i ⟨(nd q i).pb, sb', cap', (nd q i).whole, l'⟩, hP.turn hi' hp hl hs hm, ⟨by rw [List.length_set]; exact hk.len, ?_, ?_, ?_⟩, ?_, ?_, ?_⟩
  · intro j hj; rw [nd_set _ hi']; split
    · rename_i e; subst e; exact hk.pb j hj
    · exact hk.pb j hj
  · intro j hj; rw [nd_set _ hi']; split
    · rename_i e; subst e; exact hk.whole j hj
    · exact hk.whole j hj
  · intro j hj; rw [nd_set _ hi']; split
    · rename_i e; subst e
      rcases hs with e | e
      · rw [e]; exact hk.sb j hj
      · exact .inr (Nat.le_trans hM.size e)
    · exact hk.sb j hj
  · refine hM.trans (hm.mono fun b _ hb => ?_)
    exact hk.mine ⟨i, hi', hb⟩
  · rw [nd_set _ hi', if_pos rfl]
  · intro j hj; rw [nd_set _ hi', if_neg hj]

/-- among the first so many places -/
def Among (zs : List Int) (k i : Nat) : Prop := ∃ j, j < k ∧ zi zs j = (i : Int)

def EachRel (R U : V4 → List St → Int → List St → Prop) (ps : List Nd) (zs : List Int) (r : Int) (ps' : List Nd) : Prop :=
  (¬ Gang ps.length zs ∧ r = 1 ∧ ps' = ps) ∨
  (Gang ps.length zs ∧ r = 0 ∧ ∀ i, i < ps.length → (Among zs zs.length i → R (nd ps i).whole (nd ps i).l 0 (nd ps' i).l) ∧ (¬ Among zs zs.length i → (nd ps' i).l = (nd ps i).l)) ∨
  (Gang ps.length zs ∧ r ≠ 0 ∧ ∃ k c : Nat, k < zs.length ∧ zi zs k = (c : Int) ∧ c < ps.length ∧ R (nd ps c).whole (nd ps c).l r (nd ps' c).l ∧
    ∀ i, i < ps.length → (Among zs k i → ∃ m r2, R (nd ps i).whole (nd ps i).l 0 m ∧ Inv (nd ps i).whole m ∧ U (nd ps i).whole m r2 (nd ps' i).l) ∧ (¬ Among zs k i → i ≠ c → (nd ps' i).l = (nd ps i).l))

def EachPost (R U : V4 → List St → Int → List St → Prop) (gb gs cap : Nat) (po : Option Addr) (ps : List Nd) (zs : List Int) (w : World) (e : Ending) (w' : World) : Prop :=
  ∃ r ps', e = .returned (.int .i64 r) ∧ EachRel R U ps zs r ps' ∧ Pool w' gb gs po cap ps' ∧ Kin w ps ps' ∧ Mod (Mine ps) w w'

theorem among_succ {zs : List Int} {k i : Nat} : Among zs (k + 1) i ↔ Among zs k i ∨ zi zs k = (i : Int) := by
  constructor
  · rintro ⟨j, hj, e⟩
    by_cases h : j = k
    · subst h; exact .inr e
    · exact .inl ⟨j, by omega, e⟩
  · rintro (⟨j, hj, e⟩ | e)
    · exact ⟨j, by omega, e⟩
    · exact ⟨k, by omega, e⟩
theorem gang_lt {n : Nat} {zs : List Int} (h : Gang n zs) {i j : Nat} (hij : i < j) (hj : j < zs.length) : zi zs i < zi zs j := by
  induction j with
  | zero => omega
  | succ m ih =>
    have := h.rise m hj
    by_cases e : i = m
    · subst e; exact this
    · exact Int.lt_trans (ih (by omega) (by omega)) this
theorem gang_fresh {n : Nat} {zs : List Int} (h : Gang n zs) {k i : Nat} (hk : k < zs.length) (e : zi zs k = (i : Int)) : ¬ Among zs k i := by
  rintro ⟨j, hj, e2⟩
  have := gang_lt h hj hk
  omega

set_option maxRecDepth 100000 in
set_option maxHeartbeats 3200000 in
theorem eachg_any (R U : V4 → List St → Int → List St → Prop) (F G : FuncId) (f1 f2 f3 : Nat) (C : World → Prop) (gb gs cap : Nat) (po : Option Addr) (ps : List Nd) (ao : Option Addr) (m c : Nat) (zs : List Int) (w : World)
    (hp : Pool w gb gs po cap ps) (hz : ∀ w', Mod (Mine ps) w w' → IntsAt w' ao m zs) (hmc : m ≤ c) (hC : ∀ w', Mod (Mine ps) w w' → C w')
    (hF : ∀ args w, (callFunc F args).run Try.prog w = .ok (.enter F args) w) (hG : ∀ args w, (callFunc G args).run Try.prog w = .ok (.enter G args) w) (HR : Does R F f1 f2 f3 C) (HU : Does U G f1 f2 f3 C) :
    Calls Try.prog 72 #[.pointer (some ⟨gb, 0, none⟩), .slice ao m c, .func (.func F) #[] #[.pointer (some ⟨f1, 0, none⟩), .pointer (some ⟨f2, 0, none⟩), .pointer (some ⟨f3, 0, none⟩)],
      .func (.func G) #[] #[.pointer (some ⟨f1, 0, none⟩), .pointer (some ⟨f2, 0, none⟩), .pointer (some ⟨f3, 0, none⟩)]] w (EachPost R U gb gs cap po ps zs w) := by
  obtain ⟨i3, hi3, _, _, _⟩ := info_parts info3
  have hz0 := hz w (Mod.refl _ _)
  have hzl := hz0.len
  have hmax := hz0.max
  have lgb := blk_lt hp.head
  obtain ⟨n, hn⟩ : ∃ n, n = ps.length := ⟨_, rfl⟩
  have hfew : n ≤ 16 := by rw [hn]; exact hp.few
  have hgang := gang_any gb gs cap po ps ao m c zs w hp hz0
  replace hgang := Lib.hid hgang
  replace hp := Lib.hid hp; replace hz := Lib.hid hz; replace hz0 := Lib.hid hz0; replace hC := Lib.hid hC; replace HR := Lib.hid HR; replace HU := Lib.hid HU; replace hzl := Lib.hid hzl
  replace hn := Lib.hid hn
  go_enter Try.func72, Try.ntmps72
  go_wp2_with fail
  refine hgang.out.mono ?_
  rintro e w1 ⟨b, rfl, hb, hb1⟩
  replace hb1 := Lib.hid hb1
  cases b
  · have hng : ¬ Gang ps.length zs := fun h => by have := hb.2 h; simp at this
    replace hng := Lib.hid hng; replace hb := Lib.hid hb
    go_wp2
    go_ret
    exact ⟨1, ps, rfl, .inl ⟨hng.out, rfl, rfl⟩, hp.out.below hb1.out, Kin.refl _ _, Mod.of_below hb1.out⟩
  have hg : Gang ps.length zs := hb.1 rfl
  have hn0 : 0 < ps.length := by
    have h1 := hg.low 0 hg.pos; have h2 := hg.high 0 hg.pos; omega
  have hpo := hp.out.addr hn0
  have hn0' : 0 < n := by rw [hn.out]; exact hn0
  subst hpo
  replace hg := Lib.hid hg; replace hb := Lib.hid hb; replace hn0 := Lib.hid hn0
  go_wp2
  go_loopw [9, 10, 11, 20] (fun _ _ _ i wr => ∃ (k : Nat) (q : List Nd), i = .int .i64 k ∧ k ≤ m ∧ Hid (Pool wr gb gs (some ⟨gs, 0, none⟩) cap q) ∧ Hid (Kin w ps q) ∧ Hid (Mod (Mine ps) w wr) ∧
    Hid (∀ i, i < ps.length → (Among zs k i → R (nd ps i).whole (nd ps i).l 0 (nd q i).l) ∧ (¬ Among zs k i → (nd q i).l = (nd ps i).l))) (fun _ _ _ i _ => m - (intOf i).toNat)
  case atStart => exact ⟨0, ps, rfl, Nat.zero_le _, hp.out.below hb1.out, Kin.refl _ _, Mod.of_below hb1.out, fun i hi => ⟨fun h => by obtain ⟨j, hj, _⟩ := h; omega, fun _ => rfl⟩⟩
  case round =>
    obtain ⟨k, q, rfl, hk, hP, hK, hM, hD⟩ := hrel
    by_cases hc : k < m
    · have hc1 : (k : Int) < m := by omega
      have hk0 : (0 : Int) ≤ (k : Int) := by omega
      have hkz : k < zs.length := by rw [hzl.out]; exact hc
      obtain ⟨b, off, hao, hblt, b0⟩ := (hz.out wr hM.out).cell k hc
      subst hao
      obtain ⟨ix, hix⟩ : ∃ ix : Nat, zi zs k = (ix : Int) := ⟨(zi zs k).toNat, by have := hg.out.low k hkz; omega⟩
      have hixn : ix < n := by have := hg.out.high k hkz; rw [hn.out]; omega
      have hixp : ix < ps.length := by rw [← hn.out]; exact hixn
      rw [hix] at b0
      have hi1 : (ix : Int) < n := by omega
      have hi0 : (0 : Int) ≤ (ix : Int) := by omega
      have hh := hP.out.head
      rw [hK.out.len, ← hn.out] at hh
      have c0 := blk_cell hh 0
      simp at c0
      have p0 := hP.out.ptr ix (by rw [hK.out.len]; exact hixp)
      have hprof := hP.out.prof ix (by rw [hK.out.len]; exact hixp)
      have hinv := hP.out.inv ix (by rw [hK.out.len]; exact hixp)
      have lgr := blk_lt hh
      have lgs := World.block_lt_of_cell? wr _ p0
      have hd := HR.out _ _ _ _ _ _ hprof hinv (hC.out wr hM.out)
      replace hd := Lib.hid hd
      replace hh := Lib.hid hh; replace hprof := Lib.hid hprof; replace hinv := Lib.hid hinv; replace hix := Lib.hid hix
      replace hkz := Lib.hid hkz; replace hixp := Lib.hid hixp
      go_wp2_with fail
      (with_reducible refine hd.out.mono ?_)
      rintro e w2 ⟨r, sb', cap', l', rfl, ⟨hR, hI⟩, hp2, hs2, hm2⟩
      obtain ⟨q2, hP2, hK2, hM2, e1, e2⟩ := each_step hK.out hP.out hM.out hixp.out hp2 hI hs2 hm2
      have hold : (nd q ix).l = (nd ps ix).l := ((hD.out ix hixp.out).2 (gang_fresh hg.out hkz.out hix.out))
      have hwh : (nd q ix).whole = (nd ps ix).whole := hK.out.whole ix hixp.out
      rw [hold, hwh] at hR
      rw [← e1] at hR
      clear e1 hold hwh c0 p0 b0
      replace hR := Lib.hid hR; replace hI := Lib.hid hI; replace hp2 := Lib.hid hp2; replace hs2 := Lib.hid hs2; replace hm2 := Lib.hid hm2; replace hP2 := Lib.hid hP2; replace hK2 := Lib.hid hK2; replace hM2 := Lib.hid hM2; replace e2 := Lib.hid e2
      by_cases hr : r = 0
      · subst hr
        go_wp2
        go_roundw
        case rel =>
          refine ⟨k + 1, q2, by go_num, by omega, hP2.out, hK2.out, hM2.out, fun i hi => ⟨fun h => ?_, fun h => ?_⟩⟩
          · by_cases e : i = ix
            · subst e; exact hR.out
            · rw [e2.out i e]
              rcases among_succ.1 h with h | h
              · exact (hD.out i hi).1 h
              · rw [hix.out] at h; exact absurd (by omega) e
          · have hne : i ≠ ix := fun e => h (among_succ.2 (.inr (by rw [e]; exact hix.out)))
            rw [e2.out i hne]
            exact (hD.out i hi).2 fun h2 => h (among_succ.2 (.inl h2))
        case measure => simp [intOf]; omega
      · have dr : (r == 0) = false := by simpa using hr
        have hsl := fun w => slice_upto_g (P := Try.prog) Try.underlying48 hi3 ⟨b, off, none⟩ m c k (k : Int) rfl (by omega) w
        replace hr := Lib.hid hr
        go_wp2
        go_loopw [13, 40] (fun _ i wx => ∃ (j : Nat) (q3 : List Nd), i = .int .i64 j ∧ j ≤ k ∧ Hid (Pool wx gb gs (some ⟨gs, 0, none⟩) cap q3) ∧ Hid (Kin w ps q3) ∧ Hid (Mod (Mine ps) w wx) ∧
          Hid (∀ i, i < ps.length → (Among zs j i → ∃ r2, U (nd q2 i).whole (nd q2 i).l r2 (nd q3 i).l) ∧ (¬ Among zs j i → (nd q3 i).l = (nd q2 i).l))) (fun _ i _ => k - (intOf i).toNat)
        case atStart => exact ⟨0, q2, rfl, Nat.zero_le _, hP2.out, hK2.out, hM2.out, fun i hi => ⟨fun h => by obtain ⟨j, hj, _⟩ := h; omega, fun _ => rfl⟩⟩
        case round =>
          obtain ⟨j, q3, rfl, hj, hP3, hK3, hM3, hD3⟩ := hrel
          by_cases hjc : j < k
          · have hj1 : (j : Int) < k := by omega
            have hj0 : (0 : Int) ≤ (j : Int) := by omega
            have hjz : j < zs.length := by have := hkz.out; omega
            obtain ⟨b', off', hao, hblt', b0⟩ := (hz.out wr hM3.out).cell j (by omega)
            cases hao
            obtain ⟨jx, hjx⟩ : ∃ jx : Nat, zi zs j = (jx : Int) := ⟨(zi zs j).toNat, by have := hg.out.low j hjz; omega⟩
            have hjxn : jx < n := by have := hg.out.high j hjz; rw [hn.out]; omega
            have hjxp : jx < ps.length := by rw [← hn.out]; exact hjxn
            rw [hjx] at b0
            have hx1 : (jx : Int) < n := by omega
            have hx0 : (0 : Int) ≤ (jx : Int) := by omega
            have hh3 := hP3.out.head
            rw [hK3.out.len, ← hn.out] at hh3
            have c0 := blk_cell hh3 0
            simp at c0
            have p0 := hP3.out.ptr jx (by rw [hK3.out.len]; exact hjxp)
            have hprof3 := hP3.out.prof jx (by rw [hK3.out.len]; exact hjxp)
            have hinv3 := hP3.out.inv jx (by rw [hK3.out.len]; exact hjxp)
            have lgr3 := blk_lt hh3
            have lgs3 := World.block_lt_of_cell? wr _ p0
            have hd3 := HU.out _ _ _ _ _ _ hprof3 hinv3 (hC.out wr hM3.out)
            replace hd3 := Lib.hid hd3
            replace hh3 := Lib.hid hh3; replace hprof3 := Lib.hid hprof3; replace hinv3 := Lib.hid hinv3; replace hjx := Lib.hid hjx
            replace hjz := Lib.hid hjz; replace hjxp := Lib.hid hjxp
            go_wp2_with fail
            (with_reducible refine hd3.out.mono ?_)
            rintro e w4 ⟨r4, sb4, cap4, l4, rfl, ⟨hR4, hI4⟩, hp4, hs4, hm4⟩
            obtain ⟨q4, hP4, hK4, hM4, e3, e4⟩ := each_step hK3.out hP3.out hM3.out hjxp.out hp4 hI4 hs4 hm4
            have hold : (nd q3 jx).l = (nd q2 jx).l := ((hD3.out jx hjxp.out).2 (gang_fresh hg.out hjz.out hjx.out))
            have hwh : (nd q3 jx).whole = (nd q2 jx).whole := (hK3.out.whole jx hjxp.out).trans (hK2.out.whole jx hjxp.out).symm
            rw [hold, hwh] at hR4
            rw [← e3] at hR4
            clear e3 hold hwh c0 p0 b0
            replace hR4 := Lib.hid hR4; replace hI4 := Lib.hid hI4; replace hp4 := Lib.hid hp4; replace hs4 := Lib.hid hs4; replace hm4 := Lib.hid hm4; replace hP4 := Lib.hid hP4; replace hK4 := Lib.hid hK4; replace hM4 := Lib.hid hM4; replace e4 := Lib.hid e4
            go_wp2
            go_roundw
            case rel =>
              refine ⟨j + 1, q4, by go_num, by omega, hP4.out, hK4.out, hM4.out, fun i hi => ⟨fun h => ?_, fun h => ?_⟩⟩
              · by_cases e : i = jx
                · subst e; exact ⟨r4, hR4.out⟩
                · rw [e4.out i e]
                  rcases among_succ.1 h with h | h
                  · exact (hD3.out i hi).1 h
                  · rw [hjx.out] at h; exact absurd (by omega) e
              · have hne : i ≠ jx := fun e => h (among_succ.2 (.inr (by rw [e]; exact hjx.out)))
                rw [e4.out i hne]
                exact (hD3.out i hi).2 fun h2 => h (among_succ.2 (.inl h2))
            case measure => simp [intOf]; omega
          · have hj1 : ¬ (j : Int) < k := by omega
            have hjk : j = k := by omega
            replace hjk := Lib.hid hjk
            go_wp2
            go_ret
            have hD4 := hD3.out
            rw [hjk.out] at hD4
            have hfr := gang_fresh hg.out hkz.out hix.out
            refine ⟨r, q3, rfl, .inr (.inr ⟨hg.out, hr.out, k, ix, hkz.out, hix.out, hixp.out, ?_, fun i hi => ⟨fun h => ?_, fun h hne => ?_⟩⟩), hP3.out, hK3.out, hM3.out⟩
            · rw [(hD4 ix hixp.out).2 hfr]; exact hR.out
            · have hne : i ≠ ix := fun e => hfr (e ▸ h)
              obtain ⟨r2, hu⟩ := (hD4 i hi).1 h
              rw [hK2.out.whole i hi] at hu
              refine ⟨(nd q2 i).l, r2, ?_, ?_, hu⟩
              · rw [e2.out i hne]; exact (hD.out i hi).1 h
              · have := hP2.out.inv i (by rw [hK2.out.len]; exact hi)
                rw [hK2.out.whole i hi] at this
                exact this
            · rw [(hD4 i hi).2 h, e2.out i hne]
              exact (hD.out i hi).2 h
    · have hc1 : ¬ (k : Int) < m := by omega
      have hkm : k = zs.length := by rw [hzl.out]; omega
      replace hkm := Lib.hid hkm
      go_wp2
      go_ret
      have hD2 := hD.out
      rw [hkm.out] at hD2
      exact ⟨0, q, rfl, .inr (.inl ⟨hg.out, rfl, hD2⟩), hP.out, hK.out, hM.out⟩
end Go.Proofs.Ytpjajiambbobhaa

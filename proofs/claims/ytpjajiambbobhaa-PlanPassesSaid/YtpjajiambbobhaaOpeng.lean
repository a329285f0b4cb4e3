/- (*Pool).Open: the nodes of some that have an amount free; (*Pool).Free. -/
import Derived.Test.YtpjajiambbobhaaFind
import Derived.Test.YtpjajiambbobhaaEarlp
namespace Go.Proofs.Ytpjajiambbobhaa
open Go.RowKit

def opick (ps : List Nd) (zs : List Int) (v : V4) (fr tt : Int) (j : Nat) : Bool := decide (j < ps.length) && decide (Among zs zs.length j) && v.fits (freeL (nd ps j).whole (nd ps j).l fr tt)
def opnk (ps : List Nd) (zs : List Int) (v : V4) (fr tt : Int) (k : Nat) : List Nat := (List.range k).filter (opick ps zs v fr tt)
theorem opnk_succ (ps : List Nd) (zs : List Int) (v : V4) (fr tt : Int) (k : Nat) : opnk ps zs v fr tt (k + 1) = if opick ps zs v fr tt k = true then opnk ps zs v fr tt k ++ [k] else opnk ps zs v fr tt k := by
  unfold opnk
  rw [List.range_succ, List.filter_append]
  by_cases h : opick ps zs v fr tt k = true
  · rw [if_pos h]; simp [h]
  · rw [if_neg h]; simp [h]
def opn (ps : List Nd) (zs : List Int) (v : V4) (fr tt : Int) : List Nat := if spanL fr tt v = true then opnk ps zs v fr tt 16 else []
theorem opn_sel {ps : List Nd} {zs : List Int} {v : V4} {u ticks : Int} (hi : ∀ i, i < ps.length → Inv (nd ps i).whole (nd ps i).l) (hv : v.right = true) (h0 : 0 ≤ u) (h1 : 1 ≤ ticks) (h2 : u + ticks ≤ 1099511627776) :
    opn ps zs v u (u + ticks) = sel ps zs ticks v u := by
  have hs : spanL u (u + ticks) v = true := by simp [spanL, hv, h0, h2]; omega
  unfold opn sel selk opnk
  rw [if_pos hs]
  congr 1
  funext j
  by_cases hj : j < ps.length
  · have := okAt_free (hi j hj) (v := v) h0 h1 h2
    have e : v.fits (freeL (nd ps j).whole (nd ps j).l u (u + ticks)) = decide (OkT (nd ps j).l ticks v u) := by
      rw [Bool.eq_iff_iff, this, decide_eq_true_iff]
      exact ⟨fun h => ⟨h, h2⟩, fun h => h.1⟩
    simp only [opick, pick, e]
  · simp [opick, pick, hj]

def OpenPost (ps : List Nd) (zs : List Int) (v : V4) (fr tt : Int) (w : World) (e : Ending) (w' : World) : Prop :=
  ∃ so n c, e = .returned (.slice so n c) ∧ IntsAt w' so n (ints (opn ps zs v fr tt)) ∧ n ≤ c ∧ (∀ b off, so = some ⟨b, off, none⟩ → w.heap.size ≤ b) ∧ Below w.heap.size w w'

/-- what stands throughout -/
structure OW (w : World) (gb gs cap : Nat) (po : Option Addr) (ps : List Nd) (v : V4) (wr : World) : Prop where
  pool : Pool wr gb gs po cap ps
  k1 : wr.heap[w.heap.size]? = some (.cells v.cells 23 (0, 0))
  low : Below w.heap.size w wr
theorem OW.below {w : World} {gb gs cap : Nat} {po : Option Addr} {ps : List Nd} {v : V4} {wr w' : World} (h : OW w gb gs cap po ps v wr) (hb : Below wr.heap.size wr w') : OW w gb gs cap po ps v w' :=
  ⟨h.pool.below hb, blk_below hb h.k1 (blk_lt h.k1), h.low.trans (hb.mono h.low.size)⟩

set_option maxRecDepth 100000 in
set_option maxHeartbeats 1600000 in
theorem openg_any (gb gs cap : Nat) (po : Option Addr) (ps : List Nd) (ao : Option Addr) (m c : Nat) (zs : List Int) (fr tt : Int) (v : V4) (w : World) (hp : Pool w gb gs po cap ps) (hz : IntsAt w ao m zs) :
    Calls Try.prog 42 #[.pointer (some ⟨gb, 0, none⟩), .slice ao m c, .int .i64 fr, .int .i64 tt, v.val] w (OpenPost ps zs v fr tt w) := by
  obtain ⟨i3, hi3, hz3, hz31, hz32⟩ := info_parts info3
  obtain ⟨W, hW⟩ : ∃ W, W = w.alloc (.cells v.cells 23 (0, 0)) := ⟨_, rfl⟩
  have hB : Below w.heap.size w W := by rw [hW]; exact (Below.refl _ _).alloc (Nat.le_refl _) _
  have hO : OW w gb gs cap po ps v W := ⟨hp.below hB, by rw [hW]; exact blk_new _ _, hB⟩
  have hzW := hz.below hB (Nat.le_refl _)
  have bad : spanL fr tt v = false → ∀ w', Below w.heap.size w w' → OpenPost ps zs v fr tt w (.returned (.slice none 0 0)) w' := fun h w' hb =>
    ⟨none, 0, 0, rfl, by unfold opn; rw [if_neg (by rw [h]; simp)]; exact ints_nil _, Nat.le_refl _, fun b off h => by simp at h, hb⟩
  replace bad := Lib.hid bad; replace hp := Lib.hid hp; replace hz := Lib.hid hz
  have hrt := right_any v W
  rw [hW] at hrt
  replace hrt := Lib.hid hrt; replace hzW := Lib.hid hzW; replace hO := Lib.hid hO
  by_cases q1 : fr < 0
  · have d1 : decide (fr < 0) = true := by simpa using q1
    have hbad := bad.out (by simp [spanL]; omega) W hB
    rw [hW] at hbad
    replace q1 := Lib.hid q1; replace hbad := Lib.hid hbad; replace hW := Lib.hid hW; replace hB := Lib.hid hB
    go_enter Try.func42, Try.ntmps42
    go_wp2
    go_ret
    exact hbad.out
  have d1 : decide (fr < 0) = false := by simpa using q1
  by_cases q2 : tt ≤ fr
  · have d2 : decide (tt ≤ fr) = true := by simpa using q2
    have hbad := bad.out (by simp [spanL]; omega) W hB
    rw [hW] at hbad
    replace q1 := Lib.hid q1; replace q2 := Lib.hid q2; replace hbad := Lib.hid hbad; replace hW := Lib.hid hW; replace hB := Lib.hid hB
    go_enter Try.func42, Try.ntmps42
    go_wp2
    go_ret
    exact hbad.out
  have d2 : decide (tt ≤ fr) = false := by simpa using q2
  by_cases q3 : 1099511627776 < tt
  · have d3 : decide (1099511627776 < tt) = true := by simpa using q3
    have hbad := bad.out (by simp [spanL]; omega) W hB
    rw [hW] at hbad
    replace q1 := Lib.hid q1; replace q2 := Lib.hid q2; replace q3 := Lib.hid q3; replace hbad := Lib.hid hbad; replace hW := Lib.hid hW; replace hB := Lib.hid hB
    go_enter Try.func42, Try.ntmps42
    go_wp2
    go_ret
    exact hbad.out
  have d3 : decide (1099511627776 < tt) = false := by simpa using q3
  replace q1 := Lib.hid q1; replace q2 := Lib.hid q2; replace q3 := Lib.hid q3; replace hW := Lib.hid hW; replace hB := Lib.hid hB
  go_enter Try.func42, Try.ntmps42
  go_wp2_with fail
  refine hrt.out.mono ?_
  rintro e w4 ⟨rfl, hb4⟩
  rw [← hW.out] at hb4
  have hO4 := hO.out.below hb4
  have hz4 := hzW.out.below hb4 (Nat.le_refl _)
  replace hb4 := Lib.hid hb4; replace hO4 := Lib.hid hO4; replace hz4 := Lib.hid hz4
  by_cases q4 : v.right = true
  rotate_left
  · have q4' : v.right = false := by simpa using q4
    rw [q4']
    have hbad := bad.out (by simp [spanL, q4']) w4 hO4.out.low
    replace q4 := Lib.hid q4; replace q4' := Lib.hid q4'; replace hbad := Lib.hid hbad
    go_wp2
    go_ret
    exact hbad.out
  have hs : spanL fr tt v = true := by simp [spanL, q4]; have := q1.out; have := q2.out; have := q3.out; omega
  rw [q4]
  replace q4 := Lib.hid q4; replace hs := Lib.hid hs
  go_wp2_with fail
  refine (counted_any gb gs cap po ps ao m c zs w4 hO4.out.pool hz4.out).mono ?_
  rintro e w5 ⟨f, rfl, hf, hb5⟩
  have hO5 := hO4.out.below hb5
  replace hf := Lib.hid hf; replace hb5 := Lib.hid hb5; replace hO5 := Lib.hid hO5
  go_wp2
  go_loopw [11, 12, 13, 37] (fun sv _ _ i wr => ∃ (k L : Nat) (xs : List Nat), i = .int .i64 k ∧ k ≤ 16 ∧ L ≤ k ∧ Hid (Below w5.heap.size w5 wr) ∧ Hid (OwnI wr w5.heap.size sv L xs) ∧ Hid (xs = opnk ps zs v fr tt k)) (fun _ _ _ i _ => 16 - (intOf i).toNat)
  case atStart => exact ⟨0, 0, [], rfl, by omega, Nat.le_refl _, Below.refl _ _, OwnI.nil _ _, rfl⟩
  case round =>
    obtain ⟨k, L, xs, rfl, hk, hLk, hB0, hown, hxs⟩ := hrel
    by_cases hk16 : k < 16
    · have hk1 : (k : Int) < 16 := by omega
      have hk0 : (0 : Int) ≤ (k : Int) := by omega
      have hidx := idx_bits f k hk16
      cases hfk : f k
      · have hxs2 : xs = opnk ps zs v fr tt (k + 1) := by
          rw [opnk_succ, if_neg, hxs.out]
          intro h
          simp only [opick, Bool.and_eq_true, decide_eq_true_eq] at h
          have := (hf.out k).2 h.1
          rw [hfk] at this; cases this
        simp only [hfk] at hidx
        replace hxs2 := Lib.hid hxs2; replace hfk := Lib.hid hfk
        go_wp2
        go_quiet (fail)
        go_wp2
        go_roundw
        case rel => exact ⟨k + 1, L, xs, by go_num, by omega, by omega, ⟨hB0.out.os, hB0.out.tape, hB0.out.output, hB0.out.size, hB0.out.block⟩, hown.out, hxs2.out⟩
        case measure => simp [intOf]; omega
      · have hcnt := (hf.out k).1 hfk
        have hOr := hO5.out.below hB0.out
        simp only [hfk] at hidx
        have hpo := hOr.pool.addr (by omega)
        subst hpo
        obtain ⟨n, hn⟩ : ∃ n, n = ps.length := ⟨_, rfl⟩
        have hh := hOr.pool.head
        rw [← hn] at hh
        have c0 := blk_cell hh 0; have p0 := hOr.pool.ptr k hcnt.1
        have d0 := blk_cell hOr.k1 0; have d1' := blk_cell hOr.k1 1; have d2' := blk_cell hOr.k1 2; have d3' := blk_cell hOr.k1 3
        simp at c0 d0 d1' d2' d3'
        have lgb := blk_lt hh; have lgs := World.block_lt_of_cell? wr _ p0; have l1 := blk_lt hOr.k1
        have hkn : (k : Int) < n := by omega
        have hkn2 : k < n := by omega
        have hpd := (hOr.pool.prof k hcnt.1).drew
        have hil := (hOr.pool.inv k hcnt.1).loose
        obtain ⟨pb, hpb⟩ : ∃ pb, pb = (nd ps k).pb := ⟨_, rfl⟩
        rw [← hpb] at p0 hpd
        obtain ⟨F, hF⟩ : ∃ F, F = freeL (nd ps k).whole (nd ps k).l fr tt := ⟨_, rfl⟩
        have hfree := free_any pb _ _ _ _ fr tt wr.drew hpd hil
        rw [← hF] at hfree
        have s0 := hB0.out.size
        clear hpd hil
        replace hfree := Lib.hid hfree; replace hF := Lib.hid hF; replace hpb := Lib.hid hpb; replace hn := Lib.hid hn; replace hh := Lib.hid hh
        replace hOr := Lib.hid hOr; replace hcnt := Lib.hid hcnt; replace hfk := Lib.hid hfk
        go_wp2_with fail
        go_region_held3 (fun w' => w'.cell? ⟨w.heap.size, 0, none⟩ = some (.int .i64 v.a) ∧ w'.cell? ⟨w.heap.size, 1, none⟩ = some (.int .i64 v.b) ∧ w'.cell? ⟨w.heap.size, 2, none⟩ = some (.int .i64 v.c) ∧ w'.cell? ⟨w.heap.size, 3, none⟩ = some (.int .i64 v.d) ∧
            w'.cell? ⟨gb, 0, none⟩ = some (.slice (some ⟨gs, 0, none⟩) n cap) ∧ w'.cell? ⟨gs, k, none⟩ = some (.pointer (some ⟨pb, 0, none⟩)))
          (first
            | (go_keep; done)
            | (have _t := tok2; go_split_ands; refine ⟨?_, ?_, ?_, ?_, ?_, ?_⟩ <;> (rw [below_cell hB8.out (by simpa using ‹_›)]; assumption))
            | (go_split_ands; refine ⟨?_, ?_, ?_, ?_, ?_, ?_⟩ <;> (rw [below_cell hb7.out (by simpa using ‹_›)]; assumption)))
          (first
            | (go_at_call 22
               refine hfree.out.mono ?_
               rintro e w7 ⟨rfl, hb7⟩
               have s7 := hb7.size
               replace hb7 := Lib.hid hb7)
            | (go_at_call 62
               refine (fits_any v F _).mono ?_
               rintro e w8 ⟨rfl, hb8⟩
               have tok2 : Hid True := Lib.hid trivial
               have hB8 : Below wr.drew.heap.size wr.drew w8 := hb7.out.trans (hb8.mono s7)
               replace hb8 := Lib.hid hb8; replace hB8 := Lib.hid hB8))
        have hB9 : Below wr.heap.size wr w8 := undrew hB8.out
        have hB10 : Below w5.heap.size w5 w8 := hB0.out.trans (hB9.mono s0)
        have hown8 := hown.out.below hB9
        have s8 := hB10.size
        clear c0 p0 d0 d1' d2' d3' lgb lgs l1
        replace hB9 := Lib.hid hB9
        cases hfit : v.fits F
        · have hxs2 : xs = opnk ps zs v fr tt (k + 1) := by
            rw [opnk_succ, if_neg, hxs.out]
            intro h
            simp only [opick, Bool.and_eq_true] at h
            rw [← hF.out, hfit] at h
            cases h.2
          replace hxs2 := Lib.hid hxs2; replace hfit := Lib.hid hfit; replace hB10 := Lib.hid hB10; replace hown8 := Lib.hid hown8
          go_wp2
          go_roundw
          case rel => exact ⟨k + 1, L, xs, by go_num, by omega, by omega, hB10.out, hown8.out, hxs2.out⟩
          case measure => simp [intOf]; omega
        · have hxs2 : xs ++ [k] = opnk ps zs v fr tt (k + 1) := by
            rw [opnk_succ, if_pos, hxs.out]
            simp only [opick, Bool.and_eq_true, decide_eq_true_eq]
            exact ⟨hcnt.out, by rw [← hF.out]; exact hfit⟩
          have hownA := hown8.2.alloc (.cells #[.int .i64 (k : Int)] 3 (0, 0))
          have hnews : ∀ j u, ([.int .i64 (k : Int)] : List Value)[j]? = some u → (w8.alloc (.cells #[.int .i64 (k : Int)] 3 (0, 0))).cell? ((⟨w8.heap.size, 0, none⟩ : Addr).add j) = some u := by
            intro j u hu
            match j, hu with
            | 0, hu =>
              have := blk_cell (blk_new w8 (.cells #[.int .i64 (k : Int)] 3 (0, 0))) 0
              simp at hu; subst hu
              exact this
            | j + 1, hu => simp at hu
          have hone1 : ∀ u ∈ ([.int .i64 (k : Int)] : List Value), u.oneCell' = true := by simp [Value.oneCell']
          have h63 : L + 1 ≤ maxLen := by have : maxLen = 9223372036854775807 := by kernel_rfl
                                          omega
          have hby : (L + 1) * 8 ≤ 140737488355328 := by omega
          have hbas : w5.heap.size ≤ (w8.alloc (.cells #[.int .i64 (k : Int)] 3 (0, 0))).heap.size := by simp; omega
          have hlt := hown8.2.lt
          have hxl := hown8.1
          replace hxs2 := Lib.hid hxs2; replace hfit := Lib.hid hfit; replace hB10 := Lib.hid hB10; replace hown8 := Lib.hid hown8
          replace hownA := Lib.hid hownA; replace hnews := Lib.hid hnews; replace hone1 := Lib.hid hone1; replace h63 := Lib.hid h63; replace hby := Lib.hid hby; replace hbas := Lib.hid hbas; replace hlt := Lib.hid hlt; replace hxl := Lib.hid hxl
          go_wp2_with (at_builtin; refine wpList_append_own _ rfl _ _ 48 rfl w5.heap.size 3 i3 _ 1 8 Try.underlying48 hi3 hz3 hz31 hz32 rfl (by decide) _ L _ rfl hownA.out ⟨w8.heap.size, 0, none⟩ 1 1 [.int .i64 (k : Int)] rfl rfl hnews.out hone1.out h63.out hby.out hbas.out ?_; intro v1 w9 hown9 hgrow _; obtain ⟨g, cap1, rfl⟩ := Joins.ownsRow_form hown9 (by omega); replace hown9 := Lib.hid hown9; replace hgrow := Lib.hid hgrow)
          have hO : OwnI w9 w5.heap.size (.slice (some ⟨g, 0, none⟩) (L + 1) cap1) (L + 1) (xs ++ [k]) := ⟨by rw [List.length_append, ← hxl.out]; rfl, by simpa [ints] using hown9.out⟩
          have hB11 : Below w5.heap.size w5 w9 := (hB10.out.alloc s8 _).grown hgrow.out hbas.out (fun k hk => (hlt.out k hk).1)
          replace hO := Lib.hid hO; replace hB11 := Lib.hid hB11
          go_roundw
          case rel => exact ⟨k + 1, L + 1, xs ++ [k], by go_num, by omega, by omega, hB11.out, hO.out, hxs2.out⟩
          case measure => simp [intOf]; omega
    · have hk1 : ¬ (k : Int) < 16 := by omega
      have hke : k = 16 := by omega
      have hOr := hO5.out.below hB0.out
      have hx : xs = opn ps zs v fr tt := by
        unfold opn
        rw [if_pos hs.out, hxs.out, hke]
      have hl5 := hO5.out.low
      replace hke := Lib.hid hke; replace hOr := Lib.hid hOr; replace hx := Lib.hid hx; replace hl5 := Lib.hid hl5
      have hown' := hown.out
      rcases Joins.ownsRow_forms hown'.2 with ⟨rfl, h0⟩ | ⟨g, cap1, rfl⟩
      · have hx0 : xs = [] := by have := hown'.1; rw [h0] at this; exact List.length_eq_zero_iff.1 this.symm
        replace hown' := Lib.hid hown'; replace h0 := Lib.hid h0; replace hx0 := Lib.hid hx0
        go_wp2
        go_ret
        refine ⟨none, 0, 0, rfl, ?_, Nat.le_refl _, (fun b off h => by simp at h), hOr.out.low⟩
        rw [← hx.out, hx0.out]; exact ints_nil _
      · obtain ⟨o1, o2, o3⟩ := hown'.at (by omega)
        replace hown' := Lib.hid hown'; replace o1 := Lib.hid o1; replace o2 := Lib.hid o2; replace o3 := Lib.hid o3
        go_wp2
        go_ret
        refine ⟨some ⟨g, 0, none⟩, L, cap1, rfl, ?_, o2.out, (fun b off e => by cases e; exact Nat.le_trans hl5.out.size o3.out), hOr.out.low⟩
        rw [← hx.out]; exact o1.out
end Go.Proofs.Ytpjajiambbobhaa

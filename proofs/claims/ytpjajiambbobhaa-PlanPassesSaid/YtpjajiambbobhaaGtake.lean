/- (*Pool).Take and Give: what they do to the nodes of a gang, and what they answer. -/
import Derived.Test.YtpjajiambbobhaaEach
namespace Go.Proofs.Ytpjajiambbobhaa
open Go.RowKit

theorem give_undo {whole : V4} {l m l' : List St} {fr tt r : Int} {v : V4} (hi : Inv whole l) (hi' : Inv whole l') (ht : Taken l fr tt v 0 m) (hg : Given whole m fr tt v r l') : l' = l := by
  rcases ht with ⟨_, h, _⟩ | ⟨_, _, h, _⟩ | ⟨hs, hall, _, hv⟩
  · exact absurd h (by decide)
  · exact absurd h (by decide)
  obtain ⟨b1, b2, b3, b4⟩ := spanL_true hs
  have hback : ∀ u, fr ≤ u → u < tt → add4 (val m u) v = val l u := fun u h1 h2 => by
    rw [hv u (by omega) (by omega), if_pos ⟨h1, h2⟩]
    simp only [add4, sub4, Int.sub_add_cancel]
  rcases hg with ⟨h, _⟩ | ⟨_, h, _⟩ | ⟨_, _, _, hv2⟩
  · rw [hs] at h; cases h
  · exact absurd (fun u h1 h2 => by rw [hback u h1 h2]; exact fits_iff.1 (hi.free u (by omega) (by omega)).2) h
  · refine canon hi'.loose hi.loose hi'.unlike hi.unlike fun u u0 u1 => ?_
    rw [hv2 u u0 u1]
    split
    · rename_i h; exact hback u h.1 h.2
    · rename_i h; rw [hv u u0 u1, if_neg h]

theorem take_undo {whole : V4} {l m l' : List St} {fr tt r : Int} {v : V4} (hi : Inv whole l) (hi' : Inv whole l') (hg : Given whole l fr tt v 0 m) (ht : Taken m fr tt v r l') : l' = l := by
  rcases hg with ⟨_, h, _⟩ | ⟨_, _, h, _⟩ | ⟨hs, hall, _, hv⟩
  · exact absurd h (by decide)
  · exact absurd h (by decide)
  obtain ⟨b1, b2, b3, b4⟩ := spanL_true hs
  have hback : ∀ u, fr ≤ u → u < tt → sub4 (val m u) v = val l u := fun u h1 h2 => by
    rw [hv u (by omega) (by omega), if_pos ⟨h1, h2⟩]
    simp only [add4, sub4, Int.add_sub_cancel]
  rcases ht with ⟨h, _⟩ | ⟨_, h, _⟩ | ⟨_, _, _, hv2⟩
  · rw [hs] at h; cases h
  · refine absurd (fun u h1 h2 => ?_) h
    rw [hv u (by omega) (by omega), if_pos ⟨h1, h2⟩]
    have := right_iff.1 (hi.free u (by omega) (by omega)).1
    refine ⟨?_, ?_, ?_, ?_⟩ <;> simp only [add4] <;> omega
  · refine canon hi'.loose hi.loose hi'.unlike hi.unlike fun u u0 u1 => ?_
    rw [hv2 u u0 u1]
    split
    · rename_i h; exact hback u h.1 h.2
    · rename_i h; rw [hv u u0 u1, if_neg h]

/-- nobody's steps have turned -/
def SameL (ps ps' : List Nd) : Prop := ∀ i, i < ps.length → (nd ps' i).l = (nd ps i).l

def TookG (ps : List Nd) (zs : List Int) (fr tt : Int) (v : V4) (r : Int) (ps' : List Nd) : Prop :=
  (¬ (Gang ps.length zs ∧ spanL fr tt v = true) ∧ r = 1 ∧ SameL ps ps') ∨
  (Gang ps.length zs ∧ spanL fr tt v = true ∧ ¬ (∀ i, i < ps.length → Among zs zs.length i → ∀ u, fr ≤ u → u < tt → v.leq (val (nd ps i).l u)) ∧ r = 60 ∧ SameL ps ps') ∨
  (Gang ps.length zs ∧ spanL fr tt v = true ∧ (∀ i, i < ps.length → Among zs zs.length i → ∀ u, fr ≤ u → u < tt → v.leq (val (nd ps i).l u)) ∧ r = 0 ∧
    ∀ i, i < ps.length → (Among zs zs.length i → ∀ u, 0 ≤ u → u < 1099511627776 → val (nd ps' i).l u = if fr ≤ u ∧ u < tt then sub4 (val (nd ps i).l u) v else val (nd ps i).l u) ∧ (¬ Among zs zs.length i → (nd ps' i).l = (nd ps i).l))
def GaveG (ps : List Nd) (zs : List Int) (fr tt : Int) (v : V4) (r : Int) (ps' : List Nd) : Prop :=
  (¬ (Gang ps.length zs ∧ spanL fr tt v = true) ∧ r = 1 ∧ SameL ps ps') ∨
  (Gang ps.length zs ∧ spanL fr tt v = true ∧ ¬ (∀ i, i < ps.length → Among zs zs.length i → ∀ u, fr ≤ u → u < tt → (add4 (val (nd ps i).l u) v).leq (nd ps i).whole) ∧ r = 61 ∧ SameL ps ps') ∨
  (Gang ps.length zs ∧ spanL fr tt v = true ∧ (∀ i, i < ps.length → Among zs zs.length i → ∀ u, fr ≤ u → u < tt → (add4 (val (nd ps i).l u) v).leq (nd ps i).whole) ∧ r = 0 ∧
    ∀ i, i < ps.length → (Among zs zs.length i → ∀ u, 0 ≤ u → u < 1099511627776 → val (nd ps' i).l u = if fr ≤ u ∧ u < tt then add4 (val (nd ps i).l u) v else val (nd ps i).l u) ∧ (¬ Among zs zs.length i → (nd ps' i).l = (nd ps i).l))

theorem gang_first {n : Nat} {zs : List Int} (h : Gang n zs) : ∃ i, i < n ∧ Among zs zs.length i :=
  ⟨(zi zs 0).toNat, by have := h.low 0 h.pos; have := h.high 0 h.pos; omega, 0, h.pos, by have := h.low 0 h.pos; omega⟩
theorem among_mono {zs : List Int} {j k i : Nat} (h : Among zs j i) (hjk : j ≤ k) : Among zs k i := by
  obtain ⟨a, b, c⟩ := h; exact ⟨a, by omega, c⟩

theorem took_of {w' : World} {gb gs cap : Nat} {po : Option Addr} {ps ps' : List Nd} {zs : List Int} {fr tt r : Int} {v : V4} (hinv : ∀ i, i < ps.length → Inv (nd ps i).whole (nd ps i).l)
    (hP : Pool w' gb gs po cap ps') (hlen : ps'.length = ps.length) (hwh : ∀ i, i < ps.length → (nd ps' i).whole = (nd ps i).whole)
    (h : EachRel (fun _ l r l' => Taken l fr tt v r l') (fun whole l r l' => Given whole l fr tt v r l') ps zs r ps') : TookG ps zs fr tt v r ps' := by
  rcases h with ⟨hg, rfl, rfl⟩ | ⟨hg, rfl, hall⟩ | ⟨hg, hr, k, c, hk, hc, hcn, hR, hall⟩
  · exact .inl ⟨fun h => hg h.1, rfl, fun _ _ => rfl⟩
  · obtain ⟨i0, h0, h1⟩ := gang_first hg
    have ok : ∀ i, i < ps.length → Among zs zs.length i → spanL fr tt v = true ∧ (∀ u, fr ≤ u → u < tt → v.leq (val (nd ps i).l u)) ∧ ∀ u, 0 ≤ u → u < 1099511627776 → val (nd ps' i).l u = if fr ≤ u ∧ u < tt then sub4 (val (nd ps i).l u) v else val (nd ps i).l u := fun i hi ha => by
      rcases (hall i hi).1 ha with ⟨_, h, _⟩ | ⟨_, _, h, _⟩ | ⟨hs, hf, _, hv⟩
      · exact absurd h (by decide)
      · exact absurd h (by decide)
      · exact ⟨hs, hf, hv⟩
    exact .inr (.inr ⟨hg, (ok i0 h0 h1).1, fun i hi ha => (ok i hi ha).2.1, rfl, fun i hi => ⟨fun ha => (ok i hi ha).2.2, (hall i hi).2⟩⟩)
  · have hsame : (nd ps' c).l = (nd ps c).l → SameL ps ps' := fun hc2 i hi => by
      by_cases e : i = c
      · subst e; exact hc2
      · by_cases ha : Among zs k i
        · obtain ⟨m, r2, ht, hm, hu⟩ := (hall i hi).1 ha
          have hi' := hP.inv i (by omega)
          rw [hwh i hi] at hi'
          exact give_undo (hinv i hi) hi' ht hu
        · exact (hall i hi).2 ha e
    rcases hR with ⟨hs, rfl, hl⟩ | ⟨hs, hf, rfl, hl⟩ | ⟨_, _, h, _⟩
    · exact .inl ⟨fun h => by rw [hs] at h; exact absurd h.2 (by simp), rfl, hsame hl⟩
    · exact .inr (.inl ⟨hg, hs, fun h => hf (h c hcn ⟨k, hk, hc⟩), rfl, hsame hl⟩)
    · exact absurd h hr

theorem gave_of {w' : World} {gb gs cap : Nat} {po : Option Addr} {ps ps' : List Nd} {zs : List Int} {fr tt r : Int} {v : V4} (hinv : ∀ i, i < ps.length → Inv (nd ps i).whole (nd ps i).l)
    (hP : Pool w' gb gs po cap ps') (hlen : ps'.length = ps.length) (hwh : ∀ i, i < ps.length → (nd ps' i).whole = (nd ps i).whole)
    (h : EachRel (fun whole l r l' => Given whole l fr tt v r l') (fun _ l r l' => Taken l fr tt v r l') ps zs r ps') : GaveG ps zs fr tt v r ps' := by
  rcases h with ⟨hg, rfl, rfl⟩ | ⟨hg, rfl, hall⟩ | ⟨hg, hr, k, c, hk, hc, hcn, hR, hall⟩
  · exact .inl ⟨fun h => hg h.1, rfl, fun _ _ => rfl⟩
  · obtain ⟨i0, h0, h1⟩ := gang_first hg
    have ok : ∀ i, i < ps.length → Among zs zs.length i → spanL fr tt v = true ∧ (∀ u, fr ≤ u → u < tt → (add4 (val (nd ps i).l u) v).leq (nd ps i).whole) ∧ ∀ u, 0 ≤ u → u < 1099511627776 → val (nd ps' i).l u = if fr ≤ u ∧ u < tt then add4 (val (nd ps i).l u) v else val (nd ps i).l u := fun i hi ha => by
      rcases (hall i hi).1 ha with ⟨_, h, _⟩ | ⟨_, _, h, _⟩ | ⟨hs, hf, _, hv⟩
      · exact absurd h (by decide)
      · exact absurd h (by decide)
      · exact ⟨hs, hf, hv⟩
    exact .inr (.inr ⟨hg, (ok i0 h0 h1).1, fun i hi ha => (ok i hi ha).2.1, rfl, fun i hi => ⟨fun ha => (ok i hi ha).2.2, (hall i hi).2⟩⟩)
  · have hsame : (nd ps' c).l = (nd ps c).l → SameL ps ps' := fun hc2 i hi => by
      by_cases e : i = c
      · subst e; exact hc2
      · by_cases ha : Among zs k i
        · obtain ⟨m, r2, ht, hm, hu⟩ := (hall i hi).1 ha
          have hi' := hP.inv i (by omega)
          rw [hwh i hi] at hi'
          exact take_undo (hinv i hi) hi' ht hu
        · exact (hall i hi).2 ha e
    rcases hR with ⟨hs, rfl, hl⟩ | ⟨hs, hf, rfl, hl⟩ | ⟨_, _, h, _⟩
    · exact .inl ⟨fun h => by rw [hs] at h; exact absurd h.2 (by simp), rfl, hsame hl⟩
    · exact .inr (.inl ⟨hg, hs, fun h => hf (h c hcn ⟨k, hk, hc⟩), rfl, hsame hl⟩)
    · exact absurd h hr

/-! ### the calls -/
def Cp (f1 f2 f3 : Nat) (fr tt : Int) (v : V4) (w : World) : Prop :=
  w.heap[f1]? = some (.cells #[.int .i64 fr] 3 (0, 0)) ∧ w.heap[f2]? = some (.cells #[.int .i64 tt] 3 (0, 0)) ∧ w.heap[f3]? = some (.cells v.cells 23 (0, 0))

theorem enters70 : ∀ args w, (callFunc 70 args).run Try.prog w = .ok (.enter 70 args) w := enters Try.func70 (by decide) (by simp [Try.f70])
theorem enters71 : ∀ args w, (callFunc 71 args).run Try.prog w = .ok (.enter 71 args) w := enters Try.func71 (by decide) (by simp [Try.f71])
theorem enters75 : ∀ args w, (callFunc 75 args).run Try.prog w = .ok (.enter 75 args) w := enters Try.func75 (by decide) (by simp [Try.f75])
theorem enters76 : ∀ args w, (callFunc 76 args).run Try.prog w = .ok (.enter 76 args) w := enters Try.func76 (by decide) (by simp [Try.f76])

theorem does70 (f1 f2 f3 : Nat) (fr tt : Int) (v : V4) : Does (fun _ l r l' => Taken l fr tt v r l') 70 f1 f2 f3 (Cp f1 f2 f3 fr tt v) := by
  intro pb sb cap whole l w hp hi hc
  obtain ⟨h1, h2, h3⟩ := hc
  have x := blk_cell h1 0; have y := blk_cell h2 0
  have c0 := blk_cell h3 0; have c1 := blk_cell h3 1; have c2 := blk_cell h3 2; have c3 := blk_cell h3 3
  simp at x y c0 c1 c2 c3
  have l1 := blk_lt h1; have l2 := blk_lt h2; have l3 := blk_lt h3
  clear h1 h2 h3
  have ht := take_any pb sb cap whole l fr tt v w hp hi.loose
  replace ht := Lib.hid ht; replace hp := Lib.hid hp; replace hi := Lib.hid hi
  go_enter Try.func70, Try.ntmps70
  go_wp2_with fail
  refine ht.out.mono ?_
  rintro e w2 ⟨r, sb', cap', l', rfl, hR, hp2, hs2, hm2⟩
  obtain ⟨hI, hT⟩ := take_facts hi.out hR
  clear hR
  replace hI := Lib.hid hI; replace hT := Lib.hid hT; replace hp2 := Lib.hid hp2; replace hs2 := Lib.hid hs2; replace hm2 := Lib.hid hm2
  go_wp2
  go_ret
  exact ⟨r, sb', cap', l', rfl, ⟨hT.out, hI.out⟩, hp2.out, hs2.out, hm2.out⟩
theorem does71 (f1 f2 f3 : Nat) (fr tt : Int) (v : V4) : Does (fun whole l r l' => Given whole l fr tt v r l') 71 f1 f2 f3 (Cp f1 f2 f3 fr tt v) := by
  intro pb sb cap whole l w hp hi hc
  obtain ⟨h1, h2, h3⟩ := hc
  have x := blk_cell h1 0; have y := blk_cell h2 0
  have c0 := blk_cell h3 0; have c1 := blk_cell h3 1; have c2 := blk_cell h3 2; have c3 := blk_cell h3 3
  simp at x y c0 c1 c2 c3
  have l1 := blk_lt h1; have l2 := blk_lt h2; have l3 := blk_lt h3
  clear h1 h2 h3
  have ht := give_any pb sb cap whole l fr tt v w hp hi.loose
  replace ht := Lib.hid ht; replace hp := Lib.hid hp; replace hi := Lib.hid hi
  go_enter Try.func71, Try.ntmps71
  go_wp2_with fail
  refine ht.out.mono ?_
  rintro e w2 ⟨r, sb', cap', l', rfl, hR, hp2, hs2, hm2⟩
  obtain ⟨hI, hT⟩ := give_facts hi.out hR
  clear hR
  replace hI := Lib.hid hI; replace hT := Lib.hid hT; replace hp2 := Lib.hid hp2; replace hs2 := Lib.hid hs2; replace hm2 := Lib.hid hm2
  go_wp2
  go_ret
  exact ⟨r, sb', cap', l', rfl, ⟨hT.out, hI.out⟩, hp2.out, hs2.out, hm2.out⟩
theorem does75 (f1 f2 f3 : Nat) (fr tt : Int) (v : V4) : Does (fun _ l r l' => Taken l fr tt v r l') 75 f1 f2 f3 (Cp f1 f2 f3 fr tt v) := by
  intro pb sb cap whole l w hp hi hc
  obtain ⟨h1, h2, h3⟩ := hc
  have x := blk_cell h1 0; have y := blk_cell h2 0
  have c0 := blk_cell h3 0; have c1 := blk_cell h3 1; have c2 := blk_cell h3 2; have c3 := blk_cell h3 3
  simp at x y c0 c1 c2 c3
  have l1 := blk_lt h1; have l2 := blk_lt h2; have l3 := blk_lt h3
  clear h1 h2 h3
  have ht := take_any pb sb cap whole l fr tt v w hp hi.loose
  replace ht := Lib.hid ht; replace hp := Lib.hid hp; replace hi := Lib.hid hi
  go_enter Try.func75, Try.ntmps75
  go_wp2_with fail
  refine ht.out.mono ?_
  rintro e w2 ⟨r, sb', cap', l', rfl, hR, hp2, hs2, hm2⟩
  obtain ⟨hI, hT⟩ := take_facts hi.out hR
  clear hR
  replace hI := Lib.hid hI; replace hT := Lib.hid hT; replace hp2 := Lib.hid hp2; replace hs2 := Lib.hid hs2; replace hm2 := Lib.hid hm2
  go_wp2
  go_ret
  exact ⟨r, sb', cap', l', rfl, ⟨hT.out, hI.out⟩, hp2.out, hs2.out, hm2.out⟩
theorem does76 (f1 f2 f3 : Nat) (fr tt : Int) (v : V4) : Does (fun whole l r l' => Given whole l fr tt v r l') 76 f1 f2 f3 (Cp f1 f2 f3 fr tt v) := by
  intro pb sb cap whole l w hp hi hc
  obtain ⟨h1, h2, h3⟩ := hc
  have x := blk_cell h1 0; have y := blk_cell h2 0
  have c0 := blk_cell h3 0; have c1 := blk_cell h3 1; have c2 := blk_cell h3 2; have c3 := blk_cell h3 3
  simp at x y c0 c1 c2 c3
  have l1 := blk_lt h1; have l2 := blk_lt h2; have l3 := blk_lt h3
  clear h1 h2 h3
  have ht := give_any pb sb cap whole l fr tt v w hp hi.loose
  replace ht := Lib.hid ht; replace hp := Lib.hid hp; replace hi := Lib.hid hi
  go_enter Try.func76, Try.ntmps76
  go_wp2_with fail
  refine ht.out.mono ?_
  rintro e w2 ⟨r, sb', cap', l', rfl, hR, hp2, hs2, hm2⟩
  obtain ⟨hI, hT⟩ := give_facts hi.out hR
  clear hR
  replace hI := Lib.hid hI; replace hT := Lib.hid hT; replace hp2 := Lib.hid hp2; replace hs2 := Lib.hid hs2; replace hm2 := Lib.hid hm2
  go_wp2
  go_ret
  exact ⟨r, sb', cap', l', rfl, ⟨hT.out, hI.out⟩, hp2.out, hs2.out, hm2.out⟩
def GPost (R : Int → List Nd → Prop) (gb gs cap : Nat) (po : Option Addr) (ps : List Nd) (w : World) (e : Ending) (w' : World) : Prop :=
  ∃ r ps', e = .returned (.int .i64 r) ∧ R r ps' ∧ Pool w' gb gs po cap ps' ∧ Kin w ps ps' ∧ Mod (Mine ps) w w'

theorem Kin.back {w w2 : World} {ps q : List Nd} (h : Kin w2 ps q) (hs : w.heap.size ≤ w2.heap.size) : Kin w ps q :=
  ⟨h.len, h.pb, h.whole, fun i hi => by rcases h.sb i hi with e | e; exact .inl e; exact .inr (Nat.le_trans hs e)⟩

set_option maxRecDepth 100000 in
set_option maxHeartbeats 1600000 in
theorem gtake_any (gb gs cap : Nat) (po : Option Addr) (ps : List Nd) (ao : Option Addr) (m c : Nat) (zs : List Int) (fr tt : Int) (v : V4) (w : World)
    (hp : Pool w gb gs po cap ps) (hz : IntsAt w ao m zs) (ho : 0 < m → Off ao (Mine ps)) (hmc : m ≤ c) :
    Calls Try.prog 35 #[.pointer (some ⟨gb, 0, none⟩), .slice ao m c, .int .i64 fr, .int .i64 tt, v.val] w (GPost (TookG ps zs fr tt v) gb gs cap po ps w) := by
  obtain ⟨W, hW⟩ : ∃ W, W = ((w.alloc (.cells #[.int .i64 fr] 3 (0, 0))).alloc (.cells #[.int .i64 tt] 3 (0, 0))).alloc (.cells v.cells 23 (0, 0)) := ⟨_, rfl⟩
  have hB : Below w.heap.size w W := by rw [hW]; exact (((Below.refl _ _).alloc (Nat.le_refl _) _).alloc (by simp) _).alloc (by simp; omega) _
  have hpW := hp.below hB
  have hzW := hz.below hB (Nat.le_refl _)
  have hcW : Cp w.heap.size (w.heap.size + 1) (w.heap.size + 2) fr tt v W := by
    rw [hW]
    exact ⟨blk_old _ (blk_old _ (blk_new _ _)), blk_old _ (blk_at _ _ (by simp)), blk_at _ _ (by simp)⟩
  have hnm : ∀ b, w.heap.size ≤ b → ¬ Mine ps b := fun b hb hm => by have := hp.mine_lt hm; omega
  have hcM : ∀ w', Mod (Mine ps) W w' → Cp w.heap.size (w.heap.size + 1) (w.heap.size + 2) fr tt v w' := fun w' hm =>
    ⟨(hm.block _ (blk_lt hcW.1) (hnm _ (Nat.le_refl _))).trans hcW.1, (hm.block _ (blk_lt hcW.2.1) (hnm _ (by omega))).trans hcW.2.1, (hm.block _ (blk_lt hcW.2.2) (hnm _ (by omega))).trans hcW.2.2⟩
  have he := eachg_any _ _ 70 71 w.heap.size (w.heap.size + 1) (w.heap.size + 2) (Cp w.heap.size (w.heap.size + 1) (w.heap.size + 2) fr tt v) gb gs cap po ps ao m c zs W hpW (fun w' hm => hzW.mod hm ho) hmc hcM enters70 enters71 (does70 _ _ _ fr tt v) (does71 _ _ _ fr tt v)
  rw [hW] at he
  have hsz := hB.size
  clear hcM hcW hnm hzW
  replace he := Lib.hid he; replace hW := Lib.hid hW; replace hB := Lib.hid hB; replace hp := Lib.hid hp; replace hz := Lib.hid hz; replace hpW := Lib.hid hpW; replace ho := Lib.hid ho
  go_enter Try.func35, Try.ntmps35
  go_wp2_with fail
  refine he.out.mono ?_
  rintro e w2 ⟨r, ps', rfl, hR, hP2, hK2, hM2⟩
  have hT := took_of hp.out.inv hP2 hK2.len hK2.whole hR
  rw [← hW.out] at hK2 hM2
  have hK := hK2.back hsz
  have hM : Mod (Mine ps) w w2 := (Mod.of_below hB.out).trans (hM2.mono fun _ _ h => .inl h)
  clear hR hK2 hM2
  replace hP2 := Lib.hid hP2; replace hT := Lib.hid hT; replace hK := Lib.hid hK; replace hM := Lib.hid hM
  go_wp2
  go_ret
  exact ⟨r, ps', rfl, hT.out, hP2.out, hK.out, hM.out⟩

set_option maxRecDepth 100000 in
set_option maxHeartbeats 1600000 in
theorem ggive_any (gb gs cap : Nat) (po : Option Addr) (ps : List Nd) (ao : Option Addr) (m c : Nat) (zs : List Int) (fr tt : Int) (v : V4) (w : World)
    (hp : Pool w gb gs po cap ps) (hz : IntsAt w ao m zs) (ho : 0 < m → Off ao (Mine ps)) (hmc : m ≤ c) :
    Calls Try.prog 40 #[.pointer (some ⟨gb, 0, none⟩), .slice ao m c, .int .i64 fr, .int .i64 tt, v.val] w (GPost (GaveG ps zs fr tt v) gb gs cap po ps w) := by
  obtain ⟨W, hW⟩ : ∃ W, W = ((w.alloc (.cells #[.int .i64 fr] 3 (0, 0))).alloc (.cells #[.int .i64 tt] 3 (0, 0))).alloc (.cells v.cells 23 (0, 0)) := ⟨_, rfl⟩
  have hB : Below w.heap.size w W := by rw [hW]; exact (((Below.refl _ _).alloc (Nat.le_refl _) _).alloc (by simp) _).alloc (by simp; omega) _
  have hpW := hp.below hB
  have hzW := hz.below hB (Nat.le_refl _)
  have hcW : Cp w.heap.size (w.heap.size + 1) (w.heap.size + 2) fr tt v W := by
    rw [hW]
    exact ⟨blk_old _ (blk_old _ (blk_new _ _)), blk_old _ (blk_at _ _ (by simp)), blk_at _ _ (by simp)⟩
  have hnm : ∀ b, w.heap.size ≤ b → ¬ Mine ps b := fun b hb hm => by have := hp.mine_lt hm; omega
  have hcM : ∀ w', Mod (Mine ps) W w' → Cp w.heap.size (w.heap.size + 1) (w.heap.size + 2) fr tt v w' := fun w' hm =>
    ⟨(hm.block _ (blk_lt hcW.1) (hnm _ (Nat.le_refl _))).trans hcW.1, (hm.block _ (blk_lt hcW.2.1) (hnm _ (by omega))).trans hcW.2.1, (hm.block _ (blk_lt hcW.2.2) (hnm _ (by omega))).trans hcW.2.2⟩
  have he := eachg_any _ _ 76 75 w.heap.size (w.heap.size + 1) (w.heap.size + 2) (Cp w.heap.size (w.heap.size + 1) (w.heap.size + 2) fr tt v) gb gs cap po ps ao m c zs W hpW (fun w' hm => hzW.mod hm ho) hmc hcM enters76 enters75 (does76 _ _ _ fr tt v) (does75 _ _ _ fr tt v)
  rw [hW] at he
  have hsz := hB.size
  clear hcM hcW hnm hzW
  replace he := Lib.hid he; replace hW := Lib.hid hW; replace hB := Lib.hid hB; replace hp := Lib.hid hp; replace hz := Lib.hid hz; replace hpW := Lib.hid hpW; replace ho := Lib.hid ho
  go_enter Try.func40, Try.ntmps40
  go_wp2_with fail
  refine he.out.mono ?_
  rintro e w2 ⟨r, ps', rfl, hR, hP2, hK2, hM2⟩
  have hT := gave_of hp.out.inv hP2 hK2.len hK2.whole hR
  rw [← hW.out] at hK2 hM2
  have hK := hK2.back hsz
  have hM : Mod (Mine ps) w w2 := (Mod.of_below hB.out).trans (hM2.mono fun _ _ h => .inl h)
  clear hR hK2 hM2
  replace hP2 := Lib.hid hP2; replace hT := Lib.hid hT; replace hK := Lib.hid hK; replace hM := Lib.hid hM
  go_wp2
  go_ret
  exact ⟨r, ps', rfl, hT.out, hP2.out, hK.out, hM.out⟩
end Go.Proofs.Ytpjajiambbobhaa

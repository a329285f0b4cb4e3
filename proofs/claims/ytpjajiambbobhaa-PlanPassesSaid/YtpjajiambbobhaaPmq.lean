/- plan.Down, plan.May walked -/
import Derived.Test.YtpjajiambbobhaaPmc
import Derived.Test.YtpjajiambbobhaaPmd
import Derived.Defers
import Derived.Recover
/- Plain laws for what is down, and for one ask alone. No condition. -/
namespace Go.Proofs.Ytpjajiambbobhaa
open Go.RowKit

/-- what a taking answers hangs on what is used alone -/
theorem took_det {vs : List V4} {U : Used} {p p' q q' : List Nd} {zs : List Int} {fr tt : Int} {v : V4} {r r' : Int} (h : Held vs U p) (h' : Held vs U p') (ht : TookG p zs fr tt v r q) (ht' : TookG p' zs fr tt v r' q') : r = r' := by
  have hl : p'.length = p.length := by rw [h.len, h'.len]
  have hs := held_same h h' rfl
  have hiff : (∀ i, i < p.length → Among zs zs.length i → ∀ u, fr ≤ u → u < tt → v.leq (val (nd p i).l u)) ↔ (∀ i, i < p'.length → Among zs zs.length i → ∀ u, fr ≤ u → u < tt → v.leq (val (nd p' i).l u)) := by
    rw [hl]
    exact ⟨fun k i hi => by rw [hs i hi]; exact k i hi, fun k i hi => by rw [← hs i hi]; exact k i hi⟩
  rw [TookG, hl] at ht'
  rw [TookG] at ht
  rw [hl] at hiff
  rcases ht with ⟨a, b, _⟩ | ⟨a, b, c, d, _⟩ | ⟨a, b, c, d, _⟩ <;> rcases ht' with ⟨a', b', _⟩ | ⟨a', b', c', d', _⟩ | ⟨a', b', c', d', _⟩
  · rw [b, b']
  · exact absurd ⟨a', b'⟩ a
  · exact absurd ⟨a', b'⟩ a
  · exact absurd ⟨a, b⟩ a'
  · rw [d, d']
  · exact absurd (hiff.2 c') c
  · exact absurd ⟨a, b⟩ a'
  · exact absurd (hiff.1 c) c'
  · rw [d, d']
theorem chain_at {now : Int} {vs : List V4} {hs : List Hold} {p q : List Nd} {k : Nat} {h : Hold} (hx : hs[k]? = some h) (hc : Chain (HoldTook now) hs p q) (hp : Held vs noU p) : ∃ m m', Held vs (holdsU now (hs.take k)) m ∧ TookL m h.gzs now (holdEnd now h) h.v 0 m' := by
  have e : hs = hs.take k ++ h :: hs.drop (k + 1) := by
    have := List.take_append_drop (k + 1) hs
    rw [take_snoc hx, List.append_assoc] at this
    exact this.symm
  rw [e] at hc
  obtain ⟨m, m', h1, h2, _⟩ := chain_split hc
  exact ⟨m, m', (chain_held h1 hp).1.eqU (no_addU _), h2⟩
theorem take_at {α : Type} {l : List α} {i k : Nat} {x : α} (h : l[i]? = some x) (hk : i < k) : (l.take k)[i]? = some x := by rw [List.getElem?_take, if_pos hk]; exact h
theorem take_take' {α : Type} (l : List α) {i k : Nat} (hk : i ≤ k) : (l.take k).take i = l.take i := by rw [List.take_take, Nat.min_eq_left hk]
theorem lay_det {vs : List V4} {un : Nat} {now : Int} {hs : List Hold} {r r' : Int} {q q' : List Nd} (h : LayRel vs un now hs r q) (h' : LayRel vs un now hs r' q') : r = r' := by
  rcases h with ⟨a, b⟩ | ⟨a, ps, hf, h⟩ <;> rcases h' with ⟨a', b'⟩ | ⟨a', ps', hf', h'⟩
  · rw [b, b']
  · exact absurd a' a
  · exact absurd a a'
  · have k := held_fresh hf
    have k' := held_fresh hf'
    rcases h with ⟨e, hc⟩ | ⟨e, i, x, m, m2, hx, hc, hT⟩ <;> rcases h' with ⟨e', hc'⟩ | ⟨e', i', x', m', m2', hx', hc', hT'⟩
    · rw [e, e']
    · obtain ⟨n, n', h1, h2⟩ := chain_at hx' hc k
      have h3 := (chain_held hc' k').1.eqU (no_addU _)
      rw [e]
      exact took_det h1 h3 h2.1 hT'.1
    · obtain ⟨n, n', h1, h2⟩ := chain_at hx hc' k'
      have h3 := (chain_held hc k).1.eqU (no_addU _)
      rw [e']
      exact took_det h3 h1 hT.1 h2.1
    · have h3 := (chain_held hc k).1.eqU (no_addU _)
      have h3' := (chain_held hc' k').1.eqU (no_addU _)
      rcases Nat.lt_trichotomy i i' with c | c | c
      · obtain ⟨n, n', h1, h2⟩ := chain_at (take_at hx c) hc' k'
        rw [take_take' _ (Nat.le_of_lt c)] at h1
        have := took_det h3 h1 hT.1 h2.1
        exact absurd this e
      · subst c
        rw [hx] at hx'
        cases hx'
        exact took_det h3 h3' hT.1 hT'.1
      · obtain ⟨n, n', h1, h2⟩ := chain_at (take_at hx' c) hc k
        rw [take_take' _ (Nat.le_of_lt c)] at h1
        have := took_det h1 h3' h2.1 hT'.1
        exact absurd this.symm e'

theorem lay_bad {vs : List V4} {un : Nat} {now : Int} {hs : List Hold} {r r' : Int} {q q' : List Nd} (h : LayRel vs un now [] r q) (hr : r ≠ 0) (h' : LayRel vs un now hs r' q') : r' = 1 := by
  rcases h with ⟨a, _⟩ | ⟨a, ps, hf, ⟨c, _⟩ | ⟨_, k, x, _, _, hx, _⟩⟩
  · rcases h' with ⟨_, b⟩ | ⟨a', _⟩
    · exact b
    · exact absurd a' a
  · exact absurd c hr
  · simp at hx
theorem count_take {α : Type} {l : List α} {f : α → Bool} {k : Nat} {x : α} (h : l[k]? = some x) : (l.take (k + 1)).countP f = (l.take k).countP f + if f x = true then 1 else 0 := by
  rw [take_snoc h, List.countP_append, List.countP_singleton]
theorem zi_ints {l : List Nat} {k m : Nat} (h : l[k]? = some m) : zi (ints l) k = (m : Int) := by
  simp [zi, ints, List.getD, h]

/-- what was found is up -/
theorem mem_plc {bs : List Bool} {zs : List Int} {j : Nat} : j ∈ plc bs zs ↔ j < bs.length ∧ bi bs j = true ∧ (j : Int) ∈ zs := by
  unfold plc plck plcOk
  rw [List.mem_filter, List.mem_range]
  simp
theorem slot_up {vs : List V4} {now : Int} {bs : List Bool} {a : Ask} {s : Slot} (h : SlotOk vs now bs a s) {j : Nat} (hj : j < s.gzs.length) : ∃ m : Nat, zi s.gzs j = (m : Int) ∧ m < bs.length ∧ bi bs m = true := by
  rcases h.2 with ⟨_, c⟩ | ⟨_, _, _, c, _⟩
  · rw [c] at hj; simp at hj
  · obtain ⟨m, hm, e⟩ := List.mem_map.1 (c.inn j hj)
    obtain ⟨h1, h2, _⟩ := mem_plc.1 hm
    exact ⟨m, e.symm, h1, h2⟩
theorem plc_down (n : Nat) (zs : List Int) : plc (List.replicate n false) zs = [] := by
  apply List.eq_nil_iff_forall_not_mem.2
  intro j hj
  obtain ⟨h1, h2, _⟩ := mem_plc.1 hj
  rw [List.length_replicate] at h1
  simp [bi, List.getD, h1] at h2
theorem slot_down {vs : List V4} {now : Int} {n : Nat} {a : Ask} {s : Slot} (h : SlotOk vs now (List.replicate n false) a s) : s.start = -1 ∧ s.gzs = [] := by
  rcases h.2 with c | ⟨_, _, _, c, d, _⟩
  · exact c
  · have := c.inn 0 d.pos
    rw [plc_down] at this
    simp [ints] at this

/-- how many of an ask's places have so much -/
def roomy (vs : List V4) (v : V4) (j : Nat) : Bool := v.fits (vv vs j)
def rooms (vs : List V4) (bs : List Bool) (a : Ask) : Nat := (plc bs a.pzs).countP (roomy vs a.v)
def Fit (vs : List V4) (now : Int) (bs : List Bool) (a : Ask) : Prop := a.can = true ∧ a.nodes ≤ rooms vs bs a ∧ a.ticks ≤ 1099511627776 - now
theorem can_parts {a : Ask} (h : a.can = true) : 0 < a.nodes ∧ 0 < a.ticks ∧ a.v.right = true := by
  simp [Ask.can] at h
  exact ⟨h.1.1, h.1.2, h.2⟩
theorem one_law {vs : List V4} {now : Int} {bs : List Bool} {a : Ask} {slots : List Slot} (hp : PassRel vs now bs [] [a] slots) :
    ∃ s, slots = [s] ∧ (s.start = now ↔ Fit vs now bs a) ∧ (s.start = -1 ↔ ¬ Fit vs now bs a) := by
  have hok := pass_ok hp
  have hl := hok.len
  have hlo := hok.lay.lo
  have hhi := hok.lay.hi
  obtain ⟨s, rfl⟩ : ∃ s, slots = [s] := by
    match slots, hl with
    | [s], _ => exact ⟨s, rfl⟩
  refine ⟨s, rfl, ?_⟩
  obtain ⟨m, q, k, hf⟩ := pass_last (k := 0) hp rfl rfl rfl
  have k0 : Held vs noU m := k.eqU (addU_no _)
  rcases hf with ⟨c, e, _⟩ | ⟨hc, t, xs, is, hR, h1, h2⟩
  · have hn : ¬ Fit vs now bs a := fun h => by have := h.1; rw [c] at this; cases this
    exact ⟨⟨fun h => by omega, fun h => absurd h hn⟩, ⟨fun _ => hn, fun _ => e⟩⟩
  · obtain ⟨c1, c2, c3⟩ := can_parts hc
    have hpk : ∀ u, 0 ≤ u → ∀ j, j ∈ sel m (ints (plc bs a.pzs)) a.ticks a.v u ↔ (j ∈ plc bs a.pzs ∧ roomy vs a.v j = true) ∧ u + a.ticks ≤ 1099511627776 := fun u hu j => by
      have hlen : m.length = vs.length := k0.len
      have h16 : m.length ≤ 16 := by rw [hlen]; exact hok.lay.few
      unfold sel selk
      rw [List.mem_filter, List.mem_range]
      simp only [pick, Bool.and_eq_true, decide_eq_true_eq, among_ints]
      have hk : j < m.length → (OkT (nd m j).l a.ticks a.v u ↔ u + a.ticks ≤ 1099511627776 ∧ a.v.leq (vv vs j)) := fun hj => by
        rw [held_ok k0 hj hu (by omega)]
        refine and_congr_right fun _ => ?_
        simp only [noU, zero_add4]
        exact ⟨fun h => h u (by omega) (by omega), fun h _ _ _ => h⟩
      unfold roomy
      rw [fits_iff]
      constructor
      · rintro ⟨_, ⟨b1, b2⟩, b3⟩
        have := (hk b1).1 b3
        exact ⟨⟨b2, this.2⟩, this.1⟩
      · rintro ⟨⟨b2, b3⟩, b4⟩
        have hj : j < m.length := by rw [hlen, ← hok.lay.up]; exact (mem_plc.1 b2).1
        exact ⟨by omega, ⟨hj, b2⟩, (hk hj).2 ⟨b4, b3⟩⟩
    have hle : ∀ u, 0 ≤ u → (sel m (ints (plc bs a.pzs)) a.ticks a.v u).length ≤ rooms vs bs a := fun u hu => by
      unfold rooms
      rw [List.countP_eq_length_filter]
      exact rise_len (sel_rise _ _ _ _ _) fun j hj => List.mem_filter.2 ((hpk u hu j).1 hj).1
    by_cases hfit : Fit vs now bs a
    · have hge : a.nodes ≤ (sel m (ints (plc bs a.pzs)) a.ticks a.v now).length := by
        have : rooms vs bs a ≤ (sel m (ints (plc bs a.pzs)) a.ticks a.v now).length := by
          unfold rooms
          rw [List.countP_eq_length_filter]
          exact rise_len (List.Pairwise.filter _ (plc_rise _ _)) fun j hj => (hpk now hlo j).2 ⟨List.mem_filter.1 hj, by have := hfit.2.2; omega⟩
        have := hfit.2.1
        omega
      obtain ⟨e1, e2, _⟩ := find_at hR (by omega) (by omega) c3 (T := now) (by omega) hhi hge (fun u _ _ => by omega)
      have := (h2 e1).1
      exact ⟨⟨fun _ => hfit, fun _ => by omega⟩, ⟨fun h => by omega, fun h => absurd hfit h⟩⟩
    · have his : is = false := by
        cases is with
        | false => rfl
        | true =>
          have hF := hR.found
          obtain ⟨r, hr⟩ := hF.pre
          have hge := hF.ge
          have h3 := hle t (by omega)
          rw [hr, List.length_append] at h3
          have h4 := hF.len
          have h5 := hF.fin
          exact absurd ⟨hc, by omega, by omega⟩ hfit
      have := (h1 his).1
      exact ⟨⟨fun h => by omega, fun h => absurd h hfit⟩, ⟨fun _ => hfit, fun _ => this⟩⟩
end Go.Proofs.Ytpjajiambbobhaa

/- corveelaw12.PlanDown answers true. -/
namespace Go.Proofs.Ytpjajiambbobhaa
open Go.RowKit

/-- a pass, both ways -/
def PassU (vs : List V4) (now : Int) (bs : List Bool) (hs : List Hold) (asks : List Ask) (w : World) (e : Ending) (w' : World) : Prop :=
  ∃ so n sc slots r, e = .returned (.tuple #[.slice so n sc, .int .i64 r]) ∧ SlotsAt w' so n slots ∧ ((r ≠ 0 ∧ n = 0 ∧ LayRel vs bs.length now hs r []) ∨ (r = 0 ∧ n = asks.length ∧ PassRel vs now bs hs asks slots)) ∧ Below w.heap.size w w' ∧ n ≤ sc ∧
    (∀ b off, so = some ⟨b, off, none⟩ → w.heap.size ≤ b) ∧ ∀ s, s ∈ slots → ∀ b off, s.go = some ⟨b, off, none⟩ → w.heap.size ≤ b
theorem passu_any (vo uo ho ao : Option Addr) (n c un uc m mc l lc : Nat) (vs : List V4) (bs : List Bool) (now : Int) (hs : List Hold) (asks : List Ask) (w : World) (hv : VecsAt w vo n vs) (hu : BoolsAt w uo un bs) (hh : HoldsAt w ho m hs) (ha : AsksAt w ao l asks) (hl : l ≤ 1000000) :
    Calls Try.prog 49 #[.slice vo n c, .slice uo un uc, .int .i64 now, .slice ho m mc, .slice ao l lc] w (PassU vs now bs hs asks w) := by
  refine (pass_any vo uo ho ao n c un uc m mc l lc vs bs now hs asks w hv hu hh ha hl).mono ?_
  rintro e w' ⟨hb, ⟨r, hr, rfl, hL⟩ | ⟨so, sc, slots, rfl, hp, hs, hsc, h1, h2⟩⟩
  · exact ⟨none, 0, 0, [], r, rfl, ⟨rfl, by omega, fun i x hx => by simp at hx⟩, .inl ⟨hr, rfl, hL⟩, hb, Nat.le_refl _, fun b off e => (by cases e), fun s hs => (by cases hs)⟩
  · exact ⟨so, asks.length, sc, slots, 0, rfl, hs, .inr ⟨rfl, rfl, hp⟩, hb, hsc, h1, h2⟩
structure SA (w : World) (x : Scene) (a : Ask) (wr : World) : Prop where
  xb : wr.heap[w.heap.size]? = some x.obj
  ab : wr.heap[w.heap.size + 1]? = some a.obj
  xok : x.ok wr
  aok : a.ok wr
  low : Below w.heap.size w wr
theorem SA.below {w : World} {x : Scene} {a : Ask} {wr w' : World} (h : SA w x a wr) (hb : Below wr.heap.size wr w') : SA w x a w' :=
  ⟨blk_below hb h.xb (blk_lt h.xb), blk_below hb h.ab (blk_lt h.ab), h.xok.below hb, h.aok.below' hb, h.low.trans (hb.mono h.low.size)⟩
theorem SA.new {w : World} {x : Scene} {a : Ask} (hx : x.ok w) (ha : a.ok w) : SA w x a ((w.alloc x.obj).alloc a.obj) := by
  have hb : Below w.heap.size w ((w.alloc x.obj).alloc a.obj) := ((Below.refl _ _).alloc (Nat.le_refl _) _).alloc (by simp) _
  exact ⟨blk_old _ (blk_new _ _), blk_at _ _ (by simp), hx.below hb, ha.below' hb, hb⟩
abbrev Ask.fresh (a : Ask) : Ask := { a with start := -1 }
theorem SA.set {w : World} {x : Scene} {a : Ask} {wr : World} (h : SA w x a wr) (hx : x.ok w) (ha : a.ok w) : SA w x a.fresh (wr.setCell ⟨w.heap.size + 1, 8, none⟩ (.int .i64 (-1))) := by
  have hb : Below w.heap.size w (wr.setCell ⟨w.heap.size + 1, 8, none⟩ (.int .i64 (-1))) := h.low.setCell (Nat.le_succ _) _
  have k := ha.below' hb
  exact ⟨blk_set_other (by omega) _ h.xb, blk_set h.ab 8 _, hx.below hb, ⟨k.places, k.ple, k.gang, k.gle⟩, hb⟩
theorem asks_one (w : World) (a : Ask) (h : a.ok w) : AsksAt (w.alloc (.cells a.cells 84 (0, 0))) (some ⟨w.heap.size, 0, none⟩) 1 [a] := by
  refine ⟨rfl, by omega, fun i y hy => ?_⟩
  have hi : i = 0 := by have := (List.getElem?_eq_some_iff.1 hy).1; simpa using this
  subst hi
  have e : a = y := by simpa using hy
  subst e
  refine ⟨w.heap.size, 0, rfl, by simp, fun j hj => ?_, h.below' ((Below.refl _ _).alloc (Nat.le_refl _) _)⟩
  rw [blk_cell (blk_new w _)]; simp
theorem holds_none (w : World) : HoldsAt w none 0 [] := ⟨rfl, by omega, fun i x hx => by simp at hx⟩
theorem bools_down (w : World) (n : Nat) (hn : n ≤ 1000000) : BoolsAt (w.alloc (.cells (Array.replicate n (.bool false)) 4 (0, 0))) (some ⟨w.heap.size, 0, none⟩) n (List.replicate n false) := by
  refine ⟨by simp, by omega, fun i hi => ⟨w.heap.size, 0, rfl, by simp, ?_⟩⟩
  rw [blk_cell (blk_new w _)]
  simp [bi, List.getD, hi]

set_option maxRecDepth 100000 in
set_option maxHeartbeats 12800000 in
theorem pdown_any (x : Scene) (a : Ask) (w : World) (hok : x.ok w) (hak : a.ok w) : Calls Try.prog 16 #[x.val, a.val] w fun e w' => e = .returned (.bool true) ∧ Below w.heap.size w w' := by
  have hS0 := SA.new hok hak
  replace hok := Lib.hid hok; replace hak := Lib.hid hak; replace hS0 := Lib.hid hS0
  go_enter Try.func16, Try.ntmps16
  go_wp2_with fail
  refine (pawake_any _).mono ?_
  rintro e w1 ⟨rfl, hb1⟩
  have hS1 := hS0.out.below hb1
  obtain ⟨c0, c1, c2, c3, c4⟩ := scene_cells hS1.xb
  have lx := blk_lt hS1.xb
  obtain ⟨y0, y1, y2, y3, y4, y5, y6, y7, y8, y9⟩ := ask_cells hS1.ab
  have ly := blk_lt hS1.ab
  have hfew := few_any x w1 hS1.xok
  replace hS1 := Lib.hid hS1; replace hb1 := Lib.hid hb1; replace hfew := Lib.hid hfew
  go_wp2_with fail
  refine hfew.out.mono ?_
  rintro e w2 ⟨bf, rfl, hbf, hb2⟩
  have hS2 := hS1.out.below hb2
  clear c0 c1 c2 c3 c4 lx y0 y1 y2 y3 y4 y5 y6 y7 y8 y9 ly
  obtain ⟨c0, c1, c2, c3, c4⟩ := scene_cells hS2.xb
  have lx := blk_lt hS2.xb
  obtain ⟨y0, y1, y2, y3, y4, y5, y6, y7, y8, y9⟩ := ask_cells hS2.ab
  have ly := blk_lt hS2.ab
  have hlow2 := hS2.low
  replace hS2 := Lib.hid hS2; replace hb2 := Lib.hid hb2; replace hlow2 := Lib.hid hlow2
  cases bf with
  | false =>
    clear hbf
    go_wp2
    go_ret
    exact ⟨rfl, hlow2.out⟩
  | true =>
  have hfw := hbf rfl
  clear hbf
  by_cases p1 : 30 < a.pn
  · have d1 : decide (30 < (a.pn : Int)) = true := by simp; omega
    have d2 : decide (30 < a.pn) = true := by simp; omega
    replace hfw := Lib.hid hfw; replace p1 := Lib.hid p1
    go_wp2
    go_ret
    exact ⟨rfl, hlow2.out⟩
  have d1 : decide (30 < (a.pn : Int)) = false := by simp; omega
  have d2 : decide (30 < a.pn) = false := by simp; omega
  by_cases p2 : 20 < a.gn
  · have d3 : decide (20 < (a.gn : Int)) = true := by simp; omega
    have d4 : decide (20 < a.gn) = true := by simp; omega
    replace hfw := Lib.hid hfw; replace p1 := Lib.hid p1; replace p2 := Lib.hid p2
    go_wp2
    go_ret
    exact ⟨rfl, hlow2.out⟩
  have d3 : decide (20 < (a.gn : Int)) = false := by simp; omega
  have d4 : decide (20 < a.gn) = false := by simp; omega
  have han := hfw.an
  have hun := hfw.un
  have hpass := passu_any x.vo x.uo x.ho x.ao x.vn x.vc x.un x.uc x.hn x.hc x.an x.ac x.vs x.bs x.now x.hs x.asks w2 hS2.out.xok.vs hS2.out.xok.up hS2.out.xok.holds hS2.out.xok.asks (by omega)
  replace hpass := Lib.hid hpass; replace hfw := Lib.hid hfw; replace p1 := Lib.hid p1; replace p2 := Lib.hid p2
  go_wp2_with fail
  refine hpass.out.mono ?_
  rintro e w3 ⟨so1, n1, sc1, sl1, r1, rfl, hs1, hr1, hb3, _, _, _⟩
  have hS3 := hS2.out.below hb3
  clear c0 c1 c2 c3 c4 lx y0 y1 y2 y3 y4 y5 y6 y7 y8 y9 ly
  obtain ⟨c0, c1, c2, c3, c4⟩ := scene_cells hS3.xb
  have lx := blk_lt hS3.xb
  obtain ⟨y0, y1, y2, y3, y4, y5, y6, y7, y8, y9⟩ := ask_cells hS3.ab
  have ly := blk_lt hS3.ab
  have hlow3 := hS3.low
  have hul := hS3.xok.up.len
  have hmax1 := hs1.max
  have hup1 : ∀ (k : Nat) (s : Slot), sl1[k]? = some s → ∀ j, j < s.gn → ∃ m : Nat, zi s.gzs j = (m : Int) ∧ m < x.un ∧ bi x.bs m = true := fun k s hsx j hj => by
    have hgl : s.gzs.length = s.gn := by
      obtain ⟨_, _, _, _, _, ho⟩ := hs1.cell k s hsx
      exact ho.gang.len
    rcases hr1 with ⟨_, h0, _⟩ | ⟨_, h0, hp⟩
    · have h1 := (List.getElem?_eq_some_iff.1 hsx).1
      have h2 := hs1.len
      omega
    · have hpo := pass_ok hp
      obtain ⟨y, hy⟩ : ∃ y, x.asks[k]? = some y := ⟨x.asks[k]'(by have h1 := (List.getElem?_eq_some_iff.1 hsx).1; have h2 := hpo.len; omega), List.getElem?_eq_getElem _⟩
      have hz : (x.asks.zip sl1)[k]? = some (y, s) := by rw [List.getElem?_zip_eq_some]; exact ⟨hy, hsx⟩
      obtain ⟨m, e, h3, h4⟩ := slot_up (hpo.slot _ (List.mem_of_getElem? hz)) (j := j) (by show j < s.gzs.length; omega)
      exact ⟨m, e, by rw [← hul]; exact h3, h4⟩
  replace hb3 := Lib.hid hb3; replace hs1 := Lib.hid hs1; replace hr1 := Lib.hid hr1; replace hS3 := Lib.hid hS3; replace hlow3 := Lib.hid hlow3; replace hup1 := Lib.hid hup1; replace hul := Lib.hid hul
  go_wp2
  go_loopw [9, 10, 11] (fun i _ _ wr => ∃ k : Nat, i = .int .i64 k ∧ k ≤ n1 ∧ w3 = wr) (fun i _ _ _ => n1 - (intOf i).toNat)
  case atStart => exact ⟨0, rfl, Nat.zero_le _, rfl⟩
  case round =>
    obtain ⟨k, rfl, hk, rfl⟩ := hrel
    by_cases hc : k < n1
    · have hc1 : (k : Int) < n1 := by omega
      have hk0 : (0 : Int) ≤ (k : Int) := by omega
      obtain ⟨s, hsx⟩ := hs1.out.get hc
      obtain ⟨b, off, rfl, hb, a0, hso⟩ := hs1.out.cell k s hsx
      have s2 := a0 2 (by omega)
      simp at s2
      clear a0
      have hgm := hso.gang.max
      replace hsx := Lib.hid hsx; replace hso := Lib.hid hso
      go_wp2
      go_loopw [10, 11] (fun i _ wr => ∃ j : Nat, i = .int .i64 j ∧ j ≤ s.gn ∧ w3 = wr) (fun i _ _ => s.gn - (intOf i).toNat)
      case atStart => exact ⟨0, rfl, Nat.zero_le _, rfl⟩
      case round =>
        obtain ⟨j, rfl, hj, rfl⟩ := hrel
        by_cases hc' : j < s.gn
        · have hc1' : (j : Int) < s.gn := by omega
          have hj0 : (0 : Int) ≤ (j : Int) := by omega
          obtain ⟨b', off', hgo, hb', g0⟩ := hso.out.gang.cell j hc'
          obtain ⟨m, em, hm1, hm2⟩ := hup1.out k s hsx.out j hc'
          rw [em] at g0
          rw [hgo] at s2
          obtain ⟨b2, off2, huo, hb2, u0⟩ := hS3.out.xok.up.cell m hm1
          rw [hm2] at u0
          rw [huo] at c1
          have hm3 : (m : Int) < x.un := by omega
          have hm0 : (0 : Int) ≤ (m : Int) := by omega
          have dm : decide ((m : Int) < 0) = false := by simp
          have dm2 : decide ((x.un : Int) ≤ (m : Int)) = false := by simp; omega
          have dm3 : decide (x.un ≤ m) = false := by simp; omega
          replace em := Lib.hid em; replace hgo := Lib.hid hgo; replace huo := Lib.hid huo; replace hm1 := Lib.hid hm1; replace hm2 := Lib.hid hm2
          go_wp2
          go_roundw
          case rel => exact ⟨j + 1, by go_num, by omega, trivial⟩
          case measure => simp [intOf]; omega
        · have hc1' : ¬ (j : Int) < s.gn := by omega
          go_wp2
          go_roundw
          case rel => exact ⟨k + 1, by go_num, by omega, trivial⟩
          case measure => simp [intOf]; omega
    · have hc1 : ¬ (k : Int) < n1 := by omega
      have hmk := make_bools x.un (by omega)
      obtain ⟨W4, hW4⟩ : ∃ W4, W4 = w3.alloc (.cells (Array.replicate x.un (.bool false)) 4 (0, 0)) := ⟨_, rfl⟩
      have hB4 : Below w3.heap.size w3 W4 := by rw [hW4]; exact (Below.refl _ _).alloc (Nat.le_refl _) _
      have hS4 := hS3.out.below hB4
      have hdn : BoolsAt W4 (some ⟨w3.heap.size, 0, none⟩) x.un (List.replicate x.un false) := by rw [hW4]; exact bools_down w3 x.un (by omega)
      have hpass2 := passu_any x.vo (some ⟨w3.heap.size, 0, none⟩) x.ho x.ao x.vn x.vc x.un x.un x.hn x.hc x.an x.ac x.vs (List.replicate x.un false) x.now x.hs x.asks W4 hS4.xok.vs hdn hS4.xok.holds hS4.xok.asks (by omega)
      rw [hW4] at hpass2
      replace hW4 := Lib.hid hW4; replace hB4 := Lib.hid hB4; replace hS4 := Lib.hid hS4; replace hdn := Lib.hid hdn; replace hpass2 := Lib.hid hpass2
      go_wp2_with fail
      refine hpass2.out.mono ?_
      rintro e w5 ⟨so2, n2, sc2, sl2, r2, rfl, hs2, hr2, hb5, _, _, _⟩
      rw [← hW4.out] at hb5
      have hS5 := hS4.out.below hb5
      obtain ⟨q1, hL1⟩ : ∃ q, LayRel x.vs x.un x.now x.hs r1 q := by
        rcases hr1.out with ⟨_, _, h⟩ | ⟨h0, _, h⟩
        · exact ⟨[], by rw [← hul.out]; exact h⟩
        · obtain ⟨ps, _, _, _, _, h1, _⟩ := h.go
          exact ⟨ps, by rw [h0, ← hul.out]; exact h1⟩
      obtain ⟨q2, hL2⟩ : ∃ q, LayRel x.vs x.un x.now x.hs r2 q := by
        rcases hr2 with ⟨_, _, h⟩ | ⟨h0, _, h⟩
        · exact ⟨[], by rw [List.length_replicate] at h; exact h⟩
        · obtain ⟨ps, _, _, _, _, h1, _⟩ := h.go
          exact ⟨ps, by rw [List.length_replicate] at h1; rw [h0]; exact h1⟩
      have hrr := lay_det hL1 hL2
      subst hrr
      have hdn2 : ∀ (k : Nat) (s : Slot), sl2[k]? = some s → s.start = -1 ∧ s.gn = 0 := fun k s hsx => by
        have hgl : s.gzs.length = s.gn := by
          obtain ⟨_, _, _, _, _, ho⟩ := hs2.cell k s hsx
          exact ho.gang.len
        rcases hr2 with ⟨_, h0, _⟩ | ⟨_, h0, hp⟩
        · have h1 := (List.getElem?_eq_some_iff.1 hsx).1
          have h2 := hs2.len
          omega
        · have hpo := pass_ok hp
          obtain ⟨y, hy⟩ : ∃ y, x.asks[k]? = some y := ⟨x.asks[k]'(by have h1 := (List.getElem?_eq_some_iff.1 hsx).1; have h2 := hpo.len; omega), List.getElem?_eq_getElem _⟩
          have hz : (x.asks.zip sl2)[k]? = some (y, s) := by rw [List.getElem?_zip_eq_some]; exact ⟨hy, hsx⟩
          have h := slot_down (hpo.slot _ (List.mem_of_getElem? hz))
          have h2 : s.gzs = [] := h.2
          exact ⟨h.1, by rw [← hgl, h2]; simp⟩
      clear c0 c1 c2 c3 c4 lx y0 y1 y2 y3 y4 y5 y6 y7 y8 y9 ly
      obtain ⟨c0, c1, c2, c3, c4⟩ := scene_cells hS5.xb
      have lx := blk_lt hS5.xb
      obtain ⟨y0, y1, y2, y3, y4, y5, y6, y7, y8, y9⟩ := ask_cells hS5.ab
      have ly := blk_lt hS5.ab
      have hlow5 := hS5.low
      have hmax2 := hs2.max
      clear hmk
      replace hb5 := Lib.hid hb5; replace hS5 := Lib.hid hS5; replace hs2 := Lib.hid hs2; replace hr2 := Lib.hid hr2; replace hdn2 := Lib.hid hdn2; replace hL1 := Lib.hid hL1; replace hL2 := Lib.hid hL2; replace hlow5 := Lib.hid hlow5
      go_wp2
      go_loopw [15] (fun i wr => ∃ k : Nat, i = .int .i64 k ∧ k ≤ n2 ∧ w5 = wr) (fun i _ => n2 - (intOf i).toNat)
      case atStart => exact ⟨0, rfl, Nat.zero_le _, rfl⟩
      case round =>
        clear hk hc hc1
        obtain ⟨k, rfl, hk, rfl⟩ := hrel
        by_cases hc : k < n2
        · have hc1 : (k : Int) < n2 := by omega
          have hk0 : (0 : Int) ≤ (k : Int) := by omega
          obtain ⟨s, hsx⟩ := hs2.out.get hc
          obtain ⟨b, off, rfl, hb, a0, hso⟩ := hs2.out.cell k s hsx
          obtain ⟨e1, e2⟩ := hdn2.out k s hsx
          have s1 := a0 1 (by omega); have s2 := a0 2 (by omega)
          simp [e1, e2] at s1 s2
          clear a0
          replace hsx := Lib.hid hsx; replace hso := Lib.hid hso; replace e1 := Lib.hid e1; replace e2 := Lib.hid e2
          go_wp2
          go_roundw
          case rel => exact ⟨k + 1, by go_num, by omega, trivial⟩
          case measure => simp [intOf]; omega
        · have hc1 : ¬ (k : Int) < n2 := by omega
          have f8 := blk_free hS5.out.ab 8
          obtain ⟨W6, hW6⟩ : ∃ W6, W6 = w5.setCell ⟨w.heap.size + 1, 8, none⟩ (.int .i64 (-1)) := ⟨_, rfl⟩
          have hS6 : SA w x a.fresh W6 := by rw [hW6]; exact hS5.out.set hok.out hak.out
          have hz6 : W6.heap.size = w5.heap.size := by rw [hW6]; simp
          have hak6 := asks_one W6 a.fresh hS6.aok
          have hB7 : Below W6.heap.size W6 (W6.alloc (.cells a.fresh.cells 84 (0, 0))) := (Below.refl _ _).alloc (Nat.le_refl _) _
          have hS7 := hS6.below hB7
          have hpass3 := passu_any x.vo x.uo none (some ⟨W6.heap.size, 0, none⟩) x.vn x.vc x.un x.uc 0 0 1 1 x.vs x.bs x.now [] [a.fresh] _ hS7.xok.vs hS7.xok.up (holds_none _) hak6 (by omega)
          rw [hz6, hW6] at hpass3
          have hlow6 := hS6.low
          replace hW6 := Lib.hid hW6; replace hS6 := Lib.hid hS6; replace hz6 := Lib.hid hz6; replace hak6 := Lib.hid hak6; replace hB7 := Lib.hid hB7; replace hS7 := Lib.hid hS7; replace hpass3 := Lib.hid hpass3; replace hlow6 := Lib.hid hlow6
          go_wp2_with fail
          refine hpass3.out.mono ?_
          rintro e w8 ⟨so3, n3, sc3, sl3, r3, rfl, hs3, hr3, hb8, _, _, _⟩
          rw [← hW6.out] at hb8
          have hS8 := hS7.out.below hb8
          have drr : (r1 != r1) = false := by simp
          have drr2 : (r1 == r1) = true := by simp
          clear c0 c1 c2 c3 c4 lx y0 y1 y2 y3 y4 y5 y6 y7 y8 y9 ly
          obtain ⟨c0, c1, c2, c3, c4⟩ := scene_cells hS8.xb
          have lx := blk_lt hS8.xb
          obtain ⟨y0, y1, y2, y3, y4, y5, y6, y7, y8, y9⟩ := ask_cells hS8.ab
          have ly := blk_lt hS8.ab
          have hlow8 := hS8.low
          clear f8
          replace hb8 := Lib.hid hb8; replace hS8 := Lib.hid hS8; replace hs3 := Lib.hid hs3; replace hlow8 := Lib.hid hlow8
          rcases hr3 with ⟨hr3, hn3, hL3⟩ | ⟨hr3, hn3, hp3⟩
          · have d3 : (r3 != 0) = true := by simpa using hr3
            have d3' : (r3 == 0) = false := by simpa using hr3
            have hr1' : r1 = 1 := lay_bad (by rw [hul.out] at hL3; exact hL3) hr3 hL1.out
            have d5 : (r1 == 1) = true := by simp [hr1']
            replace hr3 := Lib.hid hr3; replace hn3 := Lib.hid hn3; replace hL3 := Lib.hid hL3; replace hr1' := Lib.hid hr1'
            go_wp2
            go_ret
            exact ⟨rfl, hlow8.out⟩
          subst hr3
          obtain ⟨s, hsl, hst1, hst2⟩ := one_law hp3
          have hpo := pass_ok hp3
          have hn3' : n3 = 1 := hn3
          subst hn3'
          have hnow0 := hpo.lay.lo
          have hnow1 := hpo.lay.hi
          have hlay := hpo.lay
          subst hsl
          have hrc := rcan_any a.fresh w8
          have hcf : a.fresh.can = a.can := rfl
          rw [hcf] at hrc
          replace hpo := Lib.hid hpo; replace hp3 := Lib.hid hp3; replace hst1 := Lib.hid hst1; replace hst2 := Lib.hid hst2; replace hlay := Lib.hid hlay; replace hrc := Lib.hid hrc; replace hn3 := Lib.hid hn3
          clear hcf
          go_wp2_with fail
          refine hrc.out.mono ?_
          rintro e w9 ⟨rfl, hb9⟩
          have hS9 := hS8.out.below hb9
          have hlow9 := hS9.low
          clear c0 c1 c2 c3 c4 lx y0 y1 y2 y3 y4 y5 y6 y7 y8 y9 ly
          obtain ⟨c0, c1, c2, c3, c4⟩ := scene_cells hS9.xb
          have lx := blk_lt hS9.xb
          obtain ⟨y0, y1, y2, y3, y4, y5, y6, y7, y8, y9⟩ := ask_cells hS9.ab
          have ly := blk_lt hS9.ab
          have hrp := rplaces_any x.un x.uc x.uo x.bs a.fresh w9 hS9.xok.up hS9.aok.places (by omega)
          replace hb9 := Lib.hid hb9; replace hS9 := Lib.hid hS9; replace hlow9 := Lib.hid hlow9; replace hrp := Lib.hid hrp
          go_wp2_with fail
          refine hrp.out.mono ?_
          rintro e w10 ⟨so, sn, sc, rfl, hz10, _, _, hb10⟩
          have hS10 := hS9.out.below hb10
          have hlow10 := hS10.low
          clear c0 c1 c2 c3 c4 lx y0 y1 y2 y3 y4 y5 y6 y7 y8 y9 ly
          obtain ⟨c0, c1, c2, c3, c4⟩ := scene_cells hS10.xb
          have lx := blk_lt hS10.xb
          obtain ⟨y0, y1, y2, y3, y4, y5, y6, y7, y8, y9⟩ := ask_cells hS10.ab
          have ly := blk_lt hS10.ab
          have hpl : (plc x.bs a.pzs).length = sn := by have := hz10.len; simpa [ints] using this
          have hsnm := hz10.max
          replace hb10 := Lib.hid hb10; replace hS10 := Lib.hid hS10; replace hlow10 := Lib.hid hlow10; replace hz10 := Lib.hid hz10; replace hpl := Lib.hid hpl
          go_wp2
          go_loopw [20, 21, 22] (fun c i _ wr => ∃ (k cnt : Nat), i = .int .i64 k ∧ k ≤ sn ∧ c = .int .i64 cnt ∧ Hid (cnt = ((plc x.bs a.pzs).take k).countP (roomy x.vs a.v)) ∧ Hid (Below w10.heap.size w10 wr)) (fun _ i _ _ => sn - (intOf i).toNat)
          case atStart => exact ⟨0, 0, rfl, Nat.zero_le _, rfl, rfl, Below.refl _ _⟩
          case round =>
            clear hk hc hc1
            obtain ⟨k, cnt, rfl, hk, rfl, hcnt, hbr⟩ := hrel
            have hSr := hS10.out.below hbr.out
            clear c0 c1 c2 c3 c4 lx y0 y1 y2 y3 y4 y5 y6 y7 y8 y9 ly
            obtain ⟨c0, c1, c2, c3, c4⟩ := scene_cells hSr.xb
            have lx := blk_lt hSr.xb
            obtain ⟨y0, y1, y2, y3, y4, y5, y6, y7, y8, y9⟩ := ask_cells hSr.ab
            have ly := blk_lt hSr.ab
            have hlowr := hSr.low
            have hcle : cnt ≤ k := by rw [hcnt.out]; exact Nat.le_trans List.countP_le_length (List.length_take_le _ _)
            replace hSr := Lib.hid hSr; replace hlowr := Lib.hid hlowr
            by_cases hc : k < sn
            · have hc1 : (k : Int) < sn := by omega
              have hk0 : (0 : Int) ≤ (k : Int) := by omega
              cases hcan : a.can
              · have hfit : ¬ Fit x.vs x.now x.bs a.fresh := fun h => by have := h.1; rw [show a.fresh.can = a.can from rfl, hcan] at this; cases this
                replace hcan := Lib.hid hcan
                have hst := hst2.out.2 hfit
                obtain ⟨b, off, rfl, hb, a0, hso⟩ := hs3.out.cell 0 s rfl
                have hb8r : Below w8.heap.size w8 wr := (hb9.out.trans (hb10.out.mono hb9.out.size)).trans (hbr.out.mono (Nat.le_trans hb9.out.size hb10.out.size))
                have s1 := (below_cell hb8r hb).trans (a0 1 (by omega))
                clear a0
                simp [hst] at s1
                have dd : ((-1 : Int) == x.now) = false := by simp; omega
                replace hfit := Lib.hid hfit; replace hso := Lib.hid hso; replace hst := Lib.hid hst; replace hb8r := Lib.hid hb8r
                go_wp2_with fail
                go_quiet (fail)
                go_wp2
                go_ret
                exact ⟨rfl, hlowr.out.trans (below_drewN _ _ _)⟩
              obtain ⟨m, hm⟩ : ∃ m, (plc x.bs a.pzs)[k]? = some m := ⟨_, List.getElem?_eq_getElem (by rw [hpl.out]; exact hc)⟩
              obtain ⟨hm1, _, _⟩ := mem_plc.1 (List.mem_of_getElem? hm)
              have hmv : m < x.vn := by
                have h1 := hlay.out.up
                have h2 := hS10.out.xok.vs.len
                omega
              have hmv1 : (m : Int) < x.vn := by omega
              have hmv0 : (0 : Int) ≤ (m : Int) := by omega
              obtain ⟨b, off, rfl, hb, g0⟩ := hz10.out.cell k hc
              rw [zi_ints hm] at g0
              obtain ⟨vb, voff, hvo, hvb, u0, u1, u2, u3⟩ := hS10.out.xok.vs.cell m hmv
              obtain ⟨v, hv⟩ : ∃ v, v = vv x.vs m := ⟨_, rfl⟩
              rw [← hv] at u0 u1 u2 u3
              have hleq : roomy x.vs a.v m = true ↔ a.v.a ≤ v.a ∧ a.v.b ≤ v.b ∧ a.v.c ≤ v.c ∧ a.v.d ≤ v.d := by unfold roomy; rw [fits_iff, hv]; rfl
              obtain ⟨e0, _, _, _, _⟩ := scene_cells hS10.out.xb
              have lx10 := blk_lt hS10.out.xb
              rw [hvo] at e0
              have hcur : Below w10.heap.size w10 wr.drew := hbr.out.drew
              have hS : Hid (∀ w' : World, Below w10.heap.size w10 w' → w'.cell? ⟨w.heap.size, 0, none⟩ = some (.slice (some ⟨vb, voff, none⟩) x.vn x.vc) ∧ w'.cell? ⟨b, off + k, none⟩ = some (.int .i64 m) ∧ w'.cell? ⟨vb, voff + m * 4, none⟩ = some (.int .i64 v.a) ∧ w'.cell? ⟨vb, voff + m * 4 + 1, none⟩ = some (.int .i64 v.b) ∧ w'.cell? ⟨vb, voff + m * 4 + 2, none⟩ = some (.int .i64 v.c) ∧ w'.cell? ⟨vb, voff + m * 4 + 3, none⟩ = some (.int .i64 v.d)) := fun w' h =>
                ⟨(below_cell h lx10).trans e0, (below_cell h hb).trans g0, (below_cell h hvb).trans u0, (below_cell h hvb).trans u1, (below_cell h hvb).trans u2, (below_cell h hvb).trans u3⟩
              have hcurA : ∀ o, Below w10.heap.size w10 (wr.alloc o).drew := fun o => (hbr.out.alloc hbr.out.size o).drew
              replace hv := Lib.hid hv; replace hleq := Lib.hid hleq; replace hvo := Lib.hid hvo; replace hcur := Lib.hid hcur; replace hm := Lib.hid hm; replace hm1 := Lib.hid hm1; replace hmv := Lib.hid hmv; replace hcan := Lib.hid hcan; replace hcurA := Lib.hid hcurA
              clear e0 g0 u0 u1 u2 u3 c0 c1 c2 c3 c4
              go_wp2_with fail
              go_region_held3 (fun w' => w'.cell? ⟨w.heap.size, 0, none⟩ = some (.slice (some ⟨vb, voff, none⟩) x.vn x.vc) ∧ w'.cell? ⟨b, off + k, none⟩ = some (.int .i64 m) ∧ w'.cell? ⟨vb, voff + m * 4, none⟩ = some (.int .i64 v.a) ∧ w'.cell? ⟨vb, voff + m * 4 + 1, none⟩ = some (.int .i64 v.b) ∧ w'.cell? ⟨vb, voff + m * 4 + 2, none⟩ = some (.int .i64 v.c) ∧ w'.cell? ⟨vb, voff + m * 4 + 3, none⟩ = some (.int .i64 v.d))
                (first
                  | with_reducible exact hS.out _ hcur.out
                  | with_reducible exact hS.out _ (hcurA.out _))
                (fail)
              have hbA := hcurA.out (.cells v.cells 23 (0, 0))
              replace hbA := Lib.hid hbA
              by_cases qa : a.v.a ≤ v.a
              rotate_left
              · have da : decide (a.v.a ≤ v.a) = false := by simpa using qa
                have hno : roomy x.vs a.v m = false := by
                  rw [Bool.eq_false_iff]; intro hh; obtain ⟨z1, z2, z3, z4⟩ := hleq.out.1 hh; exact qa (by assumption)
                have hcnt2 : cnt = ((plc x.bs a.pzs).take (k + 1)).countP (roomy x.vs a.v) := by rw [count_take hm.out, hno, hcnt.out]; rfl
                replace qa := Lib.hid qa; replace hno := Lib.hid hno; replace hcnt2 := Lib.hid hcnt2
                go_wp2
                go_roundw
                case rel => exact ⟨k + 1, cnt, by go_num, by omega, rfl, hcnt2.out, hbA.out⟩
                case measure => simp [intOf]; omega
              have da : decide (a.v.a ≤ v.a) = true := by simpa using qa
              by_cases qb : a.v.b ≤ v.b
              rotate_left
              · have db : decide (a.v.b ≤ v.b) = false := by simpa using qb
                have hno : roomy x.vs a.v m = false := by
                  rw [Bool.eq_false_iff]; intro hh; obtain ⟨z1, z2, z3, z4⟩ := hleq.out.1 hh; exact qb (by assumption)
                have hcnt2 : cnt = ((plc x.bs a.pzs).take (k + 1)).countP (roomy x.vs a.v) := by rw [count_take hm.out, hno, hcnt.out]; rfl
                replace qb := Lib.hid qb; replace hno := Lib.hid hno; replace hcnt2 := Lib.hid hcnt2
                go_wp2
                go_roundw
                case rel => exact ⟨k + 1, cnt, by go_num, by omega, rfl, hcnt2.out, hbA.out⟩
                case measure => simp [intOf]; omega
              have db : decide (a.v.b ≤ v.b) = true := by simpa using qb
              by_cases qc : a.v.c ≤ v.c
              rotate_left
              · have dc : decide (a.v.c ≤ v.c) = false := by simpa using qc
                have hno : roomy x.vs a.v m = false := by
                  rw [Bool.eq_false_iff]; intro hh; obtain ⟨z1, z2, z3, z4⟩ := hleq.out.1 hh; exact qc (by assumption)
                have hcnt2 : cnt = ((plc x.bs a.pzs).take (k + 1)).countP (roomy x.vs a.v) := by rw [count_take hm.out, hno, hcnt.out]; rfl
                replace qc := Lib.hid qc; replace hno := Lib.hid hno; replace hcnt2 := Lib.hid hcnt2
                go_wp2
                go_roundw
                case rel => exact ⟨k + 1, cnt, by go_num, by omega, rfl, hcnt2.out, hbA.out⟩
                case measure => simp [intOf]; omega
              have dc : decide (a.v.c ≤ v.c) = true := by simpa using qc
              by_cases qd : a.v.d ≤ v.d
              rotate_left
              · have de : decide (a.v.d ≤ v.d) = false := by simpa using qd
                have hno : roomy x.vs a.v m = false := by
                  rw [Bool.eq_false_iff]; intro hh; obtain ⟨z1, z2, z3, z4⟩ := hleq.out.1 hh; exact qd (by assumption)
                have hcnt2 : cnt = ((plc x.bs a.pzs).take (k + 1)).countP (roomy x.vs a.v) := by rw [count_take hm.out, hno, hcnt.out]; rfl
                replace qd := Lib.hid qd; replace hno := Lib.hid hno; replace hcnt2 := Lib.hid hcnt2
                go_wp2
                go_roundw
                case rel => exact ⟨k + 1, cnt, by go_num, by omega, rfl, hcnt2.out, hbA.out⟩
                case measure => simp [intOf]; omega
              have de : decide (a.v.d ≤ v.d) = true := by simpa using qd
              have hyes : roomy x.vs a.v m = true := hleq.out.2 ⟨qa, qb, qc, qd⟩
              have hcnt2 : cnt + 1 = ((plc x.bs a.pzs).take (k + 1)).countP (roomy x.vs a.v) := by rw [count_take hm.out, hyes, hcnt.out]; rfl
              replace qa := Lib.hid qa; replace qb := Lib.hid qb; replace qc := Lib.hid qc; replace qd := Lib.hid qd; replace hyes := Lib.hid hyes; replace hcnt2 := Lib.hid hcnt2
              go_wp2
              go_roundw
              case rel => exact ⟨k + 1, cnt + 1, by go_num, by omega, by go_num, hcnt2.out, hbA.out⟩
              case measure => simp [intOf]; omega
            · have hc1 : ¬ (k : Int) < sn := by omega
              cases hcan : a.can
              · have hfit : ¬ Fit x.vs x.now x.bs a.fresh := fun h => by have := h.1; rw [show a.fresh.can = a.can from rfl, hcan] at this; cases this
                replace hcan := Lib.hid hcan
                have hst := hst2.out.2 hfit
                obtain ⟨b, off, rfl, hb, a0, hso⟩ := hs3.out.cell 0 s rfl
                have hb8r : Below w8.heap.size w8 wr := (hb9.out.trans (hb10.out.mono hb9.out.size)).trans (hbr.out.mono (Nat.le_trans hb9.out.size hb10.out.size))
                have s1 := (below_cell hb8r hb).trans (a0 1 (by omega))
                clear a0
                simp [hst] at s1
                have dd : ((-1 : Int) == x.now) = false := by simp; omega
                replace hfit := Lib.hid hfit; replace hso := Lib.hid hso; replace hst := Lib.hid hst; replace hb8r := Lib.hid hb8r
                go_wp2_with fail
                go_quiet (fail)
                go_wp2
                go_ret
                exact ⟨rfl, hlowr.out.trans (below_drewN _ _ _)⟩
              have hrooms : rooms x.vs x.bs a.fresh = cnt := by
                rw [hcnt.out, List.take_of_length_le (by rw [hpl.out]; omega)]; rfl
              by_cases q1 : a.nodes ≤ cnt
              rotate_left
              · have d5 : decide (a.nodes ≤ (cnt : Int)) = false := by simpa using q1
                have hfit : ¬ Fit x.vs x.now x.bs a.fresh := fun h => q1 (by rw [← hrooms]; exact h.2.1)
                replace hcan := Lib.hid hcan; replace hrooms := Lib.hid hrooms; replace q1 := Lib.hid q1
                have hst := hst2.out.2 hfit
                obtain ⟨b, off, rfl, hb, a0, hso⟩ := hs3.out.cell 0 s rfl
                have hb8r : Below w8.heap.size w8 wr := (hb9.out.trans (hb10.out.mono hb9.out.size)).trans (hbr.out.mono (Nat.le_trans hb9.out.size hb10.out.size))
                have s1 := (below_cell hb8r hb).trans (a0 1 (by omega))
                clear a0
                simp [hst] at s1
                have dd : ((-1 : Int) == x.now) = false := by simp; omega
                replace hfit := Lib.hid hfit; replace hso := Lib.hid hso; replace hst := Lib.hid hst; replace hb8r := Lib.hid hb8r
                go_wp2_with fail
                go_quiet (fail)
                go_wp2
                go_ret
                exact ⟨rfl, hlowr.out.trans (below_drewN _ _ _)⟩
              have d5 : decide (a.nodes ≤ (cnt : Int)) = true := by simpa using q1
              have ew : IntKind.i64.wrap (1099511627776 - x.now) = 1099511627776 - x.now := IntWalk.i64_in _ (by omega)
              by_cases q2 : a.ticks ≤ 1099511627776 - x.now
              rotate_left
              · have d6 : decide (a.ticks ≤ 1099511627776 - x.now) = false := by simpa using q2
                have hfit : ¬ Fit x.vs x.now x.bs a.fresh := fun h => q2 h.2.2
                replace hcan := Lib.hid hcan; replace hrooms := Lib.hid hrooms; replace q1 := Lib.hid q1; replace q2 := Lib.hid q2
                have hst := hst2.out.2 hfit
                obtain ⟨b, off, rfl, hb, a0, hso⟩ := hs3.out.cell 0 s rfl
                have hb8r : Below w8.heap.size w8 wr := (hb9.out.trans (hb10.out.mono hb9.out.size)).trans (hbr.out.mono (Nat.le_trans hb9.out.size hb10.out.size))
                have s1 := (below_cell hb8r hb).trans (a0 1 (by omega))
                clear a0
                simp [hst] at s1
                have dd : ((-1 : Int) == x.now) = false := by simp; omega
                replace hfit := Lib.hid hfit; replace hso := Lib.hid hso; replace hst := Lib.hid hst; replace hb8r := Lib.hid hb8r
                go_wp2_with fail
                go_quiet (fail)
                go_wp2
                go_ret
                exact ⟨rfl, hlowr.out.trans (below_drewN _ _ _)⟩
              have d6 : decide (a.ticks ≤ 1099511627776 - x.now) = true := by simpa using q2
              have hfit : Fit x.vs x.now x.bs a.fresh := ⟨hcan, by rw [hrooms]; exact q1, q2⟩
              have hst := hst1.out.2 hfit
              obtain ⟨b, off, rfl, hb, a0, hso⟩ := hs3.out.cell 0 s rfl
              have hb8r : Below w8.heap.size w8 wr := (hb9.out.trans (hb10.out.mono hb9.out.size)).trans (hbr.out.mono (Nat.le_trans hb9.out.size hb10.out.size))
              have s1 := (below_cell hb8r hb).trans (a0 1 (by omega))
              clear a0
              simp [hst] at s1
              have dd : (x.now == (-1 : Int)) = false := by simp; omega
              have dd2 : (x.now == x.now) = true := by simp
              replace hfit := Lib.hid hfit; replace hso := Lib.hid hso; replace hst := Lib.hid hst; replace hb8r := Lib.hid hb8r; replace hcan := Lib.hid hcan; replace hrooms := Lib.hid hrooms; replace q1 := Lib.hid q1; replace q2 := Lib.hid q2
              go_wp2_with fail
              go_quiet (fail)
              go_wp2
              go_ret
              exact ⟨rfl, hlowr.out.trans (below_drewN _ _ _)⟩
end Go.Proofs.Ytpjajiambbobhaa

/- plan.May, walked: whether slots are a plan. -/
namespace Go.Proofs.Ytpjajiambbobhaa
open Go.RowKit

def MayOne (now : Int) (bs : List Bool) (x : Ask × Slot) (p q : List Nd) : Prop :=
  x.2.id = x.1.id ∧ ((x.2.start = -1 ∧ x.2.gn = 0 ∧ q = p) ∨ (0 ≤ x.2.start ∧ TakePre bs now x.1 x.2.start x.2.gzs ∧ TookL p x.2.gzs x.2.start (endT x.2.start x.1.ticks) x.1.v 0 q))
def MayBad (now : Int) (bs : List Bool) (x : Ask × Slot) (p : List Nd) : Prop :=
  x.2.id ≠ x.1.id ∨ (x.2.id = x.1.id ∧ x.2.start < 0 ∧ ¬ (x.2.start = -1 ∧ x.2.gn = 0)) ∨ (x.2.id = x.1.id ∧ 0 ≤ x.2.start ∧ ¬ TakePre bs now x.1 x.2.start x.2.gzs) ∨
  (x.2.id = x.1.id ∧ 0 ≤ x.2.start ∧ TakePre bs now x.1 x.2.start x.2.gzs ∧ ∃ r q, r ≠ 0 ∧ TookL p x.2.gzs x.2.start (endT x.2.start x.1.ticks) x.1.v r q)
def MayRel (vs : List V4) (now : Int) (bs : List Bool) (hs : List Hold) (asks : List Ask) (slots : List Slot) (b : Bool) : Prop :=
  (b = false ∧ ∃ r, r ≠ 0 ∧ LayRel vs bs.length now hs r []) ∨
  (∃ ps, LayRel vs bs.length now hs 0 ps ∧ ((b = false ∧ slots.length ≠ asks.length) ∨
    (slots.length = asks.length ∧ ((b = true ∧ ∃ q, Chain (MayOne now bs) (asks.zip slots) ps q) ∨
      (b = false ∧ ∃ k x m, (asks.zip slots)[k]? = some x ∧ Chain (MayOne now bs) ((asks.zip slots).take k) ps m ∧ MayBad now bs x m)))))
def MayPost (vs : List V4) (now : Int) (bs : List Bool) (hs : List Hold) (asks : List Ask) (slots : List Slot) (w : World) (e : Ending) (w' : World) : Prop :=
  ∃ b : Bool, e = .returned (.bool b) ∧ MayRel vs now bs hs asks slots b ∧ Below w.heap.size w w'

theorem enters89 : ∀ args w, (callFunc 89 args).run Try.prog w = .ok (.enter 89 args) w := enters Try.func89 (by decide) (by rw [show Try.f89.body = some _ from rfl]; simp)
def Slot.none (s : Slot) : Bool := decide (s.start = -1) && decide (s.gn = 0)
theorem slot_cells {w : World} {b : Nat} {s : Slot} (h : w.heap[b]? = some s.obj) : w.cell? ⟨b, 0, .none⟩ = some (.int .i64 s.id) ∧ w.cell? ⟨b, 1, .none⟩ = some (.int .i64 s.start) ∧ w.cell? ⟨b, 2, .none⟩ = some (.slice s.go s.gn s.gc) := ⟨blk_cell h 0, blk_cell h 1, blk_cell h 2⟩
theorem none_any (s : Slot) (w : World) : Calls Try.prog 89 #[s.val] w fun e w' => e = .returned (.bool s.none) ∧ Below w.heap.size w w' := by
  have hB : Below w.heap.size w (w.alloc s.obj) := (Below.refl _ _).alloc (Nat.le_refl _) _
  replace hB := Lib.hid hB
  by_cases q : s.start = -1
  rotate_left
  · have d : (s.start == -1) = false := by simpa using q
    have e : s.none = false := by simp [Slot.none, q]
    rw [e]
    replace q := Lib.hid q; replace e := Lib.hid e
    go_enter Try.func89, Try.ntmps89
    go_wp2
    go_ret
    exact ⟨rfl, hB.out⟩
  have d : (s.start == -1) = true := by simpa using q
  by_cases q2 : s.gn = 0
  rotate_left
  · have d2 : ((s.gn : Int) == 0) = false := by simp [q2]
    have e : s.none = false := by simp [Slot.none, q2]
    rw [e]
    replace q := Lib.hid q; replace e := Lib.hid e; replace q2 := Lib.hid q2
    go_enter Try.func89, Try.ntmps89
    go_wp2
    go_ret
    exact ⟨rfl, hB.out⟩
  have d2 : ((s.gn : Int) == 0) = true := by simp [q2]
  have e : s.none = true := by simp [Slot.none, q, q2]
  rw [e]
  replace q := Lib.hid q; replace e := Lib.hid e; replace q2 := Lib.hid q2
  go_enter Try.func89, Try.ntmps89
  go_wp2
  go_ret
  exact ⟨rfl, hB.out⟩
theorem may_door (p r : Addr) (n : Int) (b : Bool) (w : World) (hc : w.cell? p = some (.int .i64 n)) (hr : w.cell? r = some (.bool b)) (hz : w.frozen? r = false) :
    CallsD Try.prog 88 #[.pointer (some p), .pointer (some r)] .returning w fun e u' w' => u' = .returning ∧ (e = .returned (.tuple #[]) ∧ w' = w.setCell r (.bool (n == 0))) := by
  go_enter_d Try.func88, Try.ntmps88
  go_wp2
  go_end0
  exact ⟨rfl, rfl⟩

theorem may_res (tmps : Array Value) (r : Addr) (b : Bool) (w : World) (ht : tmps[12]?.getD undef = .pointer (some r)) (hc : w.cell? r = some (.bool b)) : (results Try.f56 tmps).run Try.prog w = .ok (.bool b) w := by
  simp [results, Try.results56, go_sem, ht, hc]
theorem may_shut {R : Ending → World → Prop} {tmps : Array Value} {w : World} (p r : Addr) (n : Int) (b0 : Bool) (ht : tmps[12]?.getD undef = .pointer (some r)) (hp : w.cell? p = some (.int .i64 n)) (hr : w.cell? r = some (.bool b0)) (hz : w.frozen? r = false)
    (hR : R (.returned (.bool (n == 0))) (w.setCell r (.bool (n == 0)))) : Leaves Try.prog Try.f56 tmps R [{ target := .fn (.func 88) #[.pointer (some p), .pointer (some r)], args := #[] }] .returning w := by
  refine leaves_cons (f := 88) (args := #[.pointer (some p), .pointer (some r)]) (by simp) (by simp [go_sem]) ?_
  refine (may_door p r n b0 w hp hr hz).mono ?_
  rintro e u' w'' ⟨rfl, rfl, rfl⟩
  refine ⟨.bool (n == 0), may_res _ r _ _ ht ?_, hR⟩
  exact World.cell?_setCell_same w r _ hr
/-- what stands in May's loop -/
structure MaW (w W0 : World) (wb tb gb gs cap : Nat) (po uo : Option Addr) (un uc : Nat) (bs : List Bool) (now : Int) (q : List Nd) (wr : World) : Prop where
  la : LaW W0 tb gb gs cap po uo un uc bs now q wr
  is : wr.heap[w.heap.size]? = some (.cells #[.bool false] 4 (0, 0))
  wrong : wr.heap[wb]? = some (.cells #[.int .i64 0] 3 (0, 0))
  size : W0.heap.size = w.heap.size + 1
  wlow : W0.heap.size ≤ wb
  low : Below w.heap.size w wr
theorem MaW.below {w W0 wr w' : World} {wb tb gb gs cap un uc : Nat} {po uo : Option Addr} {bs : List Bool} {now : Int} {q : List Nd} (h : MaW w W0 wb tb gb gs cap po uo un uc bs now q wr) (hb : Below wr.heap.size wr w') : MaW w W0 wb tb gb gs cap po uo un uc bs now q w' :=
  ⟨h.la.below hb, blk_below hb h.is (blk_lt h.is), blk_below hb h.wrong (blk_lt h.wrong), h.size, h.wlow, h.low.trans (hb.mono h.low.size)⟩
theorem MaW.mod {w W0 wr w' : World} {wb tb gb gs cap un uc : Nat} {po uo : Option Addr} {bs : List Bool} {now : Int} {q q' : List Nd} (h : MaW w W0 wb tb gb gs cap po uo un uc bs now q wr) (hub : 0 < un → ∀ b off, uo = some ⟨b, off, none⟩ → b < W0.heap.size) (hp : Pool w' gb gs po cap q') (hk : Kin wr q q') (hm : Mod (Mine q) wr w') : MaW w W0 wb tb gb gs cap po uo un uc bs now q' w' :=
  ⟨h.la.mod hub hp hk hm, (hm.block _ (blk_lt h.is) (fun c => by have := h.la.mine _ c; have := h.size; omega)).trans h.is, (hm.block _ (blk_lt h.wrong) (not_mineT h.la.pool h.wrong (by decide) (by decide))).trans h.wrong, h.size, h.wlow,
   below_mod h.low hm (fun b hb => by have := h.la.mine b hb; have := h.size; omega) h.low.size⟩

theorem may_wrong {w W0 wr : World} {wb tb gb gs cap un uc : Nat} {po uo : Option Addr} {bs : List Bool} {now : Int} {q : List Nd} {vs : List V4} {hs : List Hold} {asks : List Ask} {slots : List Slot} {tmps : Array Value} (h : MaW w W0 wb tb gb gs cap po uo un uc bs now q wr) (ht : tmps[12]?.getD undef = .pointer (some ⟨w.heap.size, 0, none⟩)) (hr : MayRel vs now bs hs asks slots false) :
    Leaves Try.prog Try.f56 tmps (MayPost vs now bs hs asks slots w) [{ target := .fn (.func 88) #[.pointer (some ⟨wb, 0, none⟩), .pointer (some ⟨w.heap.size, 0, none⟩)], args := #[] }] .returning ((wr.setCell ⟨wb, 0, none⟩ (.int .i64 1)).setCell ⟨w.heap.size, 0, none⟩ (.bool true)) := by
  have hne : w.heap.size ≠ wb := by have := h.size; have := h.wlow; omega
  have h1 := blk_set h.wrong 0 (.int .i64 1)
  have h2 := blk_set_other (b := w.heap.size) (b' := wb) (o := 0) hne (.int .i64 1) h.is
  have h3 := blk_set h2 0 (.bool true)
  have h4 := blk_set_other (b := wb) (b' := w.heap.size) (o := 0) (Ne.symm hne) (.bool true) h1
  refine may_shut ⟨wb, 0, none⟩ ⟨w.heap.size, 0, none⟩ 1 true ht (blk_cell h4 0) (blk_cell h3 0) (blk_free h3 0) ⟨false, rfl, hr, ((h.low.setCell (by show w.heap.size ≤ wb; have := h.wlow; have := h.size; omega) _).setCell (Nat.le_refl _) _).setCell (Nat.le_refl _) _⟩
theorem may_right {w W0 wr : World} {wb tb gb gs cap un uc : Nat} {po uo : Option Addr} {bs : List Bool} {now : Int} {q : List Nd} {vs : List V4} {hs : List Hold} {asks : List Ask} {slots : List Slot} {tmps : Array Value} (h : MaW w W0 wb tb gb gs cap po uo un uc bs now q wr) (ht : tmps[12]?.getD undef = .pointer (some ⟨w.heap.size, 0, none⟩)) (hr : MayRel vs now bs hs asks slots true) :
    Leaves Try.prog Try.f56 tmps (MayPost vs now bs hs asks slots w) [{ target := .fn (.func 88) #[.pointer (some ⟨wb, 0, none⟩), .pointer (some ⟨w.heap.size, 0, none⟩)], args := #[] }] .returning (wr.setCell ⟨w.heap.size, 0, none⟩ (.bool true)) := by
  have hne : w.heap.size ≠ wb := by have := h.size; have := h.wlow; omega
  have h3 := blk_set h.is 0 (.bool true)
  have h4 := blk_set_other (b := wb) (b' := w.heap.size) (o := 0) (Ne.symm hne) (.bool true) h.wrong
  refine may_shut ⟨wb, 0, none⟩ ⟨w.heap.size, 0, none⟩ 0 true ht (blk_cell h4 0) (blk_cell h3 0) (blk_free h3 0) ⟨true, rfl, hr, (h.low.setCell (Nat.le_refl _) _).setCell (Nat.le_refl _) _⟩

set_option maxRecDepth 100000 in
set_option maxHeartbeats 12800000 in
theorem may_any (vo uo ho ao so : Option Addr) (n c un uc m mc l lc sn sc : Nat) (vs : List V4) (bs : List Bool) (now : Int) (hs : List Hold) (asks : List Ask) (slots : List Slot) (w : World) (hv : VecsAt w vo n vs) (hu : BoolsAt w uo un bs) (hh : HoldsAt w ho m hs) (ha : AsksAt w ao l asks) (hsl : SlotsAt w so sn slots) :
    Calls Try.prog 56 #[.slice vo n c, .slice uo un uc, .int .i64 now, .slice ho m mc, .slice ao l lc, .slice so sn sc] w (MayPost vs now bs hs asks slots w) := by
  have hmf : ∀ (fn : Fn) (first cap : Array Value) (w : World), (Instr.makeFunc fn first cap).run Try.prog w = .ok (.func fn first cap) w := fun _ _ _ _ => rfl
  have he89 := enters89
  obtain ⟨W0, hW0⟩ : ∃ W0, W0 = w.alloc (.cells #[.bool false] 4 (0, 0)) := ⟨_, rfl⟩
  have hb0 : Below w.heap.size w W0 := by rw [hW0]; exact (Below.refl _ _).alloc (Nat.le_refl _) _
  have hz0 : W0.heap.size = w.heap.size + 1 := by rw [hW0]; simp
  have hi0 : W0.heap[w.heap.size]? = some (.cells #[.bool false] 4 (0, 0)) := by rw [hW0]; exact blk_new _ _
  have hu0 := hu.below hb0 (Nat.le_refl _)
  have hul : 0 < un → ∀ b off, uo = some ⟨b, off, none⟩ → b < W0.heap.size := fun h0 => hu0.lt h0
  have hlay := lay_any vo uo ho n c un uc m mc vs bs now hs W0 (hv.below hb0 (Nat.le_refl _)) hu0 (hh.below hb0 (fun _ h => h.below hb0))
  have hbl := hu.len
  have hal := ha.len
  have hsll := hsl.len
  have hsmx := hsl.max
  have hamx := ha.max
  rw [hW0] at hlay
  replace hv := Lib.hid hv; replace hu := Lib.hid hu; replace hh := Lib.hid hh; replace ha := Lib.hid ha; replace hsl := Lib.hid hsl; replace hb0 := Lib.hid hb0; replace hz0 := Lib.hid hz0; replace hi0 := Lib.hid hi0; replace hu0 := Lib.hid hu0; replace hul := Lib.hid hul; replace hlay := Lib.hid hlay; replace hbl := Lib.hid hbl; replace hal := Lib.hid hal; replace hsll := Lib.hid hsll
  have hW0' := Lib.hid hW0
  clear hW0
  go_enter_defers Try.func56, Try.ntmps56
  go_wp2
  go_step3
  go_wp2_with fail
  refine hlay.out.mono ?_
  rw [← hW0'.out]
  rintro e w1 ⟨hB1, ⟨r, hr, rfl, hrel⟩ | ⟨tb, gb, gs, cap, po, q0, rfl, hp1, ht1, hm1, hrel1⟩⟩
  · have d : (r != 0) = true := by simpa using hr
    have hi1 := blk_below hB1 hi0.out (blk_lt hi0.out)
    have lz1 := blk_lt hi1
    have c0 := blk_cell hi1 0
    have f0 := blk_free hi1 0
    simp at c0
    have hlow : Below w.heap.size w w1 := hb0.out.trans (hB1.mono hb0.out.size)
    have hrel2 : MayRel vs now bs hs asks slots false := .inl ⟨rfl, r, hr, by rw [hbl.out]; exact hrel⟩
    replace hrel := Lib.hid hrel; replace hB1 := Lib.hid hB1; replace hr := Lib.hid hr; replace hi1 := Lib.hid hi1; replace hlow := Lib.hid hlow; replace hrel2 := Lib.hid hrel2
    go_wp2
    rw [Exit.noGoto_ret]
    show Leaves Try.prog Try.f56 _ _ _ .returning _
    refine ⟨.bool false, may_res _ ⟨w.heap.size, 0, none⟩ _ _ rfl (blk_cell (blk_set hi1.out 0 _) 0), false, rfl, hrel2.out, hlow.out.setCell (Nat.le_refl _) _⟩
  have hLW : LaW W0 tb gb gs cap po uo un uc bs now q0 w1 := ⟨hB1, hp1, ht1, hm1⟩
  have hi1 := blk_below hB1 hi0.out (blk_lt hi0.out)
  have hlow1 : Below w.heap.size w w1 := hb0.out.trans (hB1.mono hb0.out.size)
  obtain ⟨hok, _, _⟩ := lay_held hrel1
  have hu16 : un ≤ 1000000 := by have := hok.up; have := hok.few; omega
  have hnow := hok.lo
  have hrel0 : LayRel vs bs.length now hs 0 q0 := by rw [hbl.out]; exact hrel1
  by_cases qn : sn = l
  rotate_left
  · have d : ((sn : Int) != (l : Int)) = true := by simp; omega
    have f0 := blk_free hi1 0
    have c0 := blk_cell hi1 0
    simp at c0
    have hrel2 : MayRel vs now bs hs asks slots false := .inr ⟨q0, hrel0, .inl ⟨rfl, by rw [hsll.out, hal.out]; exact qn⟩⟩
    replace hB1 := Lib.hid hB1; replace hp1 := Lib.hid hp1; replace ht1 := Lib.hid ht1; replace hm1 := Lib.hid hm1; replace hrel1 := Lib.hid hrel1; replace hLW := Lib.hid hLW; replace hi1 := Lib.hid hi1; replace hlow1 := Lib.hid hlow1; replace hok := Lib.hid hok; replace hu16 := Lib.hid hu16; replace hnow := Lib.hid hnow; replace hrel0 := Lib.hid hrel0; replace qn := Lib.hid qn; replace hrel2 := Lib.hid hrel2
    go_wp2
    rw [Exit.noGoto_ret]
    show Leaves Try.prog Try.f56 _ _ _ .returning _
    exact ⟨.bool false, may_res _ ⟨w.heap.size, 0, none⟩ _ _ rfl (blk_cell (blk_set hi1.out 0 _) 0), false, rfl, hrel2.out, hlow1.out.setCell (Nat.le_refl _) _⟩
  subst qn
  have d : ((sn : Int) != (sn : Int)) = false := by simp
  obtain ⟨W1, hW1⟩ : ∃ W1, W1 = w1.alloc (.cells #[.int .i64 0] 3 (0, 0)) := ⟨_, rfl⟩
  have hb1 : Below w1.heap.size w1 W1 := by rw [hW1]; exact (Below.refl _ _).alloc (Nat.le_refl _) _
  have hM0 : MaW w W0 w1.heap.size tb gb gs cap po uo un uc bs now q0 W1 := ⟨hLW.below hb1, blk_below hb1 hi1 (blk_lt hi1), by rw [hW1]; exact blk_new _ _, hz0.out, hB1.size, hlow1.trans (hb1.mono hlow1.size)⟩
  replace hB1 := Lib.hid hB1; replace hp1 := Lib.hid hp1; replace ht1 := Lib.hid ht1; replace hm1 := Lib.hid hm1; replace hrel1 := Lib.hid hrel1; replace hLW := Lib.hid hLW; replace hi1 := Lib.hid hi1; replace hlow1 := Lib.hid hlow1; replace hok := Lib.hid hok; replace hu16 := Lib.hid hu16; replace hnow := Lib.hid hnow; replace hrel0 := Lib.hid hrel0; replace hb1 := Lib.hid hb1; replace hM0 := Lib.hid hM0
  have hW1' := Lib.hid hW1
  clear hW1
  go_wp2
  go_step3
  rw [← hW1'.out]
  go_wp2
  go_loopw [17, 18, 39, 44, 55] (fun _ _ i _ _ wr => ∃ (k : Nat) (q : List Nd), i = .int .i64 k ∧ k ≤ sn ∧ Hid (MaW w W0 w1.heap.size tb gb gs cap po uo un uc bs now q wr) ∧ Hid (Chain (MayOne now bs) ((asks.zip slots).take k) q0 q)) (fun _ _ i _ _ _ => sn - (intOf i).toNat)
  case atStart => exact ⟨0, q0, rfl, Nat.zero_le _, hM0.out, rfl⟩
  case round =>
    obtain ⟨k, q, rfl, hk, hM, hC⟩ := hrel
    by_cases hc : k < sn
    · have hc1 : (k : Int) < sn := by omega
      have hk0 : (0 : Int) ≤ (k : Int) := by omega
      obtain ⟨s, hsx⟩ := hsl.out.get hc
      obtain ⟨b, off, rfl, hb, s0, hso⟩ := hsl.out.cell k s hsx
      have t0 := (below_cell hM.out.low hb).trans (s0 0 (by omega)); have t1 := (below_cell hM.out.low hb).trans (s0 1 (by omega)); have t2 := (below_cell hM.out.low hb).trans (s0 2 (by omega))
      simp at t0 t1 t2
      clear s0
      obtain ⟨a, hax⟩ := ha.out.get hc
      obtain ⟨b', off', rfl, hb', a0', hao⟩ := ha.out.cell k a hax
      have a0 := a0' 0 (by omega); have a1 := a0' 1 (by omega); have a2 := a0' 2 (by omega); have a3 := a0' 3 (by omega); have a4 := a0' 4 (by omega); have a5 := a0' 5 (by omega); have a6 := a0' 6 (by omega); have a7 := a0' 7 (by omega); have a8 := a0' 8 (by omega); have a9 := a0' 9 (by omega)
      simp at a0 a1 a2 a3 a4 a5 a6 a7 a8 a9
      clear a0'
      have hz : (asks.zip slots)[k]? = some (a, s) := by rw [List.getElem?_zip_eq_some]; exact ⟨hax, hsx⟩
      have hbad : MayBad now bs (a, s) q → MayRel vs now bs hs asks slots false := fun h => .inr ⟨q0, hrel0.out, .inr ⟨by rw [hsll.out, hal.out], .inr ⟨rfl, k, (a, s), q, hz, hC.out, h⟩⟩⟩
      have hgood : ∀ q', MayOne now bs (a, s) q q' → Chain (MayOne now bs) ((asks.zip slots).take (k + 1)) q0 q' := fun q' h => by rw [take_snoc hz]; exact chain_snoc hC.out h
      obtain ⟨WA, hWA⟩ : ∃ WA, WA = wr.alloc (.cells s.cells 88 (0, 0)) := ⟨_, rfl⟩
      have hbA : Below wr.heap.size wr WA := by rw [hWA]; exact (Below.refl _ _).alloc (Nat.le_refl _) _
      have hMA := hM.out.below hbA
      have hxA : WA.heap[wr.heap.size]? = some s.obj := by rw [hWA]; exact blk_new _ _
      obtain ⟨z0, z1, z2⟩ := slot_cells hxA
      have lz := blk_lt hxA
      have hS : Hid (∀ w' : World, Below w.heap.size w w' → (∀ o, w'.cell? ⟨wr.heap.size, o, none⟩ = WA.cell? ⟨wr.heap.size, o, none⟩) → w'.cell? ⟨wr.heap.size, 0, none⟩ = some (.int .i64 s.id) ∧ w'.cell? ⟨wr.heap.size, 1, none⟩ = some (.int .i64 s.start) ∧ w'.cell? ⟨wr.heap.size, 2, none⟩ = some (.slice s.go s.gn s.gc) ∧ w'.cell? ⟨b', off' + k * 10, none⟩ = some (.int .i64 a.id) ∧ w'.cell? ⟨b', off' + k * 10 + 1, none⟩ = some (.slice a.po a.pn a.pc) ∧ w'.cell? ⟨b', off' + k * 10 + 2, none⟩ = some (.int .i64 a.nodes) ∧ w'.cell? ⟨b', off' + k * 10 + 3, none⟩ = some (.int .i64 a.v.a) ∧ w'.cell? ⟨b', off' + k * 10 + 4, none⟩ = some (.int .i64 a.v.b) ∧ w'.cell? ⟨b', off' + k * 10 + 5, none⟩ = some (.int .i64 a.v.c) ∧ w'.cell? ⟨b', off' + k * 10 + 6, none⟩ = some (.int .i64 a.v.d) ∧ w'.cell? ⟨b', off' + k * 10 + 7, none⟩ = some (.int .i64 a.ticks) ∧ w'.cell? ⟨b', off' + k * 10 + 8, none⟩ = some (.int .i64 a.start) ∧ w'.cell? ⟨b', off' + k * 10 + 9, none⟩ = some (.slice a.go a.gn a.gc)) := fun w' h h' => ⟨(h' 0).trans z0, (h' 1).trans z1, (h' 2).trans z2, (below_cell h hb').trans a0, (below_cell h hb').trans a1, (below_cell h hb').trans a2, (below_cell h hb').trans a3, (below_cell h hb').trans a4, (below_cell h hb').trans a5, (below_cell h hb').trans a6, (below_cell h hb').trans a7, (below_cell h hb').trans a8, (below_cell h hb').trans a9⟩
      have hsame : Hid (∀ o, WA.drew.cell? ⟨wr.heap.size, o, none⟩ = WA.cell? ⟨wr.heap.size, o, none⟩) := fun o => rfl
      have hcur : Below w.heap.size w WA.drew := hMA.low.drew
      replace hsx := Lib.hid hsx; replace hso := Lib.hid hso; replace hax := Lib.hid hax; replace hao := Lib.hid hao; replace hz := Lib.hid hz; replace hbad := Lib.hid hbad; replace hgood := Lib.hid hgood; replace hbA := Lib.hid hbA; replace hMA := Lib.hid hMA; replace hxA := Lib.hid hxA; replace hcur := Lib.hid hcur
      have hWA' := Lib.hid hWA
      clear hWA a0 a1 a2 a3 a4 a5 a6 a7 a8 a9
      go_wp2_with fail
      rw [← hWA'.out]
      clear t0 t1 t2
      go_region_held3 (fun w' => w'.cell? ⟨wr.heap.size, 0, none⟩ = some (.int .i64 s.id) ∧ w'.cell? ⟨wr.heap.size, 1, none⟩ = some (.int .i64 s.start) ∧ w'.cell? ⟨wr.heap.size, 2, none⟩ = some (.slice s.go s.gn s.gc) ∧ w'.cell? ⟨b', off' + k * 10, none⟩ = some (.int .i64 a.id) ∧ w'.cell? ⟨b', off' + k * 10 + 1, none⟩ = some (.slice a.po a.pn a.pc) ∧ w'.cell? ⟨b', off' + k * 10 + 2, none⟩ = some (.int .i64 a.nodes) ∧ w'.cell? ⟨b', off' + k * 10 + 3, none⟩ = some (.int .i64 a.v.a) ∧ w'.cell? ⟨b', off' + k * 10 + 4, none⟩ = some (.int .i64 a.v.b) ∧ w'.cell? ⟨b', off' + k * 10 + 5, none⟩ = some (.int .i64 a.v.c) ∧ w'.cell? ⟨b', off' + k * 10 + 6, none⟩ = some (.int .i64 a.v.d) ∧ w'.cell? ⟨b', off' + k * 10 + 7, none⟩ = some (.int .i64 a.ticks) ∧ w'.cell? ⟨b', off' + k * 10 + 8, none⟩ = some (.int .i64 a.start) ∧ w'.cell? ⟨b', off' + k * 10 + 9, none⟩ = some (.slice a.go a.gn a.gc))
        (first
          | with_reducible exact hS.out _ hcur.out hsame.out)
        (fail)
      obtain ⟨WB, hWB⟩ : ∃ WB, WB = WA.drew := ⟨_, rfl⟩
      have hbB : Below WA.heap.size WA WB := by rw [hWB]; exact (Below.refl _ _).drew
      have hMB := hMA.out.below hbB
      have hxB := blk_below hbB hxA.out lz
      have hsm : Hid (∀ o, WB.cell? ⟨wr.heap.size, o, none⟩ = WA.cell? ⟨wr.heap.size, o, none⟩) := fun o => by rw [hWB]; rfl
      rw [← hWB]
      clear z0 z1 z2 lz
      obtain ⟨z0, z1, z2⟩ := slot_cells hxB
      have lz := blk_lt hxB
      replace hbB := Lib.hid hbB; replace hMB := Lib.hid hMB; replace hxB := Lib.hid hxB
      have hWB' := Lib.hid hWB
      clear hWB hcur hsame
      by_cases qi : s.id = a.id
      rotate_left
      · have di : (s.id != a.id) = true := by simpa using qi
        have hbd := hbad.out (.inl qi)
        have iw := blk_cell hMB.out.is 0
        have fw := blk_free hMB.out.is 0
        have iv := blk_cell hMB.out.wrong 0
        have fv := blk_free hMB.out.wrong 0
        simp at iw iv
        have lw := blk_lt hMB.out.is
        have lv := blk_lt hMB.out.wrong
        have lne : w.heap.size < w1.heap.size := by have h1 := hMB.out.size; have h2 := hMB.out.wlow; omega
        replace qi := Lib.hid qi; replace hbd := Lib.hid hbd
        go_wp2
        try rw [Exit.noGoto_ret]
        show Leaves Try.prog Try.f56 _ _ _ .returning _
        exact may_wrong hMB.out rfl hbd.out
      have di : (s.id != a.id) = false := by simpa using qi
      by_cases qs : 0 ≤ s.start
      · have ds : decide (0 ≤ s.start) = true := by simpa using qs
        have ds2 : decide (s.start < 0) = false := by simpa using qs
        have htk := takea_any gb gs cap po q tb un uc uo bs now a s.start s.go s.gn s.gc s.gzs WB.drew (hMB.out.la.pool.below (Below.refl _ _).drew) (hMB.out.la.tab.below (Below.refl _ _).drew) ((hao.out.below' hMB.out.low.drew).places) hu16.out ((hso.out.below hMB.out.low.drew).gang) (off_of hso.out.gang (Nat.le_refl _) (fun b hb => by have := hMB.out.la.mine b hb; have := hz0.out; omega)) hso.out.gle hnow.out
        have hcur : Below w.heap.size w WB.drew := hMB.out.low.drew
        have hsame : Hid (∀ o, WB.drew.cell? ⟨wr.heap.size, o, none⟩ = WA.cell? ⟨wr.heap.size, o, none⟩) := fun o => hsm.out o
        have hnm : ¬ Mine q wr.heap.size := not_mineT hMB.out.la.pool hxB.out (by decide) (by decide)
        replace qi := Lib.hid qi; replace qs := Lib.hid qs; replace htk := Lib.hid htk; replace hcur := Lib.hid hcur; replace hnm := Lib.hid hnm
        go_wp2_with fail
        clear z0 z1 z2
        go_region_held3 (fun w' => w'.cell? ⟨wr.heap.size, 0, none⟩ = some (.int .i64 s.id) ∧ w'.cell? ⟨wr.heap.size, 1, none⟩ = some (.int .i64 s.start) ∧ w'.cell? ⟨wr.heap.size, 2, none⟩ = some (.slice s.go s.gn s.gc) ∧ w'.cell? ⟨b', off' + k * 10, none⟩ = some (.int .i64 a.id) ∧ w'.cell? ⟨b', off' + k * 10 + 1, none⟩ = some (.slice a.po a.pn a.pc) ∧ w'.cell? ⟨b', off' + k * 10 + 2, none⟩ = some (.int .i64 a.nodes) ∧ w'.cell? ⟨b', off' + k * 10 + 3, none⟩ = some (.int .i64 a.v.a) ∧ w'.cell? ⟨b', off' + k * 10 + 4, none⟩ = some (.int .i64 a.v.b) ∧ w'.cell? ⟨b', off' + k * 10 + 5, none⟩ = some (.int .i64 a.v.c) ∧ w'.cell? ⟨b', off' + k * 10 + 6, none⟩ = some (.int .i64 a.v.d) ∧ w'.cell? ⟨b', off' + k * 10 + 7, none⟩ = some (.int .i64 a.ticks) ∧ w'.cell? ⟨b', off' + k * 10 + 8, none⟩ = some (.int .i64 a.start) ∧ w'.cell? ⟨b', off' + k * 10 + 9, none⟩ = some (.slice a.go a.gn a.gc))
          (first
            | with_reducible exact hS.out _ hcur.out hsame.out)
          (first
            | (go_at_call 82
               refine htk.out.mono ?_
               rintro e w8 ⟨b8, q8, rfl, hp8, hk8, hm8, hc8⟩
               have hM8 : MaW w W0 w1.heap.size tb gb gs cap po uo un uc bs now q8 w8 := (hMB.out.below (Below.refl _ _).drew).mod hul.out hp8 hk8 hm8
               have hl8 := like_of hk8 hp8
               replace hcur := Lib.hid hM8.low
               replace hsame : Hid (∀ o, w8.cell? ⟨wr.heap.size, o, none⟩ = WA.cell? ⟨wr.heap.size, o, none⟩) := fun o => (World.cell?_of_block (a := ⟨wr.heap.size, o, none⟩) (w := WB.drew) (hm8.block _ lz hnm.out)).trans (hsm.out o)
               replace hp8 := Lib.hid hp8; replace hk8 := Lib.hid hk8; replace hm8 := Lib.hid hm8; replace hc8 := Lib.hid hc8; replace hM8 := Lib.hid hM8; replace hl8 := Lib.hid hl8))
        have hx8 : w8.heap[wr.heap.size]? = some s.obj := (hm8.out.block _ lz hnm.out).trans hxB.out
        obtain ⟨z0, z1, z2⟩ := slot_cells hx8
        have lz8 := blk_lt hx8
        cases b8 with
        | false =>
          have hbd := hbad.out (by
            rcases hc8.out with ⟨h1, _, _⟩ | ⟨h1, r, h2, h3⟩
            · exact .inr (.inr (.inl ⟨qi.out, qs.out, h1⟩))
            · exact .inr (.inr (.inr ⟨qi.out, qs.out, h1, r, q8, fun e => by have := h3.2 e; (cases this), h2, hl8.out⟩)))
          have iw := blk_cell hM8.out.is 0
          have fw := blk_free hM8.out.is 0
          have iv := blk_cell hM8.out.wrong 0
          have fv := blk_free hM8.out.wrong 0
          simp at iw iv
          have lw := blk_lt hM8.out.is
          have lv := blk_lt hM8.out.wrong
          have lne : w.heap.size < w1.heap.size := by have h1 := hM8.out.size; have h2 := hM8.out.wlow; omega
          replace hbd := Lib.hid hbd; replace hx8 := Lib.hid hx8
          go_wp2
          try rw [Exit.noGoto_ret]
          show Leaves Try.prog Try.f56 _ _ _ .returning _
          exact may_wrong hM8.out rfl hbd.out
        | true =>
          have hok2 := hgood.out q8 ⟨qi.out, .inr ⟨qs.out, by
            rcases hc8.out with ⟨_, h, _⟩ | ⟨h1, r, h2, h3⟩
            · cases h
            · have := h3.1 rfl
              subst this
              exact ⟨h1, h2, hl8.out⟩⟩⟩
          replace hok2 := Lib.hid hok2; replace hx8 := Lib.hid hx8
          go_wp2
          go_roundw
          case rel => exact ⟨k + 1, q8, by go_num, by omega, hM8.out, hok2.out⟩
          case measure => simp [intOf]; omega
      · have ds : decide (0 ≤ s.start) = false := by simpa using qs
        have ds2 : decide (s.start < 0) = true := by simp; omega
        have hMq : ∀ m, MaW w W0 w1.heap.size tb gb gs cap po uo un uc bs now q (WB.drewN m) := fun m => hMB.out.below (below_drewN _ _ m)
        have hnn : ∀ W, Calls Try.prog 89 #[s.val] W fun e w' => e = .returned (.bool s.none) ∧ Below W.heap.size W w' := fun W => none_any s W
        have qs' : s.start < 0 := by omega
        replace qi := Lib.hid qi; replace qs := Lib.hid qs; replace qs' := Lib.hid qs'; replace hMq := Lib.hid hMq; replace hnn := Lib.hid hnn
        go_wp2_with fail
        go_quiet (fail)
        go_wp2_with fail
        refine (hnn.out _).mono ?_
        rintro e w8 ⟨rfl, hb8⟩
        have hM8 := (hMq.out _).below hb8
        cases hsn : s.none
        · have hbd := hbad.out (.inr (.inl ⟨qi.out, qs'.out, fun h => by
            have h1 : s.start = -1 := h.1
            have h2 : s.gn = 0 := h.2
            simp [Slot.none, h1, h2] at hsn⟩))
          have iw := blk_cell hM8.is 0
          have fw := blk_free hM8.is 0
          have iv := blk_cell hM8.wrong 0
          have fv := blk_free hM8.wrong 0
          simp at iw iv
          have lw := blk_lt hM8.is
          have lv := blk_lt hM8.wrong
          have lne : w.heap.size < w1.heap.size := by have h1 := hM8.size; have h2 := hM8.wlow; omega
          replace hbd := Lib.hid hbd; replace hb8 := Lib.hid hb8; replace hM8 := Lib.hid hM8; replace hsn := Lib.hid hsn
          go_wp2
          try rw [Exit.noGoto_ret]
          show Leaves Try.prog Try.f56 _ _ _ .returning _
          exact may_wrong hM8.out rfl hbd.out
        · have hok2 := hgood.out q ⟨qi.out, .inl (by simp [Slot.none] at hsn; exact ⟨hsn.1, hsn.2, rfl⟩)⟩
          replace hb8 := Lib.hid hb8; replace hM8 := Lib.hid hM8; replace hok2 := Lib.hid hok2; replace hsn := Lib.hid hsn
          go_wp2
          go_roundw
          case rel => exact ⟨k + 1, q, by go_num, by omega, hM8.out, hok2.out⟩
          case measure => simp [intOf]; omega
    · have hc1 : ¬ (k : Int) < sn := by omega
      have hrt : MayRel vs now bs hs asks slots true := .inr ⟨q0, hrel0.out, .inr ⟨by rw [hsll.out, hal.out], .inl ⟨rfl, q, by
        have h := hC.out
        rwa [List.take_of_length_le (by rw [List.length_zip, hsll.out, hal.out]; omega)] at h⟩⟩⟩
      have iw := blk_cell hM.out.is 0
      have fw := blk_free hM.out.is 0
      have iv := blk_cell hM.out.wrong 0
      have fv := blk_free hM.out.wrong 0
      simp at iw iv
      have lw := blk_lt hM.out.is
      have lv := blk_lt hM.out.wrong
      have lne : w.heap.size < w1.heap.size := by have h1 := hM.out.size; have h2 := hM.out.wlow; omega
      replace hrt := Lib.hid hrt
      go_wp2
      try rw [Exit.noGoto_ret]
      show Leaves Try.prog Try.f56 _ _ _ .returning _
      exact may_right hM.out rfl hrt.out
end Go.Proofs.Ytpjajiambbobhaa
